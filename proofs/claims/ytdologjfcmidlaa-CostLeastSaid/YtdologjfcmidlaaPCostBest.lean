/- What cost.Width, Each, Best answer. Condition: at most a thousand numbers of 64 bits. -/
import Derived.Test.YtdologjfcmidlaaPCost
namespace Go.Proofs.Ytdologjfcmidlaa.PL
open Go.RowKit Go.Proofs.Ytdologjfcmidlaa.PA Go.Proofs.YtdologjfcmidlaaW.PrintWords Go.Proofs.YtdologjfcmidlaaW.PrintMore
set_option linter.unusedVariables false
set_option linter.unusedSimpArgs false
theorem fitsW_append {a b : List Int} {w : Nat} : fitsW (a ++ b) w ↔ fitsW a w ∧ fitsW b w := by
  simp only [fitsW, List.mem_append]
  exact ⟨fun h => ⟨fun n hn => h n (.inl hn), fun n hn => h n (.inr hn)⟩, fun h n hn => hn.elim (h.1 n) (h.2 n)⟩
theorem width_ev (l : List Int) (hl : l.length ≤ 1000) : Ev (fun q => cost_Width.f q l) (if NearAll l then (wid l : Int) else -1) := by
  unfold cost_Width.f
  refine bnd (anyFar_ev l hl) ?_
  by_cases hn : NearAll l
  · rw [if_pos hn]
    refine neg (by simp [hn]) ?_
    have key : ∀ (t p : List Int) (W : Nat), l = p ++ t → W ≤ 34 → fitsW p W → (∀ v, v < W → ¬ fitsW p v) → Ev (fun q => cost_Width.l0 q (W : Int) l (l.length : Int) (p.length : Int)) (wid l : Int) := by
      intro t
      induction t with
      | nil =>
        intro p W hp hW h1 h2
        rw [List.append_nil] at hp
        subst hp
        refine succ ?_
        simp only [cost_Width.l0]
        exact neg (by omega) (cst (by rw [wid_eq hn h1 h2]))
      | cons x t ih =>
        intro p W hp hW h1 h2
        have l1 := congrArg List.length hp
        simp only [List.length_append, List.length_cons] at l1
        refine succ ?_
        simp only [cost_Width.l0]
        have ra : rd l (p.length : Int) = x := by rw [hp]; exact rd_at _ _ _
        have hx : IsNear x := hn x (by rw [hp]; simp)
        rw [ra]
        refine pos (by omega) (pos (by omega) (pos (by omega) ?_))
        have nxt : ∀ W : Nat, W ≤ 34 → fitsW (p ++ [x]) W → (∀ v, v < W → ¬ fitsW (p ++ [x]) v) → Ev (fun q => cost_Width.l0 q (W : Int) l (l.length : Int) (wrap64 ((p.length : Int) + 1))) (wid l : Int) := fun W hW g1 g2 => by
          rw [w64 (by omega) (by omega)]
          have := ih (p ++ [x]) W (by simp [hp]) hW g1 g2
          simpa using this
        have inner : ∀ (d W : Nat), W + d = 34 → fitsW p W → (∀ v, v < W → ¬ fitsW (p ++ [x]) v) → Ev (fun q => cost_Width.l1 q (W : Int) x l (l.length : Int) (p.length : Int)) (wid l : Int) := by
          intro d
          induction d with
          | zero =>
            intro W hWd g1 g2
            obtain rfl : W = 34 := by omega
            have hi : fitsW (p ++ [x]) 34 := fitsW_34 (nearAll_append.2 ⟨fun n h => hn n (by rw [hp]; simp [h]), fun n h => by simp at h; rw [h]; exact hx⟩)
            refine succ ?_
            simp only [cost_Width.l1]
            by_cases h0 : x = 0
            · exact pos h0 (nxt 34 (by omega) hi g2)
            · refine neg h0 ?_
              rw [inn_eq x 34 (by omega) (near_64 hx)]
              simp only [Option.bind_some]
              have := (hi x (by simp)).resolve_left h0
              exact pos (by simpa using this) (nxt 34 (by omega) hi g2)
          | succ d ihd =>
            intro W hWd g1 g2
            refine succ ?_
            simp only [cost_Width.l1]
            by_cases h0 : x = 0
            · exact pos h0 (nxt W (by omega) (fitsW_append.2 ⟨g1, fun n h => by simp at h; exact .inl (h.trans h0)⟩) g2)
            · refine neg h0 ?_
              rw [inn_eq x W (by omega) (near_64 hx)]
              simp only [Option.bind_some]
              by_cases hi : inn x W
              · exact pos (by simpa using hi) (nxt W (by omega) (fitsW_append.2 ⟨g1, fun n h => by simp at h; rw [h]; exact .inr hi⟩) g2)
              · refine neg (by simpa using hi) ?_
                rw [w64 (x := (W : Int) + 1) (by omega) (by omega)]
                refine ihd (W + 1) (by omega) (fitsW_succ g1) (fun v hv => ?_)
                rcases Nat.lt_or_ge v W with h5 | h5
                · exact g2 v h5
                · obtain rfl : v = W := by omega
                  exact fun hf => ((fitsW_append.1 hf).2 x (by simp)).elim h0 hi
        exact inner (34 - W) W (by omega) h1 (fun v hv hf => h2 v hv (fitsW_append.1 hf).1)
    exact key l [] 0 rfl (by omega) (fun n h => by simp at h) (fun v hv => by omega)
  · rw [if_neg hn]
    exact pos (by simp [hn]) (cst rfl)
/-- The first place of the least of f 0, .., f m. -/
def amin (f : Nat → Int) : Nat → Nat
  | 0 => 0
  | m + 1 => if f (m + 1) < f (amin f m) then m + 1 else amin f m
theorem amin_le (f : Nat → Int) : ∀ m, amin f m ≤ m
  | 0 => Nat.le_refl _
  | m + 1 => by have := amin_le f m; simp only [amin]; split <;> omega
theorem amin_min (f : Nat → Int) : ∀ m j, j ≤ m → f (amin f m) ≤ f j
  | 0, j, h => by obtain rfl : j = 0 := by omega
                  exact Int.le_refl _
  | m + 1, j, h => by
    simp only [amin]
    rcases Nat.lt_or_ge m j with h1 | h1
    · obtain rfl : j = m + 1 := by omega
      split <;> omega
    · have := amin_min f m j h1
      split <;> omega
theorem amin_first (f : Nat → Int) : ∀ m j, j < amin f m → f (amin f m) < f j
  | 0, j, h => by simp only [amin] at h; omega
  | m + 1, j, h => by
    simp only [amin] at h ⊢
    split
    · rename_i hc
      rw [if_pos hc] at h
      have := amin_min f m j (by omega)
      omega
    · rename_i hc
      rw [if_neg hc] at h
      exact amin_first f m j h
theorem amin_stay (f : Nat → Int) (j : Nat) : ∀ d, (∀ i, j < i → i ≤ j + d → f (amin f j) ≤ f i) → amin f (j + d) = amin f j
  | 0, _ => rfl
  | d + 1, h => by
    have ih := amin_stay f j d (fun i h1 h2 => h i h1 (by omega))
    show (if f (j + d + 1) < f (amin f (j + d)) then j + d + 1 else amin f (j + d)) = _
    rw [ih, if_neg (by have := h (j + d + 1) (by omega) (by omega); omega)]
def rawL (l : List Int) : Int := 5 + (wid l : Int) * l.length
/-- The way with fewest bits, by the greatest k. -/
def bestL (l : List Int) (m : Nat) : Int × Bool × Int × Int :=
  if wid l ≤ 31 ∧ rawL l < bitsL (amin (fun k => bitsL k l) m) l then ((wid l : Int), true, rawL l, 0) else ((amin (fun k => bitsL k l) m : Int), false, bitsL (amin (fun k => bitsL k l) m) l, 0)
theorem raw_bd (l : List Int) (hl : l.length ≤ 1000) (h : wid l ≤ 34) : 0 ≤ (wid l : Int) * l.length ∧ (wid l : Int) * l.length ≤ 34000 := by
  refine ⟨Int.mul_nonneg (by omega) (by omega), ?_⟩
  have : (wid l : Int) * l.length ≤ 34 * 1000 := Int.mul_le_mul (by omega) (by omega) (by omega) (by omega)
  omega
theorem best_j1 (l : List Int) (hl : l.length ≤ 1000) (hn : NearAll l) (m : Nat) (hm : m ≤ 30) (a fw : Int) (ha : a = (amin (fun k => bitsL k l) m : Int)) (hf : fw = bitsL (amin (fun k => bitsL k l) m) l) : Ev (fun q => cost_Best.j1 q l fw a false) (bestL l m) := by
  refine succ ?_
  simp only [cost_Best.j1]
  have hw := width_ev l hl
  rw [if_pos hn] at hw
  refine bnd hw ?_
  have h34 := (wid_spec hn).2.1
  have hb := raw_bd l hl h34
  have hr : cost_raw.f l (wid l : Int) = some (rawL l) := by
    unfold cost_raw.f rawL
    rw [w64 (x := (wid l : Int) * l.length) (by omega) (by omega), w64 (by omega) (by omega)]
  unfold bestL
  by_cases h1 : wid l ≤ 31
  · refine pos (by omega) ?_
    rw [hr]
    simp only [Option.bind_some]
    by_cases h2 : rawL l < fw
    · exact pos h2 (cst (by rw [if_pos ⟨h1, by rw [← hf]; exact h2⟩]))
    · exact neg h2 (cst (by rw [if_neg (fun h => h2 (by rw [hf]; exact h.2)), ha, hf]))
  · exact neg (by omega) (cst (by rw [if_neg (fun h => h1 h.1), ha, hf]))
theorem best_ev (l : List Int) (most : Int) (hl : l.length ≤ 1000) : Ev (fun q => cost_Best.f q l most) (if NearAll l then bestL l (kk most) else (0, false, 0, 6)) := by
  unfold cost_Best.f
  have h0 := bits_ev l 0 hl
  rw [show kk 0 = 0 from rfl] at h0
  refine bnd h0 ?_
  by_cases hn : NearAll l
  · rw [if_pos hn, if_pos hn]
    have hb0 := bitsL_bd 0 (by omega) l hn
    refine neg (by omega) ?_
    have hm := kk_le most
    have key : ∀ (d j : Nat), j + d = kk most → Ev (fun q => cost_Best.l0 q l most (bitsL (amin (fun k => bitsL k l) j) l) ((j : Int) + 1) (amin (fun k => bitsL k l) j : Int) false) (bestL l (kk most)) := by
      intro d
      induction d with
      | zero =>
        intro j hj
        refine succ ?_
        simp only [cost_Best.l0]
        rw [kk_eq]
        exact neg (by omega) (best_j1 l hl hn (kk most) hm _ _ (by rw [show kk most = j by omega]) (by rw [show kk most = j by omega]))
      | succ d ih =>
        intro j hj
        refine succ ?_
        simp only [cost_Best.l0]
        have e1 : wrap64 ((j : Int) + 1 + 1) = (j : Int) + 1 + 1 := w64 (by omega) (by omega)
        have e2 : 0 ≤ (l.length : Int) * ((j : Int) + 1 + 1) := Int.mul_nonneg (by omega) (by omega)
        have e3 : (l.length : Int) * ((j : Int) + 1 + 1) ≤ 1000 * 32 := Int.mul_le_mul (by omega) (by omega) (by omega) (by omega)
        rw [kk_eq, e1, w64 (x := (l.length : Int) * ((j : Int) + 1 + 1)) (by omega) (by omega)]
        refine pos (by omega) ?_
        by_cases hc : (l.length : Int) * ((j : Int) + 1 + 1) ≥ bitsL (amin (fun k => bitsL k l) j) l
        · refine pos hc ?_
          have hs : amin (fun k => bitsL k l) (kk most) = amin (fun k => bitsL k l) j := by
            have := amin_stay (fun k => bitsL k l) j (d + 1) (fun i h1 h2 => by
              have hb := (bitsL_bd i (by omega) l hn).1
              have : (l.length : Int) * ((j : Int) + 1 + 1) ≤ (1 + (i : Int)) * l.length := by
                rw [Int.mul_comm]
                exact Int.mul_le_mul_of_nonneg_right (by omega) (by omega)
              show bitsL (amin (fun k => bitsL k l) j) l ≤ bitsL i l
              omega)
            rwa [show j + (d + 1) = kk most by omega] at this
          exact best_j1 l hl hn (kk most) hm _ _ (by rw [hs]) (by rw [hs])
        · refine neg hc ?_
          have hbj := bits_ev l ((j : Int) + 1) hl
          rw [if_pos hn, show kk ((j : Int) + 1) = j + 1 by unfold kk; omega] at hbj
          refine bnd hbj ?_
          have nx := ih (j + 1) (by omega)
          have es : ((j + 1 : Nat) : Int) = (j : Int) + 1 := by omega
          rw [es] at nx
          by_cases hlt : bitsL (j + 1) l < bitsL (amin (fun k => bitsL k l) j) l
          · refine pos hlt ?_
            have ea : amin (fun k => bitsL k l) (j + 1) = j + 1 := by simp only [amin]; rw [if_pos hlt]
            rw [ea] at nx
            rw [es] at nx
            exact nx
          · refine neg hlt ?_
            have ea : amin (fun k => bitsL k l) (j + 1) = amin (fun k => bitsL k l) j := by simp only [amin]; rw [if_neg hlt]
            rw [ea] at nx
            exact nx
    have := key (kk most) 0 (by omega)
    simpa [amin] using this
  · rw [if_neg hn, if_neg hn]
    exact pos (by decide) (cst rfl)
theorem each_ev (l : List Int) (K : Int) (raw : Bool) (hl : l.length ≤ 1000) : Ev (fun q => cost_Each.f q l K raw) (if raw = true then (if NearAll l ∧ (wid l : Int) ≤ K ∧ K ≤ 31 then 5 + K * l.length else -1) else if NearAll l then bitsL (kk K) l else -1) := by
  unfold cost_Each.f
  refine bnd (width_ev l hl) ?_
  by_cases hr : raw = true
  · rw [if_pos hr]
    refine pos hr ?_
    by_cases hn : NearAll l
    · rw [if_pos hn]
      refine neg (by omega) ?_
      by_cases h1 : K < wid l
      · exact pos h1 (cst (by rw [if_neg (fun h => by omega)]))
      · refine neg h1 ?_
        by_cases h2 : K > 31
        · exact pos h2 (cst (by rw [if_neg (fun h => by omega)]))
        · refine neg h2 (cst ?_)
          have b0 : 0 ≤ K * l.length := Int.mul_nonneg (by omega) (by omega)
          have b1 : K * l.length ≤ 31 * 1000 := Int.mul_le_mul (by omega) (by omega) (by omega) (by omega)
          unfold cost_raw.f
          simp only [Option.bind_some]
          rw [w64 (x := K * l.length) (by omega) (by omega), w64 (by omega) (by omega), if_pos ⟨hn, by omega, by omega⟩]
    · rw [if_neg hn]
      exact pos (by decide) (cst (by rw [if_neg (fun h => hn h.1)]))
  · rw [if_neg hr]
    exact neg hr (bnd (bits_ev l K hl) (now _))
end Go.Proofs.Ytdologjfcmidlaa.PL
