/- What serinetteref13.Bits, Width, Each answer: what cost's do. Condition: at most a thousand numbers of 64 bits. -/
import Derived.Test.YtdologjfcmidlaaPCostAwake
import Derived.Test.YtdologjfcmidlaaPRefRice
import Derived.Test.YtdologjfcmidlaaPAx16
namespace Go.Proofs.Ytdologjfcmidlaa.PL
open Go.RowKit Go.Proofs.Ytdologjfcmidlaa.PA Go.Proofs.YtdologjfcmidlaaW.PrintWords
set_option linter.unusedVariables false
theorem ref_bits_ev (l : List Int) (k : Int) (hl : l.length ≤ 1000) : Ev (fun q => serinetteref13_Bits.f q l k) (if NearAll l then bitsL (kk k) l else -1) := by
  unfold serinetteref13_Bits.f
  refine bnd (ref_nearAll_ev l (by omega)) ?_
  by_cases hn : NearAll l
  · rw [if_pos hn]
    refine pos (by simp [hn]) ?_
    have key : ∀ (t p : List Int), l = p ++ t → Ev (fun q => serinetteref13_Bits.l0 q l k (bitsL (kk k) p) (p.length : Int)) (bitsL (kk k) l) := by
      intro t
      induction t with
      | nil =>
        intro p hp
        refine succ ?_
        simp only [serinetteref13_Bits.l0]
        exact neg (by rw [hp]; simp) (cst (by rw [hp, List.append_nil]))
      | cons x t ih =>
        intro p hp
        have l1 := congrArg List.length hp
        simp only [List.length_append, List.length_cons] at l1
        refine succ ?_
        simp only [serinetteref13_Bits.l0]
        have ra : rd l (p.length : Int) = x := by rw [hp]; exact rd_at _ _ _
        have hx : IsNear x := hn x (by rw [hp]; simp)
        have hp' : NearAll p := fun n h => hn n (by rw [hp]; simp [h])
        have b1 := bitsL_bd (kk k) (kk_le k) p hp'
        have b2 := sz_bd hx (kk_le k)
        have b0 : 0 ≤ (1 + ((kk k : Nat) : Int)) * (p.length : Int) := Int.mul_nonneg (by omega) (by omega)
        have hs := ref_size_ev x k (near_64 hx)
        rw [if_pos hx] at hs
        rw [ra, w64 (x := (p.length : Int) + 1) (by omega) (by omega)]
        refine pos (by omega) (pos (by omega) (bnd hs ?_))
        rw [w64 (by omega) (by omega)]
        have := ih (p ++ [x]) (by simp [hp])
        rw [bitsL_append] at this
        simpa [bitsL] using this
    exact key l [] rfl
  · rw [if_neg hn]
    exact neg (by simp [hn]) (cst rfl)
theorem pow_bd' : ∀ n : Nat, n ≤ 62 → (1 : Int) ≤ 2 ^ n ∧ (2 : Int) ^ n ≤ 4611686018427387904
  | 0, _ => by decide
  | n + 1, h => by
    constructor
    · have := (pow_bd' n (by omega)).1; rw [Int.pow_succ]; omega
    · have h1 : (2 : Int) ^ (n + 1) ≤ 2 ^ 62 := by
        have : (2 : Nat) ^ (n + 1) ≤ 2 ^ 62 := Nat.pow_le_pow_right (by decide) h
        exact_mod_cast this
      exact h1
theorem power6_ev (n : Nat) (hn : n ≤ 62) : Ev (fun k => serinetteref06_Power.f k (n : Int)) ((2 : Int) ^ n) := by
  have key : ∀ d i, i + d = n → Ev (fun k => serinetteref06_Power.l0 k (n : Int) ((2 : Int) ^ i) (i : Int)) ((2 : Int) ^ n) := by
    intro d
    induction d with
    | zero =>
      intro i hi
      obtain rfl : i = n := by omega
      refine succ ?_
      simp only [serinetteref06_Power.l0]
      exact neg (by omega) (now _)
    | succ d ih =>
      intro i hi
      refine succ ?_
      simp only [serinetteref06_Power.l0]
      have hb := pow_bd' (i + 1) (by omega)
      have e : 2 * (2 : Int) ^ i = 2 ^ (i + 1) := by rw [Int.pow_succ, Int.mul_comm]
      rw [e, w64 (x := (2 : Int) ^ (i + 1)) (by omega) (by omega), w64 (x := (i : Int) + 1) (by omega) (by omega)]
      exact pos (by omega) (ih (i + 1) (by omega))
  exact key n 0 (by omega)
theorem ref_in_ev (n : Int) (w : Nat) (hw : w ≤ 62) : Ev (fun k => serinetteref06_In.f k n (w : Int)) (decide (inn n w)) := by
  unfold serinetteref06_In.f
  by_cases h1 : (w : Int) < 1
  · exact pos h1 (cst (by rw [decide_eq_false (fun h => by have := h.1; omega)]))
  · refine neg h1 (neg (by omega) ?_)
    have e : (w : Int) - 1 = ((w - 1 : Nat) : Int) := by omega
    have hb := pow_bd' (w - 1) (by omega)
    rw [e, w64 (by omega) (by omega)]
    refine bnd (power6_ev (w - 1) (by omega)) ?_
    rw [w64 (by omega) (by omega)]
    by_cases h2 : n ≥ -(2 ^ (w - 1))
    · exact pos h2 (cst (by congr 1; exact decide_eq_decide.2 ⟨fun h => ⟨by omega, h2, h⟩, fun h => h.2.2⟩))
    · exact neg h2 (cst (by rw [decide_eq_false (fun h => h2 h.2.1)]))
theorem ref_width_ev (l : List Int) (hl : l.length ≤ 1000) : Ev (fun q => serinetteref13_Width.f q l) (if NearAll l then (wid l : Int) else -1) := by
  unfold serinetteref13_Width.f
  refine bnd (ref_nearAll_ev l (by omega)) ?_
  by_cases hn : NearAll l
  · rw [if_pos hn]
    refine pos (by simp [hn]) ?_
    have l1 : ∀ (w : Nat), w ≤ 34 → ∀ R : Int, (fitsW l w → R = w) → (¬ fitsW l w → Ev (fun q => serinetteref13_Width.l0 q l ((w : Int) + 1)) R) → ∀ (t p : List Int) (b : Bool), l = p ++ t → b = decide (fitsW p w) → Ev (fun q => serinetteref13_Width.l1 q l (w : Int) b (p.length : Int)) R := by
      intro w hw R h1 h2 t
      induction t with
      | nil =>
        intro p b hp hb
        rw [List.append_nil] at hp
        subst hp
        refine succ ?_
        simp only [serinetteref13_Width.l1]
        rw [w64 (x := (w : Int) + 1) (by omega) (by omega)]
        refine neg (by omega) ?_
        by_cases hf : fitsW l w
        · exact pos (by rw [hb]; simp [hf]) (cst (by rw [h1 hf]))
        · exact neg (by rw [hb]; simp [hf]) (h2 hf)
      | cons x t ih =>
        intro p b hp hb
        have l1 := congrArg List.length hp
        simp only [List.length_append, List.length_cons] at l1
        refine succ ?_
        simp only [serinetteref13_Width.l1]
        have ra : rd l (p.length : Int) = x := by rw [hp]; exact rd_at _ _ _
        rw [ra, w64 (x := (p.length : Int) + 1) (by omega) (by omega)]
        have nxt : ∀ b' : Bool, b' = decide (fitsW (p ++ [x]) w) → Ev (fun q => serinetteref13_Width.l1 q l (w : Int) b' ((p.length : Int) + 1)) R := fun b' hb' => by
          have := ih (p ++ [x]) b' (by simp [hp]) hb'
          simpa using this
        have yes : (x = 0 ∨ inn x w) → b = decide (fitsW (p ++ [x]) w) := fun h => by
          rw [hb]
          exact decide_eq_decide.2 ⟨fun g => fitsW_append.2 ⟨g, fun n hn' => by simp at hn'; rw [hn']; exact h⟩, fun g => (fitsW_append.1 g).1⟩
        have no : ¬ (x = 0 ∨ inn x w) → false = decide (fitsW (p ++ [x]) w) := fun h => (decide_eq_false (fun g => h ((fitsW_append.1 g).2 x (by simp)))).symm
        refine pos (by omega) (pos (by omega) (bnd (ref_in_ev x w (by omega)) ?_))
        by_cases hi : inn x w
        · exact pos (by simpa using hi) (nxt b (yes (.inr hi)))
        · refine neg (by simpa using hi) ?_
          by_cases hw0 : (w : Int) > 0
          · refine pos hw0 (nxt _ ?_)
            by_cases hx0 : x = 0
            · exfalso
              apply hi
              rw [hx0]
              have := pow_bd' (w - 1) (by omega)
              exact ⟨by omega, by omega, by omega⟩
            · exact no (fun h => h.elim hx0 hi)
          · refine neg hw0 ?_
            by_cases hx0 : x = 0
            · exact pos hx0 (nxt b (yes (.inl hx0)))
            · exact neg hx0 (nxt _ (no (fun h => h.elim hx0 hi)))
    obtain ⟨s1, s2, s3⟩ := wid_spec hn
    have key : ∀ (d w : Nat), w + d = wid l → Ev (fun q => serinetteref13_Width.l0 q l (w : Int)) (wid l : Int) := by
      intro d
      induction d with
      | zero =>
        intro w hw
        refine succ ?_
        simp only [serinetteref13_Width.l0]
        exact pos (by omega) (l1 w (by omega) _ (fun _ => by omega) (fun h => absurd s1 (by rw [← hw]; exact h)) l [] true rfl (by simp [fitsW]))
      | succ d ih =>
        intro w hw
        refine succ ?_
        simp only [serinetteref13_Width.l0]
        exact pos (by omega) (l1 w (by omega) _ (fun h => absurd h (s3 w (by omega))) (fun _ => ih (w + 1) (by omega)) l [] true rfl (by simp [fitsW]))
    exact key (wid l) 0 (by omega)
  · rw [if_neg hn]
    exact neg (by simp [hn]) (cst rfl)
theorem ref_each_ev (l : List Int) (K : Int) (raw : Bool) (hl : l.length ≤ 1000) : Ev (fun q => serinetteref13_Each.f q l K raw) (if raw = true then (if NearAll l ∧ (wid l : Int) ≤ K ∧ K ≤ 31 then 5 + K * l.length else -1) else if NearAll l then bitsL (kk K) l else -1) := by
  unfold serinetteref13_Each.f
  by_cases hr : raw = true
  · rw [if_pos hr]
    refine pos hr (bnd (ref_width_ev l hl) ?_)
    by_cases hn : NearAll l
    · rw [if_pos hn]
      refine neg (by omega) ?_
      by_cases h1 : K < wid l
      · exact pos h1 (cst (by rw [if_neg (fun h => by omega)]))
      · refine neg h1 ?_
        by_cases h2 : K > 31
        · exact pos h2 (cst (by rw [if_neg (fun h => by omega)]))
        · refine neg h2 (cst ?_)
          have b0 : 0 ≤ K * l.length := Int.mul_nonneg (by omega) (by omega)
          have b1 : K * l.length ≤ 31 * 1000 := Int.mul_le_mul (by omega) (by omega) (by omega) (by omega)
          rw [w64 (x := K * l.length) (by omega) (by omega), w64 (by omega) (by omega), if_pos ⟨hn, by omega, by omega⟩]
    · rw [if_neg hn]
      exact pos (by decide) (cst (by rw [if_neg (fun h => hn h.1)]))
  · rw [if_neg hr]
    exact neg hr (bnd (ref_bits_ev l K hl) (now _))
end Go.Proofs.Ytdologjfcmidlaa.PL
