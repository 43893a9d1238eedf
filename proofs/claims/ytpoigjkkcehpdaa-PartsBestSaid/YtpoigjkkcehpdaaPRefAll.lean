/- What the document answers of costs and parts. Condition: up to a thousand near numbers. -/
import Derived.Test.YtpoigjkkcehpdaaPWidth
import Derived.Test.YtpoigjkkcehpdaaPAx9
import Derived.Test.YtpoigjkkcehpdaaPRice
import Derived.Test.YtpoigjkkcehpdaaPAx13
import Derived.Test.YtpoigjkkcehpdaaPAx15
import Derived.Test.YtpoigjkkcehpdaaPAx16
import Derived.Test.YtpoigjkkcehpdaaP14Model
import Derived.Test.YtpoigjkkcehpdaaPAx19
namespace Go.Proofs.Ytpoigjkkcehpdaa.PL
open Go.RowKit Go.Proofs.Ytpoigjkkcehpdaa.PA Go.Proofs.YtpoigjkkcehpdaaW.PrintWords Go.Proofs.YtpoigjkkcehpdaaW.PrintMore
set_option linter.unusedVariables false
set_option linter.unusedSimpArgs false
theorem ref_near_eq (n : Int) : serinetteref02_Near.f n = some (decide (IsNear n)) := by
  unfold serinetteref02_Near.f IsNear
  by_cases h : n ≥ -8589934592
  · rw [if_pos h]; congr 1; exact decide_eq_decide.2 ⟨fun g => ⟨h, by omega⟩, fun g => by omega⟩
  · rw [if_neg h]; congr 1; exact (decide_eq_false (by omega)).symm
theorem ref_nearAll_ev (l : List Int) (hl : l.length < 1152921504606846976) : Ev (fun k => serinetteref13_Near.f k l) (decide (NearAll l)) := by
  have key : ∀ (t p : List Int), l = p ++ t → Ev (fun k => serinetteref13_Near.l0 k l (p.length : Int)) (decide (NearAll t)) := by
    intro t
    induction t with
    | nil =>
      intro p hp
      refine succ ?_
      simp only [serinetteref13_Near.l0]
      exact neg (by rw [hp]; simp) (cst (by simp [NearAll]))
    | cons x t ih =>
      intro p hp
      have l1 := congrArg List.length hp
      simp only [List.length_append, List.length_cons] at l1
      refine succ ?_
      simp only [serinetteref13_Near.l0]
      have ra : rd l (p.length : Int) = x := by rw [hp]; exact rd_at _ _ _
      rw [ra, w64 (by omega) (by omega), ref_near_eq]
      simp only [Option.bind_some]
      refine pos (by omega) (pos (by omega) ?_)
      by_cases h : IsNear x
      · refine pos (by simpa using h) ?_
        have e : decide (NearAll (x :: t)) = decide (NearAll t) := decide_eq_decide.2 (nearAll_cons.trans ⟨fun g => g.2, fun g => ⟨h, g⟩⟩)
        rw [e]
        have := ih (p ++ [x]) (by simp [hp])
        simpa using this
      · exact neg (by simpa using h) (cst (by rw [decide_eq_false (fun g => h (nearAll_cons.1 g).1)]))
  exact key l [] rfl
end Go.Proofs.Ytpoigjkkcehpdaa.PL
namespace Go.Proofs.Ytpoigjkkcehpdaa.PL
open Go.RowKit Go.Proofs.Ytpoigjkkcehpdaa.PA Go.Proofs.YtpoigjkkcehpdaaW.PrintWords
set_option linter.unusedVariables false
theorem ref_fold_eq (n : Int) (h : -9223372036854775808 ≤ n ∧ n < 9223372036854775808) : serinetteref02_Fold.f n = some (fold n) := by
  unfold serinetteref02_Fold.f fold
  simp only [u64_wrap]
  by_cases hn : n ≥ 0
  · rw [if_pos hn, if_pos hn]; congr 1; omega
  · rw [if_neg hn, if_neg hn, w64 (x := n + 1) (by omega) (by omega), w64 (x := -(n + 1)) (by omega) (by omega)]; congr 1; omega
theorem ref_near_eq' (n : Int) : serinetteref02_Near.f n = some (decide (IsNear n)) := by
  unfold serinetteref02_Near.f IsNear
  by_cases h : n ≥ -8589934592
  · rw [if_pos h]; congr 1; exact decide_eq_decide.2 ⟨fun g => ⟨h, by omega⟩, fun g => by omega⟩
  · rw [if_neg h]; congr 1; exact (decide_eq_false (by omega)).symm
theorem high_ev (n k : Int) (h : -9223372036854775808 ≤ n ∧ n < 9223372036854775808) : Ev (fun q => serinetteref02_High.f q n k) (fold n / 2 ^ kk k) := by
  have hk := kk_le k
  have hf := fold_bd n h
  unfold serinetteref02_High.f
  rw [ref_fold_eq n h]
  simp only [Option.bind_some]
  have key : ∀ (d i : Nat), i + d = kk k → Ev (fun q => serinetteref02_High.l0 q k (fold n / 2 ^ i) (i : Int)) (fold n / 2 ^ kk k) := by
    intro d
    induction d with
    | zero =>
      intro i hi
      obtain rfl : i = kk k := by omega
      refine succ ?_
      simp only [serinetteref02_High.l0]
      unfold serinetteref02_K.f
      simp only [Option.bind_some]
      rw [kk_eq]
      exact neg (by omega) (now _)
    | succ d ih =>
      intro i hi
      refine succ ?_
      simp only [serinetteref02_High.l0]
      unfold serinetteref02_K.f
      simp only [Option.bind_some]
      have hd := div_pow_bd (x := fold n) (s := i) hf.1
      have hd2 := div_pow_bd (x := fold n) (s := i + 1) hf.1
      have e : (fold n / 2 ^ i).tdiv 2 = fold n / 2 ^ (i + 1) := by
        rw [Int.tdiv_eq_ediv_of_nonneg hd.1, Int.pow_succ, Int.ediv_ediv_of_nonneg (Int.pow_nonneg (by decide))]
      rw [kk_eq, e, u64_wrap, Int.emod_eq_of_lt hd2.1 (by omega), w64 (x := (i : Int) + 1) (by omega) (by omega)]
      exact pos (by omega) (ih (i + 1) (by omega))
  have := key (kk k) 0 (by omega)
  simpa using this
theorem ref_size_ev (n k : Int) (h : -9223372036854775808 ≤ n ∧ n < 9223372036854775808) : Ev (fun q => serinetteref02_Size.f q n k) (if IsNear n then sz n (kk k) else -1) := by
  unfold serinetteref02_Size.f
  rw [ref_near_eq']
  simp only [Option.bind_some]
  by_cases hn : IsNear n
  · have hf := fold_near hn
    have hd := div_pow_bd (x := fold n) (s := kk k) hf.1
    have hk := kk_le k
    rw [if_pos hn]
    refine pos (by simpa using hn) (bnd (high_ev n k h) ?_)
    unfold serinetteref02_K.f
    simp only [Option.bind_some]
    rw [kk_eq]
    refine cst ?_
    rw [w64 (x := fold n / 2 ^ kk k) (by omega) (by omega), w64 (x := fold n / 2 ^ kk k + 1) (by omega) (by omega), w64 (by omega) (by omega)]
    rfl
  · rw [if_neg hn]
    exact neg (by simpa using hn) (now _)
end Go.Proofs.Ytpoigjkkcehpdaa.PL
namespace Go.Proofs.Ytpoigjkkcehpdaa.PL
open Go.RowKit Go.Proofs.Ytpoigjkkcehpdaa.PA Go.Proofs.YtpoigjkkcehpdaaW.PrintWords
set_option linter.unusedVariables false
theorem ref_bits_ev (l : List Int) (k : Int) (hl : l.length ≤ 1000) : Ev (fun q => serinetteref13_Bits.f q l k) (if NearAll l then bitsL (kk k) l else -1) := by
  unfold serinetteref13_Bits.f
  refine bnd (ref_nearAll_ev l (by omega)) ?_
  by_cases hn : NearAll l
  · rw [if_pos hn]
    refine pos (by simp [hn]) ?_
    have key : ∀ (t p : List Int), l = p ++ t → Ev (fun q => serinetteref13_Bits.l0 q l k (bitsL (kk k) p) (p.length : Int)) (bitsL (kk k) l) := by
      intro t
      induction t with
      | nil =>
        intro p hp
        refine succ ?_
        simp only [serinetteref13_Bits.l0]
        exact neg (by rw [hp]; simp) (cst (by rw [hp, List.append_nil]))
      | cons x t ih =>
        intro p hp
        have l1 := congrArg List.length hp
        simp only [List.length_append, List.length_cons] at l1
        refine succ ?_
        simp only [serinetteref13_Bits.l0]
        have ra : rd l (p.length : Int) = x := by rw [hp]; exact rd_at _ _ _
        have hx : IsNear x := hn x (by rw [hp]; simp)
        have hp' : NearAll p := fun n h => hn n (by rw [hp]; simp [h])
        have b1 := bitsL_bd (kk k) (kk_le k) p hp'
        have b2 := sz_bd hx (kk_le k)
        have b0 : 0 ≤ (1 + ((kk k : Nat) : Int)) * (p.length : Int) := Int.mul_nonneg (by omega) (by omega)
        have hs := ref_size_ev x k (near_64 hx)
        rw [if_pos hx] at hs
        rw [ra, w64 (x := (p.length : Int) + 1) (by omega) (by omega)]
        refine pos (by omega) (pos (by omega) (bnd hs ?_))
        rw [w64 (by omega) (by omega)]
        have := ih (p ++ [x]) (by simp [hp])
        rw [bitsL_append] at this
        simpa [bitsL] using this
    exact key l [] rfl
  · rw [if_neg hn]
    exact neg (by simp [hn]) (cst rfl)
theorem pow_bd' : ∀ n : Nat, n ≤ 62 → (1 : Int) ≤ 2 ^ n ∧ (2 : Int) ^ n ≤ 4611686018427387904
  | 0, _ => by decide
  | n + 1, h => by
    constructor
    · have := (pow_bd' n (by omega)).1; rw [Int.pow_succ]; omega
    · have h1 : (2 : Int) ^ (n + 1) ≤ 2 ^ 62 := by
        have : (2 : Nat) ^ (n + 1) ≤ 2 ^ 62 := Nat.pow_le_pow_right (by decide) h
        exact_mod_cast this
      exact h1
theorem power6_ev (n : Nat) (hn : n ≤ 62) : Ev (fun k => serinetteref06_Power.f k (n : Int)) ((2 : Int) ^ n) := by
  have key : ∀ d i, i + d = n → Ev (fun k => serinetteref06_Power.l0 k (n : Int) ((2 : Int) ^ i) (i : Int)) ((2 : Int) ^ n) := by
    intro d
    induction d with
    | zero =>
      intro i hi
      obtain rfl : i = n := by omega
      refine succ ?_
      simp only [serinetteref06_Power.l0]
      exact neg (by omega) (now _)
    | succ d ih =>
      intro i hi
      refine succ ?_
      simp only [serinetteref06_Power.l0]
      have hb := pow_bd' (i + 1) (by omega)
      have e : 2 * (2 : Int) ^ i = 2 ^ (i + 1) := by rw [Int.pow_succ, Int.mul_comm]
      rw [e, w64 (x := (2 : Int) ^ (i + 1)) (by omega) (by omega), w64 (x := (i : Int) + 1) (by omega) (by omega)]
      exact pos (by omega) (ih (i + 1) (by omega))
  exact key n 0 (by omega)
theorem ref_in_ev (n : Int) (w : Nat) (hw : w ≤ 62) : Ev (fun k => serinetteref06_In.f k n (w : Int)) (decide (inn n w)) := by
  unfold serinetteref06_In.f
  by_cases h1 : (w : Int) < 1
  · exact pos h1 (cst (by rw [decide_eq_false (fun h => by have := h.1; omega)]))
  · refine neg h1 (neg (by omega) ?_)
    have e : (w : Int) - 1 = ((w - 1 : Nat) : Int) := by omega
    have hb := pow_bd' (w - 1) (by omega)
    rw [e, w64 (by omega) (by omega)]
    refine bnd (power6_ev (w - 1) (by omega)) ?_
    rw [w64 (by omega) (by omega)]
    by_cases h2 : n ≥ -(2 ^ (w - 1))
    · exact pos h2 (cst (by congr 1; exact decide_eq_decide.2 ⟨fun h => ⟨by omega, h2, h⟩, fun h => h.2.2⟩))
    · exact neg h2 (cst (by rw [decide_eq_false (fun h => h2 h.2.1)]))
theorem ref_width_ev (l : List Int) (hl : l.length ≤ 1000) : Ev (fun q => serinetteref13_Width.f q l) (if NearAll l then (wid l : Int) else -1) := by
  unfold serinetteref13_Width.f
  refine bnd (ref_nearAll_ev l (by omega)) ?_
  by_cases hn : NearAll l
  · rw [if_pos hn]
    refine pos (by simp [hn]) ?_
    have l1 : ∀ (w : Nat), w ≤ 34 → ∀ R : Int, (fitsW l w → R = w) → (¬ fitsW l w → Ev (fun q => serinetteref13_Width.l0 q l ((w : Int) + 1)) R) → ∀ (t p : List Int) (b : Bool), l = p ++ t → b = decide (fitsW p w) → Ev (fun q => serinetteref13_Width.l1 q l (w : Int) b (p.length : Int)) R := by
      intro w hw R h1 h2 t
      induction t with
      | nil =>
        intro p b hp hb
        rw [List.append_nil] at hp
        subst hp
        refine succ ?_
        simp only [serinetteref13_Width.l1]
        rw [w64 (x := (w : Int) + 1) (by omega) (by omega)]
        refine neg (by omega) ?_
        by_cases hf : fitsW l w
        · exact pos (by rw [hb]; simp [hf]) (cst (by rw [h1 hf]))
        · exact neg (by rw [hb]; simp [hf]) (h2 hf)
      | cons x t ih =>
        intro p b hp hb
        have l1 := congrArg List.length hp
        simp only [List.length_append, List.length_cons] at l1
        refine succ ?_
        simp only [serinetteref13_Width.l1]
        have ra : rd l (p.length : Int) = x := by rw [hp]; exact rd_at _ _ _
        rw [ra, w64 (x := (p.length : Int) + 1) (by omega) (by omega)]
        have nxt : ∀ b' : Bool, b' = decide (fitsW (p ++ [x]) w) → Ev (fun q => serinetteref13_Width.l1 q l (w : Int) b' ((p.length : Int) + 1)) R := fun b' hb' => by
          have := ih (p ++ [x]) b' (by simp [hp]) hb'
          simpa using this
        have yes : (x = 0 ∨ inn x w) → b = decide (fitsW (p ++ [x]) w) := fun h => by
          rw [hb]
          exact decide_eq_decide.2 ⟨fun g => fitsW_append.2 ⟨g, fun n hn' => by simp at hn'; rw [hn']; exact h⟩, fun g => (fitsW_append.1 g).1⟩
        have no : ¬ (x = 0 ∨ inn x w) → false = decide (fitsW (p ++ [x]) w) := fun h => (decide_eq_false (fun g => h ((fitsW_append.1 g).2 x (by simp)))).symm
        refine pos (by omega) (pos (by omega) (bnd (ref_in_ev x w (by omega)) ?_))
        by_cases hi : inn x w
        · exact pos (by simpa using hi) (nxt b (yes (.inr hi)))
        · refine neg (by simpa using hi) ?_
          by_cases hw0 : (w : Int) > 0
          · refine pos hw0 (nxt _ ?_)
            by_cases hx0 : x = 0
            · exfalso
              apply hi
              rw [hx0]
              have := pow_bd' (w - 1) (by omega)
              exact ⟨by omega, by omega, by omega⟩
            · exact no (fun h => h.elim hx0 hi)
          · refine neg hw0 ?_
            by_cases hx0 : x = 0
            · exact pos hx0 (nxt b (yes (.inl hx0)))
            · exact neg hx0 (nxt _ (no (fun h => h.elim hx0 hi)))
    obtain ⟨s1, s2, s3⟩ := wid_spec hn
    have key : ∀ (d w : Nat), w + d = wid l → Ev (fun q => serinetteref13_Width.l0 q l (w : Int)) (wid l : Int) := by
      intro d
      induction d with
      | zero =>
        intro w hw
        refine succ ?_
        simp only [serinetteref13_Width.l0]
        exact pos (by omega) (l1 w (by omega) _ (fun _ => by omega) (fun h => absurd s1 (by rw [← hw]; exact h)) l [] true rfl (by simp [fitsW]))
      | succ d ih =>
        intro w hw
        refine succ ?_
        simp only [serinetteref13_Width.l0]
        exact pos (by omega) (l1 w (by omega) _ (fun h => absurd h (s3 w (by omega))) (fun _ => ih (w + 1) (by omega)) l [] true rfl (by simp [fitsW]))
    exact key (wid l) 0 (by omega)
  · rw [if_neg hn]
    exact neg (by simp [hn]) (cst rfl)
theorem ref_each_ev (l : List Int) (K : Int) (raw : Bool) (hl : l.length ≤ 1000) : Ev (fun q => serinetteref13_Each.f q l K raw) (if raw = true then (if NearAll l ∧ (wid l : Int) ≤ K ∧ K ≤ 31 then 5 + K * l.length else -1) else if NearAll l then bitsL (kk K) l else -1) := by
  unfold serinetteref13_Each.f
  by_cases hr : raw = true
  · rw [if_pos hr]
    refine pos hr (bnd (ref_width_ev l hl) ?_)
    by_cases hn : NearAll l
    · rw [if_pos hn]
      refine neg (by omega) ?_
      by_cases h1 : K < wid l
      · exact pos h1 (cst (by rw [if_neg (fun h => by omega)]))
      · refine neg h1 ?_
        by_cases h2 : K > 31
        · exact pos h2 (cst (by rw [if_neg (fun h => by omega)]))
        · refine neg h2 (cst ?_)
          have b0 : 0 ≤ K * l.length := Int.mul_nonneg (by omega) (by omega)
          have b1 : K * l.length ≤ 31 * 1000 := Int.mul_le_mul (by omega) (by omega) (by omega) (by omega)
          rw [w64 (x := K * l.length) (by omega) (by omega), w64 (by omega) (by omega), if_pos ⟨hn, by omega, by omega⟩]
    · rw [if_neg hn]
      exact pos (by decide) (cst (by rw [if_neg (fun h => hn h.1)]))
  · rw [if_neg hr]
    exact neg hr (bnd (ref_bits_ev l K hl) (now _))
end Go.Proofs.Ytpoigjkkcehpdaa.PL
namespace Go.Proofs.Ytpoigjkkcehpdaa.PL
open Go.RowKit Go.Proofs.Ytpoigjkkcehpdaa.PA Go.Proofs.YtpoigjkkcehpdaaW.PrintWords
set_option linter.unusedVariables false
set_option linter.unusedSimpArgs false
/-- What an answer of Each is. -/
def eachV (l : List Int) (p : S39) : Int := if p.f1 = true then (if NearAll l ∧ (wid l : Int) ≤ p.f0 ∧ p.f0 ≤ 31 then 5 + p.f0 * l.length else -1) else if NearAll l then bitsL (kk p.f0) l else -1
def waysK (m : Nat) : List S39 := (List.range (m + 1)).map fun (k : Nat) => (⟨(k : Int), false⟩ : S39)
def waysL (l : List Int) (m : Nat) : List S39 := waysK m ++ if wid l ≤ 31 then [(⟨(wid l : Int), true⟩ : S39)] else []
theorem waysK_succ (m : Nat) : waysK (m + 1) = waysK m ++ [(⟨((m + 1 : Nat) : Int), false⟩ : S39)] := by
  simp [waysK, List.range_succ]
theorem waysK_len (m : Nat) : (waysK m).length = m + 1 := by simp [waysK]
theorem ways_ev (l : List Int) (most : Int) (hl : l.length ≤ 1000) (hn : NearAll l) : Ev (fun q => serinetteref13_Ways.f q l most) (waysL l (kk most)) := by
  have hm := kk_le most
  have hw := ref_width_ev l hl
  rw [if_pos hn] at hw
  have fin : Ev (fun q => (serinetteref13_Width.f q l).bind fun t => (if t ≥ 0 then (if t ≤ 31 then (if (waysK (kk most)).length < 8796093022208 then (some (waysK (kk most) ++ [(⟨t, true⟩ : S39)])) else (none)) else (some (waysK (kk most)))) else (some (waysK (kk most))))) (waysL l (kk most)) := by
    refine bnd hw (pos (by omega) ?_)
    unfold waysL
    by_cases h : wid l ≤ 31
    · rw [if_pos h]
      exact pos (by omega) (pos (by rw [waysK_len]; omega) (now _))
    · rw [if_neg h, List.append_nil]
      exact neg (by omega) (now _)
  have key : ∀ (d j : Nat), j + d = kk most → Ev (fun q => serinetteref13_Ways.l0 q l most (waysK j) ((j : Int) + 1)) (waysL l (kk most)) := by
    intro d
    induction d with
    | zero =>
      intro j hj
      obtain rfl : j = kk most := by omega
      refine succ ?_
      simp only [serinetteref13_Ways.l0]
      by_cases h1 : ((kk most : Nat) : Int) + 1 ≤ most
      · exact pos h1 (neg (by unfold kk; unfold kk at h1; omega) fin)
      · exact neg h1 fin
    | succ d ih =>
      intro j hj
      refine succ ?_
      simp only [serinetteref13_Ways.l0]
      rw [w64 (x := (j : Int) + 1 + 1) (by omega) (by omega)]
      refine pos (by unfold kk at hj; omega) (pos (by omega) (pos (by rw [waysK_len]; omega) ?_))
      have := ih (j + 1) (by omega)
      rw [waysK_succ] at this
      exact this
  have := key (kk most) 0 (by omega)
  unfold serinetteref13_Ways.f
  exact this
theorem rdT_at (ws : List S39) (i : Nat) (h : i < ws.length) : rd_T39 ws (i : Int) = ws[i] := by simp [rd_T39, List.getD_eq_getElem?_getD, h]
/-- The first place of the least value in a list of ways. -/
def aminL (l : List Int) (ws : List S39) : Nat → Nat := amin (fun i => eachV l (ws.getD i ⟨0, false⟩))
theorem ref_best_l0 (l : List Int) (ws : List S39) (hl : l.length ≤ 1000) (hws : ws.length ≤ 1000) : ∀ (d i : Nat), i + 1 + d = ws.length →
    Ev (fun q => serinetteref13_Best.l0 q l ws (aminL l ws i : Int) ((i : Int) + 1)) ((ws.getD (aminL l ws (ws.length - 1)) ⟨0, false⟩).f0, (ws.getD (aminL l ws (ws.length - 1)) ⟨0, false⟩).f1, eachV l (ws.getD (aminL l ws (ws.length - 1)) ⟨0, false⟩), 0) := by
  intro d
  induction d with
  | zero =>
    intro i hi
    have ha := amin_le (fun i => eachV l (ws.getD i ⟨0, false⟩)) i
    have e : ws.length - 1 = i := by omega
    rw [e]
    refine succ ?_
    simp only [serinetteref13_Best.l0]
    have hlt : aminL l ws i < ws.length := by unfold aminL; omega
    refine neg (by omega) (pos (by omega) (pos (by omega) ?_))
    have er : rd_T39 ws (aminL l ws i : Int) = ws.getD (aminL l ws i) ⟨0, false⟩ := by rw [rdT_at ws _ hlt]; simp [List.getD_eq_getElem?_getD, hlt]
    rw [er]
    exact bnd (ref_each_ev l _ _ hl) (now _)
  | succ d ih =>
    intro i hi
    have ha := amin_le (fun i => eachV l (ws.getD i ⟨0, false⟩)) i
    refine succ ?_
    simp only [serinetteref13_Best.l0]
    have hlt : aminL l ws i < ws.length := by unfold aminL; omega
    have er : rd_T39 ws (aminL l ws i : Int) = ws.getD (aminL l ws i) ⟨0, false⟩ := by rw [rdT_at ws _ hlt]; simp [List.getD_eq_getElem?_getD, hlt]
    have er2 : rd_T39 ws ((i : Int) + 1) = ws.getD (i + 1) ⟨0, false⟩ := by
      have := rdT_at ws (i + 1) (by omega)
      rw [show ((i : Int) + 1) = ((i + 1 : Nat) : Int) by omega, this]; simp [List.getD_eq_getElem?_getD, show i + 1 < ws.length by omega]
    rw [er, er2, w64 (x := (i : Int) + 1 + 1) (by omega) (by omega)]
    refine pos (by omega) (pos (by omega) (bnd (ref_each_ev l _ _ hl) (pos (by omega) (pos (by omega) (bnd (ref_each_ev l _ _ hl) ?_)))))
    have nx := ih (i + 1) (by omega)
    have es : ((i + 1 : Nat) : Int) = (i : Int) + 1 := by omega
    have ea : aminL l ws (i + 1) = if eachV l (ws.getD (i + 1) ⟨0, false⟩) < eachV l (ws.getD (aminL l ws i) ⟨0, false⟩) then i + 1 else aminL l ws i := rfl
    by_cases h : eachV l (ws.getD (i + 1) ⟨0, false⟩) < eachV l (ws.getD (aminL l ws i) ⟨0, false⟩)
    · rw [if_pos h] at ea
      rw [ea, es] at nx
      exact pos h nx
    · rw [if_neg h] at ea
      rw [ea, es] at nx
      exact neg h nx
theorem amin_congr {f g : Nat → Int} : ∀ m, (∀ i, i ≤ m → f i = g i) → amin f m = amin g m
  | 0, _ => rfl
  | m + 1, h => by
    have ih := amin_congr m (fun i hi => h i (by omega))
    have hle := amin_le g m
    simp only [amin]
    rw [ih, h (m + 1) (by omega), h (amin g m) (by omega)]
theorem ref_best_ev (l : List Int) (most : Int) (hl : l.length ≤ 1000) : Ev (fun q => serinetteref13_Best.f q l most) (if NearAll l then bestL l (kk most) else (0, false, 0, 6)) := by
  unfold serinetteref13_Best.f
  refine bnd (ref_nearAll_ev l (by omega)) ?_
  by_cases hn : NearAll l
  · rw [if_pos hn]
    refine pos (by simp [hn]) (bnd (ways_ev l most hl hn) ?_)
    have hm := kk_le most
    have lk := waysK_len (kk most)
    have lw : (waysL l (kk most)).length ≤ 1000 := by unfold waysL; split <;> simp [lk] <;> omega
    have l1 : 1 ≤ (waysL l (kk most)).length := by unfold waysL; rw [List.length_append, lk]; omega
    have h := ref_best_l0 l (waysL l (kk most)) hl lw ((waysL l (kk most)).length - 1) 0 (by omega)
    have gk : ∀ i, i ≤ kk most → (waysL l (kk most)).getD i ⟨0, false⟩ = (⟨(i : Int), false⟩ : S39) := fun i hi => by
      have hi' : i < (waysK (kk most)).length := by omega
      simp only [waysL, List.getD_eq_getElem?_getD, List.getElem?_append_left hi']
      simp [waysK, show i < kk most + 1 by omega]
    have vk : ∀ i, i ≤ kk most → eachV l ((waysL l (kk most)).getD i ⟨0, false⟩) = bitsL i l := fun i hi => by
      rw [gk i hi, eachV, if_neg (by simp), if_pos hn, kk_nat (by omega)]
    have ek : aminL l (waysL l (kk most)) (kk most) = amin (fun k => bitsL k l) (kk most) := amin_congr _ vk
    have hle := amin_le (fun k => bitsL k l) (kk most)
    have res : ((waysL l (kk most)).getD (aminL l (waysL l (kk most)) ((waysL l (kk most)).length - 1)) ⟨0, false⟩).f0 = (bestL l (kk most)).1 ∧ ((waysL l (kk most)).getD (aminL l (waysL l (kk most)) ((waysL l (kk most)).length - 1)) ⟨0, false⟩).f1 = (bestL l (kk most)).2.1 ∧ eachV l ((waysL l (kk most)).getD (aminL l (waysL l (kk most)) ((waysL l (kk most)).length - 1)) ⟨0, false⟩) = (bestL l (kk most)).2.2.1 := by
      by_cases hw : wid l ≤ 31
      · have e1 : (waysL l (kk most)).length - 1 = kk most + 1 := by unfold waysL; rw [if_pos hw]; simp [lk]
        have gw : (waysL l (kk most)).getD (kk most + 1) ⟨0, false⟩ = (⟨(wid l : Int), true⟩ : S39) := by
          simp only [waysL, if_pos hw, List.getD_eq_getElem?_getD]
          rw [List.getElem?_append_right (by omega), lk]; simp
        have vw : eachV l ((waysL l (kk most)).getD (kk most + 1) ⟨0, false⟩) = rawL l := by
          rw [gw, eachV, if_pos rfl, if_pos ⟨hn, by simp, by simp; omega⟩]; rfl
        have ea : aminL l (waysL l (kk most)) (kk most + 1) = if rawL l < bitsL (amin (fun k => bitsL k l) (kk most)) l then kk most + 1 else amin (fun k => bitsL k l) (kk most) := by
          have : aminL l (waysL l (kk most)) (kk most + 1) = if eachV l ((waysL l (kk most)).getD (kk most + 1) ⟨0, false⟩) < eachV l ((waysL l (kk most)).getD (aminL l (waysL l (kk most)) (kk most)) ⟨0, false⟩) then kk most + 1 else aminL l (waysL l (kk most)) (kk most) := rfl
          rw [this, ek, vw, vk _ hle]
        rw [e1, ea]
        unfold bestL
        by_cases hr : rawL l < bitsL (amin (fun k => bitsL k l) (kk most)) l
        · rw [if_pos hr, if_pos ⟨hw, hr⟩, gw]
          exact ⟨rfl, rfl, by rw [← gw]; exact vw⟩
        · rw [if_neg hr, if_neg (fun h => hr h.2), gk _ hle]
          exact ⟨rfl, rfl, by rw [← gk _ hle]; exact vk _ hle⟩
      · have e1 : (waysL l (kk most)).length - 1 = kk most := by unfold waysL; rw [if_neg hw]; simp [lk]
        rw [e1, ek]
        unfold bestL
        rw [if_neg (fun h => hw h.1), gk _ hle]
        exact ⟨rfl, rfl, by rw [← gk _ hle]; exact vk _ hle⟩
    have b3 : (bestL l (kk most)).2.2.2 = 0 := by unfold bestL; split <;> rfl
    rw [res.1, res.2.1, res.2.2] at h
    have eb : bestL l (kk most) = ((bestL l (kk most)).1, (bestL l (kk most)).2.1, (bestL l (kk most)).2.2.1, 0) := by
      rw [← b3]
    rw [eb]
    exact h
  · rw [if_neg hn]
    exact neg (by simp [hn]) (now _)
end Go.Proofs.Ytpoigjkkcehpdaa.PL
namespace Go.Proofs.Ytpoigjkkcehpdaa.PL
open Go.RowKit Go.Proofs.Ytpoigjkkcehpdaa.PA Go.Proofs.YtpoigjkkcehpdaaW.PrintWords Go.Proofs.YtpoigjkkcehpdaaW.PrintLast Go.Proofs.YtpoigjkkcehpdaaW.PrintMore
set_option linter.unusedVariables false
set_option linter.unusedSimpArgs false
theorem ref_cuts_l0 (B s order : Int) (N : Nat) (hN : 0 < N) (hN2 : N ≤ 40000) (hs : wrap64 (Int.tdiv B (N : Int)) = s) :
    ∀ (d i : Nat), i + 1 + d = N → Ev (fun k => serinetteref14_Cuts.l0 k B (N : Int) ((s - order) :: List.replicate i s)) ((s - order) :: List.replicate (N - 1) s) := by
  intro d
  induction d with
  | zero =>
    intro i hi
    obtain rfl : N = i + 1 := by omega
    refine succ ?_
    simp only [serinetteref14_Cuts.l0]
    exact neg (by simp) (now _)
  | succ d ih =>
    intro i hi
    refine succ ?_
    simp only [serinetteref14_Cuts.l0]
    rw [hs]
    refine pos (by simp; omega) (neg (by omega) (pos (by simp; omega) ?_))
    have := ih (i + 1) (by omega)
    rw [List.replicate_succ'] at this
    simpa using this
theorem ref_cuts_ev (n order : Int) (o : Nat) (hn0 : 0 ≤ n) (hn : n ≤ 100000) (ho0 : 0 ≤ order) (ho1 : order ≤ 100000) (ho : o ≤ 15) : Ev (fun k => serinetteref14_Cuts.f k n order (o : Int)) (cutsP n order o) := by
  obtain ⟨p1, p2⟩ := pow15 ho
  have hd0 : 0 ≤ (n + order) / 2 ^ o := Int.ediv_nonneg (by omega) (by omega)
  have hd1 : (n + order) / 2 ^ o ≤ n + order := Int.ediv_le_self _ (by omega)
  have h3 : ((2 ^ o : Nat) : Int) = (2 : Int) ^ o := by simp
  unfold serinetteref14_Cuts.f
  refine neg (by omega) (neg (by omega) (neg (by omega) ?_))
  rw [decide_eq_false (by omega)]
  refine succ ?_
  simp only [serinetteref14_Cuts.j0]
  refine neg (by decide) (bnd (power6_ev o (by omega)) (neg (by omega) ?_))
  have et : wrap64 (Int.tdiv (n + order) (2 ^ o)) = (n + order) / 2 ^ o := by rw [Int.tdiv_eq_ediv_of_nonneg (by omega), w64 (by omega) (by omega)]
  rw [w64 (x := n + order) (by omega) (by omega), et, Int.tmod_eq_emod_of_nonneg (by omega)]
  by_cases h0 : (n + order) % 2 ^ o = 0
  · refine pos h0 ?_
    refine succ ?_
    simp only [serinetteref14_Cuts.j1]
    by_cases hs : (n + order) / 2 ^ o ≤ order
    · refine pos (decide_eq_true hs) (cst ?_)
      rw [cutsP, if_neg (fun h => by omega)]
    · refine neg (by simpa using hs) (neg (by omega) ?_)
      rw [et, cutsP, if_pos ⟨h0, by omega⟩, w64 (by omega) (by omega)]
      have := ref_cuts_l0 (n + order) ((n + order) / 2 ^ o) order (2 ^ o) (by omega) (by omega) (by rw [h3]; exact et) (2 ^ o - 1) 0 (by omega)
      rw [h3] at this
      simpa using this
  · refine neg h0 ?_
    refine succ ?_
    simp only [serinetteref14_Cuts.j1]
    refine pos trivial (cst ?_)
    rw [cutsP, if_neg (fun h => h0 h.1)]
theorem ref_split_ev (l cs : List Int) (hl : l.length ≤ 1000) (hcl : cs.length ≤ 100000) (hf : Fits cs l.length) : Ev (fun k => serinetteref14_Split.f k l cs) (split cs l) := by
  have key : ∀ (t p : List Int) (at_ : Nat) (acc : List (List Int)), cs = p ++ t → at_ ≤ l.length → acc.length = p.length → Fits t (l.length - at_) → Ev (fun k => serinetteref14_Split.l0 k l cs acc (at_ : Int) (p.length : Int)) (acc ++ split t (l.drop at_)) := by
    intro t
    induction t with
    | nil =>
      intro p at_ acc hp ha hacc hft
      refine succ ?_
      simp only [serinetteref14_Split.l0]
      refine neg (by rw [hp]; simp) (cst ?_)
      simp [split]
    | cons c t ih =>
      intro p at_ acc hp ha hacc hft
      obtain ⟨h0, h1, h2⟩ := hft
      have l1 := congrArg List.length hp
      simp only [List.length_append, List.length_cons] at l1
      refine succ ?_
      simp only [serinetteref14_Split.l0]
      have ra : rd cs (p.length : Int) = c := by rw [hp]; exact rd_at _ _ _
      obtain ⟨m, rfl⟩ : ∃ m : Nat, c = (m : Int) := ⟨c.toNat, by omega⟩
      simp only [Int.toNat_natCast] at h2
      rw [ra, w64 (x := (at_ : Int) + (m : Int)) (by omega) (by omega), w64 (x := (p.length : Int) + 1) (by omega) (by omega)]
      refine pos (by omega) (pos (by omega) (pos (by omega) (pos (by omega) (pos (by omega) (pos (by omega) ?_)))))
      have e1 : (l.take ((at_ : Int) + (m : Int)).toNat).drop (at_ : Int).toNat = (l.drop at_).take m := by
        rw [show ((at_ : Int) + (m : Int)).toNat = at_ + m by omega, Int.toNat_natCast, List.drop_take]
        congr 1
        omega
      rw [e1]
      have := ih (p ++ [(m : Int)]) (at_ + m) (acc ++ [(l.drop at_).take m]) (by simp [hp]) (by omega) (by simp [hacc]) (by rw [show l.length - (at_ + m) = l.length - at_ - m by omega]; exact h2)
      have e2 : acc ++ [(l.drop at_).take m] ++ split t (l.drop (at_ + m)) = acc ++ split ((m : Int) :: t) (l.drop at_) := by
        simp only [split, Int.toNat_natCast, List.drop_drop, List.append_assoc, List.singleton_append]
      rw [e2] at this
      simpa using this
  have := key cs [] 0 [] rfl (Nat.zero_le _) rfl (by simpa using hf)
  unfold serinetteref14_Split.f
  simpa using this
theorem each_part {q : List Int} (h : NearAll q) (hl : q.length ≤ 1000) {m : Nat} (hm : m ≤ 30) : eachV q (partL q m) = bestN q m ∧ ((partL q m).f1 = true ∨ (0 ≤ (partL q m).f0 ∧ (partL q m).f0 ≤ m)) := by
  by_cases hc : wid q ≤ 31 ∧ rawL q < bitsL (amin (fun k => bitsL k q) m) q
  · have hb : bestL q m = ((wid q : Int), true, rawL q, 0) := by unfold bestL; rw [if_pos hc]
    unfold eachV partL bestN
    rw [hb]
    refine ⟨?_, .inl rfl⟩
    rw [if_pos rfl, if_pos ⟨h, Int.le_refl _, by show (wid q : Int) ≤ 31; omega⟩]
    rfl
  · have hb : bestL q m = ((amin (fun k => bitsL k q) m : Int), false, bitsL (amin (fun k => bitsL k q) m) q, 0) := by unfold bestL; rw [if_neg hc]
    have hle := amin_le (fun k => bitsL k q) m
    unfold eachV partL bestN
    rw [hb]
    refine ⟨?_, .inr ⟨by show 0 ≤ ((amin (fun k => bitsL k q) m : Nat) : Int); omega, by show ((amin (fun k => bitsL k q) m : Nat) : Int) ≤ m; omega⟩⟩
    rw [if_neg (show ¬ (false = true) by decide), if_pos h, kk_nat (by omega)]
theorem rd_part (qs : List (List Int)) (w : Bool) (i : Nat) (hi : i < qs.length) : rd_T39 (qs.map (fun p => partL p (mostOf w))) (i : Int) = partL (qs.getD i []) (mostOf w) := by
  simp [rd_T39, List.getD_eq_getElem?_getD, hi]
theorem planN_bd (w : Bool) : ∀ (cs l : List Int), NearAll l → l.length ≤ 1000 → 0 ≤ planN w (split cs l) ∧ planN w (split cs l) ≤ 5 * cs.length + 17179869300 * l.length
  | [], l, _, _ => by simp [split, planN]; omega
  | n :: cs, l, h, hl => by
    have hb := bestN_bd (take_near h n.toNat) (by rw [List.length_take]; omega) (mostOf_le w)
    have hz := sizeOf_bd w
    have ih := planN_bd w cs _ (drop_near h n.toNat) (by rw [List.length_drop]; omega)
    have hlt : (l.take n.toNat).length + (l.drop n.toNat).length = l.length := by rw [List.length_take, List.length_drop]; omega
    simp only [split, planN, List.length_cons]
    omega
theorem planN_append (w : Bool) : ∀ (a b : List (List Int)), planN w (a ++ b) = planN w a + planN w b
  | [], b => by simp [planN]
  | p :: a, b => by simp only [List.cons_append, planN, planN_append w a b]; omega
theorem planN_nonneg (w : Bool) : ∀ (a : List (List Int)), (∀ p ∈ a, NearAll p ∧ p.length ≤ 1000) → 0 ≤ planN w a
  | [], _ => by simp [planN]
  | p :: a, h => by
    have h1 := h p (by simp)
    have := (bestN_bd h1.1 h1.2 (mostOf_le w)).1
    have := (sizeOf_bd w).1
    have := planN_nonneg w a (fun q hq => h q (by simp [hq]))
    simp only [planN]
    omega
theorem ref_bits_l0 (w : Bool) (j : Int) (qs : List (List Int)) (hq : ∀ p ∈ qs, NearAll p ∧ p.length ≤ 1000) (hn : qs.length ≤ 100000) (hB : planN w qs ≤ 100000000000000) :
    ∀ (t p : List (List Int)), qs = p ++ t → Ev (fun k => serinetteref14_Bits.l0 k qs (sizeOf_ w) (mostOf w : Int) (6 + planN w p) (p.length : Int) w j (qs.map (fun p => partL p (mostOf w)))) (6 + planN w qs) := by
  intro t
  induction t with
  | nil =>
    intro p hp
    refine succ ?_
    simp only [serinetteref14_Bits.l0]
    exact neg (by rw [hp]; simp) (cst (by rw [hp, List.append_nil]))
  | cons q t ih =>
    intro p hp
    have l1 := congrArg List.length hp
    simp only [List.length_append, List.length_cons] at l1
    refine succ ?_
    simp only [serinetteref14_Bits.l0]
    have ra : qs.getD p.length [] = q := by rw [hp]; simp [List.getD_eq_getElem?_getD]
    have rl : rd_L3 qs (p.length : Int) = q := by unfold rd_L3; rw [Int.toNat_natCast]; exact ra
    have hqq := hq q (by rw [hp]; simp)
    rw [rl, rd_part qs w p.length (by omega), ra]
    have hm := mostOf_le w
    have he := each_part hqq.1 hqq.2 hm
    have hev := ref_each_ev q (partL q (mostOf w)).f0 (partL q (mostOf w)).f1 hqq.2
    have heq : (if (partL q (mostOf w)).f1 = true then (if NearAll q ∧ (wid q : Int) ≤ (partL q (mostOf w)).f0 ∧ (partL q (mostOf w)).f0 ≤ 31 then 5 + (partL q (mostOf w)).f0 * q.length else -1) else if NearAll q then bitsL (kk (partL q (mostOf w)).f0) q else -1) = bestN q (mostOf w) := he.1
    rw [heq] at hev
    have hb := bestN_bd hqq.1 hqq.2 hm
    have hz := sizeOf_bd w
    have hpn := planN_nonneg w p (fun x hx => hq x (by rw [hp]; simp [hx]))
    have htn := planN_nonneg w t (fun x hx => hq x (by rw [hp]; simp [hx]))
    have e1 : planN w qs = planN w p + (sizeOf_ w + bestN q (mostOf w) + planN w t) := by rw [hp, planN_append, planN]
    refine pos (by omega) (pos (by omega) (pos (by rw [List.length_map]; omega) (bnd hev (neg (by omega) ?_))))
    have nx := ih (p ++ [q]) (by simp [hp])
    have e2 : 6 + planN w (p ++ [q]) = 6 + planN w p + sizeOf_ w + bestN q (mostOf w) := by rw [planN_append]; simp only [planN]; omega
    rw [e2] at nx
    rw [w64 (x := 6 + planN w p + sizeOf_ w) (by omega) (by omega), w64 (x := 6 + planN w p + sizeOf_ w + bestN q (mostOf w)) (by omega) (by omega), w64 (x := (p.length : Int) + 1) (by omega) (by omega)]
    have e3 : ((p ++ [q]).length : Int) = (p.length : Int) + 1 := by simp
    rw [e3] at nx
    rcases he.2 with h1 | ⟨h1, h2⟩
    · exact pos h1 nx
    · by_cases hr : (partL q (mostOf w)).f1 = true
      · exact pos hr nx
      · exact neg hr (neg (by omega) (neg (by omega) nx))
theorem cuts_len8 {n order : Int} {j : Nat} (hj : j ≤ 8) : (cutsP n order j).length ≤ 256 := by
  by_cases hc : cutsP n order j = []
  · rw [hc]; simp
  · rw [cutsP_len hc]
    have : 2 ^ j ≤ 2 ^ 8 := Nat.pow_le_pow_right (by decide) hj
    omega
theorem partsP_len (l : List Int) (order : Int) (j : Nat) : (partsP l order j).length = (cutsP (l.length : Int) order j).length := split_len _ _
/-- A best plan's bits, as the document counts them. -/
theorem ref_bits_ev14 {l : List Int} (h : NearAll l) (hl : l.length ≤ 1000) {order : Int} (ho : 0 ≤ order) (ho2 : order ≤ 32) (w : Bool) {j : Nat} (hj : j ≤ 8) (hc : cutsP (l.length : Int) order j ≠ []) : Ev (fun k => serinetteref14_Bits.f k l order w (j : Int) (planPs l order w j)) (planL l order w j) := by
  unfold serinetteref14_Bits.f
  refine bnd (ref_cuts_ev (l.length : Int) order j (by omega) (by omega) (by omega) (by omega) (by omega)) ?_
  have hcl := cuts_len8 (n := (l.length : Int)) (order := order) hj
  refine neg (by have := List.length_pos_iff.2 hc; omega) ?_
  have hlen : (planPs l order w j).length = (cutsP (l.length : Int) order j).length := by unfold planPs; rw [List.length_map, partsP_len]
  have e : (((cutsP (l.length : Int) order j).length : Int) != ((planPs l order w j).length : Int)) = false := by rw [hlen]; simp
  rw [e]
  refine succ ?_
  simp only [serinetteref14_Bits.j0]
  refine neg (by decide) (bnd (ref_split_ev l _ hl (by omega) (fits_cuts l.length order ho j)) ?_)
  have hq := split_near (cutsP (l.length : Int) order j) l h hl
  have hb := planN_bd w (cutsP (l.length : Int) order j) l h hl
  have key := ref_bits_l0 w (j : Int) (partsP l order j) hq (by rw [partsP_len]; omega) (by unfold partsP; omega) (partsP l order j) [] rfl
  have e0 : 6 + planN w [] = 6 := rfl
  rw [e0] at key
  have j1 : Ev (fun k => serinetteref14_Bits.j1 k (split (cutsP (l.length : Int) order j) l) (sizeOf_ w) (mostOf w : Int) w (j : Int) (planPs l order w j)) (planL l order w j) := by
    refine succ ?_
    simp only [serinetteref14_Bits.j1]
    exact key
  cases w with
  | true => exact pos rfl j1
  | false => exact neg (by decide) j1
def planOf (l : List Int) (order : Int) (w : Bool) (j : Nat) : S26 := ⟨w, (j : Int), planPs l order w j⟩
/-- The plans from one order on. -/
def cand (l : List Int) (order : Int) (w : Bool) (j : Nat) : Nat → List S26
  | 0 => []
  | d + 1 => if cutsP (l.length : Int) order j = [] then cand l order w (j + 1) d else planOf l order w j :: cand l order w (j + 1) d
theorem cand_len (l : List Int) (order : Int) (w : Bool) : ∀ d j, (cand l order w j d).length ≤ d
  | 0, j => by simp [cand]
  | d + 1, j => by
    have := cand_len l order w d (j + 1)
    unfold cand
    split
    · omega
    · simp; omega
theorem most_w (w : Bool) : (if w = true then (1 : Int) else 0) = (if w = true then (1 : Int) else 0) := rfl
def wN (w : Bool) : Int := if w then 1 else 0
theorem plans_l2 {l : List Int} (h : NearAll l) (hl : l.length ≤ 1000) (order most : Int) (wide w : Bool) (acc : List S26) (hacc : acc.length ≤ 1000) (j : Int) (qs : List (List Int)) (hq : ∀ p ∈ qs, NearAll p ∧ p.length ≤ 1000) (hn : qs.length ≤ 100000) (R : List S26)
    (hnext : Ev (fun k => serinetteref14_Plans.l1 k l order most wide (acc ++ [(⟨w, j, qs.map (fun p => partL p (mostOf w))⟩ : S26)]) (wN w) (wrap64 (j + 1))) R) :
    ∀ (t p : List (List Int)), qs = p ++ t → Ev (fun k => serinetteref14_Plans.l2 k l order most wide acc (wN w) j qs (p.length : Int) w j (p.map (fun p => partL p (mostOf w)))) R := by
  intro t
  induction t with
  | nil =>
    intro p hp
    rw [List.append_nil] at hp
    subst hp
    refine succ ?_
    simp only [serinetteref14_Plans.l2]
    exact neg (by omega) (pos (by omega) hnext)
  | cons q t ih =>
    intro p hp
    have l1 := congrArg List.length hp
    simp only [List.length_append, List.length_cons] at l1
    refine succ ?_
    simp only [serinetteref14_Plans.l2]
    have ra : qs.getD p.length [] = q := by rw [hp]; simp [List.getD_eq_getElem?_getD]
    have rl : rd_L3 qs (p.length : Int) = q := by unfold rd_L3; rw [Int.toNat_natCast]; exact ra
    have hqq := hq q (by rw [hp]; simp)
    have hb := ref_best_ev q (mostOf w : Int) hqq.2
    rw [if_pos hqq.1, kk_nat (mostOf_le w)] at hb
    have ew : wrap64 (14 + (wrap64 (16 * wN w))) = (mostOf w : Int) := by cases w <;> (unfold wN mostOf; rw [w64 (x := 16 * _) (by simp) (by simp), w64 (by simp) (by simp)]; rfl)
    rw [rl, ew]
    refine pos (by omega) (pos (by omega) (bnd hb (pos (by rw [List.length_map]; omega) ?_)))
    have nx := ih (p ++ [q]) (by simp [hp])
    rw [w64 (by omega) (by omega)]
    simpa [partL] using nx
theorem plans_l1 {l : List Int} (h : NearAll l) (hl : l.length ≤ 1000) {order : Int} (ho : 0 ≤ order) (ho2 : order ≤ 32) (most : Nat) (hm : most ≤ 8) (wide w : Bool) (hw : w = true → wide = true) (R : List S26) :
    ∀ (d j : Nat) (acc : List S26), j + d = most + 1 → acc.length + d ≤ 500 → Ev (fun k => serinetteref14_Plans.l0 k l order (most : Int) wide (acc ++ cand l order w j d) (wrap64 (wN w + 1))) R → Ev (fun k => serinetteref14_Plans.l1 k l order (most : Int) wide acc (wN w) (j : Int)) R := by
  intro d
  induction d with
  | zero =>
    intro j acc hj hacc hnext
    refine succ ?_
    simp only [serinetteref14_Plans.l1]
    refine neg (by omega) ?_
    simpa [cand] using hnext
  | succ d ih =>
    intro j acc hj hacc hnext
    refine succ ?_
    simp only [serinetteref14_Plans.l1]
    refine pos (by omega) (bnd (ref_cuts_ev (l.length : Int) order j (by omega) (by omega) (by omega) (by omega) (by omega)) ?_)
    have ej : wrap64 ((j : Int) + 1) = ((j + 1 : Nat) : Int) := by rw [w64 (by omega) (by omega)]; omega
    by_cases hc : cutsP (l.length : Int) order j = []
    · rw [hc]
      refine pos rfl ?_
      refine succ ?_
      simp only [serinetteref14_Plans.j2]
      refine pos trivial ?_
      rw [ej]
      refine ih (j + 1) acc (by omega) (by omega) ?_
      unfold cand at hnext
      rw [if_pos hc] at hnext
      exact hnext
    · refine neg (by have := List.length_pos_iff.2 hc; omega) ?_
      have go : Ev (fun k => serinetteref14_Plans.j2 k l order (most : Int) wide acc (wN w) (j : Int) (cutsP (l.length : Int) order j) false) R := by
        refine succ ?_
        simp only [serinetteref14_Plans.j2]
        have hcl := cuts_len8 (n := (l.length : Int)) (order := order) (show j ≤ 8 by omega)
        refine neg (by decide) (bnd (ref_split_ev l _ hl (by omega) (fits_cuts l.length order ho j)) ?_)
        have hq := split_near (cutsP (l.length : Int) order j) l h hl
        have ew : (wN w == 1) = w := by cases w <;> rfl
        rw [ew]
        refine plans_l2 h hl order (most : Int) wide w acc (by omega) (j : Int) (partsP l order j) hq (by rw [partsP_len]; omega) R ?_ (partsP l order j) [] rfl
        rw [ej]
        refine ih (j + 1) _ (by omega) (by simp; omega) ?_
        unfold cand at hnext
        rw [if_neg hc] at hnext
        rw [List.append_assoc]
        exact hnext
      by_cases h1 : wN w = 1
      · refine pos h1 ?_
        have hwt : w = true := by cases w with
          | true => rfl
          | false => exact absurd h1 (by decide)
        rw [hw hwt]
        have := go
        rw [hw hwt] at this
        exact this
      · exact neg h1 go
theorem plans_skip {l : List Int} (hl : l.length ≤ 1000) {order : Int} (ho : 0 ≤ order) (ho2 : order ≤ 32) (most : Nat) (hm : most ≤ 8) (R : List S26) (acc : List S26) :
    ∀ (d j : Nat), j + d = most + 1 → Ev (fun k => serinetteref14_Plans.l0 k l order (most : Int) false acc (wrap64 (1 + 1))) R → Ev (fun k => serinetteref14_Plans.l1 k l order (most : Int) false acc 1 (j : Int)) R := by
  intro d
  induction d with
  | zero =>
    intro j hj hnext
    refine succ ?_
    simp only [serinetteref14_Plans.l1]
    exact neg (by omega) hnext
  | succ d ih =>
    intro j hj hnext
    refine succ ?_
    simp only [serinetteref14_Plans.l1]
    refine pos (by omega) (bnd (ref_cuts_ev (l.length : Int) order j (by omega) (by omega) (by omega) (by omega) (by omega)) ?_)
    have ej : wrap64 ((j : Int) + 1) = ((j + 1 : Nat) : Int) := by rw [w64 (by omega) (by omega)]; omega
    have go : ∀ cs, Ev (fun k => serinetteref14_Plans.j2 k l order (most : Int) false acc 1 (j : Int) cs true) R := fun cs => by
      refine succ ?_
      simp only [serinetteref14_Plans.j2]
      refine pos trivial ?_
      rw [ej]
      exact ih (j + 1) (by omega) hnext
    by_cases hc : ((cutsP (l.length : Int) order j).length : Int) = 0
    · exact pos hc (go _)
    · exact neg hc (pos trivial (go _))
def plansL (l : List Int) (order : Int) (most : Nat) (wide : Bool) : List S26 := cand l order false 0 (most + 1) ++ if wide = true then cand l order true 0 (most + 1) else []
theorem plans_ev {l : List Int} (h : NearAll l) (hl : l.length ≤ 1000) {order : Int} (ho : 0 ≤ order) (ho2 : order ≤ 32) (most : Nat) (hm : most ≤ 8) (wide : Bool) : Ev (fun k => serinetteref14_Plans.f k l order (most : Int) wide) (plansL l order most wide) := by
  unfold serinetteref14_Plans.f
  refine succ ?_
  simp only [serinetteref14_Plans.l0]
  refine pos (by decide) ?_
  have hlen := cand_len l order false (most + 1) 0
  have e1 : wrap64 (wN false + 1) = 1 := by unfold wN; exact w64 (by simp) (by simp)
  have e2 : wrap64 ((1 : Int) + 1) = 2 := w64 (by simp) (by simp)
  have fin : ∀ acc : List S26, Ev (fun k => serinetteref14_Plans.l0 k l order (most : Int) wide acc 2) acc := fun acc => by
    refine succ ?_
    simp only [serinetteref14_Plans.l0]
    exact neg (by decide) (now _)
  have key := plans_l1 h hl ho ho2 most hm wide false (fun h_ => absurd h_ (by decide)) (plansL l order most wide) (most + 1) 0 [] (by omega) (by simp; omega) ?_
  · simpa [wN] using key
  rw [e1, List.nil_append]
  refine succ ?_
  simp only [serinetteref14_Plans.l0]
  refine pos (by decide) ?_
  cases wide with
  | true =>
    have k2 := plans_l1 h hl ho ho2 most hm true true (fun _ => rfl) (plansL l order most true) (most + 1) 0 (cand l order false 0 (most + 1)) (by omega) (by omega) (by
      have e3 : wrap64 (wN true + 1) = 2 := by unfold wN; exact w64 (by simp) (by simp)
      rw [e3]
      exact fin _)
    simpa [wN] using k2
  | false =>
    have k2 := plans_skip hl ho ho2 most hm (plansL l order most false) (cand l order false 0 (most + 1)) (most + 1) 0 (by omega) (by
      rw [e2]
      have := fin (cand l order false 0 (most + 1))
      have e4 : plansL l order most false = cand l order false 0 (most + 1) := by unfold plansL; simp
      rw [e4]
      exact this)
    simpa using k2
end Go.Proofs.Ytpoigjkkcehpdaa.PL
