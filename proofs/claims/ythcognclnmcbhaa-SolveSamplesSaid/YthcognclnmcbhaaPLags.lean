/- What lags.Fit, lags.Of answer. Condition: at most a thousand numbers of 64 bits. -/
import Derived.Test.YthcognclnmcbhaaPSum
import Derived.Test.YthcognclnmcbhaaPAx25
namespace Go.Proofs.Ythcognclnmcbhaa.PL
open Go.RowKit Go.Proofs.Ythcognclnmcbhaa.PA Go.Proofs.YthcognclnmcbhaaW.PrintWords Go.Proofs.YthcognclnmcbhaaW.PrintMore
set_option linter.unusedVariables false
set_option linter.unusedSimpArgs false

theorem shr_eq (x : Int) {s : Nat} (h : s ≤ 64) : shr .i64 x (s : Int) = x / 2 ^ s := by
  unfold shr
  rw [Int.toNat_natCast, show min s IntKind.i64.bits = s by simp [IntKind.bits]; omega]
/-- Do numbers fit, s bits down? -/
def fits (l : List Int) (s : Nat) : Bool := l.all fun x => decide (-4194304 ≤ x / 2 ^ s ∧ x / 2 ^ s < 4194304)
theorem fits_iff {l : List Int} {s : Nat} : fits l s = true ↔ ∀ x ∈ l, -4194304 ≤ x / 2 ^ s ∧ x / 2 ^ s < 4194304 := by simp [fits, List.all_eq_true]
theorem div_succ (x : Int) (s : Nat) : x / 2 ^ (s + 1) = x / 2 ^ s / 2 := by
  rw [Int.pow_succ, Int.ediv_ediv_of_nonneg (Int.pow_nonneg (by decide))]
theorem fits_succ {l : List Int} {s : Nat} (h : fits l s = true) : fits l (s + 1) = true := by
  rw [fits_iff] at *
  intro x hx
  have := h x hx
  rw [div_succ]; omega
theorem fits_mono {l : List Int} {s t : Nat} (h : fits l s = true) (hst : s ≤ t) : fits l t = true := by
  obtain ⟨d, rfl⟩ : ∃ d, t = s + d := ⟨t - s, by omega⟩
  clear hst
  induction d with
  | zero => exact h
  | succ d ih => exact fits_succ ih
theorem fits_42 {l : List Int} (h : ∀ x ∈ l, -9223372036854775808 ≤ x ∧ x < 9223372036854775808) : fits l 42 = true := by
  rw [fits_iff]
  intro x hx
  have := h x hx
  have e : (2 : Int) ^ 42 = 4398046511104 := by decide
  rw [e]; omega
def fitGo (l : List Int) : Nat → Nat → Nat
  | 0, s => s
  | d + 1, s => if fits l s then s else fitGo l d (s + 1)
/-- By how many bits numbers go down. -/
def fitN (l : List Int) : Nat := fitGo l 42 0
theorem fitGo_spec {l : List Int} (h : fits l 42 = true) : ∀ d s, s + d = 42 → fits l (fitGo l d s) = true ∧ fitGo l d s ≤ 42 ∧ s ≤ fitGo l d s ∧ ∀ t, s ≤ t → t < fitGo l d s → fits l t = false
  | 0, s, e => by
    obtain rfl : s = 42 := by omega
    exact ⟨h, Nat.le_refl _, Nat.le_refl _, fun t h1 h2 => by simp only [fitGo] at h2; omega⟩
  | d + 1, s, e => by
    simp only [fitGo]
    split
    · rename_i hf
      exact ⟨hf, by omega, Nat.le_refl _, fun t h1 h2 => by omega⟩
    · rename_i hf
      obtain ⟨h1, h2, h3, h4⟩ := fitGo_spec h d (s + 1) (by omega)
      refine ⟨h1, h2, by omega, fun t ht1 ht2 => ?_⟩
      rcases Nat.lt_or_ge s t with h5 | h5
      · exact h4 t h5 ht2
      · obtain rfl : t = s := by omega
        simpa using hf
theorem fitN_spec {l : List Int} (h : fits l 42 = true) : fits l (fitN l) = true ∧ fitN l ≤ 42 ∧ ∀ t, t < fitN l → fits l t = false := by
  obtain ⟨h1, h2, _, h4⟩ := fitGo_spec h 42 0 rfl
  exact ⟨h1, h2, fun t ht => h4 t (Nat.zero_le _) ht⟩
theorem fitN_eq {l : List Int} (h : fits l 42 = true) {s : Nat} (h1 : fits l s = true) (h2 : ∀ t, t < s → fits l t = false) : fitN l = s := by
  obtain ⟨g1, _, g2⟩ := fitN_spec h
  rcases Nat.lt_trichotomy (fitN l) s with h3 | h3 | h3
  · have := h2 _ h3; rw [g1] at this; cases this
  · exact h3
  · have := g2 _ h3; rw [h1] at this; cases this
theorem anyWide_ev (l : List Int) (s : Nat) (hs : s ≤ 64) (hl : l.length ≤ 1000) : ∀ (t p : List Int), l = p ++ t → Ev (fun k => serinetteshadow_AnyWide.l0 k l (s : Int) (l.length : Int) (p.length : Int)) (!fits t s) := by
  intro t
  induction t with
  | nil =>
    intro p hp
    refine succ ?_
    simp only [serinetteshadow_AnyWide.l0]
    exact neg (by rw [hp]; simp) (cst (by simp [fits]))
  | cons x t ih =>
    intro p hp
    have l1 := congrArg List.length hp
    simp only [List.length_append, List.length_cons] at l1
    refine succ ?_
    simp only [serinetteshadow_AnyWide.l0]
    have ra : rd l (p.length : Int) = x := by rw [hp]; exact rd_at _ _ _
    rw [ra, shr_eq x hs, w64 (by omega) (by omega)]
    refine pos (by omega) (pos (by omega) (pos (by omega) (pos (by omega) ?_)))
    have hh := ih (p ++ [x]) (by simp [hp])
    have hh : Ev (fun k => serinetteshadow_AnyWide.l0 k l (s : Int) (l.length : Int) ((p.length : Int) + 1)) (!fits t s) := by simpa using hh
    have e : fits (x :: t) s = (decide (-4194304 ≤ x / 2 ^ s ∧ x / 2 ^ s < 4194304) && fits t s) := by simp [fits]
    rw [e]
    generalize x / 2 ^ s = q
    by_cases h0 : q / 4194304 = 0
    · refine pos h0 ?_
      rw [show decide (-4194304 ≤ q ∧ q < 4194304) = true from decide_eq_true (by omega), Bool.true_and]
      exact hh
    · refine neg h0 ?_
      by_cases h1 : q / 4194304 = -1
      · refine pos h1 ?_
        rw [show decide (-4194304 ≤ q ∧ q < 4194304) = true from decide_eq_true (by omega), Bool.true_and]
        exact hh
      · refine neg h1 (cst ?_)
        rw [show decide (-4194304 ≤ q ∧ q < 4194304) = false from decide_eq_false (by omega)]
        rfl
theorem fit_ev (l : List Int) (hl : l.length ≤ 1000) (hw : fits l 42 = true) : Ev (fun k => lags_Fit.f k l) (fitN l : Int) := by
  have key : ∀ (d s : Nat), s + d = 42 → Ev (fun k => lags_Fit.l0 k l [0] (s : Int)) (fitGo l d s : Int) := by
    intro d
    induction d with
    | zero =>
      intro s hs
      obtain rfl : s = 42 := by omega
      refine succ ?_
      simp only [lags_Fit.l0]
      have := anyWide_ev l 42 (by omega) hl l [] rfl
      rw [hw] at this
      exact bnd this (neg (by decide) (neg (by decide) (cst rfl)))
    | succ d ih =>
      intro s hs
      refine succ ?_
      simp only [lags_Fit.l0]
      have := anyWide_ev l s (by omega) hl l [] rfl
      refine bnd this ?_
      rw [w64 (x := (s : Int) + 1) (by omega) (by omega)]
      simp only [fitGo]
      by_cases hf : fits l s = true
      · exact neg (by simp [hf]) (neg (by decide) (cst (by simp [hf])))
      · rw [if_neg hf]
        exact pos (by simp [hf]) (ih (s + 1) (by omega))
  unfold lags_Fit.f
  simp only [Option.bind_some]
  exact pos (by decide) (key 42 0 rfl)
theorem clone_eq (l : List Int) (h : l.length ≤ 1000) : slices_Clone_int_int.f l = some l := by
  unfold slices_Clone_int_int.f
  simp only [Option.bind_some, List.length_nil, List.nil_append]
  rw [if_pos (by omega)]
def downL (l : List Int) (s : Nat) : List Int := l.map fun x => x / 2 ^ s
theorem down_ev (l : List Int) (s : Nat) (hs : s ≤ 64) (hl : l.length ≤ 1000) : Ev (fun k => lags_down.f k l (s : Int)) (downL l s) := by
  have key : ∀ (t p : List Int), p.length + t.length = l.length → Ev (fun k => lags_down.l0 k (s : Int) (p ++ t) (l.length : Int) (p.length : Int)) (p ++ downL t s) := by
    intro t
    induction t with
    | nil =>
      intro p hp
      refine succ ?_
      simp only [lags_down.l0]
      exact neg (by simp at hp; omega) (cst (by simp [downL]))
    | cons x t ih =>
      intro p hp
      simp only [List.length_cons] at hp
      refine succ ?_
      simp only [lags_down.l0]
      rw [rd_at, shr_eq x hs, w64 (by omega) (by omega), Int.toNat_natCast, set_at]
      refine pos (by omega) (pos (by omega) (pos (by simp; omega) (pos (by omega) ?_)))
      have := ih (p ++ [x / 2 ^ s]) (by simp; omega)
      simpa [downL] using this
  unfold lags_down.f
  rw [clone_eq l hl]
  simp only [Option.bind_some]
  exact key l [] (by simp)
theorem small_down {l : List Int} {s : Nat} (h : fits l s = true) : Small (downL l s) := by
  rw [fits_iff] at h
  intro x hx
  simp only [downL, List.mem_map] at hx
  obtain ⟨a, ha, rfl⟩ := hx
  exact h a ha
def ofL (y : List Int) (n : Nat) : List Int := (List.range n).map (ac y)
def cnt (o : Int) : Nat := (1 + max 0 (min o 32)).toNat
theorem of_l1 (y out : List Int) (n : Int) (k : Nat) (R : List Int) (hy : Small y) (hl : y.length ≤ 1000) (p z : List Int) (hp : p.length = k) (hk : k ≤ 1000)
    (hR : Ev (fun q => lags_Of.l0 q y (p ++ ac y k :: z) n (wrap64 ((k : Int) + 1))) R) : ∀ (d i : Nat), k ≤ i → (i + d = y.length ∨ (d = 0 ∧ y.length ≤ i)) →
    Ev (fun q => lags_Of.l1 q y (p ++ sm (i - k) (fun j => y.getD (j + k) 0 * y.getD j 0) :: z) (k : Int) (i : Int) n (k : Int)) R := by
  intro d
  induction d with
  | zero =>
    intro i hki hi
    refine succ ?_
    simp only [lags_Of.l1]
    refine neg (by omega) ?_
    rw [ac_over (by omega)]
    exact hR
  | succ d ih =>
    intro i hki hi
    refine succ ?_
    simp only [lags_Of.l1]
    have hb := part_bd hy k (i - k) (by omega)
    have hm := mul_bd (small_getD hy i) (small_getD hy (i - k))
    have e1 : wrap64 ((i : Int) - k) = ((i - k : Nat) : Int) := by rw [w64 (by omega) (by omega)]; omega
    have e2 : wrap64 ((i : Int) + 1) = ((i + 1 : Nat) : Int) := by rw [w64 (by omega) (by omega)]; omega
    have r1 : ∀ S : Int, rd (p ++ S :: z) (k : Int) = S := fun S => by rw [← hp]; exact rd_at _ _ _
    have r2 : ∀ S X : Int, (p ++ S :: z).set (k : Int).toNat X = p ++ X :: z := fun S X => by rw [← hp, Int.toNat_natCast]; exact set_at _ _ _ _
    rw [e1, e2, r1, r2, rd_nat, rd_nat, w64 (x := y.getD i 0 * y.getD (i - k) 0) (by omega) (by omega), w64 (by omega) (by omega)]
    refine pos (by omega) (pos (by omega) (pos (by simp; omega) (pos (by omega) (pos (by omega) (pos (by omega) ?_)))))
    have := ih (i + 1) (by omega) (by omega)
    rw [show i + 1 - k = (i - k) + 1 by omega, sm, show i - k + k = i by omega] at this
    exact this
theorem of_l0 (y : List Int) (n : Nat) (hy : Small y) (hl : y.length ≤ 1000) (hn : n ≤ 100) : ∀ (d k : Nat) (p : List Int), k + d = n → p.length = k → Ev (fun q => lags_Of.l0 q y (p ++ List.replicate d 0) (n : Int) (k : Int)) (p ++ (List.range' k d).map (ac y)) := by
  intro d
  induction d with
  | zero =>
    intro k p hk hp
    refine succ ?_
    simp only [lags_Of.l0]
    exact neg (by omega) (cst (by simp))
  | succ d ih =>
    intro k p hk hp
    refine succ ?_
    simp only [lags_Of.l0]
    refine pos (by omega) ?_
    have h1 := ih (k + 1) (p ++ [ac y k]) (by omega) (by simp [hp])
    have e : wrap64 ((k : Int) + 1) = ((k + 1 : Nat) : Int) := by rw [w64 (by omega) (by omega)]; omega
    have h2 := of_l1 y [] n k (p ++ (List.range' k (d + 1)).map (ac y)) hy hl p (List.replicate d 0) hp (by omega) (by rw [e]; simpa [List.range'_succ] using h1)
    rcases Nat.le_total k y.length with h3 | h3
    · have := h2 (y.length - k) k (Nat.le_refl _) (by omega)
      rw [Nat.sub_self] at this
      simpa [sm, List.replicate_succ] using this
    · have := h2 0 k (Nat.le_refl _) (by omega)
      rw [Nat.sub_self] at this
      simpa [sm, List.replicate_succ] using this
theorem mxmn (o : Int) : (1 + mx 0 (mn o 32)) = (cnt o : Int) := by unfold mx mn cnt; split <;> split <;> omega
theorem cnt_le (o : Int) : 1 ≤ cnt o ∧ cnt o ≤ 33 := by unfold cnt; omega
theorem of_ev (l : List Int) (o : Int) (hl : l.length ≤ 1000) (hw : fits l 42 = true) : Ev (fun k => lags_Of.f k l o) (ofL (downL l (fitN l)) (cnt o)) := by
  obtain ⟨h1, h2, _⟩ := fitN_spec hw
  have hc := cnt_le o
  unfold lags_Of.f
  refine bnd (fit_ev l hl hw) (bnd (down_ev l (fitN l) (by omega) hl) ?_)
  rw [mxmn, Int.toNat_natCast]
  refine pos (by omega) (pos (by omega) ?_)
  simp only [Option.bind_some, List.length_replicate]
  have := of_l0 (downL l (fitN l)) (cnt o) (small_down h1) (by simp [downL]; omega) (by omega) (cnt o) 0 [] (by omega) rfl
  rw [ofL, List.range_eq_range']
  simpa using this
theorem wf42 {l : List Int} (h : ∀ x ∈ l, (Lit.int .i64 x).wf = true) : fits l 42 = true := fits_42 fun x hx => wf64 (h x hx)
theorem ofL_len (y : List Int) (n : Nat) : (ofL y n).length = n := by simp [ofL]
theorem ofL_getD (y : List Int) {n k : Nat} (h : k < n) : (ofL y n).getD k 0 = ac y k := by simp [ofL, List.getD_eq_getElem?_getD, h]
end Go.Proofs.Ythcognclnmcbhaa.PL
