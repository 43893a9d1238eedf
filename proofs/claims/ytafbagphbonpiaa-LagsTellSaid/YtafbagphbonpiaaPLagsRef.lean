/- What serinetteref09.Fit, Of answer: what lags.Fit, Of do. Condition: at most a thousand numbers from -2^40 to 2^40. -/
import Derived.Test.YtafbagphbonpiaaPLags
import Derived.Test.YtafbagphbonpiaaPRefDown
import Derived.Test.YtafbagphbonpiaaPAx14
namespace Go.Proofs.Ytafbagphbonpiaa.PL
open Go.RowKit Go.Proofs.Ytafbagphbonpiaa.PA Go.Proofs.YtafbagphbonpiaaW.PrintWords
set_option linter.unusedVariables false
theorem pow_bd : ∀ n : Nat, n ≤ 62 → (1 : Int) ≤ 2 ^ n ∧ (2 : Int) ^ n ≤ 4611686018427387904
  | 0, _ => by decide
  | n + 1, h => by
    constructor
    · have := (pow_bd n (by omega)).1; rw [Int.pow_succ]; omega
    · have h1 : (2 : Int) ^ (n + 1) ≤ 2 ^ 62 := by
        have : (2 : Nat) ^ (n + 1) ≤ 2 ^ 62 := Nat.pow_le_pow_right (by decide) h
        exact_mod_cast this
      exact h1
theorem power_ev (n : Nat) (hn : n ≤ 62) : Ev (fun k => serinetteref09_power.f k (n : Int)) ((2 : Int) ^ n) := by
  have key : ∀ d i, i + d = n → Ev (fun k => serinetteref09_power.l0 k (n : Int) ((2 : Int) ^ i) (i : Int)) ((2 : Int) ^ n) := by
    intro d
    induction d with
    | zero =>
      intro i hi
      obtain rfl : i = n := by omega
      refine succ ?_
      simp only [serinetteref09_power.l0]
      exact neg (by omega) (now _)
    | succ d ih =>
      intro i hi
      refine succ ?_
      simp only [serinetteref09_power.l0]
      have hb := pow_bd (i + 1) (by omega)
      have e : 2 * (2 : Int) ^ i = 2 ^ (i + 1) := by rw [Int.pow_succ, Int.mul_comm]
      rw [e, w64 (x := (2 : Int) ^ (i + 1)) (by omega) (by omega), w64 (x := (i : Int) + 1) (by omega) (by omega)]
      exact pos (by omega) (ih (i + 1) (by omega))
  exact key n 0 (by omega)
theorem ref_fit_l1 (l : List Int) (s : Nat) (hs : s ≤ 40) (hl : l.length ≤ 1000) (hw : ∀ x ∈ l, -9223372036854775808 ≤ x ∧ x < 9223372036854775808) (R : Int)
    (h1 : fits l s = true → R = s) (h2 : fits l s = false → Ev (fun k => serinetteref09_Fit.l0 k l ((s : Int) + 1)) R) : ∀ (t p : List Int) (b : Bool), l = p ++ t → b = fits p s → Ev (fun k => serinetteref09_Fit.l1 k l (s : Int) b (p.length : Int)) R := by
  intro t
  induction t with
  | nil =>
    intro p b hp hb
    rw [List.append_nil] at hp
    subst hp
    refine succ ?_
    simp only [serinetteref09_Fit.l1]
    refine neg (by omega) ?_
    rw [w64 (x := (s : Int) + 1) (by omega) (by omega), hb]
    cases hf : fits l s with
    | true => exact pos rfl (cst (by rw [h1 hf]))
    | false => exact neg (by decide) (h2 hf)
  | cons x t ih =>
    intro p b hp hb
    have l1 := congrArg List.length hp
    simp only [List.length_append, List.length_cons] at l1
    refine succ ?_
    simp only [serinetteref09_Fit.l1]
    have ra : rd l (p.length : Int) = x := by rw [hp]; exact rd_at _ _ _
    have hx := hw x (by rw [hp]; simp)
    have hpw := pow_bd s (by omega)
    rw [ra, w64 (x := (p.length : Int) + 1) (by omega) (by omega)]
    refine pos (by omega) (pos (by omega) (bnd (power_ev s (by omega)) ?_))
    rw [down_eq x (2 ^ s) (by omega) hx]
    simp only [Option.bind_some]
    have hh : ∀ b' : Bool, b' = fits (p ++ [x]) s → Ev (fun k => serinetteref09_Fit.l1 k l (s : Int) b' ((p.length : Int) + 1)) R := fun b' hb' => by
      have := ih (p ++ [x]) b' (by simp [hp]) hb'
      simpa using this
    have e : fits (p ++ [x]) s = (fits p s && decide (-4194304 ≤ x / 2 ^ s ∧ x / 2 ^ s < 4194304)) := by simp [fits]
    by_cases c1 : x / 2 ^ s < -4194304
    · exact pos c1 (hh false (by rw [e, decide_eq_false (by omega), Bool.and_false]))
    · refine neg c1 ?_
      by_cases c2 : x / 2 ^ s > 4194303
      · exact pos c2 (hh false (by rw [e, decide_eq_false (by omega), Bool.and_false]))
      · exact neg c2 (hh b (by rw [e, decide_eq_true (by omega), Bool.and_true]; exact hb))
theorem ref_fit_ev (l : List Int) (hl : l.length ≤ 1000) (hw : ∀ x ∈ l, -9223372036854775808 ≤ x ∧ x < 9223372036854775808) (h39 : fits l 39 = true) : Ev (fun k => serinetteref09_Fit.f k l) (fitN l : Int) := by
  have h42 : fits l 42 = true := fits_mono h39 (by omega)
  have key : ∀ (d s : Nat), s + d = 39 → (∀ t, t < s → fits l t = false) → Ev (fun k => serinetteref09_Fit.l0 k l (s : Int)) (fitN l : Int) := by
    intro d
    induction d with
    | zero =>
      intro s hs hlt
      obtain rfl : s = 39 := by omega
      refine succ ?_
      simp only [serinetteref09_Fit.l0]
      refine pos (by omega) (ref_fit_l1 l 39 (by omega) hl hw _ (fun h => by rw [fitN_eq h42 h hlt]) (fun h => by rw [h39] at h; cases h) l [] true rfl (by simp [fits]))
    | succ d ih =>
      intro s hs hlt
      refine succ ?_
      simp only [serinetteref09_Fit.l0]
      refine pos (by omega) (ref_fit_l1 l s (by omega) hl hw _ (fun h => by rw [fitN_eq h42 h hlt]) (fun h => ?_) l [] true rfl (by simp [fits]))
      have := ih (s + 1) (by omega) (fun t ht => by
        rcases Nat.lt_or_ge t s with h1 | h1
        · exact hlt t h1
        · obtain rfl : t = s := by omega
          exact h)
      exact this
  exact key 39 0 rfl (fun t ht => by omega)
theorem downL_getD (l : List Int) (s i : Nat) (h : i < l.length) : (downL l s).getD i 0 = rd l (i : Int) / 2 ^ s := by
  rw [rd_nat]; simp [downL, List.getD_eq_getElem?_getD, h]
theorem ref_of_l1 (l : List Int) (s : Nat) (o : Int) (hl : l.length ≤ 1000) (hs : s ≤ 62) (hw : ∀ x ∈ l, -9223372036854775808 ≤ x ∧ x < 9223372036854775808) (hf : fits l s = true) (out : List Int) (ho : out.length ≤ 1000) (k : Nat) (hk : k ≤ 100) (R : List Int)
    (h : Ev (fun q => serinetteref09_Of.l0 q l o (2 ^ s) (out ++ [ac (downL l s) k]) ((k : Int) + 1)) R) : ∀ (d i : Nat), (i + k + d = l.length ∨ (d = 0 ∧ l.length ≤ i + k ∧ i ≤ 1000)) →
    Ev (fun q => serinetteref09_Of.l1 q l o (2 ^ s) out (k : Int) (sm i (fun j => (downL l s).getD (j + k) 0 * (downL l s).getD j 0)) (i : Int)) R := by
  have hy := small_down hf
  have hly : (downL l s).length = l.length := by simp [downL]
  have hpw := pow_bd s (by omega)
  intro d
  induction d with
  | zero =>
    intro i hi
    refine succ ?_
    simp only [serinetteref09_Of.l1]
    rw [w64 (x := (i : Int) + (k : Int)) (by omega) (by omega), w64 (x := (k : Int) + 1) (by omega) (by omega)]
    refine neg (by omega) (pos (by omega) ?_)
    rw [ac_over (by omega)]
    exact h
  | succ d ih =>
    intro i hi
    refine succ ?_
    simp only [serinetteref09_Of.l1]
    have hm := mul_bd (small_getD hy i) (small_getD hy (i + k))
    have hb := part_bd hy k i (by omega)
    have e1 : (i : Int) + (k : Int) = ((i + k : Nat) : Int) := by omega
    rw [e1, w64 (x := ((i + k : Nat) : Int)) (by omega) (by omega), w64 (x := (i : Int) + 1) (by omega) (by omega)]
    refine pos (by omega) (pos (by omega) (pos (by omega) ?_))
    have m1 := hw _ (rd_mem (l := l) (i := (i : Int)) (by omega) (by omega))
    have m2 := hw _ (rd_mem (l := l) (i := ((i + k : Nat) : Int)) (by omega) (by omega))
    rw [down_eq _ _ (by omega) m1, down_eq _ _ (by omega) m2]
    simp only [Option.bind_some]
    rw [← downL_getD l s i (by omega), ← downL_getD l s (i + k) (by omega), w64 (x := (downL l s).getD i 0 * (downL l s).getD (i + k) 0) (by omega) (by omega), w64 (by omega) (by omega)]
    refine pos (by omega) ?_
    have := ih (i + 1) (by omega)
    rw [sm, Int.mul_comm ((downL l s).getD (i + k) 0)] at this
    exact this
theorem ref_of_ev (l : List Int) (o : Int) (hl : l.length ≤ 1000) (hw : ∀ x ∈ l, -9223372036854775808 ≤ x ∧ x < 9223372036854775808) (h39 : fits l 39 = true) : Ev (fun k => serinetteref09_Of.f k l o) (ofL (downL l (fitN l)) (cnt o)) := by
  have h42 : fits l 42 = true := fits_mono h39 (by omega)
  obtain ⟨f1, f2, f3⟩ := fitN_spec h42
  have hc := cnt_le o
  unfold serinetteref09_Of.f
  refine bnd (ref_fit_ev l hl hw h39) (bnd (power_ev (fitN l) (by omega)) ?_)
  have key : ∀ (d k : Nat) (out : List Int), k + d = cnt o → out.length = k → Ev (fun q => serinetteref09_Of.l0 q l o (2 ^ fitN l) out (k : Int)) (out ++ (List.range' k d).map (ac (downL l (fitN l)))) := by
    intro d
    induction d with
    | zero =>
      intro k out hk ho
      have fin : Ev (fun q => serinetteref09_Of.j1 q l o (2 ^ fitN l) out (k : Int) false) out := by
        refine succ ?_
        simp only [serinetteref09_Of.j1]
        exact neg (by decide) (now _)
      have e : ((k : Int) == 0) = false := by simp; omega
      refine succ ?_
      simp only [serinetteref09_Of.l0]
      rw [e]
      simp only [List.range'_zero, List.map_nil, List.append_nil]
      by_cases h1 : (k : Int) ≤ o
      · exact pos h1 (neg (by unfold cnt at hk; omega) fin)
      · exact neg h1 fin
    | succ d ih =>
      intro k out hk ho
      have nxt := ih (k + 1) (out ++ [ac (downL l (fitN l)) k]) (by omega) (by simp [ho])
      have go : Ev (fun q => serinetteref09_Of.j1 q l o (2 ^ fitN l) out (k : Int) true) (out ++ (List.range' k (d + 1)).map (ac (downL l (fitN l)))) := by
        refine succ ?_
        simp only [serinetteref09_Of.j1]
        refine pos trivial ?_
        have e2 : out ++ (List.range' k (d + 1)).map (ac (downL l (fitN l))) = (out ++ [ac (downL l (fitN l)) k]) ++ (List.range' (k + 1) d).map (ac (downL l (fitN l))) := by simp [List.range'_succ]
        rw [e2]
        have l1 := ref_of_l1 l (fitN l) o hl (by omega) hw f1 out (by omega) k (by omega) _ nxt
        rcases Nat.le_total k l.length with h3 | h3
        · exact l1 (l.length - k) 0 (by omega)
        · exact l1 0 0 (by omega)
      refine succ ?_
      simp only [serinetteref09_Of.l0]
      by_cases h1 : (k : Int) ≤ o
      · exact pos h1 (pos (by unfold cnt at hk; omega) go)
      · refine neg h1 ?_
        have e : ((k : Int) == 0) = true := by simp; unfold cnt at hk; omega
        rw [e]
        exact go
  have := key (cnt o) 0 [] (by omega) rfl
  rw [ofL, List.range_eq_range']
  simpa using this
theorem fits_near {l : List Int} (h : ∀ x ∈ l, -1099511627776 ≤ x ∧ x ≤ 1099511627776) : fits l 39 = true := by
  rw [fits_iff]
  intro x hx
  have := h x hx
  have e : (2 : Int) ^ 39 = 549755813888 := by decide
  rw [e]; omega
end Go.Proofs.Ytafbagphbonpiaa.PL
