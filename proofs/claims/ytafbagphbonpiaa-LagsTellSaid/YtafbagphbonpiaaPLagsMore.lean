/- The chapter's example; more of how alike numbers are: none is further from 0 than the first one, turned about, with zeros, joined, twice as far from 0. Condition: at most a thousand numbers of 64 bits. -/
import Derived.Test.YtafbagphbonpiaaPLags
import Derived.Test.YtafbagphbonpiaaPInts
import Derived.Test.YtafbagphbonpiaaPNear
import Derived.Test.YtafbagphbonpiaaPAx9
namespace Go.Proofs.Ytafbagphbonpiaa.PL
open Go.RowKit Go.Proofs.Ytafbagphbonpiaa.PA Go.Proofs.YtafbagphbonpiaaW.PrintWords
set_option linter.unusedVariables false
set_option linter.unusedSimpArgs false
theorem awake_ev : Ev (fun k => serinettelaw09_awake.f k) true := Ev.of serinettelaw09_awake.mono (k := 60) (by decide +kernel)
theorem ofL_take (y : List Int) {a b : Nat} (h : a ≤ b) : (ofL y b).take a = ofL y a := by
  simp only [ofL, ← List.map_take, List.take_range, Nat.min_eq_left h]
theorem ac_abs (y : List Int) (k : Nat) : -(ac y 0) ≤ ac y k ∧ ac y k ≤ ac y 0 := by
  have sq : ∀ i, 0 ≤ y.getD i 0 * y.getD i 0 := fun i => by
    rcases Int.le_total 0 (y.getD i 0) with h | h
    · exact Int.mul_nonneg h h
    · exact Int.mul_nonneg_of_nonpos_of_nonpos h h
  have h0 : sm y.length (fun i => y.getD i 0 * y.getD i 0) = ac y 0 := rfl
  have h1 : sm y.length (fun i => y.getD (i + k) 0 * y.getD (i + k) 0) ≤ ac y 0 := by
    have e := sm_add (fun i => y.getD i 0 * y.getD i 0) k y.length
    have e2 : sm (k + y.length) (fun i => y.getD i 0 * y.getD i 0) = ac y 0 := ac_over (y := y) (k := 0) (by omega)
    have e3 : sm y.length (fun i => y.getD (k + i) 0 * y.getD (k + i) 0) = sm y.length (fun i => y.getD (i + k) 0 * y.getD (i + k) 0) := sm_congr _ (fun i _ => by rw [Nat.add_comm k i])
    have e4 : sm k (fun _ => 0) ≤ sm k (fun i => y.getD i 0 * y.getD i 0) := sm_le k (fun i _ => sq i)
    rw [sm_zero k (fun _ _ => rfl)] at e4
    omega
  have p : sm y.length (fun i => y.getD (i + k) 0 * y.getD i 0 + y.getD (i + k) 0 * y.getD i 0) ≤ sm y.length (fun i => y.getD (i + k) 0 * y.getD (i + k) 0 + y.getD i 0 * y.getD i 0) := by
    refine sm_le _ (fun i _ => ?_)
    generalize y.getD (i + k) 0 = a
    generalize y.getD i 0 = b
    have : 0 ≤ (a - b) * (a - b) := by
      rcases Int.le_total 0 (a - b) with h | h
      · exact Int.mul_nonneg h h
      · exact Int.mul_nonneg_of_nonpos_of_nonpos h h
    grind
  have q : sm y.length (fun i => -(y.getD (i + k) 0 * y.getD (i + k) 0 + y.getD i 0 * y.getD i 0)) ≤ sm y.length (fun i => y.getD (i + k) 0 * y.getD i 0 + y.getD (i + k) 0 * y.getD i 0) := by
    refine sm_le _ (fun i _ => ?_)
    generalize y.getD (i + k) 0 = a
    generalize y.getD i 0 = b
    have : 0 ≤ (a + b) * (a + b) := by
      rcases Int.le_total 0 (a + b) with h | h
      · exact Int.mul_nonneg h h
      · exact Int.mul_nonneg_of_nonpos_of_nonpos h h
    grind
  have hneg : ∀ (n : Nat) (f : Nat → Int), sm n (fun i => -(f i)) = -(sm n f) := by
    intro n f
    induction n with
    | zero => rfl
    | succ n ih => rw [sm, sm, ih]; omega
  rw [hneg, sm_plus, sm_plus, h0] at q
  rw [sm_plus, sm_plus, h0] at p
  unfold ac at *
  omega
theorem ac_pos (y : List Int) : (0 < ac y 0) ↔ ∃ x ∈ y, x ≠ 0 := by
  have sq : ∀ i, 0 ≤ y.getD i 0 * y.getD i 0 := fun i => by
    rcases Int.le_total 0 (y.getD i 0) with h | h
    · exact Int.mul_nonneg h h
    · exact Int.mul_nonneg_of_nonpos_of_nonpos h h
  constructor
  · intro h
    by_cases hx : ∃ x ∈ y, x ≠ 0
    · exact hx
    · exfalso
      have : ac y 0 = 0 := sm_zero _ (fun i hi => by
        have hm : y.getD i 0 ∈ y := by rw [List.getD_eq_getElem?_getD, List.getElem?_eq_getElem hi]; exact List.getElem_mem hi
        have : y.getD i 0 = 0 := Classical.byContradiction fun hne => hx ⟨_, hm, hne⟩
        rw [this, Int.mul_zero])
      omega
  · rintro ⟨x, hx, hne⟩
    obtain ⟨i, hi, rfl⟩ := List.getElem_of_mem hx
    have e : y.length = i + (1 + (y.length - i - 1)) := by omega
    have h0 : ac y 0 = sm (i + (1 + (y.length - i - 1))) (fun j => y.getD j 0 * y.getD j 0) := by rw [← e]; rfl
    rw [sm_add, sm_add] at h0
    have p1 : sm i (fun _ => 0) ≤ sm i (fun j => y.getD j 0 * y.getD j 0) := sm_le _ (fun j _ => sq j)
    have p2 : sm (y.length - i - 1) (fun _ => 0) ≤ sm (y.length - i - 1) (fun j => y.getD (i + (1 + j)) 0 * y.getD (i + (1 + j)) 0) := sm_le _ (fun j _ => sq _)
    rw [sm_zero _ (fun _ _ => rfl)] at p1 p2
    have p3 : sm 1 (fun j => y.getD (i + j) 0 * y.getD (i + j) 0) = y[i] * y[i] := by
      simp [sm, List.getD_eq_getElem?_getD, List.getElem?_eq_getElem hi]
    have p4 : 0 < y[i] * y[i] := by
      rcases Int.lt_or_gt_of_ne hne with h | h
      · exact Int.mul_pos_of_neg_of_neg h h
      · exact Int.mul_pos h h
    omega
theorem getD_app (p q : List Int) (i : Nat) : (p ++ q).getD (p.length + i) 0 = q.getD i 0 := by simp [List.getD_eq_getElem?_getD, List.getElem?_append_right (Nat.le_add_right _ _)]
theorem getD_app' (p q : List Int) {n : Nat} (h : p.length = n) (i : Nat) : (p ++ q).getD (n + i) 0 = q.getD i 0 := by subst h; exact getD_app p q i
theorem getD_left (p q : List Int) {i : Nat} (h : i < p.length) : (p ++ q).getD i 0 = p.getD i 0 := by simp [List.getD_eq_getElem?_getD, List.getElem?_append_left h]
theorem getD_rep (n i : Nat) : (List.replicate n (0 : Int)).getD i 0 = 0 := by
  simp only [List.getD_eq_getElem?_getD, List.getElem?_replicate]; split <;> rfl
theorem getD_zeros (y : List Int) (b i : Nat) : (y ++ List.replicate b 0).getD i 0 = y.getD i 0 := by
  rcases Nat.lt_or_ge i y.length with h | h
  · exact getD_left _ _ h
  · obtain ⟨d, rfl⟩ : ∃ d, i = y.length + d := ⟨i - y.length, by omega⟩
    rw [getD_app, getD_rep, getD_over (by omega)]
theorem ac_pad (y : List Int) (a b k : Nat) : ac (List.replicate a 0 ++ y ++ List.replicate b 0) k = ac y k := by
  have g1 : ∀ i, (List.replicate a (0 : Int) ++ y ++ List.replicate b 0).getD (a + i) 0 = y.getD i 0 := fun i => by
    rw [List.append_assoc, getD_app' _ _ (by simp), getD_zeros]
  have g0 : ∀ i, i < a → (List.replicate a (0 : Int) ++ y ++ List.replicate b 0).getD i 0 = 0 := fun i hi => by
    rw [List.append_assoc, getD_left _ _ (by simpa using hi), getD_rep]
  rw [← ac_over (y := List.replicate a 0 ++ y ++ List.replicate b 0) (k := k) (n := a + (y.length + b)) (by simp only [List.length_append, List.length_replicate]; omega), sm_add, sm_zero a (fun i hi => by rw [g0 i hi, Int.mul_zero]), Int.zero_add]
  rw [← ac_over (y := y) (k := k) (n := y.length + b) (by omega)]
  exact sm_congr _ (fun i _ => by rw [Nat.add_assoc, g1, g1])
theorem ac_rev (y : List Int) (k : Nat) : ac y.reverse k = ac y k := by
  rcases Nat.le_total y.length k with h | h
  · rw [ac_zero (by simpa using h), ac_zero h]
  · rw [← ac_over (y := y) (k := k) (n := y.length - k) (by omega), ← ac_over (y := y.reverse) (k := k) (n := y.length - k) (by simp; omega), sm_rev]
    refine sm_congr _ (fun i hi => ?_)
    have r : ∀ j, j < y.length → y.reverse.getD j 0 = y.getD (y.length - 1 - j) 0 := fun j hj => by
      rw [List.getD_eq_getElem?_getD, List.getElem?_reverse hj, List.getD_eq_getElem?_getD]
    rw [r _ (by omega), r _ (by omega), Int.mul_comm]
    congr 2 <;> omega
theorem ac_join (x y : List Int) (n k : Nat) (h : k ≤ n) : ac (x ++ List.replicate n 0 ++ y) k = ac x k + ac y k := by
  have g1 : ∀ i, i < x.length + n → (x ++ List.replicate n 0 ++ y).getD i 0 = x.getD i 0 := fun i hi => by
    rw [getD_left _ _ (by simp; omega), getD_zeros]
  have g2 : ∀ i, (x ++ List.replicate n 0 ++ y).getD (x.length + n + i) 0 = y.getD i 0 := fun i => getD_app' _ _ (by simp) i
  rw [← ac_over (y := x ++ List.replicate n 0 ++ y) (k := k) (n := x.length + (n + y.length)) (by simp only [List.length_append, List.length_replicate]; omega), sm_add, sm_add]
  have e1 : sm x.length (fun i => (x ++ List.replicate n 0 ++ y).getD (i + k) 0 * (x ++ List.replicate n 0 ++ y).getD i 0) = ac x k := sm_congr _ (fun i hi => by rw [g1 _ (by omega), g1 _ (by omega)])
  have e2 : sm n (fun i => (x ++ List.replicate n 0 ++ y).getD (x.length + i + k) 0 * (x ++ List.replicate n 0 ++ y).getD (x.length + i) 0) = 0 := sm_zero _ (fun i hi => by rw [g1 (x.length + i) (by omega), getD_over (y := x) (i := x.length + i) (by omega), Int.mul_zero])
  have e3 : sm y.length (fun i => (x ++ List.replicate n 0 ++ y).getD (x.length + (n + i) + k) 0 * (x ++ List.replicate n 0 ++ y).getD (x.length + (n + i)) 0) = ac y k := sm_congr _ (fun i hi => by
    rw [show x.length + (n + i) + k = x.length + n + (i + k) by omega, show x.length + (n + i) = x.length + n + i by omega, g2, g2])
  rw [e1, e2, e3]; omega
theorem fits_append (a b : List Int) (s : Nat) : fits (a ++ b) s = (fits a s && fits b s) := by simp [fits]
theorem fits_zeros (n s : Nat) : fits (List.replicate n 0) s = true := by
  rw [fits_iff]; intro x hx; rw [(List.mem_replicate.1 hx).2]; simp
theorem downL_zeros (n s : Nat) : downL (List.replicate n 0) s = List.replicate n 0 := by simp [downL]
theorem fits_reverse (l : List Int) (s : Nat) : fits l.reverse s = fits l s := by simp [fits]
theorem fitN_congr {a b : List Int} (h : ∀ s, fits a s = fits b s) : fitN a = fitN b := by
  have : ∀ d s, fitGo a d s = fitGo b d s := by
    intro d
    induction d with
    | zero => intro s; rfl
    | succ d ih => intro s; simp only [fitGo, h s, ih]
  exact this 42 0
theorem ofL_congr {a b : List Int} {n : Nat} (h : ∀ k, ac a k = ac b k) : ofL a n = ofL b n := by
  unfold ofL; exact List.map_congr_left (fun k _ => h k)
theorem tmod_u8 {x : Int} (h : 0 ≤ x ∧ x < 256) (m : Int) (hm : 0 < m) (hm2 : m < 256) : wrap64 (Int.tmod x m) = x % m := by
  have := Int.emod_nonneg x (show m ≠ 0 by omega); have := Int.emod_lt_of_pos x hm
  rw [Int.tmod_eq_emod_of_nonneg h.1, w64 (by omega) (by omega)]
end Go.Proofs.Ytafbagphbonpiaa.PL
