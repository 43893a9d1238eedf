/- FixedCurves: of a polynomial of a lesser degree than the order nothing is left; of one of just that degree always the same. For every input. -/
import Derived.Test.YtiojcihklmifgaaPAx16
import Derived.Test.YtiojcihklmifgaaPFixAwake
namespace Go.Proofs.Ytiojcihklmifgaa.Pure
open Go.RowKit Go.Proofs.Ytiojcihklmifgaa.PA Go.Proofs.YtiojcihklmifgaaW.PrintWords Go.Proofs.YtiojcihklmifgaaW.PrintLast Go.Proofs.Ytiojcihklmifgaa.PL
/-- n numbers f s, f (s + 1), .. -/
def tab (f : Int → Int) (s : Int) : Nat → List Int
  | 0 => []
  | n + 1 => f s :: tab f (s + 1) n
theorem tab_len (f : Int → Int) : ∀ (n : Nat) (s : Int), (tab f s n).length = n
  | 0, _ => rfl
  | n + 1, s => by simp [tab, tab_len f n]
theorem tab_diff (f : Int → Int) : ∀ (n : Nat) (s : Int), diff (tab f s (n + 1)) = tab (fun i => wrap64 (f (i + 1) - f i)) s n
  | 0, s => rfl
  | n + 1, s => by
    have := tab_diff f n (s + 1)
    simp only [tab] at this ⊢
    simp only [diff]
    rw [this]
theorem tab_congr {f g : Int → Int} (h : ∀ i, f i = g i) : ∀ (n : Nat) (s : Int), tab f s n = tab g s n
  | 0, _ => rfl
  | n + 1, s => by simp only [tab, h s, tab_congr h n]
theorem tab_snoc (f : Int → Int) : ∀ (n : Nat) (s : Int), tab f s (n + 1) = tab f s n ++ [f (s + n)]
  | 0, s => by simp [tab]
  | n + 1, s => by
    have := tab_snoc f n (s + 1)
    rw [tab, this, tab, List.cons_append, show s + 1 + (n : Int) = s + ((n + 1 : Nat) : Int) by omega]
theorem tab_rd (c : Int) : ∀ (n i : Nat) (s : Int), i < n → (tab (fun _ => c) s n).getD i 0 = c
  | 0, i, s, h => by omega
  | n + 1, 0, s, h => by simp [tab]
  | n + 1, i + 1, s, h => by
    have := tab_rd c n i (s + 1) (by omega)
    simpa [tab] using this
def poly (a b c d : Int) (i : Int) : Int := wrap64 (a + b * i + c * i * i + d * i * i * i)
theorem poly3 (a b c d : Int) (n : Nat) : diffs 3 (tab (poly a b c d) 0 (n + 3)) = tab (fun _ => wrap64 (6 * d)) 0 n := by
  simp only [diffs]
  rw [tab_diff, tab_diff, tab_diff]
  apply tab_congr
  intro i
  simp only [poly, w_sub_l, w_sub_r]
  have : (wrap64 (a + b * (i + 1 + 1) + c * (i + 1 + 1) * (i + 1 + 1) + d * (i + 1 + 1) * (i + 1 + 1) * (i + 1 + 1)) = wrap64 (a + b * (i + 1 + 1) + c * (i + 1 + 1) * (i + 1 + 1) + d * (i + 1 + 1) * (i + 1 + 1) * (i + 1 + 1))) := rfl
  generalize h3 : a + b * (i + 1 + 1 + 1) + c * (i + 1 + 1 + 1) * (i + 1 + 1 + 1) + d * (i + 1 + 1 + 1) * (i + 1 + 1 + 1) * (i + 1 + 1 + 1) = P3
  generalize h2 : a + b * (i + 1 + 1) + c * (i + 1 + 1) * (i + 1 + 1) + d * (i + 1 + 1) * (i + 1 + 1) * (i + 1 + 1) = P2
  generalize h1 : a + b * (i + 1) + c * (i + 1) * (i + 1) + d * (i + 1) * (i + 1) * (i + 1) = P1
  generalize h0 : a + b * i + c * i * i + d * i * i * i = P0
  have e : P3 - 3 * P2 + 3 * P1 - P0 = 6 * d := by subst h3 h2 h1 h0; grind
  rw [← e]
  unfold wrap64; omega
theorem curves_l2 (b : List Int) (a : List Int) (n : Int) (hb : b.length ≤ 100) (h0 : ∀ x ∈ b, x = 0) (hn : (a.length : Int) = wrap64 (n - 3)) (hm : (b.length : Int) = wrap64 (n - 4)) : ∀ (d i : Nat), i + d = b.length → Ev (fun k => serinettelaw07_FixedCurves.l2 k true n a b (i : Int)) true := by
  intro d
  induction d with
  | zero =>
    intro i hi
    refine succ ?_
    simp only [serinettelaw07_FixedCurves.l2]
    exact neg (by omega) (pos trivial (pos hn (cst (by rw [hm]; simp))))
  | succ d ih =>
    intro i hi
    refine succ ?_
    simp only [serinettelaw07_FixedCurves.l2]
    rw [w64 (x := (i : Int) + 1) (by omega) (by omega)]
    exact pos (by omega) (pos (by omega) (pos (h0 _ (rd_mem (by omega) (by omega))) (ih (i + 1) (by omega))))
theorem curves_l1 (a b : List Int) (d0 n : Int) (ha : a.length ≤ 100) (h6 : ∀ x ∈ a, x = wrap64 (6 * wrap64 d0)) (R : Ev (fun k => serinettelaw07_FixedCurves.l2 k true n a b 0) true) : ∀ (d i : Nat), i + d = a.length → Ev (fun k => serinettelaw07_FixedCurves.l1 k d0 true n a b (i : Int)) true := by
  intro d
  induction d with
  | zero =>
    intro i hi
    refine succ ?_
    simp only [serinettelaw07_FixedCurves.l1]
    exact neg (by omega) R
  | succ d ih =>
    intro i hi
    refine succ ?_
    simp only [serinettelaw07_FixedCurves.l1]
    rw [w64 (x := (i : Int) + 1) (by omega) (by omega)]
    exact pos (by omega) (pos (by omega) (pos (h6 _ (rd_mem (by omega) (by omega))) (ih (i + 1) (by omega))))
theorem tab_all (c : Int) : ∀ (n : Nat) (s : Int), ∀ x ∈ tab (fun _ => c) s n, x = c
  | 0, _ => by simp [tab]
  | n + 1, s => by
    intro x hx
    simp only [tab, List.mem_cons] at hx
    rcases hx with rfl | hx
    · rfl
    · exact tab_all c n _ x hx
theorem curves_l0 (a b c d : Int) (m : Nat) (hm : m ≤ 39) : ∀ (e i : Nat), i + e = m + 5 → Ev (fun k => serinettelaw07_FixedCurves.l0 k a b c d true ((m : Int) + 5) (tab (poly a b c d) 0 i) (i : Int)) true := by
  intro e
  induction e with
  | zero =>
    intro i hi
    obtain rfl : i = m + 2 + 3 := by omega
    refine succ ?_
    simp only [serinettelaw07_FixedCurves.l0]
    refine neg (by omega) ?_
    have hl := tab_len (poly a b c d) (m + 2 + 3) 0
    have r3 : resI (tab (poly a b c d) 0 (m + 2 + 3)) 3 = (tab (fun _ => wrap64 (6 * d)) 0 (m + 2), 0) := by
      rw [resI, if_neg (by omega), if_neg (by omega)]
      exact congrArg (fun l => (l, (0 : Int))) (poly3 a b c d (m + 2))
    have r4 : resI (tab (poly a b c d) 0 (m + 2 + 3)) 4 = (tab (fun _ => 0) 0 (m + 1), 0) := by
      rw [resI, if_neg (by omega), if_neg (by omega)]
      have := diffs_succ 3 (tab (poly a b c d) 0 (m + 2 + 3))
      rw [poly3 a b c d (m + 2), show m + 2 = m + 1 + 1 by omega, tab_diff] at this
      have z : tab (fun i => wrap64 ((fun _ => wrap64 (6 * d)) (i + 1) - (fun _ => wrap64 (6 * d)) i)) 0 (m + 1) = tab (fun _ => 0) 0 (m + 1) := tab_congr (fun i => by simp only [Int.sub_self]; unfold wrap64; omega) _ _
      rw [z] at this
      exact congrArg (fun l => (l, (0 : Int))) this
    refine bnd (residual_ev _ 3 (by omega)) (bnd (residual_ev _ 4 (by omega)) ?_)
    rw [r3, r4]
    refine pos rfl ?_
    have e2 : (((tab (fun _ => (0 : Int)) 0 (m + 1), (0 : Int)).2) != 0) = false := rfl
    rw [e2]
    refine succ ?_
    simp only [serinettelaw07_FixedCurves.j1]
    refine neg (by decide) ?_
    have h2 := curves_l2 (tab (fun _ => 0) 0 (m + 1)) (tab (fun _ => wrap64 (6 * d)) 0 (m + 2)) ((m : Int) + 5) (by rw [tab_len]; omega) (tab_all 0 _ _) (by rw [tab_len, w64 (by omega) (by omega)]; omega) (by rw [tab_len, w64 (by omega) (by omega)]; omega) _ 0 (Nat.zero_add _)
    exact curves_l1 _ _ d _ (by rw [tab_len]; omega) (by rw [w_mul_r]; exact tab_all _ _ _) h2 _ 0 (Nat.zero_add _)
  | succ e ih =>
    intro i hi
    refine succ ?_
    simp only [serinettelaw07_FixedCurves.l0]
    rw [w64 (x := (i : Int) + 1) (by omega) (by omega)]
    refine pos (by omega) (pos (by rw [tab_len]; omega) ?_)
    have := ih (i + 1) (by omega)
    rw [tab_snoc] at this
    simp only [Int.zero_add] at this
    have hp : wrap64 (wrap64 (wrap64 (wrap64 a + wrap64 (wrap64 b * (i : Int))) + wrap64 (wrap64 (wrap64 c * (i : Int)) * (i : Int))) + wrap64 (wrap64 (wrap64 (wrap64 d * (i : Int)) * (i : Int)) * (i : Int))) = poly a b c d i := by
      unfold poly
      simp only [w_add_l, w_add_r, w_mul_l]
    rw [hp]
    exact this
theorem FixedCurves : serinettelaw07_FixedCurves.Pure := by
  intro a b c d m ha hb hc hd hm
  have hu := wfu8 hm
  have ht : wrap64 (5 + wrap64 (Int.tmod m 40)) = ((m % 40).toNat : Int) + 5 := by
    rw [Int.tmod_eq_emod_of_nonneg hu.1, w64 (x := m % 40) (by omega) (by omega), w64 (by omega) (by omega)]; omega
  refine Ev.rounds ?_
  unfold serinettelaw07_FixedCurves.f
  rw [ht]
  exact bnd awake_ev (curves_l0 a b c d (m % 40).toNat (by omega) _ 0 (Nat.zero_add _))
end Go.Proofs.Ytiojcihklmifgaa.Pure
