/- RiceBack: what was put is taken, number by number, and nothing else. For every input (the law's own guards are in it). -/
import Derived.Test.YtkkjpaijkhhlcaaPAx15
import Derived.Test.YtkkjpaijkhhlcaaPRiceAwake
import Derived.Test.YtkkjpaijkhhlcaaPRiceTake
namespace Go.Proofs.Ytkkjpaijkhhlcaa.Pure
open Go.RowKit Go.Proofs.Ytkkjpaijkhhlcaa.PA Go.Proofs.YtkkjpaijkhhlcaaW.PrintWords Go.Proofs.YtkkjpaijkhhlcaaW.PrintLast Go.Proofs.YtkkjpaijkhhlcaaW.PrintMore Go.Proofs.Ytkkjpaijkhhlcaa.PL
set_option linter.unusedSimpArgs false
set_option linter.unusedVariables false
theorem bsome {α β : Type} (a : α) (f : α → Option β) : (some a).bind f = f a := by
  have h := Option.bind_some a f
  exact h
/-- All numbers' bits. -/
def allP : List Int → List Int → List Bool
  | x :: X, w :: W => putB x (kk w) ++ allP X W
  | _, _ => []
theorem allP_app : ∀ (X W X2 W2 : List Int), X.length = W.length → allP (X ++ X2) (W ++ W2) = allP X W ++ allP X2 W2
  | [], [], _, _, _ => rfl
  | x :: X, w :: W, X2, W2, h => by
    simp only [List.cons_append, allP, List.append_assoc]
    rw [allP_app X W X2 W2 (by simpa using h)]
theorem rd_mid (P : List Int) (x : Int) (T : List Int) {i : Nat} (h : P.length = i) : rd (P ++ x :: T) (i : Int) = x := by rw [← h]; exact rd_at _ _ _
/-- What a number that the law puts is. -/
def Good (x w : Int) : Prop := IsNear x ∧ fold x / 2 ^ kk w ≤ 300
theorem good_len {x w : Int} (h : Good x w) : (putB x (kk w)).length ≤ 331 ∧ sz x (kk w) = ((putB x (kk w)).length : Int) := by
  have hk := kk_le w
  have hd := div_pow_bd (x := fold x) (s := kk w) (fold_near h.1).1
  have h2 := h.2
  rw [putB_len]
  unfold sz
  constructor <;> omega
theorem rput_good (l : List Bool) {x w : Int} (h : Good x w) : rputR l x (kk w) = (0, l ++ putB x (kk w)) := by
  have h2 := h.2
  unfold rputR; rw [if_neg (by simpa using h.1), if_neg (by omega)]
theorem l1_ev (X W : List Int) (hX : X.length ≤ 20) (hW : W.length < 9223372036854775000) (L : List Bool) (hL : L.length < 1000000) :
    ∀ (tX pX pW tW : List Int) (i : Nat) (A : List Bool), X = pX ++ tX → W = pW ++ tW → pX.length = i → pW.length = i → tX.length ≤ tW.length → (∀ q, (h : q < tX.length) → ∀ (h2 : q < tW.length), Good tX[q] tW[q]) → L = A ++ allP tX tW →
    Ev (fun k => serinettelaw02_RiceBack.l1 k X W true (L.length : Int) (i : Int) (toB L) (A.length : Int) 0) true := by
  intro tX
  induction tX with
  | nil =>
    intro pX pW tW i A hpX hpW hi hiw ht hg hLA
    rw [List.append_nil] at hpX
    have hA : L = A := by rw [hLA]; simp [allP]
    subst hpX
    have c1 : ¬ (i : Int) < (X.length : Int) := by omega
    refine succ ?_
    simp only [serinettelaw02_RiceBack.l1]
    refine neg c1 (pos trivial ?_)
    simp only [bits_Reader_At.f, bits_Reader_Fail.f, Option.bind_some]
    exact pos (by rw [hA]) (cst rfl)
  | cons x tX ih =>
    intro pX pW tW i A hpX hpW hi hiw ht hg hLA
    obtain ⟨w, tW, rfl⟩ : ∃ w t, tW = w :: t := by
      cases tW with
      | nil => simp at ht
      | cons w t => exact ⟨w, t, rfl⟩
    have lX : X.length = i + tX.length + 1 := by rw [hpX]; simp; omega
    have lW : W.length = i + tW.length + 1 := by rw [hpW]; simp; omega
    have rx : rd X (i : Int) = x := by rw [hpX]; exact rd_mid _ _ _ hi
    have rw' : rd W (i : Int) = w := by rw [hpW]; exact rd_mid _ _ _ hiw
    have g0 : Good x w := hg 0 (by simp) (by simp)
    have hLA2 : L = A ++ putB x (kk w) ++ allP tX tW := by rw [hLA, allP, List.append_assoc]
    have ht1 := rtake_ev x w g0.1 A (allP tX tW) (by rw [← hLA2]; omega)
    rw [← hLA2] at ht1
    have hnext := ih (pX ++ [x]) (pW ++ [w]) tW (i + 1) (A ++ putB x (kk w)) (by simp [hpX]) (by simp [hpW]) (by simp; omega) (by simp; omega) (by simpa using ht) (fun q h h2 => hg (q + 1) (by simpa using h) (by simpa using h2)) hLA2
    have c1 : (i : Int) < (X.length : Int) := by omega
    have c2 : (i : Int) < (W.length : Int) := by omega
    have e2 : wrap64 ((i : Int) + 1) = ((i + 1 : Nat) : Int) := wsucc (by omega)
    refine succ ?_
    simp only [serinettelaw02_RiceBack.l1]
    rw [rx, rw', e2]
    exact pos c1 (pos (Int.natCast_nonneg _) (pos c2 (bnd ht1 (pos (by first | trivial | rfl) hnext))))
theorem l0_ev (X W : List Int) (hX : X.length ≤ 20) (hXW : X.length ≤ W.length) (hW : W.length < 9223372036854775000) (h64 : ∀ x ∈ X, -9223372036854775808 ≤ x ∧ x < 9223372036854775808) :
    ∀ (tX pX pW tW : List Int) (i : Nat), X = pX ++ tX → W = pW ++ tW → pX.length = i → pW.length = i → tX.length ≤ tW.length → (∀ q, (h : q < pX.length) → ∀ (h2 : q < pW.length), Good pX[q] pW[q]) → (allP pX pW).length ≤ 331 * i →
    Ev (fun k => serinettelaw02_RiceBack.l0 k X W true ((allP pX pW).length : Int) (i : Int) (WB (allP pX pW)) ((allP pX pW).length : Int)) true := by
  intro tX
  induction tX with
  | nil =>
    intro pX pW tW i hpX hpW hi hiw ht hg hlen
    rw [List.append_nil] at hpX
    subst hpX
    have eD : allP X W = allP X pW := by
      have := allP_app X pW [] tW (by omega)
      rw [List.append_nil, ← hpW] at this
      rw [this]
      simp [allP]
    have h8 := toB_len8 (allP X pW)
    have c1 : ¬ (i : Int) < (X.length : Int) := by omega
    have c3 : (allP X pW).length < 70368744177664 := by omega
    have c4 : (toB (allP X pW)).length < 1099511627776 := by omega
    have c5 : (allP X pW).length < 1000000 := by omega
    refine succ ?_
    simp only [serinettelaw02_RiceBack.l0]
    refine neg c1 ?_
    rw [bytes_eq _ c3]
    simp only [Option.bind_some]
    rw [open_eq _ c4]
    simp only [Option.bind_some]
    have := l1_ev X W hX hW (allP X pW) c5 X [] [] W 0 [] rfl rfl rfl rfl hXW (fun q h h2 => by
      have h3 : q < pW.length := by omega
      have := hg q h h3
      have e : W[q] = pW[q] := by
        have : W[q]? = pW[q]? := by rw [hpW]; exact List.getElem?_append_left h3
        rw [List.getElem?_eq_getElem h2, List.getElem?_eq_getElem h3] at this
        exact Option.some.inj this
      rw [e]; exact this) (by rw [eD]; rfl)
    exact this
  | cons x tX ih =>
    intro pX pW tW i hpX hpW hi hiw ht hg hlen
    obtain ⟨w, tW, rfl⟩ : ∃ w t, tW = w :: t := by
      cases tW with
      | nil => simp at ht
      | cons w t => exact ⟨w, t, rfl⟩
    have lX : X.length = i + tX.length + 1 := by rw [hpX]; simp; omega
    have lW : W.length = i + tW.length + 1 := by rw [hpW]; simp; omega
    have rx : rd X (i : Int) = x := by rw [hpX]; exact rd_mid _ _ _ hi
    have rw' : rd W (i : Int) = w := by rw [hpW]; exact rd_mid _ _ _ hiw
    have bx := h64 x (by rw [hpX]; simp)
    have c1 : (i : Int) < (X.length : Int) := by omega
    have c2 : (i : Int) < (W.length : Int) := by omega
    have skip : Ev (fun k => serinettelaw02_RiceBack.j2 k X W true ((allP pX pW).length : Int) (i : Int) true (WB (allP pX pW)) ((allP pX pW).length : Int)) true := by
      refine succ ?_
      simp only [serinettelaw02_RiceBack.j2]
      exact pos trivial (now _)
    refine succ ?_
    simp only [serinettelaw02_RiceBack.l0]
    rw [rx, rw']
    refine pos c1 (pos (Int.natCast_nonneg _) (pos c2 (bnd (high_ev x w bx) ?_)))
    by_cases hz : fold x / 2 ^ kk w > 300
    · exact pos hz skip
    refine neg hz ?_
    rw [near_eq]
    simp only [Option.bind_some]
    by_cases hn : IsNear x
    · rw [decide_eq_true hn]
      have g0 : Good x w := ⟨hn, Int.not_lt.1 hz⟩
      have gl := good_len g0
      have eP : allP (pX ++ [x]) (pW ++ [w]) = allP pX pW ++ putB x (kk w) := by
        rw [allP_app pX pW _ _ (by omega)]
        simp [allP]
      have hgn : ∀ q, (h : q < (pX ++ [x]).length) → ∀ (h2 : q < (pW ++ [w]).length), Good (pX ++ [x])[q] (pW ++ [w])[q] := by
        intro q h h2
        by_cases hq : q < pX.length
        · rw [List.getElem_append_left hq, List.getElem_append_left (by omega)]
          exact hg q hq (by omega)
        · have eq1 : q = pX.length := by simp at h; omega
          have eq2 : q = pW.length := by omega
          rw [List.getElem_append_right (by omega), List.getElem_append_right (by omega)]
          simpa using g0
      have hlen2 : (allP pX pW ++ putB x (kk w)).length ≤ 331 * (i + 1) := by rw [List.length_append]; omega
      have hnext := ih (pX ++ [x]) (pW ++ [w]) tW (i + 1) (by simp [hpX]) (by simp [hpW]) (by simp; omega) (by simp; omega) (by simpa using ht) hgn (by rw [eP]; exact hlen2)
      rw [eP] at hnext
      have hp := rput_ev (allP pX pW) x w bx (by omega)
      rw [rput_good _ g0] at hp
      have es : rice_Size.f x w = some ((putB x (kk w)).length : Int) := by rw [size_eq, if_pos hn, gl.2]
      have e7 : wrap64 (((allP pX pW).length : Int) + ((putB x (kk w)).length : Int)) = ((allP pX pW ++ putB x (kk w)).length : Int) := by
        rw [List.length_append]; exact wadd (by omega)
      have e2 : wrap64 ((i : Int) + 1) = ((i + 1 : Nat) : Int) := wsucc (by omega)
      refine succ ?_
      simp only [serinettelaw02_RiceBack.j2]
      rw [rx, rw']
      refine neg (by simp) (pos (Int.natCast_nonneg _) (pos c1 (pos c2 (bnd hp ?_))))
      refine pos (by first | trivial | rfl) ?_
      rw [es]
      simp only [bsome]
      rw [len_eq]
      simp only [bsome]
      rw [e7, e2]
      exact pos (by first | trivial | rfl) hnext
    · rw [decide_eq_false hn]; exact skip
theorem RiceBack : serinettelaw02_RiceBack.Pure := by
  intro X W h1 h2 hwX h3 h4 hwW
  refine Ev.rounds ?_
  unfold serinettelaw02_RiceBack.f
  refine bnd awake_ev ?_
  have skip : Ev (fun k => serinettelaw02_RiceBack.j0 k X W true true) true := by
    refine succ ?_
    simp only [serinettelaw02_RiceBack.j0]
    exact pos trivial (now _)
  by_cases hl : (X.length : Int) > 20
  · exact pos hl skip
  refine neg hl ?_
  by_cases hl2 : (W.length : Int) < (X.length : Int)
  · rw [decide_eq_true hl2]; exact skip
  rw [decide_eq_false hl2]
  refine succ ?_
  simp only [serinettelaw02_RiceBack.j0]
  refine neg (by simp) ?_
  rw [new_eq]
  simp only [Option.bind_some]
  exact l0_ev X W (by omega) (by omega) (by omega) (fun x hx => wf64 (hwX x hx)) X [] [] W 0 rfl rfl rfl rfl (by omega) (fun q h => absurd h (by simp)) (by simp [allP])
end Go.Proofs.Ytkkjpaijkhhlcaa.Pure
