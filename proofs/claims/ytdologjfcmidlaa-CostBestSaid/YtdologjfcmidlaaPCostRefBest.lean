/- What serinetteref13.Best answers: what cost.Best does. Condition: at most a thousand numbers of 64 bits. -/
import Derived.Test.YtdologjfcmidlaaPCostRef
import Derived.Test.YtdologjfcmidlaaPAx18
namespace Go.Proofs.Ytdologjfcmidlaa.PL
open Go.RowKit Go.Proofs.Ytdologjfcmidlaa.PA Go.Proofs.YtdologjfcmidlaaW.PrintWords
set_option linter.unusedVariables false
set_option linter.unusedSimpArgs false
/-- What an answer of Each is. -/
def eachV (l : List Int) (p : S25) : Int := if p.f1 = true then (if NearAll l ∧ (wid l : Int) ≤ p.f0 ∧ p.f0 ≤ 31 then 5 + p.f0 * l.length else -1) else if NearAll l then bitsL (kk p.f0) l else -1
def waysK (m : Nat) : List S25 := (List.range (m + 1)).map fun (k : Nat) => (⟨(k : Int), false⟩ : S25)
def waysL (l : List Int) (m : Nat) : List S25 := waysK m ++ if wid l ≤ 31 then [(⟨(wid l : Int), true⟩ : S25)] else []
theorem waysK_succ (m : Nat) : waysK (m + 1) = waysK m ++ [(⟨((m + 1 : Nat) : Int), false⟩ : S25)] := by
  simp [waysK, List.range_succ]
theorem waysK_len (m : Nat) : (waysK m).length = m + 1 := by simp [waysK]
theorem ways_ev (l : List Int) (most : Int) (hl : l.length ≤ 1000) (hn : NearAll l) : Ev (fun q => serinetteref13_Ways.f q l most) (waysL l (kk most)) := by
  have hm := kk_le most
  have hw := ref_width_ev l hl
  rw [if_pos hn] at hw
  have fin : Ev (fun q => (serinetteref13_Width.f q l).bind fun t => (if t ≥ 0 then (if t ≤ 31 then (if (waysK (kk most)).length < 8796093022208 then (some (waysK (kk most) ++ [(⟨t, true⟩ : S25)])) else (none)) else (some (waysK (kk most)))) else (some (waysK (kk most))))) (waysL l (kk most)) := by
    refine bnd hw (pos (by omega) ?_)
    unfold waysL
    by_cases h : wid l ≤ 31
    · rw [if_pos h]
      exact pos (by omega) (pos (by rw [waysK_len]; omega) (now _))
    · rw [if_neg h, List.append_nil]
      exact neg (by omega) (now _)
  have key : ∀ (d j : Nat), j + d = kk most → Ev (fun q => serinetteref13_Ways.l0 q l most (waysK j) ((j : Int) + 1)) (waysL l (kk most)) := by
    intro d
    induction d with
    | zero =>
      intro j hj
      obtain rfl : j = kk most := by omega
      refine succ ?_
      simp only [serinetteref13_Ways.l0]
      by_cases h1 : ((kk most : Nat) : Int) + 1 ≤ most
      · exact pos h1 (neg (by unfold kk; unfold kk at h1; omega) fin)
      · exact neg h1 fin
    | succ d ih =>
      intro j hj
      refine succ ?_
      simp only [serinetteref13_Ways.l0]
      rw [w64 (x := (j : Int) + 1 + 1) (by omega) (by omega)]
      refine pos (by unfold kk at hj; omega) (pos (by omega) (pos (by rw [waysK_len]; omega) ?_))
      have := ih (j + 1) (by omega)
      rw [waysK_succ] at this
      exact this
  have := key (kk most) 0 (by omega)
  unfold serinetteref13_Ways.f
  exact this
theorem rdT_at (ws : List S25) (i : Nat) (h : i < ws.length) : rd_T25 ws (i : Int) = ws[i] := by simp [rd_T25, List.getD_eq_getElem?_getD, h]
/-- The first place of the least value in a list of ways. -/
def aminL (l : List Int) (ws : List S25) : Nat → Nat := amin (fun i => eachV l (ws.getD i ⟨0, false⟩))
theorem ref_best_l0 (l : List Int) (ws : List S25) (hl : l.length ≤ 1000) (hws : ws.length ≤ 1000) : ∀ (d i : Nat), i + 1 + d = ws.length →
    Ev (fun q => serinetteref13_Best.l0 q l ws (aminL l ws i : Int) ((i : Int) + 1)) ((ws.getD (aminL l ws (ws.length - 1)) ⟨0, false⟩).f0, (ws.getD (aminL l ws (ws.length - 1)) ⟨0, false⟩).f1, eachV l (ws.getD (aminL l ws (ws.length - 1)) ⟨0, false⟩), 0) := by
  intro d
  induction d with
  | zero =>
    intro i hi
    have ha := amin_le (fun i => eachV l (ws.getD i ⟨0, false⟩)) i
    have e : ws.length - 1 = i := by omega
    rw [e]
    refine succ ?_
    simp only [serinetteref13_Best.l0]
    have hlt : aminL l ws i < ws.length := by unfold aminL; omega
    refine neg (by omega) (pos (by omega) (pos (by omega) ?_))
    have er : rd_T25 ws (aminL l ws i : Int) = ws.getD (aminL l ws i) ⟨0, false⟩ := by rw [rdT_at ws _ hlt]; simp [List.getD_eq_getElem?_getD, hlt]
    rw [er]
    exact bnd (ref_each_ev l _ _ hl) (now _)
  | succ d ih =>
    intro i hi
    have ha := amin_le (fun i => eachV l (ws.getD i ⟨0, false⟩)) i
    refine succ ?_
    simp only [serinetteref13_Best.l0]
    have hlt : aminL l ws i < ws.length := by unfold aminL; omega
    have er : rd_T25 ws (aminL l ws i : Int) = ws.getD (aminL l ws i) ⟨0, false⟩ := by rw [rdT_at ws _ hlt]; simp [List.getD_eq_getElem?_getD, hlt]
    have er2 : rd_T25 ws ((i : Int) + 1) = ws.getD (i + 1) ⟨0, false⟩ := by
      have := rdT_at ws (i + 1) (by omega)
      rw [show ((i : Int) + 1) = ((i + 1 : Nat) : Int) by omega, this]; simp [List.getD_eq_getElem?_getD, show i + 1 < ws.length by omega]
    rw [er, er2, w64 (x := (i : Int) + 1 + 1) (by omega) (by omega)]
    refine pos (by omega) (pos (by omega) (bnd (ref_each_ev l _ _ hl) (pos (by omega) (pos (by omega) (bnd (ref_each_ev l _ _ hl) ?_)))))
    have nx := ih (i + 1) (by omega)
    have es : ((i + 1 : Nat) : Int) = (i : Int) + 1 := by omega
    have ea : aminL l ws (i + 1) = if eachV l (ws.getD (i + 1) ⟨0, false⟩) < eachV l (ws.getD (aminL l ws i) ⟨0, false⟩) then i + 1 else aminL l ws i := rfl
    by_cases h : eachV l (ws.getD (i + 1) ⟨0, false⟩) < eachV l (ws.getD (aminL l ws i) ⟨0, false⟩)
    · rw [if_pos h] at ea
      rw [ea, es] at nx
      exact pos h nx
    · rw [if_neg h] at ea
      rw [ea, es] at nx
      exact neg h nx
theorem amin_congr {f g : Nat → Int} : ∀ m, (∀ i, i ≤ m → f i = g i) → amin f m = amin g m
  | 0, _ => rfl
  | m + 1, h => by
    have ih := amin_congr m (fun i hi => h i (by omega))
    have hle := amin_le g m
    simp only [amin]
    rw [ih, h (m + 1) (by omega), h (amin g m) (by omega)]
theorem ref_best_ev (l : List Int) (most : Int) (hl : l.length ≤ 1000) : Ev (fun q => serinetteref13_Best.f q l most) (if NearAll l then bestL l (kk most) else (0, false, 0, 6)) := by
  unfold serinetteref13_Best.f
  refine bnd (ref_nearAll_ev l (by omega)) ?_
  by_cases hn : NearAll l
  · rw [if_pos hn]
    refine pos (by simp [hn]) (bnd (ways_ev l most hl hn) ?_)
    have hm := kk_le most
    have lk := waysK_len (kk most)
    have lw : (waysL l (kk most)).length ≤ 1000 := by unfold waysL; split <;> simp [lk] <;> omega
    have l1 : 1 ≤ (waysL l (kk most)).length := by unfold waysL; rw [List.length_append, lk]; omega
    have h := ref_best_l0 l (waysL l (kk most)) hl lw ((waysL l (kk most)).length - 1) 0 (by omega)
    have gk : ∀ i, i ≤ kk most → (waysL l (kk most)).getD i ⟨0, false⟩ = (⟨(i : Int), false⟩ : S25) := fun i hi => by
      have hi' : i < (waysK (kk most)).length := by omega
      simp only [waysL, List.getD_eq_getElem?_getD, List.getElem?_append_left hi']
      simp [waysK, show i < kk most + 1 by omega]
    have vk : ∀ i, i ≤ kk most → eachV l ((waysL l (kk most)).getD i ⟨0, false⟩) = bitsL i l := fun i hi => by
      rw [gk i hi, eachV, if_neg (by simp), if_pos hn, kk_nat (by omega)]
    have ek : aminL l (waysL l (kk most)) (kk most) = amin (fun k => bitsL k l) (kk most) := amin_congr _ vk
    have hle := amin_le (fun k => bitsL k l) (kk most)
    have res : ((waysL l (kk most)).getD (aminL l (waysL l (kk most)) ((waysL l (kk most)).length - 1)) ⟨0, false⟩).f0 = (bestL l (kk most)).1 ∧ ((waysL l (kk most)).getD (aminL l (waysL l (kk most)) ((waysL l (kk most)).length - 1)) ⟨0, false⟩).f1 = (bestL l (kk most)).2.1 ∧ eachV l ((waysL l (kk most)).getD (aminL l (waysL l (kk most)) ((waysL l (kk most)).length - 1)) ⟨0, false⟩) = (bestL l (kk most)).2.2.1 := by
      by_cases hw : wid l ≤ 31
      · have e1 : (waysL l (kk most)).length - 1 = kk most + 1 := by unfold waysL; rw [if_pos hw]; simp [lk]
        have gw : (waysL l (kk most)).getD (kk most + 1) ⟨0, false⟩ = (⟨(wid l : Int), true⟩ : S25) := by
          simp only [waysL, if_pos hw, List.getD_eq_getElem?_getD]
          rw [List.getElem?_append_right (by omega), lk]; simp
        have vw : eachV l ((waysL l (kk most)).getD (kk most + 1) ⟨0, false⟩) = rawL l := by
          rw [gw, eachV, if_pos rfl, if_pos ⟨hn, by simp, by simp; omega⟩]; rfl
        have ea : aminL l (waysL l (kk most)) (kk most + 1) = if rawL l < bitsL (amin (fun k => bitsL k l) (kk most)) l then kk most + 1 else amin (fun k => bitsL k l) (kk most) := by
          have : aminL l (waysL l (kk most)) (kk most + 1) = if eachV l ((waysL l (kk most)).getD (kk most + 1) ⟨0, false⟩) < eachV l ((waysL l (kk most)).getD (aminL l (waysL l (kk most)) (kk most)) ⟨0, false⟩) then kk most + 1 else aminL l (waysL l (kk most)) (kk most) := rfl
          rw [this, ek, vw, vk _ hle]
        rw [e1, ea]
        unfold bestL
        by_cases hr : rawL l < bitsL (amin (fun k => bitsL k l) (kk most)) l
        · rw [if_pos hr, if_pos ⟨hw, hr⟩, gw]
          exact ⟨rfl, rfl, by rw [← gw]; exact vw⟩
        · rw [if_neg hr, if_neg (fun h => hr h.2), gk _ hle]
          exact ⟨rfl, rfl, by rw [← gk _ hle]; exact vk _ hle⟩
      · have e1 : (waysL l (kk most)).length - 1 = kk most := by unfold waysL; rw [if_neg hw]; simp [lk]
        rw [e1, ek]
        unfold bestL
        rw [if_neg (fun h => hw h.1), gk _ hle]
        exact ⟨rfl, rfl, by rw [← gk _ hle]; exact vk _ hle⟩
    have b3 : (bestL l (kk most)).2.2.2 = 0 := by unfold bestL; split <;> rfl
    rw [res.1, res.2.1, res.2.2] at h
    have eb : bestL l (kk most) = ((bestL l (kk most)).1, (bestL l (kk most)).2.1, (bestL l (kk most)).2.2.1, 0) := by
      rw [← b3]
    rw [eb]
    exact h
  · rw [if_neg hn]
    exact neg (by simp [hn]) (now _)
end Go.Proofs.Ytdologjfcmidlaa.PL
