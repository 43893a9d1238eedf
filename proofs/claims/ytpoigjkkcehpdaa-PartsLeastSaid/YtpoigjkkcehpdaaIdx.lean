/- Where the first number stands of which something holds. No condition. -/
import Derived.Test.YtpoigjkkcehpdaaWMore
namespace Go.Proofs.Ytpoigjkkcehpdaa.Idx
open Go.RowKit Go.Proofs.YtpoigjkkcehpdaaW.PrintWords
def idxI (p : Int → Bool) (l : List Int) : Int := match l.findIdx? p with | some i => (i : Int) | none => -1
theorem idxI_found {p : Int → Bool} {l : List Int} {i : Nat} (hi : i < l.length) (h : p (rd l (i : Int)) = true) (hn : ∀ j, j < i → p (rd l (j : Int)) = false) : idxI p l = (i : Int) := by
  have e : l.findIdx? p = some i := by
    rw [List.findIdx?_eq_some_iff_getElem]
    refine ⟨hi, ?_, fun j hj => ?_⟩
    · simpa [rd, List.getD_eq_getElem?_getD, List.getElem?_eq_getElem hi] using h
    · have := hn j hj
      simp [rd, List.getD_eq_getElem?_getD, List.getElem?_eq_getElem (show j < l.length by omega)] at this
      simp [this]
  unfold idxI; rw [e]
theorem idxI_none {p : Int → Bool} {l : List Int} (hn : ∀ j, j < l.length → p (rd l (j : Int)) = false) : idxI p l = -1 := by
  have e : l.findIdx? p = none := by
    rw [List.findIdx?_eq_none_iff]
    intro x hx
    obtain ⟨j, hj, rfl⟩ := List.getElem_of_mem hx
    simpa [rd, List.getD_eq_getElem?_getD, List.getElem?_eq_getElem hj] using hn j hj
  unfold idxI; rw [e]
theorem idxI_ge (p : Int → Bool) (l : List Int) : decide (0 ≤ idxI p l) = l.any p := by
  unfold idxI
  cases h : l.findIdx? p with
  | none =>
    rw [List.findIdx?_eq_none_iff] at h
    have : l.any p = false := by rw [List.any_eq_false]; intro x hx; simp [h x hx]
    rw [this]; decide
  | some i =>
    rw [List.findIdx?_eq_some_iff_getElem] at h
    obtain ⟨hi, hp, _⟩ := h
    have : l.any p = true := List.any_eq_true.2 ⟨_, List.getElem_mem hi, hp⟩
    rw [this]; simp
end Go.Proofs.Ytpoigjkkcehpdaa.Idx
