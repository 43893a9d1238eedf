/- What bits.Reader's Fill and End answer. Condition: fewer than 2^40 bytes. -/
import Derived.Test.YtcdnabonljmegaaPBitsTake
import Derived.Test.YtcdnabonljmegaaPAx16
import Derived.Test.YtcdnabonljmegaaPAx18
namespace Go.Proofs.Ytcdnabonljmegaa.PL
open Go Go.RowKit Go.Proofs.Ytcdnabonljmegaa.PA Go.Proofs.YtcdnabonljmegaaW.PrintWords Go.Proofs.YtcdnabonljmegaaW.PrintMore
set_option linter.unusedSimpArgs false
set_option linter.unusedVariables false
/-- What a Reader at a place answers to Fill: its place, and its error. -/
def fillR (b : List Int) (p : Nat) (fl : Int) : Int × Int := if fl ≠ 0 then ((p : Int), fl) else if num (cutB b p (gap p)) ≠ 0 then ((p : Int), 5) else (((p + gap p : Nat) : Int), 0)
theorem fillR_ev (b : List Int) (p : Nat) (fl : Int) (hbl : b.length < 1099511627776) (hp : p ≤ 8 * b.length) (hbd : ∀ x ∈ b, 0 ≤ x ∧ x < 256) : Ev (fun k => bits_Reader_Fill.f k b (p : Int) fl) (fillR b p fl) := by
  unfold bits_Reader_Fill.f
  have e : Int.tmod (wrap64 (8 - Int.tmod (p : Int) 8)) 8 = ((gap p : Nat) : Int) := by
    rw [room8, Int.tmod_eq_emod_of_nonneg (Int.natCast_nonneg _)]
    rfl
  have hg : gap p ≤ 64 := by have := gap_lt p; omega
  rw [e]
  have ht := take_ev b p fl ((gap p : Nat) : Int) hbl hp hbd
  rw [hw_nat hg] at ht
  refine bnd ht ?_
  by_cases hfl : fl = 0
  · subst hfl
    have hd := gap_dvd p
    have e2 : takeR b p 0 (gap p) = (num (cutB b p (gap p)), ((p + gap p : Nat) : Int), 0) := by
      unfold takeR; rw [if_neg (by simp), if_neg (by have := gap_lt p; omega)]
    rw [e2]
    by_cases hz : num (cutB b p (gap p)) = 0
    · have e3 : fillR b p 0 = (((p + gap p : Nat) : Int), 0) := by unfold fillR; rw [if_neg (by simp), if_neg (by simp [hz])]
      rw [e3]
      exact pos hz (now _)
    · have e3 : fillR b p 0 = ((p : Int), 5) := by unfold fillR; rw [if_neg (by simp), if_pos hz]
      rw [e3]
      exact neg hz (now _)
  · have e2 : takeR b p fl (gap p) = (0, (p : Int), fl) := by unfold takeR; rw [if_pos hfl]
    have e3 : fillR b p fl = ((p : Int), fl) := by unfold fillR; rw [if_pos hfl]
    rw [e2, e3]
    exact pos rfl (now _)
def endR (b : List Int) (p : Nat) (fl : Int) : Int := if fl = 0 then (if p < 8 * b.length then 3 else 0) else fl
theorem end_eq (b : List Int) (p : Nat) (fl : Int) (hbl : b.length < 1099511627776) (hp : p ≤ 8 * b.length) : bits_Reader_End.f b (p : Int) fl = some (endR b p fl, (p : Int), fl) := by
  unfold bits_Reader_End.f endR
  by_cases hfl : fl = 0
  · subst hfl
    rw [if_pos rfl, if_pos rfl, left_eq b p 0 hbl hp]
    simp only [Option.bind_some]
    by_cases h : p < 8 * b.length
    · rw [if_pos h, if_pos (by omega)]
    · rw [if_neg h, if_neg (by omega)]
  · rw [if_neg hfl, if_neg hfl]
end Go.Proofs.Ytcdnabonljmegaa.PL
