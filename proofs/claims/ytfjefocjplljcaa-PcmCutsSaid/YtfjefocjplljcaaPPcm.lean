/- The chapter's example holds; what pcm.In and the document's In answer at any depth. No condition. -/
import Derived.Test.YtfjefocjplljcaaPInn
import Derived.Test.YtfjefocjplljcaaPAx3
namespace Go.Proofs.Ytfjefocjplljcaa.PL
open Go Go.RowKit Go.Proofs.Ytfjefocjplljcaa.PA Go.Proofs.YtfjefocjplljcaaW.PrintWords Go.Proofs.YtfjefocjplljcaaW.PrintMore
set_option linter.unusedVariables false
set_option linter.unusedSimpArgs false
theorem bsome {α β : Type} (a : α) (f : α → Option β) : (some a).bind f = f a := by
  have h := Option.bind_some a f
  exact h
theorem awake_ev : Ev (fun k => serinettelaw06_awake.f k) true := Ev.of serinettelaw06_awake.mono (k := 60) (by decide +kernel)
/-- Is a number in a depth, whatever that is? -/
def inI (n d : Int) : Bool := decide (1 ≤ d ∧ d ≤ 62 ∧ inn n d.toNat)
theorem in_eq (n d : Int) (h : -9223372036854775808 ≤ n ∧ n < 9223372036854775808) : pcm_In.f n d = some (inI n d) := by
  unfold inI
  by_cases h1 : d < 1
  · rw [decide_eq_false (fun q => by omega)]
    unfold pcm_In.f
    rw [if_pos h1]
  · by_cases h2 : d > 62
    · rw [decide_eq_false (fun q => by omega)]
      unfold pcm_In.f
      rw [if_neg h1, if_pos h2]
    · obtain ⟨w, rfl⟩ := Int.eq_ofNat_of_zero_le (show 0 ≤ d by omega)
      rw [inn_eq n w (by omega) h]
      congr 1
      exact decide_eq_decide.2 ⟨fun q => ⟨by omega, by omega, q⟩, fun q => q.2.2⟩
theorem ref_in_eq (n d : Int) : Ev (fun k => serinetteref06_In.f k n d) (inI n d) := by
  unfold inI
  by_cases h1 : d < 1
  · rw [decide_eq_false (fun q => by omega)]
    unfold serinetteref06_In.f
    exact pos h1 (now _)
  · by_cases h2 : d > 62
    · rw [decide_eq_false (fun q => by omega)]
      unfold serinetteref06_In.f
      exact neg h1 (pos h2 (now _))
    · obtain ⟨w, rfl⟩ := Int.eq_ofNat_of_zero_le (show 0 ≤ d by omega)
      have h := ref_in_ev n w (by omega)
      rwa [show decide (inn n w) = decide (1 ≤ (w : Int) ∧ (w : Int) ≤ 62 ∧ inn n (w : Int).toNat) from decide_eq_decide.2 ⟨fun q => ⟨by omega, by omega, q⟩, fun q => q.2.2⟩] at h
theorem inI_nat {n : Int} {w : Nat} (hw : w ≤ 62) : inI n (w : Int) = decide (inn n w) := by
  unfold inI
  exact decide_eq_decide.2 ⟨fun q => q.2.2, fun q => ⟨by have := q.1; omega, by omega, q⟩⟩
theorem w64n {a : Nat} (h : a < 4611686018427387904) : wrap64 (a : Int) = (a : Int) := w64 (by omega) (by omega)
theorem many_eq (a b : Int) (l : List (List Int)) : pcm_Many.f a b l = some ((rd_L1 l 0).length : Int) := by
  unfold pcm_Many.f
  cases l with
  | nil => rfl
  | cons c t =>
    rw [if_neg (by simp only [List.length_cons]; omega), if_pos (by simp only [List.length_cons]; omega)]
end Go.Proofs.Ytfjefocjplljcaa.PL
