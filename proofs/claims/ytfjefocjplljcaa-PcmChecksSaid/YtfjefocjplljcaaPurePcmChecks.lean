/- PcmChecks: what is wrong with any sound, how many samples it has, and whether any sample is in any depth, is as the document says. For every input (the law's own guards are in it). -/
import Derived.Test.YtfjefocjplljcaaPAx19
import Derived.Test.YtfjefocjplljcaaPPcmCheck
namespace Go.Proofs.Ytfjefocjplljcaa.Pure
open Go Go.RowKit Go.Proofs.Ytfjefocjplljcaa.PA Go.Proofs.YtfjefocjplljcaaW.PrintWords Go.Proofs.YtfjefocjplljcaaW.PrintLast Go.Proofs.YtfjefocjplljcaaW.PrintMore Go.Proofs.Ytfjefocjplljcaa.PL
set_option linter.unusedSimpArgs false
set_option linter.unusedVariables false
theorem each_eq (d : Int) : pcm_Each.f d = serinetteref06_Each.f d := by
  unfold pcm_Each.f serinetteref06_Each.f
  have e : mn d 32 = mn 32 d := by unfold mn; split <;> split <;> omega
  rw [e]
  congr 1
  omega
theorem PcmChecks : ∀ (a0_0 : Int) (a0_1 : Int) (l0_2 : List (List Int)) (a1 : Int) (a2 : Int), (Lit.int .i64 a0_0).wf = true → (Lit.int .i64 a0_1).wf = true → l0_2.length ≤ maxLen → (∀ x ∈ l0_2, (x.length ≤ maxLen ∧ ∀ x_1 ∈ x, (Lit.int .i64 x_1).wf = true)) → (Lit.int .i64 a1).wf = true → (Lit.int .i64 a2).wf = true → ∃ k, serinettelaw06_PcmChecks.f k a0_0 a0_1 l0_2 a1 a2 = some true := by
  intro a b l n d ha hb hl hw hn hd
  have hw2 : ∀ c ∈ l, ∀ x ∈ c, -9223372036854775808 ≤ x ∧ x < 9223372036854775808 := fun c hc x hx => wf64 ((hw c hc).2 x hx)
  refine Ev.rounds ?_
  unfold serinettelaw06_PcmChecks.f
  refine bnd awake_ev (bnd (few_ev a b l (Nat.le_trans hl (by decide))) ?_)
  by_cases hf : (∀ c ∈ l, c.length ≤ 50) ∧ l.length ≤ 10
  · have e : fewB l = true := decide_eq_true hf
    rw [e]
    have hm : serinetteref06_Many.f a b l = some ((rd_L1 l 0).length : Int) := many_eq a b l
    refine pos rfl (pos rfl (bnd (cst (check_eq a b l hf hw2)) (bnd (ref_check_ev a b l hf) (pos rfl (bnd (cst (many_eq a b l)) (bnd (cst hm) (pos rfl (bnd (cst (in_eq n d (wf64 hn))) (bnd (ref_in_eq n d) (pos (beq_self_eq_true _) ?_))))))))))
    rw [each_eq]
    have h : serinetteref06_Each.f d = some (((mx 4 (mn 32 d)) + 7) / 8) := rfl
    exact bnd (cst h) (bnd (cst h) (cst (by rw [beq_self_eq_true])))
  · have e : fewB l = false := decide_eq_false hf
    rw [e]
    exact neg Bool.false_ne_true (now true)
end Go.Proofs.Ytfjefocjplljcaa.Pure
