/- PcmBytes: any sound's bytes, and any bytes' sound, or what is wrong with them, is as the document says. For every input (the law's own guards are in it). -/
import Derived.Test.YtfjefocjplljcaaPAx14
import Derived.Test.YtfjefocjplljcaaPPcmSame
namespace Go.Proofs.Ytfjefocjplljcaa.Pure
open Go Go.RowKit Go.Proofs.Ytfjefocjplljcaa.PA Go.Proofs.YtfjefocjplljcaaW.PrintWords Go.Proofs.YtfjefocjplljcaaW.PrintLast Go.Proofs.YtfjefocjplljcaaW.PrintMore Go.Proofs.Ytfjefocjplljcaa.PL
set_option linter.unusedSimpArgs false
set_option linter.unusedVariables false
theorem j1_ev (a b : Int) (l : List (List Int)) (hf : (∀ c ∈ l, c.length ≤ 50) ∧ l.length ≤ 10) : Ev (fun k => serinettelaw06_PcmBytes.j1 k true false a b l) true := by
  refine succ ?_
  simp only [serinettelaw06_PcmBytes.j1]
  refine neg Bool.false_ne_true (bnd (ref_check_ev a b l hf) (pos (by first | trivial | rfl) ?_))
  by_cases h0 : checkV a b l = 0
  · obtain ⟨hw, hu, hi⟩ := checkV_0 h0
    obtain ⟨hc, hd, hr⟩ := wrongV_0 hw
    have hl1 : 0 < l.length := by omega
    have hm50 : (rd_L1 l 0).length ≤ 50 := hf.1 _ (rdL1_mem l (j := 0) hl1)
    have hlen : (pcmBs (eachN b) (pcmAll l (rd_L1 l 0).length)).length ≤ 2000 := by
      rw [pcmBs_len, pcmAll_len]
      exact Nat.mul_le_mul (Nat.mul_le_mul hm50 hf.2) (eachN_bd b).2.1
    refine pos h0 (bnd (cst (pcm_bytes_eq a b l _ rfl hu (Nat.le_trans hm50 (by decide)) (Nat.le_trans hf.2 (by decide)))) (bnd (ref_bytes_ev a b l _ rfl hu hm50 hf.2 hd hi) (bnd (same_refl _ (Nat.lt_of_le_of_lt hlen (by decide))) (now true))))
  · exact neg h0 (now true)
theorem PcmBytes : ∀ (a0_0 : Int) (a0_1 : Int) (l0_2 : List (List Int)) (l1 : List Int) (a2 : Int) (a3 : Int) (a4 : Int), (Lit.int .i64 a0_0).wf = true → (Lit.int .i64 a0_1).wf = true → l0_2.length ≤ maxLen → (∀ x ∈ l0_2, (x.length ≤ maxLen ∧ ∀ x_1 ∈ x, (Lit.int .i64 x_1).wf = true)) → l1.length ≤ maxLen → l1.length * 1 ≤ 140737488351232 → (∀ x ∈ l1, (Lit.int .u8 x).wf = true) → (Lit.int .i64 a2).wf = true → (Lit.int .i64 a3).wf = true → (Lit.int .i64 a4).wf = true → ∃ k, serinettelaw06_PcmBytes.f k a0_0 a0_1 l0_2 l1 a2 a3 a4 = some true := by
  intro a b l q rate d ch ha hb hl hw hq1 hq2 hwq hrate hd hch
  have hqb : ∀ x ∈ q, 0 ≤ x ∧ x < 256 := fun x hx => wfu8 (hwq x hx)
  refine Ev.rounds ?_
  unfold serinettelaw06_PcmBytes.f
  refine bnd awake_ev (bnd (few_ev a b l hl) ?_)
  have skip : Ev (fun k => serinettelaw06_PcmBytes.j0 k q rate d ch true true a b l) true := by
    refine succ ?_
    simp only [serinettelaw06_PcmBytes.j0]
    exact pos trivial (now true)
  by_cases hf : (∀ c ∈ l, c.length ≤ 50) ∧ l.length ≤ 10
  · have e : fewB l = true := decide_eq_true hf
    rw [e]
    refine pos rfl ?_
    by_cases h300 : (q.length : Int) > 300
    · rw [decide_eq_true h300]; exact skip
    · rw [decide_eq_false h300]
      have hq : q.length ≤ 5000 := by omega
      have hlen := unbV_len q rate d ch hq
      refine succ ?_
      simp only [serinettelaw06_PcmBytes.j0]
      refine neg Bool.false_ne_true (bnd (unb_ev q hqb hq rate d ch) (bnd (ref_unb_ev q hqb hq rate d ch) (pos rfl (bnd (same6_ev _ _ _ (Nat.lt_of_le_of_lt hlen.1 (by decide)) (fun c hc => Nat.lt_of_le_of_lt (hlen.2 c hc) (by decide))) ?_))))
      exact j1_ev a b l hf
  · have e : fewB l = false := decide_eq_false hf
    rw [e]
    exact neg Bool.false_ne_true skip
end Go.Proofs.Ytfjefocjplljcaa.Pure
