/- PcmBack: what is put into bytes comes out of them, and what comes out, put in, is the same bytes. For every input (the law's own guards are in it). -/
import Derived.Test.YtfjefocjplljcaaPAx15
import Derived.Test.YtfjefocjplljcaaPPcmDeal
namespace Go.Proofs.Ytfjefocjplljcaa.Pure
open Go Go.RowKit Go.Proofs.Ytfjefocjplljcaa.PA Go.Proofs.YtfjefocjplljcaaW.PrintWords Go.Proofs.YtfjefocjplljcaaW.PrintLast Go.Proofs.YtfjefocjplljcaaW.PrintMore Go.Proofs.Ytfjefocjplljcaa.PL
set_option linter.unusedSimpArgs false
set_option linter.unusedVariables false
theorem in_64 {x d : Int} (h : inI x d = true) : -9223372036854775808 ≤ x ∧ x < 9223372036854775808 := by
  have h := of_decide_eq_true h
  obtain ⟨h1, h2, _, h3, h4⟩ := h
  have hb := pow_bd' (d.toNat - 1) (by omega)
  omega
theorem j1_ev (q : List Int) (hqb : ∀ x ∈ q, 0 ≤ x ∧ x < 256) (hq : q.length ≤ 300) (rate d ch : Int) : Ev (fun k => serinettelaw06_PcmBack.j1 k q rate d ch true) true := by
  have hlen := unbV_len q rate d ch (by omega)
  have hback := bytes_unb q hqb rate d ch
  have hnone := unb_none q rate d ch
  have hu := unb_ev q hqb (by omega) rate d ch
  refine succ ?_
  simp only [serinettelaw06_PcmBack.j1]
  generalize unbV q rate d ch = U at hlen hback hnone hu
  obtain ⟨u1, u2, u3, u4⟩ := U
  refine bnd hu ?_
  by_cases h0 : u4 = 0
  · obtain ⟨r1, r2, r3, r4⟩ := hback h0
    have r1 : u1 = rate := r1
    have r2 : u2 = d := r2
    have r3 : checkV rate d u3 = 0 := r3
    have r4 : pcmBs (eachN d) (pcmAll u3 (rd_L1 u3 0).length) = q := r4
    subst r1
    subst r2
    obtain ⟨hw, huni, hi⟩ := checkV_0 r3
    have hl1 : 0 < u3.length := by have := wrongV_0 hw; omega
    have hc := check_big u1 u2 u3 ⟨fun c hc => Nat.le_trans (hlen.2 c hc) (by decide), Nat.le_trans hlen.1 (by decide)⟩ (fun c hc x hx => in_64 (hi c hc x hx))
    rw [r3] at hc
    have hby := pcm_bytes_eq u1 u2 u3 _ rfl huni (Nat.le_trans (hlen.2 _ (rdL1_mem u3 (j := 0) hl1)) (by decide)) (Nat.le_trans hlen.1 (by decide))
    rw [r4] at hby
    exact pos h0 (pos (by first | trivial | rfl) (bnd (cst hc) (pos rfl (bnd (cst hby) (bnd (same_refl q (Nat.lt_of_le_of_lt hq (by decide))) (now true))))))
  · have hn : u3 = [] := hnone h0
    subst hn
    exact neg h0 (pos (by first | trivial | rfl) (now true))
theorem size_eq (e m c : Nat) (he : e ≤ 4) (hm : m ≤ 50) (hc : c ≤ 10) : ((m * c * e : Nat) : Int) = wrap64 (wrap64 ((e : Int) * (m : Int)) * (c : Int)) := by
  have h1 : e * m ≤ 4 * 50 := Nat.mul_le_mul he hm
  have h2 : e * m * c ≤ 200 * 10 := Nat.mul_le_mul h1 hc
  have q1 : (e : Int) * (m : Int) = ((e * m : Nat) : Int) := (Int.natCast_mul e m).symm
  rw [q1, w64n (Nat.lt_of_le_of_lt h1 (by decide))]
  have q2 : ((e * m : Nat) : Int) * (c : Int) = ((e * m * c : Nat) : Int) := (Int.natCast_mul (e * m) c).symm
  rw [q2, w64n (Nat.lt_of_le_of_lt h2 (by decide))]
  congr 1
  rw [Nat.mul_comm (m * c) e, Nat.mul_assoc]
theorem j0_ev (a b : Int) (l : List (List Int)) (hf : (∀ c ∈ l, c.length ≤ 50) ∧ l.length ≤ 10) (hw : ∀ c ∈ l, ∀ x ∈ c, -9223372036854775808 ≤ x ∧ x < 9223372036854775808) (q : List Int) (rate d ch : Int) (hj : Ev (fun k => serinettelaw06_PcmBack.j1 k q rate d ch true) true) :
    Ev (fun k => serinettelaw06_PcmBack.j0 k q rate d ch true false a b l) true := by
  refine succ ?_
  simp only [serinettelaw06_PcmBack.j0]
  refine neg Bool.false_ne_true (bnd (cst (check_eq a b l hf hw)) ?_)
  by_cases h0 : checkV a b l = 0
  · obtain ⟨hw0, hu, hi⟩ := checkV_0 h0
    obtain ⟨hc, hd, hr⟩ := wrongV_0 hw0
    have hl1 : 0 < l.length := by omega
    have hm50 : (rd_L1 l 0).length ≤ 50 := hf.1 _ (rdL1_mem l (j := 0) hl1)
    have hlen : (pcmBs (eachN b) (pcmAll l (rd_L1 l 0).length)).length = (rd_L1 l 0).length * l.length * eachN b := by rw [pcmBs_len, pcmAll_len]
    have hle : (pcmBs (eachN b) (pcmAll l (rd_L1 l 0).length)).length ≤ 2000 := by
      rw [hlen]
      exact Nat.mul_le_mul (Nat.mul_le_mul hm50 hf.2) (eachN_bd b).2.1
    have hbd : ∀ x ∈ pcmBs (eachN b) (pcmAll l (rd_L1 l 0).length), 0 ≤ x ∧ x < 256 := fun x hx => by
      obtain ⟨y, _, hy⟩ := List.mem_flatMap.1 hx
      exact pcmB_bd _ _ x hy
    have hub := unb_ev (pcmBs (eachN b) (pcmAll l (rd_L1 l 0).length)) hbd (Nat.le_trans hle (by decide)) a b (l.length : Int)
    rw [unb_bytes a b l h0] at hub
    refine pos h0 (bnd (cst (pcm_bytes_eq a b l _ rfl hu (Nat.le_trans hm50 (by decide)) (Nat.le_trans hf.2 (by decide)))) (bnd hub (pos rfl (bnd (same6_ev a b l (Nat.lt_of_le_of_lt hf.2 (by decide)) (fun c hc => Nat.lt_of_le_of_lt (hf.1 c hc) (by decide))) (pos rfl (bnd (cst (pcm_each_eq b)) (bnd (cst (many_eq a b l)) (pos ?_ hj))))))))
    rw [hlen]
    exact size_eq _ _ _ (eachN_bd b).2.1 hm50 hf.2
  · exact neg h0 hj
theorem PcmBack : ∀ (a0_0 : Int) (a0_1 : Int) (l0_2 : List (List Int)) (l1 : List Int) (a2 : Int) (a3 : Int) (a4 : Int), (Lit.int .i64 a0_0).wf = true → (Lit.int .i64 a0_1).wf = true → l0_2.length ≤ maxLen → (∀ x ∈ l0_2, (x.length ≤ maxLen ∧ ∀ x_1 ∈ x, (Lit.int .i64 x_1).wf = true)) → l1.length ≤ maxLen → l1.length * 1 ≤ 140737488351232 → (∀ x ∈ l1, (Lit.int .u8 x).wf = true) → (Lit.int .i64 a2).wf = true → (Lit.int .i64 a3).wf = true → (Lit.int .i64 a4).wf = true → ∃ k, serinettelaw06_PcmBack.f k a0_0 a0_1 l0_2 l1 a2 a3 a4 = some true := by
  intro a b l q rate d ch ha hb hl hw hq1 hq2 hwq hrate hd hch
  have hqb : ∀ x ∈ q, 0 ≤ x ∧ x < 256 := fun x hx => wfu8 (hwq x hx)
  have hw2 : ∀ c ∈ l, ∀ x ∈ c, -9223372036854775808 ≤ x ∧ x < 9223372036854775808 := fun c hc x hx => wf64 ((hw c hc).2 x hx)
  refine Ev.rounds ?_
  unfold serinettelaw06_PcmBack.f
  refine bnd awake_ev (bnd (few_ev a b l hl) ?_)
  have skip : Ev (fun k => serinettelaw06_PcmBack.j0 k q rate d ch true true a b l) true := by
    refine succ ?_
    simp only [serinettelaw06_PcmBack.j0]
    exact pos trivial (now true)
  by_cases hf : (∀ c ∈ l, c.length ≤ 50) ∧ l.length ≤ 10
  · have e : fewB l = true := decide_eq_true hf
    rw [e]
    refine pos rfl ?_
    by_cases h300 : (q.length : Int) > 300
    · rw [decide_eq_true h300]; exact skip
    · rw [decide_eq_false h300]
      exact j0_ev a b l hf hw2 q rate d ch (j1_ev q hqb (by omega) rate d ch)
  · have e : fewB l = false := decide_eq_false hf
    rw [e]
    exact neg Bool.false_ne_true skip
end Go.Proofs.Ytfjefocjplljcaa.Pure
