/- A sound's bytes, as pcm.Bytes and the document's Bytes answer them. Condition: channels of one length, samples in the depth; up to fifty samples, ten channels for the document's. -/
import Derived.Test.YtfjefocjplljcaaPPcmNum
import Derived.Test.YtfjefocjplljcaaPAx13
namespace Go.Proofs.Ytfjefocjplljcaa.PL
open Go Go.RowKit Go.Proofs.Ytfjefocjplljcaa.PA Go.Proofs.YtfjefocjplljcaaW.PrintWords Go.Proofs.YtfjefocjplljcaaW.PrintLast Go.Proofs.YtfjefocjplljcaaW.PrintMore
set_option linter.unusedVariables false
set_option linter.unusedSimpArgs false
/-- How many bytes a sample has. -/
def eachN (d : Int) : Nat := ((mx 4 (mn d 32) + 7) / 8).toNat
theorem eachN_bd (d : Int) : 1 ≤ eachN d ∧ eachN d ≤ 4 ∧ ((eachN d : Nat) : Int) = (mx 4 (mn d 32) + 7) / 8 := by
  have h1 : mn d 32 ≤ 32 := by unfold mn; split <;> omega
  have h2 : 4 ≤ mx 4 (mn d 32) ∧ mx 4 (mn d 32) ≤ 32 := by unfold mx; split <;> omega
  unfold eachN
  omega
theorem pcm_each_eq (d : Int) : pcm_Each.f d = some ((eachN d : Nat) : Int) := by
  have h := (eachN_bd d).2.2
  rw [h]
  unfold pcm_Each.f
  congr 1
  omega
theorem ref_each_eq (d : Int) : serinetteref06_Each.f d = some ((eachN d : Nat) : Int) := by
  have h := (eachN_bd d).2.2
  have e : mn d 32 = mn 32 d := by unfold mn; split <;> split <;> omega
  rw [h]
  unfold serinetteref06_Each.f
  rw [e]
theorem in_bytes {x d : Int} (hd : 4 ≤ d ∧ d ≤ 32) (h : inI x d = true) : -(256 ^ eachN d) ≤ 2 * x ∧ 2 * x < 256 ^ eachN d := by
  have h := of_decide_eq_true h
  obtain ⟨_, _, _, h3, h4⟩ := h
  obtain ⟨w, rfl⟩ := Int.eq_ofNat_of_zero_le (show 0 ≤ d by omega)
  rw [Int.toNat_natCast] at h3 h4
  have hb := eachN_bd (w : Int)
  have hw : w ≤ 8 * eachN (w : Int) := by
    have h1 : mn (w : Int) 32 = (w : Int) := by unfold mn; split <;> omega
    have h2 : mx 4 (mn (w : Int) 32) = (w : Int) := by rw [h1]; unfold mx; split <;> omega
    rw [h2] at hb
    omega
  have e1 : (2 : Int) ^ w = 2 ^ (w - 1) * 2 := by rw [← Int.pow_succ]; congr 1; omega
  have e2 : (2 : Int) ^ w ≤ 256 ^ eachN (w : Int) := by
    rw [p256_two]
    have h := Nat.pow_le_pow_right (show 0 < 2 by decide) hw
    have h5 := Int.ofNat_le.2 h
    simpa using h5
  omega
theorem pcm_bytes_eq (a b : Int) (l : List (List Int)) (m : Nat) (hm : (rd_L1 l 0).length = m) (hu : ∀ c ∈ l, c.length = m) (h1 : m ≤ 1000000) (h2 : l.length ≤ 1000000) : pcm_Bytes.f a b l = some (pcmBs (eachN b) (pcmAll l m)) := by
  unfold pcm_Bytes.f
  rw [many_eq, bsome, pcm_each_eq, bsome, hm, if_pos ⟨fun c hc => by rw [hu c hc]; exact Int.le_refl _, by omega, h2⟩, Int.toNat_natCast, Int.toNat_natCast]
theorem ref_bytes_ev (a b : Int) (l : List (List Int)) (m : Nat) (hm : (rd_L1 l 0).length = m) (hu : ∀ c ∈ l, c.length = m) (h50 : m ≤ 50) (h10 : l.length ≤ 10) (hd : 4 ≤ b ∧ b ≤ 32) (hi : ∀ c ∈ l, ∀ x ∈ c, inI x b = true) :
    Ev (fun k => serinetteref06_Bytes.f k a b l) (pcmBs (eachN b) (pcmAll l m)) := by
  have hb := eachN_bd b
  obtain ⟨e, he⟩ : ∃ e, eachN b = e := ⟨_, rfl⟩
  have hin : ∀ {x : Int}, inI x b = true → -(256 ^ e) ≤ 2 * x ∧ 2 * x < 256 ^ e := fun h => he ▸ in_bytes hd h
  have hre := ref_each_eq b
  rw [he] at hb hre ⊢
  have hl1 : ∀ (i : Nat) (hi2 : i < m) (r : List Int), Ev (fun k => serinetteref06_Bytes.l0 k (pcmBs e (pcmAll l (i + 1))) ((i + 1 : Nat) : Int) a b l) r → ∀ (d j : Nat), j + d = l.length →
      Ev (fun k => serinetteref06_Bytes.l1 k (pcmBs e (pcmAll l i ++ pcmPre l i j)) (i : Int) (j : Int) a b l) r := by
    intro i hi2 r hr d
    have e1 : wrap64 ((i : Int) + 1) = ((i + 1 : Nat) : Int) := by rw [w64 (by omega) (by omega)]; omega
    induction d with
    | zero =>
      intro j hj
      obtain rfl : j = l.length := by omega
      refine succ ?_
      simp only [serinetteref06_Bytes.l1]
      rw [e1, ← pcmAll_succ]
      exact neg (Int.lt_irrefl _) hr
    | succ d ih =>
      intro j hj
      have hjl : j < l.length := by omega
      have e2 : wrap64 ((j : Int) + 1) = ((j + 1 : Nat) : Int) := by rw [w64 (by omega) (by omega)]; omega
      have hmem := rdL1_mem l hjl
      have hlen := hu _ hmem
      have hx := hi _ hmem _ (rd_mem (l := rd_L1 l (j : Int)) (i := (i : Int)) (Int.natCast_nonneg _) (by rw [hlen]; exact Int.ofNat_lt.2 hi2))
      have h := ih (j + 1) (by omega)
      rw [pcmPre_succ, ← List.append_assoc, pcmBs_snoc] at h
      have hlb : (pcmBs e (pcmAll l i ++ pcmPre l i j)).length ≤ 10000 := by
        rw [pcmBs_len]
        have h3 := pcm_len l hi2 hjl
        have h4 : m * l.length ≤ 50 * 10 := Nat.mul_le_mul h50 h10
        have h5 : (pcmAll l i ++ pcmPre l i j).length * e ≤ 500 * 4 := Nat.mul_le_mul (by omega) hb.2.1
        omega
      refine succ ?_
      simp only [serinetteref06_Bytes.l1]
      rw [e2]
      refine pos (Int.ofNat_lt.2 hjl) (pos (Int.natCast_nonneg _) (pos (Int.natCast_nonneg _) (pos (by rw [hlen]; exact Int.ofNat_lt.2 hi2) (bnd (cst hre) (bnd (refSample_ev e hb.2.1 _ (hin hx)) (pos ?_ h))))))
      rw [pcmB_len]
      omega
  have hl0 : ∀ (d i : Nat), i + d = m → Ev (fun k => serinetteref06_Bytes.l0 k (pcmBs e (pcmAll l i)) (i : Int) a b l) (pcmBs e (pcmAll l m)) := by
    intro d
    induction d with
    | zero =>
      intro i him
      obtain rfl : i = m := by omega
      have hmm : serinetteref06_Many.f a b l = some ((rd_L1 l 0).length : Int) := many_eq a b l
      rw [hm] at hmm
      refine succ ?_
      simp only [serinetteref06_Bytes.l0]
      exact bnd (cst hmm) (neg (Int.lt_irrefl _) (now _))
    | succ d ih =>
      intro i him
      have hmm : serinetteref06_Many.f a b l = some ((rd_L1 l 0).length : Int) := many_eq a b l
      rw [hm] at hmm
      have h := hl1 i (by omega) _ (ih (i + 1) (by omega)) l.length 0 (by omega)
      have e0 : pcmPre l i 0 = [] := rfl
      rw [e0, List.append_nil] at h
      refine succ ?_
      simp only [serinetteref06_Bytes.l0]
      exact bnd (cst hmm) (pos (Int.ofNat_lt.2 (by omega)) h)
  exact hl0 m 0 (by omega)
end Go.Proofs.Ytfjefocjplljcaa.PL
