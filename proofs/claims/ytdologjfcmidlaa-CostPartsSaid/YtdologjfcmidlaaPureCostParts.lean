/- CostParts: the bits of parts are added, by one k; a part that is longer has no fewer, by its best way; with a greater k allowed it has no more. For every input (the law's own guards are in it). -/
import Derived.Test.YtdologjfcmidlaaPAx30
import Derived.Test.YtdologjfcmidlaaPCostAwake
namespace Go.Proofs.Ytdologjfcmidlaa.Pure
open Go.RowKit Go.Proofs.Ytdologjfcmidlaa.PA Go.Proofs.YtdologjfcmidlaaW.PrintWords Go.Proofs.YtdologjfcmidlaaW.PrintLast Go.Proofs.YtdologjfcmidlaaW.PrintMore Go.Proofs.Ytdologjfcmidlaa.PL
set_option linter.unusedVariables false
theorem wid_append (a b : List Int) (ha : NearAll a) (hb : NearAll b) : wid (a ++ b) = max (wid a) (wid b) := by
  obtain ⟨a1, _, a2⟩ := wid_spec ha
  obtain ⟨b1, _, b2⟩ := wid_spec hb
  refine wid_eq (nearAll_append.2 ⟨ha, hb⟩) (fitsW_append.2 ⟨fitsW_mono a1 (by omega), fitsW_mono b1 (by omega)⟩) (fun v hv hf => ?_)
  have hf := fitsW_append.1 hf
  rcases Nat.lt_or_ge v (wid a) with h | h
  · exact a2 v h hf.1
  · exact b2 v (by omega) hf.2
theorem best_le (l : List Int) (m : Nat) : (∀ k, k ≤ m → (bestL l m).2.2.1 ≤ bitsL k l) ∧ (wid l ≤ 31 → (bestL l m).2.2.1 ≤ rawL l) := by
  have hmin := amin_min (fun k => bitsL k l) m
  unfold bestL
  split
  · rename_i h
    exact ⟨fun k hk => by have := hmin k hk; simp only [] at *; omega, fun _ => Int.le_refl _⟩
  · rename_i h
    refine ⟨fun k hk => hmin k hk, fun h1 => ?_⟩
    have h2 : ¬ rawL l < bitsL (amin (fun k => bitsL k l) m) l := fun h3 => h ⟨h1, h3⟩
    simp only []; omega
theorem best_is (l : List Int) (m : Nat) : (∃ k, k ≤ m ∧ (bestL l m).2.2.1 = bitsL k l) ∨ (wid l ≤ 31 ∧ (bestL l m).2.2.1 = rawL l) := by
  unfold bestL
  split
  · rename_i h; exact .inr ⟨h.1, rfl⟩
  · exact .inl ⟨_, amin_le _ m, rfl⟩
theorem bits_nonneg (l : List Int) (h : NearAll l) {k : Nat} (hk : k ≤ 30) : 0 ≤ bitsL k l := by
  have := (bitsL_bd k hk l h).1
  have : 0 ≤ (1 + (k : Int)) * (l.length : Int) := Int.mul_nonneg (by omega) (by omega)
  omega
theorem best_append (a b : List Int) (ha : NearAll a) (hb : NearAll b) (m : Nat) (hm : m ≤ 30) : (bestL a m).2.2.1 ≤ (bestL (a ++ b) m).2.2.1 := by
  obtain ⟨l1, l2⟩ := best_le a m
  rcases best_is (a ++ b) m with ⟨k, hk, e⟩ | ⟨hw, e⟩
  · rw [e, bitsL_append]
    have := l1 k hk
    have := bits_nonneg b hb (k := k) (by omega)
    omega
  · rw [e]
    rw [wid_append a b ha hb] at hw
    have h1 := l2 (by omega)
    have h2 : (wid a : Int) * a.length ≤ (wid (a ++ b) : Int) * ((a ++ b).length : Int) := Int.mul_le_mul (by rw [wid_append a b ha hb]; omega) (by simp; omega) (by omega) (by omega)
    unfold rawL at *
    omega
theorem best_more (l : List Int) (m n : Nat) (h : m ≤ n) : (bestL l n).2.2.1 ≤ (bestL l m).2.2.1 := by
  obtain ⟨l1, l2⟩ := best_le l n
  rcases best_is l m with ⟨k, hk, e⟩ | ⟨hw, e⟩
  · rw [e]; exact l1 k (by omega)
  · rw [e]; exact l2 hw
theorem best_ok (l : List Int) (m : Nat) : (bestL l m).2.2.2 = 0 := by unfold bestL; split <;> rfl
theorem tmod_u8 {x : Int} (h : 0 ≤ x ∧ x < 256) (m : Int) (hm : 0 < m) (hm2 : m < 256) : wrap64 (Int.tmod x m) = x % m := by
  have := Int.emod_nonneg x (show m ≠ 0 by omega); have := Int.emod_lt_of_pos x hm
  rw [Int.tmod_eq_emod_of_nonneg h.1, w64 (by omega) (by omega)]
theorem CostParts : serinettelaw13_CostParts.Pure := by
  intro l0 l1 a2 a3 h1 h2 hw h3 h4 hw1 hu2 hu3
  have hu2 := wfu8 hu2; have hu3 := wfu8 hu3
  refine Ev.rounds ?_
  unfold serinettelaw13_CostParts.f
  have out : Ev (fun k => serinettelaw13_CostParts.j0 k l0 l1 a2 a3 true true) true := by
    refine succ ?_
    simp only [serinettelaw13_CostParts.j0]
    exact pos trivial (cst rfl)
  refine bnd awake_ev (bnd (ref_nearAll_ev l0 (by omega)) (bnd (ref_nearAll_ev l1 (by omega)) ?_))
  by_cases hl : (l0.length : Int) > 50
  · exact pos hl out
  · refine neg hl ?_
    by_cases hm : (l1.length : Int) > 50
    · exact pos hm out
    · refine neg hm ?_
      by_cases hn : NearAll l0
      · refine pos (by simpa using hn) ?_
        by_cases ho : NearAll l1
        · have e : (!decide (NearAll l1)) = false := by simp [ho]
          rw [e]
          refine succ ?_
          simp only [serinettelaw13_CostParts.j0]
          refine neg (by decide) ?_
          simp only [Option.bind_some, List.length_nil, List.nil_append, List.length_append]
          rw [tmod_u8 hu2 31 (by decide) (by decide)]
          obtain ⟨m, hM⟩ : ∃ m : Nat, a2 % 31 = m := ⟨(a2 % 31).toNat, by omega⟩
          rw [hM]
          have hm30 : m ≤ 30 := by omega
          have hb : NearAll (l0 ++ l1) := nearAll_append.2 ⟨hn, ho⟩
          have lb : (l0 ++ l1).length ≤ 1000 := by simp; omega
          have i0 := bits_ev l0 m (by omega); rw [if_pos hn, kk_nat hm30] at i0
          have i1 := bits_ev l1 m (by omega); rw [if_pos ho, kk_nat hm30] at i1
          have i2 := bits_ev (l0 ++ l1) m lb; rw [if_pos hb, kk_nat hm30] at i2
          have w0 := width_ev l0 (by omega); rw [if_pos hn] at w0
          have w1 := width_ev l1 (by omega); rw [if_pos ho] at w1
          have w2 := width_ev (l0 ++ l1) lb; rw [if_pos hb] at w2
          have x0 := bitsL_bd m hm30 l0 hn
          have x1 := bitsL_bd m hm30 l1 ho
          have y0 := bits_nonneg l0 hn hm30
          have y1 := bits_nonneg l1 ho hm30
          refine pos (by omega) (pos (by omega) (bnd i2 (bnd i0 (bnd i1 ?_))))
          rw [w64 (x := bitsL m l0 + bitsL m l1) (by omega) (by omega)]
          refine pos (bitsL_append m l0 l1) (bnd w2 (bnd w0 (bnd w1 ?_)))
          have ew : ((wid (l0 ++ l1) : Int) != mx (wid l0 : Int) (wid l1 : Int)) = false := by
            rw [wid_append l0 l1 hn ho, bne_eq_false_iff_eq]; unfold mx; split <;> omega
          rw [ew]
          refine succ ?_
          simp only [serinettelaw13_CostParts.j1]
          rw [tmod_u8 hu3 9 (by decide) (by decide), w64 (x := (m : Int) + a3 % 9) (by omega) (by omega)]
          obtain ⟨n, hN⟩ : ∃ n : Nat, mn 30 ((m : Int) + a3 % 9) = n := ⟨(mn 30 ((m : Int) + a3 % 9)).toNat, by unfold mn; split <;> omega⟩
          have hmn : m ≤ n ∧ n ≤ 30 := by unfold mn at hN; split at hN <;> omega
          rw [hN]
          have b0 := best_ev l0 m (by omega); rw [if_pos hn, kk_nat hm30] at b0
          have b1 := best_ev (l0 ++ l1) m lb; rw [if_pos hb, kk_nat hm30] at b1
          have b2 := best_ev l0 n (by omega); rw [if_pos hn, kk_nat hmn.2] at b2
          exact neg (by decide) (bnd b0 (bnd b1 (bnd b2 (pos trivial (pos (best_ok _ _) (pos (best_ok _ _) (pos (best_ok _ _) (pos (best_append l0 l1 hn ho m hm30) (cst (by simp only [decide_eq_true_eq, Option.some.injEq]; exact best_more l0 m n hmn.1))))))))))
        · have e : (!decide (NearAll l1)) = true := by simp [ho]
          rw [e]; exact out
      · exact neg (by simpa using hn) out
end Go.Proofs.Ytdologjfcmidlaa.Pure
