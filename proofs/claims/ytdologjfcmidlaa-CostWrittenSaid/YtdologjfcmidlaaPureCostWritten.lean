/- CostWritten: what is put is as long as Bits tells. For every input (the law's own guards are in it). -/
import Derived.Test.YtdologjfcmidlaaPAx30
import Derived.Test.YtdologjfcmidlaaPCostAwake
import Derived.Test.YtdologjfcmidlaaPRicePut
namespace Go.Proofs.Ytdologjfcmidlaa.Pure
open Go.RowKit Go.Proofs.Ytdologjfcmidlaa.PA Go.Proofs.YtdologjfcmidlaaW.PrintWords Go.Proofs.YtdologjfcmidlaaW.PrintLast Go.Proofs.YtdologjfcmidlaaW.PrintMore Go.Proofs.Ytdologjfcmidlaa.PL
set_option linter.unusedSimpArgs false
set_option linter.unusedVariables false
/-- A number that the law puts. -/
def cut (x : Int) : Int := Int.tmod (wrap64 x) 151
theorem cut_bd {x : Int} (h : -32768 ≤ x ∧ x < 32768) : -151 < cut x ∧ cut x < 151 := by
  unfold cut
  rw [w64 (by omega) (by omega)]
  have h1 := Int.tmod_lt_of_pos x (show (0 : Int) < 151 by decide)
  have h2 := Int.tmod_lt_of_pos (-x) (show (0 : Int) < 151 by decide)
  rw [Int.neg_tmod] at h2
  omega
theorem cut_near {x : Int} (h : -32768 ≤ x ∧ x < 32768) : IsNear (cut x) := by
  have := cut_bd h
  unfold IsNear; omega
theorem cut_put {x : Int} (h : -32768 ≤ x ∧ x < 32768) (l : List Bool) (k : Nat) (hk : k ≤ 30) : rputR l (cut x) k = (0, l ++ putB (cut x) k) ∧ (putB (cut x) k).length ≤ 400 ∧ sz (cut x) k = ((putB (cut x) k).length : Int) := by
  have hb := cut_bd h
  have hf : 0 ≤ fold (cut x) ∧ fold (cut x) ≤ 302 := by unfold fold; split <;> omega
  have hd := div_pow_bd (x := fold (cut x)) (s := k) hf.1
  refine ⟨?_, ?_, ?_⟩
  · unfold rputR; rw [if_neg (by simpa using cut_near h), if_neg (by omega)]
  · rw [putB_len]; omega
  · rw [putB_len]; unfold sz; omega
theorem mapcut_near (l : List Int) (h : ∀ x ∈ l, -32768 ≤ x ∧ x < 32768) : NearAll (l.map cut) := by
  intro n hn
  obtain ⟨x, hx, rfl⟩ := List.mem_map.1 hn
  exact cut_near (h x hx)
theorem l0_ev (X : List Int) (a : Int) (k : Nat) (hk : k ≤ 30) (ha : wrap64 (Int.tmod a 31) = (k : Int)) (hX : X.length ≤ 50) (hb : ∀ x ∈ X, -32768 ≤ x ∧ x < 32768) : ∀ (t p : List Int) (i : Nat) (L : List Bool), X = p ++ t → p.length = i → L.length ≤ 400 * i → (L.length : Int) = bitsL k (p.map cut) →
    Ev (fun q => serinettelaw13_CostWritten.l0 q X a true (p.map cut) (i : Int) (WB L) (L.length : Int)) true := by
  intro t
  induction t with
  | nil =>
    intro p i L hp hi hL hs
    rw [List.append_nil] at hp
    subst hp
    have c1 : ¬ (i : Int) < (X.length : Int) := by omega
    have hbe := bits_ev (X.map cut) (k : Int) (by rw [List.length_map]; omega)
    rw [if_pos (mapcut_near X hb), kk_nat hk, ← hs] at hbe
    refine succ ?_
    simp only [serinettelaw13_CostWritten.l0]
    refine neg c1 (pos trivial ?_)
    rw [ha]
    refine bnd hbe ?_
    rw [len_eq]
    simp only [Option.bind_some]
    exact cst (by simp)
  | cons x t ih =>
    intro p i L hp hi hL hs
    have lX : X.length = i + t.length + 1 := by rw [hp]; simp; omega
    have rx : rd X (i : Int) = x := by rw [hp, ← hi]; exact rd_at _ _ _
    have bx := hb x (by rw [hp]; simp)
    have c1 : (i : Int) < (X.length : Int) := by omega
    have c3 : (p.map cut).length < 17592186044416 := by rw [List.length_map]; omega
    obtain ⟨g1, g2, g3⟩ := cut_put bx L k hk
    have bc := cut_bd bx
    have hpu := rput_ev L (cut x) (k : Int) (by omega) (by omega)
    rw [kk_nat hk, g1] at hpu
    have hnext := ih (p ++ [x]) (i + 1) (L ++ putB (cut x) k) (by simp [hp]) (by simp [hi]) (by rw [List.length_append]; omega) (by
      rw [List.map_append, bitsL_append, List.length_append, Int.natCast_add, hs]
      simp only [List.map_cons, List.map_nil, bitsL, g3, Int.add_zero])
    rw [List.map_append, List.map_cons, List.map_nil] at hnext
    have e2 : wrap64 ((i : Int) + 1) = ((i + 1 : Nat) : Int) := by rw [w64 (by omega) (by omega)]; omega
    refine succ ?_
    simp only [serinettelaw13_CostWritten.l0]
    rw [rx, ha, e2]
    exact pos c1 (pos (Int.natCast_nonneg _) (pos c3 (bnd hpu (pos (by first | trivial | rfl) hnext))))
theorem CostWritten : serinettelaw13_CostWritten.Pure := by
  intro X a h1 h2 hwX hwa
  have ba := wfu8 hwa
  obtain ⟨k, hk⟩ := Int.eq_ofNat_of_zero_le (show 0 ≤ a % 31 by omega)
  have ha : wrap64 (Int.tmod a 31) = (k : Int) := by rw [Int.tmod_eq_emod_of_nonneg ba.1, w64 (by omega) (by omega), hk]
  refine Ev.rounds ?_
  unfold serinettelaw13_CostWritten.f
  refine bnd awake_ev ?_
  by_cases hl : (X.length : Int) > 50
  · exact pos hl (now _)
  refine neg hl ?_
  rw [new_eq]
  simp only [Option.bind_some]
  exact l0_ev X a k (by omega) ha (by omega) (fun x hx => wfi16 (hwX x hx)) X [] 0 [] rfl rfl (by simp) (by simp [bitsL])
end Go.Proofs.Ytdologjfcmidlaa.Pure
