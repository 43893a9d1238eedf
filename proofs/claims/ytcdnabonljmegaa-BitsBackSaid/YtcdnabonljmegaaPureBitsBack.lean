/- BitsBack: what was put is taken, number by number, but for what doesn't fit; and then nothing but what fills the last byte is left. For every input (the law's own guards are in it). -/
import Derived.Test.YtcdnabonljmegaaPAx25
import Derived.Test.YtcdnabonljmegaaPBitsAwake
import Derived.Test.YtcdnabonljmegaaPBitsRead
namespace Go.Proofs.Ytcdnabonljmegaa.Pure
open Go.RowKit Go.Proofs.Ytcdnabonljmegaa.PA Go.Proofs.YtcdnabonljmegaaW.PrintWords Go.Proofs.YtcdnabonljmegaaW.PrintLast Go.Proofs.YtcdnabonljmegaaW.PrintMore Go.Proofs.Ytcdnabonljmegaa.PL
set_option linter.unusedSimpArgs false
set_option linter.unusedVariables false

/-- All numbers' bits. -/
def allD : List Int → List Int → List Bool
  | x :: X, w :: W => digs x (hw w) ++ allD X W
  | _, _ => []
theorem allD_app : ∀ (X W X2 W2 : List Int), X.length = W.length → allD (X ++ X2) (W ++ W2) = allD X W ++ allD X2 W2
  | [], [], _, _, _ => rfl
  | x :: X, w :: W, X2, W2, h => by
    simp only [List.cons_append, allD, List.append_assoc]
    rw [allD_app X W X2 W2 (by simpa using h)]
theorem allD_len : ∀ (X W : List Int), (allD X W).length ≤ 64 * X.length
  | [], W => by simp [allD]
  | x :: X, [] => by simp [allD]
  | x :: X, w :: W => by
    have h1 := allD_len X W
    have h2 := hw_le w
    simp only [allD, List.length_append, digs_len, List.length_cons]
    omega
theorem rd_mid (P : List Int) (x : Int) (T : List Int) {i : Nat} (h : P.length = i) : rd (P ++ x :: T) (i : Int) = x := by rw [← h]; exact rd_at _ _ _
theorem want_eq (x w : Int) (h0 : 0 ≤ x) (h1 : x < 18446744073709551616) (h : hw w < 64) : IntKind.u64.wrap (2 ^ ((hw w : Nat) : Int).toNat) ≠ 0 ∧ Int.tmod x (IntKind.u64.wrap (2 ^ ((hw w : Nat) : Int).toNat)) = num (digs x (hw w)) := by
  have hp : (2 : Int) ^ hw w ≤ 2 ^ 63 := by
    have : (2 : Nat) ^ hw w ≤ 2 ^ 63 := Nat.pow_le_pow_right (by decide) (by omega)
    have h := Int.ofNat_le.2 this
    simpa using h
  have h63 : (2 : Int) ^ 63 = 9223372036854775808 := by decide
  have hp0 := pow2_pos (hw w)
  rw [h63] at hp
  have e : IntKind.u64.wrap (2 ^ ((hw w : Nat) : Int).toNat) = 2 ^ hw w := by
    rw [Int.toNat_natCast]
    exact wraps_u64' _ (Int.le_of_lt hp0) (Int.lt_of_le_of_lt hp (by decide))
  rw [e, num_digs, Int.tmod_eq_emod_of_nonneg h0]
  exact ⟨Int.ne_of_gt hp0, rfl⟩
theorem j3_ev (L : List Bool) (hL : L.length ≤ 4000) : Ev (fun k => serinettelaw01_BitsBack.j3 k true false (toB L) (L.length : Int) 0) true := by
  have h8 := toB_len8 L
  have hg := gap_dvd L.length
  have hg2 := gap_lt L.length
  refine succ ?_
  simp only [serinettelaw01_BitsBack.j3]
  refine neg (by simp) (bnd (fillR_ev (toB L) L.length 0 (by omega) h8.1 (toB_bd L)) (pos trivial ?_))
  have e : fillR (toB L) L.length 0 = (((L.length + gap L.length : Nat) : Int), 0) := by
    unfold fillR
    rw [if_neg (by simp), cutB_pad, num_replicate, if_neg (by simp)]
  rw [e]
  simp only []
  rw [end_eq (toB L) (L.length + gap L.length) 0 (by omega) (by omega)]
  simp only [Option.bind_some]
  refine cst ?_
  unfold endR
  rw [if_pos rfl, if_neg (by omega)]
  rfl
theorem l1_ev (X W : List Int) (hX : X.length ≤ 60) (hW : W.length < 9223372036854775000) (hu : ∀ x ∈ X, 0 ≤ x ∧ x < 18446744073709551616) :
    ∀ (tX pX pW tW : List Int) (i : Nat), X = pX ++ tX → W = pW ++ tW → pX.length = i → pW.length = i → tX.length ≤ tW.length →
    Ev (fun k => serinettelaw01_BitsBack.l1 k X W true (i : Int) (WB (allD X W)) ((allD X W).length : Int) (toB (allD X W)) ((allD pX pW).length : Int) 0) true := by
  have hlen := allD_len X W
  have h8 := toB_len8 (allD X W)
  intro tX
  induction tX with
  | nil =>
    intro pX pW tW i hpX hpW hi hiw ht
    rw [List.append_nil] at hpX
    subst hpX
    have eD : allD X pW = allD X W := by
      have := allD_app X pW [] tW (by omega)
      rw [List.append_nil, ← hpW] at this
      rw [this]
      simp [allD]
    rw [eD]
    refine succ ?_
    simp only [serinettelaw01_BitsBack.l1]
    refine neg (by omega) ?_
    simp only [bits_Reader_At.f, Option.bind_some]
    rw [len_eq]
    simp only [Option.bind_some]
    refine pos trivial ?_
    rw [left_eq _ _ _ (by omega) h8.1]
    simp only [Option.bind_some]
    rw [decide_eq_false (by omega)]
    exact j3_ev (allD X W) (by omega)
  | cons x tX ih =>
    intro pX pW tW i hpX hpW hi hiw ht
    obtain ⟨w, tW, rfl⟩ : ∃ w t, tW = w :: t := by
      cases tW with
      | nil => simp at ht
      | cons w t => exact ⟨w, t, rfl⟩
    have lX : X.length = i + tX.length + 1 := by rw [hpX]; simp; omega
    have lW : W.length = i + tW.length + 1 := by rw [hpW]; simp; omega
    have rx : rd X (i : Int) = x := by rw [hpX]; exact rd_mid _ _ _ hi
    have rw' : rd W (i : Int) = w := by rw [hpW]; exact rd_mid _ _ _ hiw
    have hx := hu x (by rw [hpX]; simp)
    have eD : allD X W = allD pX pW ++ digs x (hw w) ++ allD tX tW := by
      rw [hpX, hpW, allD_app pX pW _ _ (by omega), allD, List.append_assoc]
    have eP : allD (pX ++ [x]) (pW ++ [w]) = allD pX pW ++ digs x (hw w) := by
      rw [allD_app pX pW _ _ (by omega)]
      simp [allD]
    have hcut : cutB (toB (allD X W)) (allD pX pW).length (hw w) = digs x (hw w) := by
      have := cutB_toB (allD pX pW) (digs x (hw w)) (allD tX tW)
      rw [digs_len, ← eD] at this
      exact this
    have hfit : (allD pX pW).length + hw w ≤ 8 * (toB (allD X W)).length := by
      have : (allD X W).length = (allD pX pW).length + hw w + (allD tX tW).length := by
        rw [eD]; simp only [List.length_append, digs_len]
      omega
    have ht1 := take_ev (toB (allD X W)) (allD pX pW).length 0 w (by omega) (by omega) (toB_bd _)
    rw [takeR_ok hfit, hcut] at ht1
    have hnext := ih (pX ++ [x]) (pW ++ [w]) tW (i + 1) (by simp [hpX]) (by simp [hpW]) (by simp; omega) (by simp; omega) (by simpa using ht)
    rw [eP] at hnext
    have e9 : (((allD pX pW).length + hw w : Nat) : Int) = ((allD pX pW ++ digs x (hw w)).length : Int) := by simp [digs_len]
    rw [e9] at ht1
    have c1 : (i : Int) < (X.length : Int) := by omega
    have c2 : (i : Int) < (W.length : Int) := by omega
    have e2 : wrap64 ((i : Int) + 1) = ((i + 1 : Nat) : Int) := wsucc (by omega)
    refine succ ?_
    simp only [serinettelaw01_BitsBack.l1]
    rw [rx, rw', hw_eq, e2]
    refine pos c1 (pos (Int.natCast_nonneg _) (pos c2 ?_))
    by_cases h64 : hw w < 64
    · obtain ⟨n0, nq⟩ := want_eq x w hx.1 hx.2 h64
      exact pos (Int.ofNat_lt.2 h64) (neg n0 (bnd ht1 (pos nq.symm hnext)))
    · have e64 : hw w = 64 := by have := hw_le w; omega
      refine neg (fun h => h64 (Int.ofNat_lt.1 h)) (bnd ht1 (pos ?_ hnext))
      show num (digs x (hw w)) = x
      rw [num_digs, e64, pow64]
      exact Int.emod_eq_of_lt hx.1 hx.2
theorem l0_ev (X W : List Int) (hX : X.length ≤ 60) (hXW : X.length ≤ W.length) (hW : W.length < 9223372036854775000) (hu : ∀ x ∈ X, 0 ≤ x ∧ x < 18446744073709551616) :
    ∀ (tX pX pW tW : List Int) (i : Nat), X = pX ++ tX → W = pW ++ tW → pX.length = i → pW.length = i → tX.length ≤ tW.length →
    Ev (fun k => serinettelaw01_BitsBack.l0 k X W true (i : Int) (WB (allD pX pW)) ((allD pX pW).length : Int)) true := by
  intro tX
  induction tX with
  | nil =>
    intro pX pW tW i hpX hpW hi hiw ht
    rw [List.append_nil] at hpX
    subst hpX
    have eD : allD X pW = allD X W := by
      have := allD_app X pW [] tW (by omega)
      rw [List.append_nil, ← hpW] at this
      rw [this]
      simp [allD]
    rw [eD]
    have hlen := allD_len X W
    have h8 := toB_len8 (allD X W)
    refine succ ?_
    simp only [serinettelaw01_BitsBack.l0]
    refine neg (by omega) ?_
    rw [bytes_eq _ (by omega)]
    simp only [Option.bind_some]
    rw [open_eq _ (by omega)]
    simp only [Option.bind_some]
    have := l1_ev X W hX hW hu X [] [] W 0 rfl rfl rfl rfl hXW
    exact this
  | cons x tX ih =>
    intro pX pW tW i hpX hpW hi hiw ht
    obtain ⟨w, tW, rfl⟩ : ∃ w t, tW = w :: t := by
      cases tW with
      | nil => simp at ht
      | cons w t => exact ⟨w, t, rfl⟩
    have lX : X.length = i + tX.length + 1 := by rw [hpX]; simp; omega
    have lW : W.length = i + tW.length + 1 := by rw [hpW]; simp; omega
    have rx : rd X (i : Int) = x := by rw [hpX]; exact rd_mid _ _ _ hi
    have rw' : rd W (i : Int) = w := by rw [hpW]; exact rd_mid _ _ _ hiw
    have hlen := allD_len pX pW
    have eP : allD (pX ++ [x]) (pW ++ [w]) = allD pX pW ++ digs x (hw w) := by
      rw [allD_app pX pW _ _ (by omega)]
      simp [allD]
    have hnext := ih (pX ++ [x]) (pW ++ [w]) tW (i + 1) (by simp [hpX]) (by simp [hpW]) (by simp; omega) (by simp; omega) (by simpa using ht)
    rw [eP] at hnext
    have c1 : (i : Int) < (X.length : Int) := by omega
    have c2 : (i : Int) < (W.length : Int) := by omega
    have c3 : (allD pX pW).length < 70368744177600 := by omega
    have e2 : wrap64 ((i : Int) + 1) = ((i + 1 : Nat) : Int) := wsucc (by omega)
    refine succ ?_
    simp only [serinettelaw01_BitsBack.l0]
    rw [rx, rw', e2, put_eq _ _ _ c3]
    simp only [Option.bind_some]
    exact pos c1 (pos (Int.natCast_nonneg _) (pos c2 hnext))
theorem BitsBack : serinettelaw01_BitsBack.Pure := by
  intro X W h1 h2 hwX h3 h4 hwW
  refine Ev.rounds ?_
  unfold serinettelaw01_BitsBack.f
  refine bnd awake_ev ?_
  have skip : Ev (fun k => serinettelaw01_BitsBack.j0 k X W true true) true := by
    refine succ ?_
    simp only [serinettelaw01_BitsBack.j0]
    exact pos trivial (now _)
  by_cases hl : (X.length : Int) > 60
  · exact pos hl skip
  refine neg hl ?_
  by_cases hl2 : (W.length : Int) < (X.length : Int)
  · rw [decide_eq_true hl2]; exact skip
  rw [decide_eq_false hl2]
  refine succ ?_
  simp only [serinettelaw01_BitsBack.j0]
  refine neg (by simp) ?_
  rw [new_eq]
  simp only [Option.bind_some]
  exact l0_ev X W (by omega) (by omega) (by omega) (fun x hx => wfu64 (hwX x hx)) X [] [] W 0 rfl rfl rfl rfl (by omega)
end Go.Proofs.Ytcdnabonljmegaa.Pure
