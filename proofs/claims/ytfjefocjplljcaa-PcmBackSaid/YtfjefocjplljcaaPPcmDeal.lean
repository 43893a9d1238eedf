/- What is put into bytes comes out of them, and the other way about: plain. Condition: channels of one length, samples in the depth. -/
import Derived.Test.YtfjefocjplljcaaPPcmSame
namespace Go.Proofs.Ytfjefocjplljcaa.PL
open Go Go.RowKit Go.Proofs.Ytfjefocjplljcaa.PA Go.Proofs.YtfjefocjplljcaaW.PrintWords Go.Proofs.YtfjefocjplljcaaW.PrintLast Go.Proofs.YtfjefocjplljcaaW.PrintMore
set_option linter.unusedSimpArgs false
set_option linter.unusedVariables false
theorem fm_congr {α β : Type} {f g : α → List β} : ∀ {l : List α}, (∀ a ∈ l, f a = g a) → l.flatMap f = l.flatMap g
  | [], _ => rfl
  | x :: t, h => by
    rw [List.flatMap_cons, List.flatMap_cons, h x (by simp), fm_congr (fun a ha => h a (List.mem_cons_of_mem _ ha))]
/-- The first i numbers, dealt to ch channels. -/
def dealRow (s : Nat → Int) (ch i j : Nat) : List Int := (List.range ((i + (ch - 1 - j)) / ch)).map fun k => s (k * ch + j)
def deal (s : Nat → Int) (ch i : Nat) : List (List Int) := (List.range ch).map (dealRow s ch i)
theorem deal_len (s : Nat → Int) (ch i : Nat) : (deal s ch i).length = ch := by simp [deal]
theorem deal_at (s : Nat → Int) {ch j : Nat} (i : Nat) (hj : j < ch) : rd_L1 (deal s ch i) (j : Int) = dealRow s ch i j := by
  rw [rdL1_at _ (by rw [deal_len]; exact hj)]
  simp [deal]
theorem deal_0 (s : Nat → Int) {ch : Nat} (hch : 0 < ch) : deal s ch 0 = List.replicate ch [] := by
  refine List.ext_getElem (by simp [deal]) fun j h1 h2 => ?_
  have hj : j < ch := by rwa [deal_len] at h1
  have e : (0 + (ch - 1 - j)) / ch = 0 := Nat.div_eq_of_lt (by omega)
  simp only [deal, List.getElem_map, List.getElem_range, dealRow, List.getElem_replicate, e]
  rfl
theorem deal_succ (s : Nat → Int) {ch : Nat} (i : Nat) (hch : 0 < ch) : (deal s ch i).set (i % ch) (rd_L1 (deal s ch i) ((i % ch : Nat) : Int) ++ [s i]) = deal s ch (i + 1) := by
  have hm := Nat.mod_lt i hch
  have hdm := Nat.div_add_mod i ch
  rw [deal_at s i hm]
  refine List.ext_getElem (by simp [deal]) fun j h1 h2 => ?_
  have hj : j < ch := by rwa [deal_len] at h2
  have e0 : i + 1 + (ch - 1 - j) = i + (ch - 1 - j) + 1 := by omega
  rw [List.getElem_set]
  by_cases hji : i % ch = j
  · rw [if_pos hji]
    subst hji
    have e1 : i + (ch - 1 - i % ch) = ch - 1 + ch * (i / ch) := by omega
    have e2 : i + (ch - 1 - i % ch) + 1 = ch * (i / ch + 1) := by rw [Nat.mul_succ]; omega
    have d1 : (i + (ch - 1 - i % ch)) / ch = i / ch := by rw [e1, Nat.add_mul_div_left _ _ hch, Nat.div_eq_of_lt (by omega), Nat.zero_add]
    have d2 : (i + (ch - 1 - i % ch) + 1) / ch = i / ch + 1 := by rw [e2, Nat.mul_div_cancel_left _ hch]
    simp only [deal, List.getElem_map, List.getElem_range, dealRow]
    rw [e0, d1, d2, List.range_succ, List.map_append, List.map_singleton]
    congr 2
    congr 1
    rw [Nat.mul_comm]; exact hdm.symm
  · rw [if_neg hji]
    simp only [deal, List.getElem_map, List.getElem_range, dealRow]
    rw [e0, Nat.succ_div, if_neg, Nat.add_zero]
    intro hdv
    have h3 := Nat.mod_eq_zero_of_dvd hdv
    have e3 : i + (ch - 1 - j) + 1 = (i % ch + ch - j) + ch * (i / ch) := by omega
    rw [e3, Nat.add_mul_mod_self_left] at h3
    by_cases hlt : i % ch < j
    · rw [Nat.mod_eq_of_lt (by omega)] at h3; omega
    · have e4 : i % ch + ch - j = (i % ch - j) + ch := by omega
      rw [e4, Nat.add_mod_right, Nat.mod_eq_of_lt (by omega)] at h3
      omega
theorem goU_some (s : Nat → Int) {ch : Nat} (d : Int) (hch : 0 < ch) : ∀ (r i : Nat), (∀ k, i ≤ k → k < i + r → inI (s k) d = true) → goU s ch d r i (deal s ch i) = some (deal s ch (i + r))
  | 0, i, _ => rfl
  | r + 1, i, h => by
    simp only [goU]
    rw [if_pos (h i (Nat.le_refl _) (by omega)), deal_succ s i hch, goU_some s d hch r (i + 1) (fun k h1 h2 => h k (by omega) (by omega)), show i + 1 + r = i + (r + 1) by omega]
theorem goU_inv (s : Nat → Int) {ch : Nat} (d : Int) (hch : 0 < ch) : ∀ (r i : Nat) (out : List (List Int)), goU s ch d r i (deal s ch i) = some out → out = deal s ch (i + r) ∧ ∀ k, i ≤ k → k < i + r → inI (s k) d = true
  | 0, i, out, h => by
    simp only [goU, Option.some.injEq] at h
    exact ⟨h.symm, fun k h1 h2 => by omega⟩
  | r + 1, i, out, h => by
    simp only [goU] at h
    by_cases hi : inI (s i) d = true
    · rw [if_pos hi, deal_succ s i hch] at h
      have h2 := goU_inv s d hch r (i + 1) out h
      refine ⟨by rw [h2.1, show i + 1 + r = i + (r + 1) by omega], fun k hk1 hk2 => ?_⟩
      by_cases hki : k = i
      · rw [hki]; exact hi
      · exact h2.2 k (by omega) (by omega)
    · rw [if_neg hi] at h
      exact absurd h (by simp)
theorem dealRow_full (s : Nat → Int) {ch j : Nat} (m : Nat) (hj : j < ch) : dealRow s ch (m * ch) j = (List.range m).map fun k => s (k * ch + j) := by
  unfold dealRow
  have e : (m * ch + (ch - 1 - j)) / ch = m := by
    rw [Nat.add_comm, Nat.add_mul_div_right _ _ (by omega), Nat.div_eq_of_lt (by omega), Nat.zero_add]
  rw [e]
theorem flat_range (s : Nat → Int) (ch : Nat) : ∀ m, ((List.range m).flatMap fun k => (List.range ch).map fun j => s (k * ch + j)) = (List.range (m * ch)).map s
  | 0 => by simp
  | m + 1 => by
    rw [List.range_succ, List.flatMap_append, flat_range s ch m, Nat.succ_mul, List.range_add, List.map_append, List.map_map]
    simp only [List.flatMap_singleton]
    rfl
theorem all_deal (s : Nat → Int) {ch : Nat} (m : Nat) : pcmAll (deal s ch (m * ch)) m = (List.range (m * ch)).map s := by
  rw [← flat_range]
  unfold pcmAll
  refine fm_congr fun k hk => ?_
  unfold pcmPre
  rw [deal_len]
  refine List.map_congr_left fun j hj => ?_
  rw [List.mem_range] at hk hj
  rw [deal_at s _ hj, dealRow_full s m hj, rd_lt (Int.natCast_nonneg _) (by simp; omega)]
  simp
theorem chunks_take (b : List Int) (e : Nat) : ∀ n, e * n ≤ b.length → (List.range n).flatMap (chunk b e) = b.take (e * n)
  | 0, _ => by simp
  | n + 1, h => by
    have h1 : e * n ≤ e * (n + 1) := Nat.mul_le_mul_left e (Nat.le_succ n)
    rw [List.range_succ, List.flatMap_append, chunks_take b e n (Nat.le_trans h1 h), List.flatMap_singleton]
    unfold chunk
    have e1 : b.take (e * n) = (b.take (e * (n + 1))).take (e * n) := by rw [List.take_take, Nat.min_eq_left h1]
    rw [e1, List.take_append_drop]
theorem bytes_back (b : List Int) (hb : ∀ x ∈ b, 0 ≤ x ∧ x < 256) (e n : Nat) (hn : e * n = b.length) : pcmBs e ((List.range n).map (sv b e)) = b := by
  have h := chunks_take b e n (Nat.le_of_eq hn)
  rw [hn, List.take_length] at h
  refine Eq.trans ?_ h
  unfold pcmBs
  rw [List.flatMap_map]
  refine fm_congr fun i hi => ?_
  rw [List.mem_range] at hi
  have hc : e * (i + 1) ≤ b.length := by rw [← hn]; exact Nat.mul_le_mul_left e hi
  have h2 := pcmB_sval (chunk b e i) (chunk_bd hb e i)
  rw [chunk_len hc] at h2
  exact h2
theorem chunk_bytes (e : Nat) (S : List Int) {i : Nat} (hi : i < S.length) : chunk (pcmBs e S) e i = pcmB e S[i] := by
  have hs : S = S.take i ++ S[i] :: S.drop (i + 1) := by rw [← List.drop_eq_getElem_cons hi, List.take_append_drop]
  have ha : ∀ (A : List Int) (x : Int) (B : List Int), pcmBs e (A ++ x :: B) = pcmBs e A ++ (pcmB e x ++ pcmBs e B) := fun A x B => by simp [pcmBs]
  have h1 : pcmBs e S = pcmBs e (S.take i) ++ (pcmB e S[i] ++ pcmBs e (S.drop (i + 1))) := (congrArg (pcmBs e) hs).trans (ha _ _ _)
  have hl : (pcmBs e (S.take i)).length = e * i := by rw [pcmBs_len, List.length_take, Nat.min_eq_left (Nat.le_of_lt hi), Nat.mul_comm]
  unfold chunk
  rw [h1, ← List.append_assoc, List.take_left' (by rw [List.length_append, hl, pcmB_len, Nat.mul_succ]), List.drop_left' hl]
/-- A sound's samples by their place. -/
def sOf (l : List (List Int)) (i : Nat) : Int := rd (rd_L1 l ((i % l.length : Nat) : Int)) ((i / l.length : Nat) : Int)
theorem sOf_at (l : List (List Int)) {j : Nat} (k : Nat) (hj : j < l.length) : sOf l (k * l.length + j) = rd (rd_L1 l (j : Int)) (k : Int) := by
  unfold sOf
  have h0 : 0 < l.length := Nat.lt_of_le_of_lt (Nat.zero_le _) hj
  rw [Nat.add_comm, Nat.add_mul_mod_self_right, Nat.mod_eq_of_lt hj, Nat.add_mul_div_right _ _ h0, Nat.div_eq_of_lt hj, Nat.zero_add]
theorem all_sOf (l : List (List Int)) (m : Nat) : pcmAll l m = (List.range (m * l.length)).map (sOf l) := by
  rw [← flat_range]
  unfold pcmAll
  refine fm_congr fun k hk => ?_
  unfold pcmPre
  refine List.map_congr_left fun j hj => ?_
  rw [List.mem_range] at hj
  exact (sOf_at l k hj).symm
theorem deal_sOf (l : List (List Int)) (m : Nat) (hu : ∀ c ∈ l, c.length = m) (s : Nat → Int) (hs : ∀ i, i < m * l.length → s i = sOf l i) : deal s l.length (m * l.length) = l := by
  refine List.ext_getElem (deal_len _ _ _) fun j h1 h2 => ?_
  have hm := hu _ (List.getElem_mem h2)
  simp only [deal, List.getElem_map, List.getElem_range]
  rw [dealRow_full s m h2]
  refine List.ext_getElem (by simp [hm]) fun k h3 h4 => ?_
  have hk : k < m := by simpa using h3
  have hlt : k * l.length + j < m * l.length := by
    have h5 : (k + 1) * l.length ≤ m * l.length := Nat.mul_le_mul_right _ hk
    rw [Nat.succ_mul] at h5
    omega
  simp only [List.getElem_map, List.getElem_range]
  rw [hs _ hlt, sOf_at l k h2, rdL1_at l h2, rd_lt (Int.natCast_nonneg _) (Int.ofNat_lt.2 h4)]
  rfl
/-- Bytes of a sound that can be are that sound. -/
theorem unb_bytes (a b : Int) (l : List (List Int)) (h0 : checkV a b l = 0) : unbV (pcmBs (eachN b) (pcmAll l (rd_L1 l 0).length)) a b (l.length : Int) = (a, b, l, 0) := by
  obtain ⟨hw, hu, hi⟩ := checkV_0 h0
  obtain ⟨hc, hd, hr⟩ := wrongV_0 hw
  have hch : 0 < l.length := by omega
  have hb := eachN_bd b
  obtain ⟨m, hm⟩ : ∃ m, (rd_L1 l 0).length = m := ⟨_, rfl⟩
  rw [hm] at hu ⊢
  unfold unbV
  rw [if_neg (fun q => q hw), Int.toNat_natCast]
  have hlen : (pcmBs (eachN b) (pcmAll l m)).length = m * l.length * eachN b := by rw [pcmBs_len, pcmAll_len]
  have hmod : (pcmBs (eachN b) (pcmAll l m)).length % (eachN b * l.length) = 0 := by
    rw [hlen, Nat.mul_assoc, Nat.mul_comm l.length]
    exact Nat.mul_mod_left _ _
  have hdiv : (pcmBs (eachN b) (pcmAll l m)).length / eachN b = m * l.length := by rw [hlen, Nat.mul_div_cancel _ hb.1]
  rw [if_neg (fun q => q hmod), hdiv, ← deal_0 (sv (pcmBs (eachN b) (pcmAll l m)) (eachN b)) hch]
  have hin : ∀ i, i < m * l.length → ∃ c ∈ l, sOf l i ∈ c := fun i hi2 => by
    have h1 : i % l.length < l.length := Nat.mod_lt _ hch
    refine ⟨_, rdL1_mem l h1, rd_mem (Int.natCast_nonneg _) ?_⟩
    rw [hu _ (rdL1_mem l h1)]
    exact Int.ofNat_lt.2 ((Nat.div_lt_iff_lt_mul hch).2 hi2)
  have hs : ∀ i, i < m * l.length → sv (pcmBs (eachN b) (pcmAll l m)) (eachN b) i = sOf l i := fun i hi2 => by
    have hl2 : i < (pcmAll l m).length := by rw [pcmAll_len]; exact hi2
    have e1 : (pcmAll l m)[i] = sOf l i := by simp [all_sOf]
    unfold sv
    rw [chunk_bytes _ _ hl2, e1]
    obtain ⟨c, hcm, hx⟩ := hin i hi2
    exact sval_pcmB _ _ (in_bytes hd (hi c hcm _ hx))
  rw [goU_some _ b hch _ 0 (fun k _ hk => by
    rw [Nat.zero_add] at hk
    rw [hs k hk]
    obtain ⟨c, hcm, hx⟩ := hin k hk
    exact hi c hcm _ hx), Nat.zero_add, deal_sOf l m hu _ hs]
  rfl
/-- A sound of bytes can be, and has these bytes. -/
theorem bytes_unb (b : List Int) (hb : ∀ x ∈ b, 0 ≤ x ∧ x < 256) (rate d ch : Int) (h0 : (unbV b rate d ch).2.2.2 = 0) :
    (unbV b rate d ch).1 = rate ∧ (unbV b rate d ch).2.1 = d ∧ checkV rate d (unbV b rate d ch).2.2.1 = 0 ∧ pcmBs (eachN d) (pcmAll (unbV b rate d ch).2.2.1 (rd_L1 (unbV b rate d ch).2.2.1 0).length) = b := by
  by_cases hw : wrongV rate d ch = 0
  · obtain ⟨hc, hd, hr⟩ := wrongV_0 hw
    obtain ⟨c, rfl⟩ := Int.eq_ofNat_of_zero_le (show 0 ≤ ch by omega)
    have he := eachN_bd d
    have hcp : 0 < c := by omega
    by_cases hm : b.length % (eachN d * c) = 0
    · cases hg : goU (sv b (eachN d)) c d (b.length / eachN d) 0 (List.replicate c []) with
      | none =>
        have e : unbV b rate d (c : Int) = (0, 0, [], 6) := by
          unfold unbV
          rw [if_neg (fun q => q hw), Int.toNat_natCast, if_neg (fun q => q hm), hg]
          rfl
        rw [e] at h0
        exact absurd h0 (by decide)
      | some rows =>
        have e : unbV b rate d (c : Int) = (rate, d, rows, 0) := by
          unfold unbV
          rw [if_neg (fun q => q hw), Int.toNat_natCast, if_neg (fun q => q hm), hg]
          rfl
        rw [e]
        rw [← deal_0 (sv b (eachN d)) hcp] at hg
        obtain ⟨rfl, hin⟩ := goU_inv _ d hcp _ 0 _ hg
        rw [Nat.zero_add] at hin ⊢
        have hdv : eachN d * (b.length / eachN d) = b.length := Nat.mul_div_cancel' (Nat.dvd_trans (Nat.dvd_mul_right _ c) (Nat.dvd_of_mod_eq_zero hm))
        obtain ⟨m, hmm⟩ : ∃ m, b.length / eachN d = m * c := by
          obtain ⟨q, hq⟩ := Nat.dvd_of_mod_eq_zero hm
          refine ⟨q, ?_⟩
          rw [hq, Nat.mul_assoc, Nat.mul_div_cancel_left _ he.1, Nat.mul_comm]
        rw [hmm] at hin hdv ⊢
        have hrow : ∀ j, j < c → rd_L1 (deal (sv b (eachN d)) c (m * c)) (j : Int) = (List.range m).map fun k => sv b (eachN d) (k * c + j) := fun j hj => by rw [deal_at _ _ hj, dealRow_full _ m hj]
        have hmem : ∀ r ∈ deal (sv b (eachN d)) c (m * c), ∃ j, j < c ∧ r = (List.range m).map fun k => sv b (eachN d) (k * c + j) := fun r hr => by
          obtain ⟨j, hj, rfl⟩ := List.getElem_of_mem hr
          have hjc : j < c := by rwa [deal_len] at hj
          exact ⟨j, hjc, by rw [← hrow j hjc, rdL1_at _ hj]⟩
        have h00 : rd_L1 (deal (sv b (eachN d)) c (m * c)) 0 = (List.range m).map fun k => sv b (eachN d) (k * c + 0) := hrow 0 hcp
        have hl0 : (rd_L1 (deal (sv b (eachN d)) c (m * c)) 0).length = m := by rw [h00]; simp
        refine ⟨rfl, rfl, ?_, ?_⟩
        · show checkV rate d (deal (sv b (eachN d)) c (m * c)) = 0
          unfold checkV
          rw [deal_len, if_neg (fun q => q hw), if_pos, if_pos]
          · rw [List.all_eq_true]
            intro r hr
            obtain ⟨j, hj, rfl⟩ := hmem r hr
            rw [List.all_eq_true]
            intro x hx
            obtain ⟨k, hk, rfl⟩ := List.mem_map.1 hx
            rw [List.mem_range] at hk
            refine hin _ (Nat.zero_le _) ?_
            have h5 : (k + 1) * c ≤ m * c := Nat.mul_le_mul_right _ hk
            rw [Nat.succ_mul] at h5
            omega
          · rw [List.all_eq_true]
            intro r hr
            obtain ⟨j, hj, rfl⟩ := hmem r hr
            rw [hl0]
            simp
        · show pcmBs (eachN d) (pcmAll (deal (sv b (eachN d)) c (m * c)) (rd_L1 (deal (sv b (eachN d)) c (m * c)) 0).length) = b
          rw [hl0, all_deal]
          exact bytes_back b hb (eachN d) (m * c) hdv
    · have e : unbV b rate d (c : Int) = (0, 0, [], 3) := by
        unfold unbV
        rw [if_neg (fun q => q hw), Int.toNat_natCast, if_pos hm]
      rw [e] at h0
      exact absurd h0 (by decide)
  · have e : unbV b rate d ch = (0, 0, [], wrongV rate d ch) := by unfold unbV; rw [if_pos hw]
    rw [e] at h0
    exact absurd h0 hw
theorem unb_none (b : List Int) (rate d ch : Int) (h0 : (unbV b rate d ch).2.2.2 ≠ 0) : (unbV b rate d ch).2.2.1 = [] := by
  unfold unbV at h0 ⊢
  by_cases hw : wrongV rate d ch = 0
  · rw [if_neg (fun q => q hw)] at h0 ⊢
    by_cases hm : b.length % (eachN d * ch.toNat) = 0
    · rw [if_neg (fun q => q hm)] at h0 ⊢
      cases hg : goU (sv b (eachN d)) ch.toNat d (b.length / eachN d) 0 (List.replicate ch.toNat []) with
      | none => rfl
      | some rows => rw [hg] at h0; exact absurd rfl h0
    · rw [if_pos hm]
  · rw [if_pos hw]
end Go.Proofs.Ytfjefocjplljcaa.PL
