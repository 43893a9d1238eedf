/- Bytes' sound, as pcm.Unbytes and the document's Unbytes answer it. Condition: up to five thousand bytes. -/
import Derived.Test.YtfjefocjplljcaaPPcmBytes
import Derived.Test.YtfjefocjplljcaaPAx9
import Derived.Test.YtfjefocjplljcaaPAx10
namespace Go.Proofs.Ytfjefocjplljcaa.PL
open Go Go.RowKit Go.Proofs.Ytfjefocjplljcaa.PA Go.Proofs.YtfjefocjplljcaaW.PrintWords Go.Proofs.YtfjefocjplljcaaW.PrintLast Go.Proofs.YtfjefocjplljcaaW.PrintMore
set_option linter.unusedVariables false
set_option linter.unusedSimpArgs false
theorem w64n {a : Nat} (h : a < 4611686018427387904) : wrap64 (a : Int) = (a : Int) := w64 (by omega) (by omega)
/-- The bytes of the i-th sample. -/
def chunk (b : List Int) (e i : Nat) : List Int := (b.take (e * (i + 1))).drop (e * i)
theorem chunk_len {b : List Int} {e i : Nat} (h : e * (i + 1) ≤ b.length) : (chunk b e i).length = e := by
  unfold chunk
  rw [List.length_drop, List.length_take, Nat.min_eq_left h, Nat.mul_succ, Nat.add_sub_cancel_left]
theorem chunk_bd {b : List Int} (h : ∀ x ∈ b, 0 ≤ x ∧ x < 256) (e i : Nat) : ∀ x ∈ chunk b e i, 0 ≤ x ∧ x < 256 := fun x hx => h x (List.mem_of_mem_take (List.mem_of_mem_drop hx))
theorem chunk_drop {b : List Int} {e i k : Nat} (h : e * (i + 1) ≤ b.length) (hk : k < e) : (chunk b e i).drop k = rd b ((e * i + k : Nat) : Int) :: (chunk b e i).drop (k + 1) := by
  have hl := chunk_len h
  have e1 : e * (i + 1) = e * i + e := Nat.mul_succ e i
  rw [List.drop_eq_getElem_cons (show k < (chunk b e i).length by omega), rd_lt (Int.natCast_nonneg _) (Int.ofNat_lt.2 (by omega))]
  congr 1
  unfold chunk
  rw [List.getElem_drop, List.getElem_take]
  rfl
/-- The i-th sample. -/
def sv (b : List Int) (e i : Nat) : Int := sval (chunk b e i)
/-- The samples, dealt to the channels, as long as each is in the depth. -/
def goU (s : Nat → Int) (ch : Nat) (d : Int) : Nat → Nat → List (List Int) → Option (List (List Int))
  | 0, _, rows => some rows
  | r + 1, i, rows => if inI (s i) d = true then goU s ch d r (i + 1) (rows.set (i % ch) (rd_L1 rows ((i % ch : Nat) : Int) ++ [s i])) else none
def outU (rate d : Int) : Option (List (List Int)) → Int × Int × List (List Int) × Int
  | none => (0, 0, [], 6)
  | some rows => (rate, d, rows, 0)
def unbV (b : List Int) (rate d ch : Int) : Int × Int × List (List Int) × Int :=
  if wrongV rate d ch ≠ 0 then (0, 0, [], wrongV rate d ch) else if b.length % (eachN d * ch.toNat) ≠ 0 then (0, 0, [], 3) else outU rate d (goU (sv b (eachN d)) ch.toNat d (b.length / eachN d) 0 (List.replicate ch.toNat []))
theorem wrongV_0 {a b n : Int} (h : wrongV a b n = 0) : (1 ≤ n ∧ n ≤ 8) ∧ (4 ≤ b ∧ b ≤ 32) ∧ (1 ≤ a ∧ a ≤ 1048575) := by
  unfold wrongV at h
  by_cases h1 : n < 1 ∨ n > 8
  · rw [if_pos h1] at h; omega
  · rw [if_neg h1] at h
    by_cases h2 : b < 4 ∨ b > 32
    · rw [if_pos h2] at h; omega
    · rw [if_neg h2] at h
      by_cases h3 : a < 1 ∨ a > 1048575
      · rw [if_pos h3] at h; omega
      · omega
theorem sval_bd (c : List Int) (h4 : c.length ≤ 4) (h : ∀ x ∈ c, 0 ≤ x ∧ x < 256) : -4294967296 ≤ sval c ∧ sval c < 4294967296 := by
  have h1 := uval_bd c h
  have h2 := p256le h4
  unfold sval
  split <;> omega
theorem sv_bd {b : List Int} (hb : ∀ x ∈ b, 0 ≤ x ∧ x < 256) {e i : Nat} (h4 : e ≤ 4) (h : e * (i + 1) ≤ b.length) : -4294967296 ≤ sv b e i ∧ sv b e i < 4294967296 := sval_bd _ (by rw [chunk_len h]; exact h4) (chunk_bd hb e i)
theorem rows_len {rows : List (List Int)} {i ch : Nat} (hch : 0 < ch) (hr : rows.length = ch) (hl : ∀ c ∈ rows, c.length ≤ i) (x : Int) :
    (rows.set (i % ch) (rd_L1 rows ((i % ch : Nat) : Int) ++ [x])).length = ch ∧ ∀ c ∈ rows.set (i % ch) (rd_L1 rows ((i % ch : Nat) : Int) ++ [x]), c.length ≤ i + 1 := by
  refine ⟨by rw [List.length_set, hr], fun c hc => ?_⟩
  rcases List.mem_or_eq_of_mem_set hc with h | rfl
  · exact Nat.le_succ_of_le (hl c h)
  · rw [List.length_append, List.length_singleton]
    exact Nat.succ_le_succ (hl _ (rdL1_mem rows (by rw [hr]; exact Nat.mod_lt _ hch)))
theorem tmod_nat (i ch : Nat) : Int.tmod (i : Int) (ch : Int) = ((i % ch : Nat) : Int) := by
  rw [Int.tmod_eq_emod_of_nonneg (Int.natCast_nonneg _)]; rfl
theorem unb_l0 (b : List Int) (hb : ∀ x ∈ b, 0 ≤ x ∧ x < 256) (hl : b.length ≤ 5000) (d : Int) (e ch : Nat) (he : 1 ≤ e ∧ e ≤ 4) (hch : 0 < ch) (rate : Int) (n : Nat) (hn : e * n ≤ b.length) :
    ∀ (r i : Nat) (rows : List (List Int)), i + r = n → rows.length = ch → (∀ c ∈ rows, c.length ≤ i) →
    Ev (fun k => pcm_Unbytes.l0 k b d (ch : Int) (e : Int) (n : Int) (i : Int) rate d rows) (outU rate d (goU (sv b e) ch d r i rows)) := by
  have hnb : n ≤ 5000 := Nat.le_trans (Nat.le_trans (by have := Nat.mul_le_mul_right n he.1; omega) hn) hl
  intro r
  induction r with
  | zero =>
    intro i rows hi hr hc
    refine succ ?_
    simp only [pcm_Unbytes.l0]
    exact neg (by omega) (now _)
  | succ r ih =>
    intro i rows hi hr hc
    have hin : i < n := by omega
    have hc1 : e * (i + 1) ≤ b.length := Nat.le_trans (Nat.mul_le_mul_left e hin) hn
    have hee : e * (i + 1) = e * i + e := Nat.mul_succ e i
    have f1 : (i : Int) < (n : Int) := Int.ofNat_lt.2 hin
    have f2 : ((e * i : Nat) : Int) ≤ ((e * (i + 1) : Nat) : Int) := Int.ofNat_le.2 (by omega)
    have f3 : ((e * (i + 1) : Nat) : Int) ≤ (b.length : Int) := Int.ofNat_le.2 hc1
    have hne : ¬ ((ch : Int) = 0) := by omega
    have f5 : i + 1 + r = n := by omega
    have f6 : i < 4611686018427387904 := by omega
    have f7 : e * i < 4611686018427387904 := by omega
    have f8 : e * (i + 1) < 4611686018427387904 := by omega
    have hcl := hc _ (rdL1_mem rows (show i % ch < rows.length by rw [hr]; exact Nat.mod_lt _ hch))
    have f9 : (rd_L1 rows ((i % ch : Nat) : Int)).length < 17592186044416 := by omega
    have e1 : wrap64 ((i : Int) + 1) = ((i + 1 : Nat) : Int) := w64n (a := i + 1) (Nat.lt_of_le_of_lt (Nat.succ_le_succ (Nat.le_of_lt hin)) (Nat.lt_of_le_of_lt (Nat.succ_le_succ hnb) (by decide)))
    have e2 : wrap64 ((i : Int) * (e : Int)) = ((e * i : Nat) : Int) := by
      have h : (i : Int) * (e : Int) = ((e * i : Nat) : Int) := by rw [Int.mul_comm]; exact (Int.natCast_mul e i).symm
      rw [h]; exact w64n f7
    have e3 : wrap64 (((i + 1 : Nat) : Int) * (e : Int)) = ((e * (i + 1) : Nat) : Int) := by
      have h : ((i + 1 : Nat) : Int) * (e : Int) = ((e * (i + 1) : Nat) : Int) := by rw [Int.mul_comm]; exact (Int.natCast_mul e (i + 1)).symm
      rw [h]; exact w64n f8
    have hs := sample_ev (chunk b e i) (by rw [chunk_len hc1]; exact he.1) (by rw [chunk_len hc1]; exact he.2) (chunk_bd hb e i)
    have hsb := sv_bd hb he.2 hc1
    have hrl := rows_len hch hr hc (sv b e i)
    have h := ih (i + 1) _ f5 hrl.1 hrl.2
    refine succ ?_
    simp only [pcm_Unbytes.l0]
    rw [e1, e2, e3, Int.toNat_natCast, Int.toNat_natCast, tmod_nat, Int.toNat_natCast]
    refine pos f1 (pos (Int.natCast_nonneg _) (pos f2 (pos f3 (bnd hs (bnd (cst (in_eq _ d ⟨Int.le_trans (by decide) hsb.1, Int.lt_of_lt_of_le hsb.2 (by decide)⟩)) ?_)))))
    show Ev (fun k => if inI (sv b e i) d = true then _ else _) _
    by_cases hin2 : inI (sv b e i) d = true
    · have eg : goU (sv b e) ch d (r + 1) i rows = goU (sv b e) ch d r (i + 1) (rows.set (i % ch) (rd_L1 rows ((i % ch : Nat) : Int) ++ [sv b e i])) := by
        simp only [goU]; rw [if_pos hin2]
      rw [eg]
      refine pos hin2 (neg hne (pos (Int.natCast_nonneg _) (pos (by rw [hr]; exact Int.ofNat_lt.2 (Nat.mod_lt _ hch)) (pos (by omega) h))))
    · have eg : goU (sv b e) ch d (r + 1) i rows = none := by
        simp only [goU]; rw [if_neg hin2]
      rw [eg]
      exact neg hin2 (now _)
theorem unb_ev (b : List Int) (hb : ∀ x ∈ b, 0 ≤ x ∧ x < 256) (hl : b.length ≤ 5000) (rate d ch : Int) : Ev (fun k => pcm_Unbytes.f k b rate d ch) (unbV b rate d ch) := by
  have hk : Ev (fun k => pcm_kinds.f k rate d ch) (wrongV rate d ch) := ⟨5, fun k hk => by
    obtain ⟨j, rfl⟩ : ∃ j, k = j + 5 := ⟨k - 5, by omega⟩
    exact kinds_eq rate d ch j⟩
  have he := eachN_bd d
  unfold pcm_Unbytes.f unbV
  refine bnd hk ?_
  by_cases h0 : wrongV rate d ch = 0
  · rw [if_neg (show ¬ (wrongV rate d ch ≠ 0) from fun q => q h0)]
    obtain ⟨hc, hd, hr⟩ := wrongV_0 h0
    obtain ⟨c, rfl⟩ := Int.eq_ofNat_of_zero_le (show 0 ≤ ch by omega)
    refine pos h0 (bnd (cst (pcm_each_eq d)) ?_)
    obtain ⟨e, hee⟩ : ∃ e, eachN d = e := ⟨_, rfl⟩
    rw [hee] at he ⊢
    have hec : e * c ≤ 4 * 8 := Nat.mul_le_mul he.2.1 (by omega)
    have hec1 : 1 ≤ e * c := Nat.mul_le_mul he.1 (show 1 ≤ c by omega)
    have g1 : ¬ (((e * c : Nat) : Int) = 0) := by omega
    have g2 : c ≤ 11728124029610 := by omega
    have g3 : ¬ ((e : Int) = 0) := by omega
    have g4 : 0 < c := by omega
    have e1 : wrap64 ((e : Int) * (c : Int)) = ((e * c : Nat) : Int) := by
      have h : (e : Int) * (c : Int) = ((e * c : Nat) : Int) := (Int.natCast_mul e c).symm
      rw [h]; exact w64n (Nat.lt_of_le_of_lt hec (by decide))
    have e2 : wrap64 ((b.length : Int) / (e : Int)) = ((b.length / e : Nat) : Int) := by
      have h : (b.length : Int) / (e : Int) = ((b.length / e : Nat) : Int) := (Int.natCast_ediv _ _).symm
      rw [h]; exact w64n (Nat.lt_of_le_of_lt (Nat.le_trans (Nat.div_le_self b.length e) hl) (by decide))
    rw [e1, e2, Int.toNat_natCast]
    refine neg g1 ?_
    by_cases hm : b.length % (e * c) = 0
    · rw [if_neg (show ¬ (b.length % (e * c) ≠ 0) from fun q => q hm)]
      refine pos (by have h : (b.length : Int) % ((e * c : Nat) : Int) = ((b.length % (e * c) : Nat) : Int) := rfl; rw [h, hm]; rfl) (pos (Int.natCast_nonneg _) (pos g2 (neg g3 ?_)))
      exact unb_l0 b hb hl d e c ⟨he.1, he.2.1⟩ g4 rate (b.length / e) (Nat.mul_div_le _ _) (b.length / e) 0 _ (Nat.zero_add _) (by simp) (fun x hx => by rw [(List.mem_replicate.1 hx).2]; exact Nat.zero_le _)
    · rw [if_pos hm]
      refine neg (fun q => hm ?_) (now _)
      have h : (b.length : Int) % ((e * c : Nat) : Int) = ((b.length % (e * c) : Nat) : Int) := rfl
      rw [h] at q
      exact Int.ofNat_inj.1 q
  · rw [if_pos (show wrongV rate d ch ≠ 0 from h0)]
    exact neg h0 (now _)
theorem top_iff (p : List Int) (x : Int) (h : ∀ y ∈ p ++ [x], 0 ≤ y ∧ y < 256) : 2 * uval (p ++ [x]) < 256 ^ (p ++ [x]).length ↔ x < 128 := by
  have hx := h x (by simp)
  have hp := uval_bd p (fun y hy => h y (by simp [hy]))
  have hP := p256 p.length
  rw [uval_app, List.length_append, List.length_singleton, Int.pow_succ]
  have e : uval [x] = x := by simp [uval]
  rw [e]
  constructor
  · intro hlt
    apply Classical.byContradiction
    intro hge
    have h1 : 256 ^ p.length * 128 ≤ 256 ^ p.length * x := Int.mul_le_mul_of_nonneg_left (by omega) (Int.le_of_lt hP)
    omega
  · intro hlt
    have h1 : 256 ^ p.length * x ≤ 256 ^ p.length * 127 := Int.mul_le_mul_of_nonneg_left (by omega) (Int.le_of_lt hP)
    omega
theorem chunk_top {b : List Int} (hb : ∀ x ∈ b, 0 ≤ x ∧ x < 256) {e i : Nat} (he : 1 ≤ e) (h : e * (i + 1) ≤ b.length) : sv b e i = if rd b ((e * i + (e - 1) : Nat) : Int) ≥ 128 then uval (chunk b e i) - 256 ^ e else uval (chunk b e i) := by
  have hl := chunk_len h
  have hd := chunk_drop (k := e - 1) h (by omega)
  rw [List.drop_of_length_le (show (chunk b e i).length ≤ e - 1 + 1 by omega)] at hd
  have hs : chunk b e i = (chunk b e i).take (e - 1) ++ [rd b ((e * i + (e - 1) : Nat) : Int)] := by
    rw [← hd, List.take_append_drop]
  have hbd := chunk_bd hb e i
  have ht := top_iff ((chunk b e i).take (e - 1)) (rd b ((e * i + (e - 1) : Nat) : Int)) (by rw [← hs]; exact hbd)
  rw [← hs, hl] at ht
  unfold sv sval
  rw [hl]
  by_cases hx : rd b ((e * i + (e - 1) : Nat) : Int) < 128
  · rw [if_pos (ht.2 hx), if_neg (Int.not_le.2 hx)]
  · rw [if_neg (fun q => hx (ht.1 q)), if_pos (Int.not_lt.1 hx)]
theorem w64pred {k : Nat} (h : k < 4611686018427387904) : wrap64 ((k : Int) - 1) = (k : Int) - 1 := w64 (by omega) (by omega)
theorem natpred (k : Nat) : (((k + 1 : Nat) : Int) - 1) = (k : Int) := by omega
theorem acc_eq (r u : Int) (hr : 0 ≤ r ∧ r < 256) (hu : 0 ≤ u ∧ u < 4294967296) : wrap64 (wrap64 (256 * u) + wrap64 r) = r + 256 * u := by
  rw [w64 (x := 256 * u) (by omega) (by omega), w64 (x := r) (by omega) (by omega), w64 (by omega) (by omega)]
  exact Int.add_comm _ _
theorem esub_eq (u q : Int) (hu : 0 ≤ u ∧ u < 4294967296) (hq : 0 < q) (hq4 : q ≤ 4294967296) : wrap64 (u - q) = u - q := w64 (by omega) (by omega)
theorem ref_unb_l0 (b : List Int) (hb : ∀ x ∈ b, 0 ≤ x ∧ x < 256) (hl : b.length ≤ 5000) (d : Int) (e ch : Nat) (he : 1 ≤ e ∧ e ≤ 4) (hch : 0 < ch) (rate : Int) (n : Nat) (hn : e * n = b.length) :
    ∀ (r i : Nat) (rows : List (List Int)), i + r = n → rows.length = ch → (∀ c ∈ rows, c.length ≤ i) →
    Ev (fun k => serinetteref06_Unbytes.l0 k b d (ch : Int) (e : Int) ((e * i : Nat) : Int) 0 0 rate d rows) (outU rate d (goU (sv b e) ch d r i rows)) := by
  have hnb : n ≤ 5000 := Nat.le_trans (by have := Nat.mul_le_mul_right n he.1; omega) hl
  intro r
  induction r with
  | zero =>
    intro i rows hi hr hc
    obtain rfl : i = n := by omega
    refine succ ?_
    simp only [serinetteref06_Unbytes.l0]
    exact neg (by rw [hn]; exact Int.lt_irrefl _) (now _)
  | succ r ih =>
    intro i rows hi hr hc
    have hin : i < n := by omega
    have hc1 : e * (i + 1) ≤ b.length := by rw [← hn]; exact Nat.mul_le_mul_left e hin
    have hee : e * (i + 1) = e * i + e := Nat.mul_succ e i
    have hne : ¬ ((ch : Int) = 0) := by omega
    have hne2 : ¬ ((e : Int) = 0) := by omega
    have f5 : i + 1 + r = n := by omega
    have hbig : e * (i + 1) < 4611686018427387904 := by omega
    have hsb := sv_bd hb he.2 hc1
    have hrl := rows_len hch hr hc (sv b e i)
    have hcl := hc _ (rdL1_mem rows (show i % ch < rows.length by rw [hr]; exact Nat.mod_lt _ hch))
    have f9 : (rd_L1 rows ((i % ch : Nat) : Int)).length < 17592186044416 := by omega
    have h := ih (i + 1) _ f5 hrl.1 hrl.2
    have f0 : ((e * i : Nat) : Int) < (b.length : Int) := Int.ofNat_lt.2 (by omega)
    have hcb := chunk_bd hb e i
    have hclen := chunk_len hc1
    have htop := chunk_top hb he.1 hc1
    have ftop : ((e * i + (e - 1) : Nat) : Int) < (b.length : Int) := Int.ofNat_lt.2 (by omega)
    have hpw := power6_ev (8 * e) (by omega)
    rw [← p256_two] at hpw
    have hbk : ∀ k : Nat, k < e → ((e * i + k : Nat) : Int) < (b.length : Int) := fun k hk => Int.ofNat_lt.2 (by omega)
    have hbr : ∀ k : Nat, k < e → 0 ≤ rd b ((e * i + k : Nat) : Int) ∧ rd b ((e * i + k : Nat) : Int) < 256 := fun k hk => hb _ (rd_mem (Int.natCast_nonneg _) (hbk k hk))
    have hub : ∀ k : Nat, 0 ≤ uval ((chunk b e i).drop k) ∧ uval ((chunk b e i).drop k) < 4294967296 := fun k => by
      have h1 := uval_bd ((chunk b e i).drop k) (fun x hx => hcb x (List.mem_of_mem_drop hx))
      have h2 := p256le (e := ((chunk b e i).drop k).length) (by rw [List.length_drop]; omega)
      omega
    have hu0 := hub 0
    rw [List.drop_zero] at hu0
    have hbig2 : e * i + e < 4611686018427387904 := by omega
    have hbig3 : e * i + (e - 1) < 4611686018427387904 := by omega
    have hbige : e < 4611686018427387904 := by omega
    have qt : ((e * (i + 1) : Nat) : Int) - 1 = ((e * i + (e - 1) : Nat) : Int) := by omega
    have qe : ((e : Nat) : Int) ≠ 0 := by omega
    have e8 : wrap64 (8 * (e : Int)) = ((8 * e : Nat) : Int) := by
      have q : (8 : Int) * (e : Int) = ((8 * e : Nat) : Int) := rfl
      rw [q]; exact w64n (Nat.lt_of_le_of_lt (Nat.mul_le_mul_left 8 he.2) (by decide))
    have ea : wrap64 (((e * i : Nat) : Int) + (e : Int)) = ((e * (i + 1) : Nat) : Int) := by
      have q : ((e * i : Nat) : Int) + (e : Int) = ((e * (i + 1) : Nat) : Int) := by rw [hee]; rfl
      rw [q]; exact w64n hbig
    have et : wrap64 (((e * (i + 1) : Nat) : Int) - 1) = ((e * i + (e - 1) : Nat) : Int) := by
      rw [qt]; exact w64n hbig3
    have ed : wrap64 (Int.tdiv ((e * i : Nat) : Int) (e : Int)) = (i : Int) := by
      have q : Int.tdiv ((e * i : Nat) : Int) (e : Int) = (i : Int) := by
        rw [Int.tdiv_eq_ediv_of_nonneg (Int.natCast_nonneg _), Int.natCast_mul, Int.mul_ediv_cancel_left _ qe]
      rw [q]; exact w64n (Nat.lt_of_le_of_lt (Nat.le_of_lt hin) (Nat.lt_of_le_of_lt hnb (by decide)))
    have hp4 := p256le he.2
    have hp := p256 e
    have esub : wrap64 (uval (chunk b e i) - 256 ^ e) = uval (chunk b e i) - 256 ^ e := esub_eq _ _ hu0 hp hp4
    -- behind the bytes
    have hend : Ev (fun k => serinetteref06_Unbytes.l1 k b d (ch : Int) (e : Int) ((e * i : Nat) : Int) (uval (chunk b e i)) (-1) 0 0 rate d rows) (outU rate d (goU (sv b e) ch d (r + 1) i rows)) := by
      refine succ ?_
      simp only [serinetteref06_Unbytes.l1]
      rw [e8, ea, et, ed, tmod_nat]
      refine neg (by decide) (pos (Int.natCast_nonneg _) (pos ftop ?_))
      have fin : Ev (fun k => serinetteref06_Unbytes.l0 k b d (ch : Int) (e : Int) ((e * (i + 1) : Nat) : Int) 0 0 rate d (rows.set (i % ch) (rd_L1 rows ((i % ch : Nat) : Int) ++ [sv b e i]))) (outU rate d (goU (sv b e) ch d r (i + 1) (rows.set (i % ch) (rd_L1 rows ((i % ch : Nat) : Int) ++ [sv b e i])))) := h
      have hgp : inI (sv b e i) d = true → goU (sv b e) ch d (r + 1) i rows = goU (sv b e) ch d r (i + 1) (rows.set (i % ch) (rd_L1 rows ((i % ch : Nat) : Int) ++ [sv b e i])) := fun q => by simp only [goU]; rw [if_pos q]
      have hgn : ¬ inI (sv b e i) d = true → goU (sv b e) ch d (r + 1) i rows = none := fun q => by simp only [goU]; rw [if_neg q]
      have hml : ((i % ch : Nat) : Int) < (rows.length : Int) := by rw [hr]; exact Int.ofNat_lt.2 (Nat.mod_lt _ hch)
      by_cases hx : rd b ((e * i + (e - 1) : Nat) : Int) ≥ 128
      · rw [if_pos hx] at htop
        refine pos hx (bnd hpw ?_)
        rw [esub, ← htop]
        refine bnd (ref_in_eq _ d) ?_
        by_cases hin2 : inI (sv b e i) d = true
        · rw [hgp hin2]
          exact pos hin2 (neg hne2 (neg hne (pos (Int.natCast_nonneg _) (pos hml (pos f9 fin)))))
        · rw [hgn hin2]
          exact neg hin2 (now _)
      · rw [if_neg hx] at htop
        rw [← htop]
        refine neg hx (bnd (ref_in_eq _ d) ?_)
        by_cases hin2 : inI (sv b e i) d = true
        · rw [hgp hin2]
          exact pos hin2 (neg hne2 (neg hne (pos (Int.natCast_nonneg _) (pos hml (pos f9 fin)))))
        · rw [hgn hin2]
          exact neg hin2 (now _)
    have hl1 : ∀ k : Nat, k ≤ e → Ev (fun q => serinetteref06_Unbytes.l1 q b d (ch : Int) (e : Int) ((e * i : Nat) : Int) (uval ((chunk b e i).drop k)) ((k : Int) - 1) 0 0 rate d rows) (outU rate d (goU (sv b e) ch d (r + 1) i rows)) := by
      intro k
      induction k with
      | zero =>
        intro _
        rw [List.drop_zero]
        exact hend
      | succ k ihk =>
        intro hk
        have hk2 : k < e := Nat.lt_of_succ_le hk
        have h1 := ihk (Nat.le_of_lt hk2)
        have hr1 := hbr k hk2
        have hu1 := hub (k + 1)
        have hu2 := hub k
        rw [chunk_drop hc1 hk2, uval] at h1 hu2
        have q0 : (((k + 1 : Nat) : Int) - 1) = (k : Int) := natpred k
        have q1 : wrap64 (((e * i : Nat) : Int) + (k : Int)) = ((e * i + k : Nat) : Int) := w64n (a := e * i + k) (Nat.lt_of_le_of_lt (Nat.add_le_add_left (Nat.le_of_lt hk2) (e * i)) hbig2)
        have q2 : wrap64 ((k : Int) - 1) = (k : Int) - 1 := w64pred (Nat.lt_trans hk2 hbige)
        have q3 : wrap64 (wrap64 (256 * uval ((chunk b e i).drop (k + 1))) + wrap64 (rd b ((e * i + k : Nat) : Int))) = rd b ((e * i + k : Nat) : Int) + 256 * uval ((chunk b e i).drop (k + 1)) := acc_eq _ _ hr1 hu1
        refine succ ?_
        simp only [serinetteref06_Unbytes.l1]
        rw [q0, q1, q2, q3]
        exact pos (Int.natCast_nonneg _) (pos (Int.natCast_nonneg _) (pos (hbk k hk2) h1))
    have hgo := hl1 e (Nat.le_refl _)
    rw [List.drop_of_length_le (Nat.le_of_eq hclen)] at hgo
    refine succ ?_
    simp only [serinetteref06_Unbytes.l0]
    have q4 : wrap64 ((e : Int) - 1) = (e : Int) - 1 := w64pred hbige
    rw [q4]
    exact pos f0 hgo
theorem ref_unb_ev (b : List Int) (hb : ∀ x ∈ b, 0 ≤ x ∧ x < 256) (hl : b.length ≤ 5000) (rate d ch : Int) : Ev (fun k => serinetteref06_Unbytes.f k b rate d ch) (unbV b rate d ch) := by
  have he := eachN_bd d
  unfold serinetteref06_Unbytes.f unbV
  refine bnd (wrong_ev rate d ch) ?_
  by_cases h0 : wrongV rate d ch = 0
  · rw [if_neg (show ¬ (wrongV rate d ch ≠ 0) from fun q => q h0)]
    obtain ⟨hc, hd, hr⟩ := wrongV_0 h0
    obtain ⟨c, rfl⟩ := Int.eq_ofNat_of_zero_le (show 0 ≤ ch by omega)
    refine pos h0 (bnd (cst (ref_each_eq d)) ?_)
    obtain ⟨e, hee⟩ : ∃ e, eachN d = e := ⟨_, rfl⟩
    rw [hee] at he ⊢
    have hec : e * c ≤ 4 * 8 := Nat.mul_le_mul he.2.1 (by omega)
    have hec1 : 1 ≤ e * c := Nat.mul_le_mul he.1 (show 1 ≤ c by omega)
    have g1 : ¬ (((e * c : Nat) : Int) = 0) := by omega
    have g2 : c ≤ 11728124029610 := by omega
    have g4 : 0 < c := by omega
    have e1 : wrap64 ((e : Int) * (c : Int)) = ((e * c : Nat) : Int) := by
      have h : (e : Int) * (c : Int) = ((e * c : Nat) : Int) := (Int.natCast_mul e c).symm
      rw [h]; exact w64n (Nat.lt_of_le_of_lt hec (by decide))
    rw [e1, Int.toNat_natCast]
    refine neg g1 ?_
    by_cases hm : b.length % (e * c) = 0
    · rw [if_neg (show ¬ (b.length % (e * c) ≠ 0) from fun q => q hm)]
      have hdv : e * (b.length / e) = b.length := Nat.mul_div_cancel' (Nat.dvd_trans (Nat.dvd_mul_right e c) (Nat.dvd_of_mod_eq_zero hm))
      refine pos (by have h : (b.length : Int) % ((e * c : Nat) : Int) = ((b.length % (e * c) : Nat) : Int) := rfl; rw [h, hm]; rfl) (pos (Int.natCast_nonneg _) (pos g2 ?_))
      have h := ref_unb_l0 b hb hl d e c ⟨he.1, he.2.1⟩ g4 rate (b.length / e) hdv (b.length / e) 0 (List.replicate c []) (Nat.zero_add _) (by simp) (fun x hx => by rw [(List.mem_replicate.1 hx).2]; exact Nat.zero_le _)
      exact h
    · rw [if_pos hm]
      refine neg (fun q => hm ?_) (now _)
      have h : (b.length : Int) % ((e * c : Nat) : Int) = ((b.length % (e * c) : Nat) : Int) := rfl
      rw [h] at q
      exact Int.ofNat_inj.1 q
  · rw [if_pos (show wrongV rate d ch ≠ 0 from h0)]
    exact neg h0 (now _)
end Go.Proofs.Ytfjefocjplljcaa.PL
