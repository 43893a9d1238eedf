/- A number's bytes, the lowest first, and bytes' number: plain, and what pcm.sample and the document's Sample answer. Condition: up to four bytes. -/
import Derived.Test.YtfjefocjplljcaaPPcmCheck
import Derived.Test.YtfjefocjplljcaaPAx8
import Derived.Test.YtfjefocjplljcaaPAx12
namespace Go.Proofs.Ytfjefocjplljcaa.PL
open Go Go.RowKit Go.Proofs.Ytfjefocjplljcaa.PA Go.Proofs.YtfjefocjplljcaaW.PrintWords Go.Proofs.YtfjefocjplljcaaW.PrintLast Go.Proofs.YtfjefocjplljcaaW.PrintMore
set_option linter.unusedVariables false
set_option linter.unusedSimpArgs false
/-- The bytes' number, not below 0. -/
def uval : List Int → Int
  | [] => 0
  | x :: t => x + 256 * uval t
/-- The bytes' number. -/
def sval (c : List Int) : Int := if 2 * uval c < 256 ^ c.length then uval c else uval c - 256 ^ c.length
theorem p256 (k : Nat) : (0 : Int) < 256 ^ k := Int.pow_pos (by decide)
theorem uval_bd : ∀ (c : List Int), (∀ x ∈ c, 0 ≤ x ∧ x < 256) → 0 ≤ uval c ∧ uval c < 256 ^ c.length
  | [], _ => by simp [uval]
  | x :: t, h => by
    have h1 := uval_bd t (fun y hy => h y (List.mem_cons_of_mem _ hy))
    have h2 := h x (by simp)
    simp only [uval, List.length_cons, Int.pow_succ]
    omega
theorem uval_app : ∀ (p t : List Int), uval (p ++ t) = uval p + 256 ^ p.length * uval t
  | [], t => by simp [uval]
  | x :: p, t => by
    have e : (256 : Int) ^ p.length * 256 * uval t = 256 * (256 ^ p.length * uval t) := by rw [Int.mul_comm (256 ^ p.length) 256, Int.mul_assoc]
    simp only [List.cons_append, uval, uval_app p t, List.length_cons, Int.pow_succ, e]
    omega
theorem pcmSh_add (x : Int) : ∀ (a : Nat), pcmSh a (x / 256) = pcmSh (a + 1) x
  | 0 => rfl
  | a + 1 => by
    have h := pcmSh_add x a
    simp only [pcmSh] at h ⊢
    rw [h]
theorem pcmB_cons (e : Nat) (x : Int) : pcmB (e + 1) x = x % 256 :: pcmB e (x / 256) := by
  unfold pcmB
  rw [List.range_succ_eq_map, List.map_cons, List.map_map]
  congr 1
  refine List.map_congr_left fun a _ => ?_
  show pcmSh (a + 1) x % 256 = pcmSh a (x / 256) % 256
  rw [pcmSh_add]
theorem uval_pcmB : ∀ (e : Nat) (x : Int), uval (pcmB e x) = x % 256 ^ e
  | 0, x => by simp [pcmB, uval]
  | e + 1, x => by
    rw [pcmB_cons, uval, uval_pcmB e (x / 256)]
    have h1 := Int.mul_ediv_add_emod x 256
    have h2 := Int.mul_ediv_add_emod (x / 256) (256 ^ e)
    have h3 := Int.emod_nonneg (x / 256) (Int.ne_of_gt (p256 e))
    have h4 := Int.emod_lt_of_pos (x / 256) (p256 e)
    have hp := p256 e
    refine ((Int.ediv_emod_unique (r := x % 256 + 256 * (x / 256 % 256 ^ e)) (q := x / 256 / 256 ^ e) (p256 (e + 1))).2 ⟨?_, ?_, ?_⟩).2.symm
    · have e2 : (256 : Int) ^ (e + 1) * (x / 256 / 256 ^ e) = 256 * (256 ^ e * (x / 256 / 256 ^ e)) := by rw [Int.pow_succ, Int.mul_comm (256 ^ e) 256, Int.mul_assoc]
      rw [e2]; omega
    · omega
    · rw [Int.pow_succ]; omega
theorem pcmB_bd (e : Nat) (x : Int) : ∀ y ∈ pcmB e x, 0 ≤ y ∧ y < 256 := by
  intro y hy
  obtain ⟨k, _, rfl⟩ := List.mem_map.1 hy
  omega
theorem pcmB_uval : ∀ (c : List Int), (∀ x ∈ c, 0 ≤ x ∧ x < 256) → pcmB c.length (uval c) = c
  | [], _ => rfl
  | x :: t, h => by
    have h2 := h x (by simp)
    rw [List.length_cons, pcmB_cons, uval, show (x + 256 * uval t) % 256 = x by omega, show (x + 256 * uval t) / 256 = uval t by omega, pcmB_uval t (fun y hy => h y (List.mem_cons_of_mem _ hy))]
theorem pcmB_mod (e : Nat) (x y : Int) (h : x % 256 ^ e = y % 256 ^ e) : pcmB e x = pcmB e y := by
  have h1 := pcmB_uval (pcmB e x) (pcmB_bd e x)
  have h2 := pcmB_uval (pcmB e y) (pcmB_bd e y)
  rw [uval_pcmB, pcmB_len] at h1 h2
  rw [← h1, ← h2, h]
theorem pcmB_sval (c : List Int) (h : ∀ x ∈ c, 0 ≤ x ∧ x < 256) : pcmB c.length (sval c) = c := by
  refine Eq.trans (pcmB_mod _ _ (uval c) ?_) (pcmB_uval c h)
  unfold sval
  split
  · rfl
  · exact Int.sub_emod_right _ _
theorem sval_pcmB (e : Nat) (x : Int) (h : -(256 ^ e) ≤ 2 * x ∧ 2 * x < 256 ^ e) : sval (pcmB e x) = x := by
  have hp := p256 e
  unfold sval
  rw [uval_pcmB, pcmB_len]
  by_cases h0 : 0 ≤ x
  · have e1 : x % 256 ^ e = x := Int.emod_eq_of_lt h0 (by omega)
    rw [e1, if_pos h.2]
  · have e1 : x % 256 ^ e = x + 256 ^ e := by
      rw [← Int.add_emod_right]
      exact Int.emod_eq_of_lt (by omega) (by omega)
    rw [e1, if_neg (by omega)]
    omega
theorem p256le {e : Nat} (he : e ≤ 4) : (256 : Int) ^ e ≤ 4294967296 := by
  rcases (show e = 0 ∨ e = 1 ∨ e = 2 ∨ e = 3 ∨ e = 4 by omega) with rfl | rfl | rfl | rfl | rfl <;> decide
theorem p256_two (k : Nat) : (256 : Int) ^ k = 2 ^ (8 * k) := by rw [Int.pow_mul]; rfl
theorem or_comm_ (a b : Int) (ha : 0 ≤ a ∧ a < 2 ^ 63) (hb : 0 ≤ b ∧ b < 2 ^ 63) : Go.bits .or .i64 a b = Go.bits .or .i64 b a := by
  obtain ⟨x, rfl⟩ := Int.eq_ofNat_of_zero_le ha.1
  obtain ⟨y, rfl⟩ := Int.eq_ofNat_of_zero_le hb.1
  have hx : x < 2 ^ 63 := by exact_mod_cast ha.2
  have hy : y < 2 ^ 63 := by exact_mod_cast hb.2
  have hw : ∀ n : Int, 0 ≤ n → n < 2 ^ 63 → IntKind.i64.wrap n = n := fun n h0 h1 => (i64_w n).trans (w64 (by omega) (by exact h1))
  rw [(bits_nat .i64 63 (by decide) hw x y hx hy).2, (bits_nat .i64 63 (by decide) hw y x hy hx).2, Nat.or_comm]
theorem or_low (lo x : Int) (i : Nat) (hi : i ≤ 3) (hl : 0 ≤ lo ∧ lo < 256 ^ i) (hx : 0 ≤ x ∧ x < 256) : Go.bits .or .i64 lo (shl .i64 (wrap64 x) (wrap64 (8 * (i : Int)))) = lo + 256 ^ i * x := by
  have hp := p256 i
  have hp4 : (256 : Int) ^ i ≤ 16777216 := by
    rcases (show i = 0 ∨ i = 1 ∨ i = 2 ∨ i = 3 by omega) with rfl | rfl | rfl | rfl <;> decide
  have hm0 : 0 ≤ x * 256 ^ i := Int.mul_nonneg hx.1 (Int.le_of_lt hp)
  have hm1 : x * 256 ^ i < 4294967296 := by
    have h1 : x * 256 ^ i ≤ x * 16777216 := Int.mul_le_mul_of_nonneg_left hp4 hx.1
    omega
  have e1 : shl .i64 (wrap64 x) (wrap64 (8 * (i : Int))) = x * 256 ^ i := by
    unfold shl
    rw [w64 (x := x) (by omega) (by omega), w64 (x := 8 * (i : Int)) (by omega) (by omega), show (8 * (i : Int)).toNat = 8 * i by omega, show min (8 * i) IntKind.i64.bits = 8 * i by simp [IntKind.bits]; omega, ← p256_two]
    exact (i64_w _).trans (w64 (by omega) (by omega))
  have hw : ∀ n : Int, 0 ≤ n → n < 2 ^ 63 → IntKind.i64.wrap n = n := fun n h0 h1 => (i64_w n).trans (w64 (by omega) (by exact h1))
  have h63 : (2 : Int) ^ 63 = 9223372036854775808 := by decide
  rw [e1, or_comm_ _ _ ⟨hl.1, by omega⟩ ⟨hm0, by omega⟩, bits_join .i64 63 (by decide) hw (8 * i) (x * 256 ^ i) lo hm0 (by rw [p256_two]; exact Int.mul_emod_left _ _) (by omega) hl.1 (by rw [← p256_two]; exact hl.2) (by omega), Int.mul_comm x]
  exact Int.add_comm _ _
theorem sample_end (e : Nat) (h1 : 1 ≤ e) (h4 : e ≤ 4) (u : Int) (hu : 0 ≤ u ∧ u < 256 ^ e) : shr .i64 (shl .i64 u ((64 - 8 * e : Nat) : Int)) ((64 - 8 * e : Nat) : Int) = if 2 * u < 256 ^ e then u else u - 256 ^ e := by
  unfold shr shl
  rw [Int.toNat_natCast, show min (64 - 8 * e) IntKind.i64.bits = 64 - 8 * e by simp [IntKind.bits], i64_w]
  unfold wrap64
  rcases (show e = 1 ∨ e = 2 ∨ e = 3 ∨ e = 4 by omega) with rfl | rfl | rfl | rfl
  · simp only [Nat.reduceMul, Nat.reduceSub, Int.reducePow] at hu ⊢
    split <;> omega
  · simp only [Nat.reduceMul, Nat.reduceSub, Int.reducePow] at hu ⊢
    split <;> omega
  · simp only [Nat.reduceMul, Nat.reduceSub, Int.reducePow] at hu ⊢
    split <;> omega
  · simp only [Nat.reduceMul, Nat.reduceSub, Int.reducePow] at hu ⊢
    split <;> omega
theorem sample_ev (c : List Int) (h1 : 1 ≤ c.length) (h4 : c.length ≤ 4) (hb : ∀ x ∈ c, 0 ≤ x ∧ x < 256) : Ev (fun k => pcm_sample.f k c) (sval c) := by
  have key : ∀ (t p : List Int), c = p ++ t → Ev (fun k => pcm_sample.l0 k c (uval p) c (c.length : Int) (p.length : Int)) (sval c) := by
    intro t
    induction t with
    | nil =>
      intro p hp
      rw [List.append_nil] at hp
      subst hp
      have e1 : wrap64 (64 - wrap64 (8 * (c.length : Int))) = ((64 - 8 * c.length : Nat) : Int) := by rw [w64 (x := 8 * (c.length : Int)) (by omega) (by omega), w64 (by omega) (by omega)]; omega
      refine succ ?_
      simp only [pcm_sample.l0]
      rw [e1, sample_end c.length h1 h4 _ (uval_bd c hb)]
      exact neg (Int.lt_irrefl _) (pos (Int.natCast_nonneg _) (now _))
    | cons x t ih =>
      intro p hp
      have hl : c.length = p.length + t.length + 1 := by rw [hp]; simp; omega
      have rx : rd c (p.length : Int) = x := by rw [hp]; exact rd_at _ _ _
      have e2 : wrap64 ((p.length : Int) + 1) = ((p.length + 1 : Nat) : Int) := by rw [w64 (by omega) (by omega)]; omega
      have hx := hb x (by rw [hp]; simp)
      have hpb := uval_bd p (fun y hy => hb y (by rw [hp]; simp [hy]))
      have eu : uval (p ++ [x]) = uval p + 256 ^ p.length * x := by rw [uval_app]; simp [uval]
      have h := ih (p ++ [x]) (by rw [hp]; simp)
      rw [eu, List.length_append, List.length_singleton] at h
      refine succ ?_
      simp only [pcm_sample.l0]
      rw [rx, e2, or_low _ _ _ (by omega) hpb hx]
      refine pos (Int.ofNat_lt.2 (by omega)) (pos (Int.natCast_nonneg _) (pos (Int.ofNat_lt.2 (by omega)) (pos ?_ h)))
      rw [w64 (by omega) (by omega)]; omega
  exact key c [] rfl
theorem refSample_pos (e : Nat) (h4 : e ≤ 4) : ∀ (d j : Nat) (n n0 : Int), j + d = e → n = pcmSh j n0 → 0 ≤ n → n < 8589934592 → Ev (fun k => serinetteref06_Sample.l0 k n (e : Int) (pcmB j n0) (j : Int)) (pcmB e n0) := by
  intro d
  induction d with
  | zero =>
    intro j n n0 hj hn h0 hx
    obtain rfl : j = e := by omega
    refine succ ?_
    simp only [serinetteref06_Sample.l0]
    exact neg (Int.lt_irrefl _) (now _)
  | succ d ih =>
    intro j n n0 hj hn h0 hx
    have e2 : wrap64 ((j : Int) + 1) = ((j + 1 : Nat) : Int) := by rw [w64 (by omega) (by omega)]; omega
    have e3 : wrap64 (Int.tdiv n 256) = n / 256 := by rw [Int.tdiv_eq_ediv_of_nonneg h0]; exact w64 (by omega) (by omega)
    have e4 : Int.tmod n 256 % 256 = pcmSh j n0 % 256 := by rw [Int.tmod_eq_emod_of_nonneg h0, Int.emod_emod, hn]
    have h := ih (j + 1) (n / 256) n0 (by omega) (by rw [hn]; rfl) (by omega) (by omega)
    rw [pcmB_succ] at h
    refine succ ?_
    simp only [serinetteref06_Sample.l0]
    rw [e2, e3, e4]
    exact pos (Int.ofNat_lt.2 (by omega)) (pos (by rw [pcmB_len]; omega) h)
theorem refSample_ev (e : Nat) (h4 : e ≤ 4) (x : Int) (h : -(256 ^ e) ≤ 2 * x ∧ 2 * x < 256 ^ e) : Ev (fun k => serinetteref06_Sample.f k x (e : Int)) (pcmB e x) := by
  have hp := p256 e
  have hp4 := p256le h4
  unfold serinetteref06_Sample.f
  have e8 : wrap64 (8 * (e : Int)) = ((8 * e : Nat) : Int) := by rw [w64 (by omega) (by omega)]; omega
  have hpw := power6_ev (8 * e) (by omega)
  rw [← p256_two] at hpw
  rw [e8]
  refine bnd hpw ?_
  by_cases h0 : x < 0
  · rw [w64 (x := x + 256 ^ e) (by omega) (by omega)]
    have h1 := refSample_pos e h4 e 0 (x + 256 ^ e) (x + 256 ^ e) (by omega) rfl (by omega) (by omega)
    have e9 : pcmB e (x + 256 ^ e) = pcmB e x := pcmB_mod e _ _ (Int.add_emod_right _ _)
    rw [e9] at h1
    refine pos h0 (succ ?_)
    simp only [serinetteref06_Sample.j0]
    exact h1
  · refine neg h0 (succ ?_)
    simp only [serinetteref06_Sample.j0]
    exact refSample_pos e h4 e 0 x x (by omega) rfl (by omega) (by omega)
end Go.Proofs.Ytfjefocjplljcaa.PL
