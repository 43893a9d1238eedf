/- PartsSame: numbers that are all 0 have one part, of a bit each; so many of them have as many bits more. For every input (the law's own guards are in it). -/
import Derived.Test.YtpoigjkkcehpdaaPAx24
import Derived.Test.YtpoigjkkcehpdaaP14Awake
import Derived.Test.YtpoigjkkcehpdaaP14Model
import Derived.Test.YtpoigjkkcehpdaaP14Same
namespace Go.Proofs.Ytpoigjkkcehpdaa.Pure
open Go.RowKit Go.Proofs.Ytpoigjkkcehpdaa.PA Go.Proofs.YtpoigjkkcehpdaaW.PrintWords Go.Proofs.YtpoigjkkcehpdaaW.PrintLast Go.Proofs.YtpoigjkkcehpdaaW.PrintMore Go.Proofs.Ytpoigjkkcehpdaa.PL
theorem tmod_in {x : Int} (h : 0 ≤ x) (m : Int) (hm : 0 < m) (hm2 : m < 100000) : wrap64 (Int.tmod x m) = x % m := by
  have h1 := Int.emod_nonneg x (show m ≠ 0 by omega)
  have h2 := Int.emod_lt_of_pos x hm
  rw [Int.tmod_eq_emod_of_nonneg h, w64 (by omega) (by omega)]
theorem near_zeros (n : Nat) : NearAll (List.replicate n 0) := fun x hx => by
  rw [(List.mem_replicate.1 hx).2]
  unfold IsNear
  omega
theorem sz_zero (k : Nat) : sz 0 k = 1 + k := by
  unfold sz
  have : fold 0 = 0 := by decide
  rw [this, Int.zero_ediv]
  omega
theorem bits_zeros (k : Nat) : ∀ n, bitsL k (List.replicate n 0) = (1 + (k : Int)) * n
  | 0 => by simp [bitsL]
  | n + 1 => by
    rw [List.replicate_succ, bitsL, bits_zeros k n, sz_zero, Int.natCast_succ, Int.mul_add, Int.mul_one]
    omega
theorem wid_zeros (n : Nat) : wid (List.replicate n 0) = 0 :=
  wid_eq (near_zeros n) (fun x hx => .inl (List.mem_replicate.1 hx).2) (fun v hv => by omega)
theorem best_zeros (n m : Nat) : bestL (List.replicate n 0) m = if 5 < n then (0, true, 5, 0) else (0, false, (n : Int), 0) := by
  have ha : amin (fun k => bitsL k (List.replicate n 0)) m = 0 := by
    have := amin_stay (fun k => bitsL k (List.replicate n 0)) 0 m (fun i h1 h2 => by
      simp only [amin]
      rw [bits_zeros, bits_zeros]
      exact Int.mul_le_mul_of_nonneg_right (by omega) (by omega))
    rw [Nat.zero_add] at this
    rw [this]
    rfl
  unfold bestL rawL
  rw [ha, wid_zeros, bits_zeros]
  simp only [List.length_replicate]
  by_cases h : 5 < n
  · rw [if_pos ⟨by omega, by omega⟩, if_pos h]
    simp
  · rw [if_neg (by omega), if_neg h]
    simp
def w5 (n : Nat) : Int := if 5 < n then 5 else n
theorem bestN_zeros (n m : Nat) : bestN (List.replicate n 0) m = w5 n := by
  unfold bestN w5
  rw [best_zeros]
  split <;> rfl
theorem w5_bd (n : Nat) : 0 ≤ w5 n ∧ w5 n ≤ 5 ∧ w5 n ≤ n := by unfold w5; split <;> omega
/-- More parts have no fewer bits. -/
theorem plan_zeros (w : Bool) : ∀ (cs : List Int) (n : Nat), Fits cs n → (n : Int) = cs.foldr (· + ·) 0 → cs ≠ [] → 4 + w5 n ≤ planN w (split cs (List.replicate n 0))
  | [], _, _, _, h => absurd rfl h
  | [c], n, hf, hs, _ => by
    simp only [List.foldr] at hs
    obtain ⟨h0, h1, _⟩ := hf
    have e : (List.replicate n (0 : Int)).take c.toNat = List.replicate n 0 := List.take_of_length_le (by simp; omega)
    simp only [split, planN]
    rw [e, bestN_zeros]
    have := sizeOf_bd w
    omega
  | c :: d :: cs, n, hf, hs, _ => by
    obtain ⟨h0, h1, h2⟩ := hf
    have ih := plan_zeros w (d :: cs) (n - c.toNat) h2 (by simp only [List.foldr] at hs ⊢; omega) (by simp)
    have e1 : (List.replicate n (0 : Int)).take c.toNat = List.replicate c.toNat 0 := by rw [List.take_replicate]; congr 1; omega
    have e2 : (List.replicate n (0 : Int)).drop c.toNat = List.replicate (n - c.toNat) 0 := by rw [List.drop_replicate]
    show 4 + w5 n ≤ sizeOf_ w + bestN ((List.replicate n (0 : Int)).take c.toNat) (mostOf w) + planN w (split (d :: cs) ((List.replicate n (0 : Int)).drop c.toNat))
    rw [e1, e2, bestN_zeros]
    have hz := sizeOf_bd w
    have ha : w5 n ≤ w5 c.toNat + w5 (n - c.toNat) := by unfold w5; split <;> split <;> split <;> omega
    omega
theorem foldr_rep (s : Int) : ∀ m : Nat, (List.replicate m s).foldr (· + ·) 0 = s * m
  | 0 => by simp
  | m + 1 => by rw [List.replicate_succ, List.foldr, foldr_rep s m, Int.natCast_succ, Int.mul_add, Int.mul_one]; omega
theorem cuts_sum {n order : Int} {o : Nat} (h : cutsP n order o ≠ []) : n = (cutsP n order o).foldr (· + ·) 0 := by
  unfold cutsP at h ⊢
  split at h
  · rename_i hc
    rw [if_pos hc, List.foldr, foldr_rep]
    have h3 : ((2 ^ o : Nat) : Int) = (2 : Int) ^ o := by simp
    have hp : 0 < 2 ^ o := Nat.pow_pos (by decide)
    have hme := Int.mul_ediv_add_emod (n + order) (2 ^ o)
    obtain ⟨s, hs⟩ : ∃ s, (n + order) / 2 ^ o = s := ⟨_, rfl⟩
    rw [hs] at hme hc ⊢
    have e : s * ((2 ^ o - 1 : Nat) : Int) = 2 ^ o * s - s := by
      rw [show ((2 ^ o - 1 : Nat) : Int) = 2 ^ o - 1 by omega, Int.mul_sub, Int.mul_one, Int.mul_comm]
    rw [e]
    omega
  · exact absurd rfl h
theorem one_part {l : List Int} (h0 : l.length ≠ 0) (order : Int) : partsP l order 0 = [l] := by
  unfold partsP
  rw [cutsP_0 (by omega)]
  simp [split]
theorem PartsSame : serinettelaw14_PartsSame.Pure := by
  intro a0 a1 a2 a3 w0 w1 w2
  refine Ev.rounds ?_
  unfold serinettelaw14_PartsSame.f
  have g0 := wfu8 w0
  have g1 := wfu8 w1
  have g2 := wfu8 w2
  rw [tmod_in g0.1 80 (by decide) (by decide), tmod_in g1.1 33 (by decide) (by decide), tmod_in g2.1 9 (by decide) (by decide)]
  obtain ⟨n, hn⟩ : ∃ n : Nat, 1 + a0 % 80 = (n : Int) := ⟨(1 + a0 % 80).toNat, by omega⟩
  obtain ⟨order, hord⟩ : ∃ x, a1 % 33 = x := ⟨_, rfl⟩
  obtain ⟨m, hm⟩ : ∃ m : Nat, a2 % 9 = (m : Int) := ⟨(a2 % 9).toNat, by omega⟩
  rw [hn, hord, hm]
  have bn : 1 ≤ n ∧ n ≤ 80 := by omega
  have bo : 0 ≤ order ∧ order ≤ 32 := by omega
  have b8 : m ≤ 8 := by omega
  clear hn hord hm g0 g1 g2 w0 w1 w2
  rw [w64 (x := (n : Int)) (by omega) (by omega), Int.toNat_natCast]
  refine bnd awake_ev (pos (by omega) (pos (by omega) ?_))
  obtain ⟨l, hl⟩ : ∃ l, List.replicate n (0 : Int) = l := ⟨_, rfl⟩
  have hlen : l.length = n := by rw [← hl]; simp
  have hnear : NearAll l := by rw [← hl]; exact near_zeros n
  have hf : parts_Best.f l order (m : Int) a3 = _ := best_f hnear (by omega) (by omega) bo.1 bo.2 b8 a3
  have hne := topO_ne (order := order) (show (0 : Int) < (l.length : Int) by omega) m
  have hle := topO_le (l.length : Int) order m
  generalize topO (l.length : Int) order m = o at hf hne hle
  have hplan : ∀ (w : Bool) (j : Nat), j ≤ o → 10 + w5 n ≤ planL l order w j := by
    intro w j hj
    have hc := cuts_below (by omega) bo.1 hne j hj
    have h1 := plan_zeros w (cutsP (l.length : Int) order j) n (by have := fits_cuts l.length order bo.1 j; rw [hlen] at this ⊢; exact this) (by have := cuts_sum hc; rw [hlen] at this ⊢; exact this) hc
    rw [hl] at h1
    unfold planL partsP
    omega
  have hone : ∀ w, planL l order w 0 = 6 + (sizeOf_ w + w5 n) := by
    intro w
    unfold planL
    rw [one_part (by omega), ← hl]
    simp only [planN]
    rw [bestN_zeros]
    omega
  have hmin : amin (planL l order false) o = 0 := by
    have := amin_stay (planL l order false) 0 o (fun i h1 h2 => by
      have h3 := hplan false i (by omega)
      have h4 := hone false
      have : sizeOf_ false = 4 := rfl
      show planL l order false 0 ≤ planL l order false i
      omega)
    rw [Nat.zero_add] at this
    rw [this]
    rfl
  have hb : bestPlan l order o a3 = curL l order false 0 := by
    unfold bestPlan
    rw [hmin, if_neg]
    intro hc
    have h3 := hplan true _ (amin_le (planL l order true) o)
    have h4 := hone false
    have : sizeOf_ false = 4 := rfl
    omega
  rw [hb] at hf
  have hn0 : (curL l order false 0).n = 10 + w5 n := by
    show planL l order false 0 = _
    rw [hone]
    have : sizeOf_ false = 4 := rfl
    omega
  have hps : (curL l order false 0).ps = [⟨0, decide (5 < n)⟩] := by
    show planPs l order false 0 = _
    unfold planPs
    rw [one_part (by omega), ← hl]
    simp only [List.map_cons, List.map_nil]
    unfold partL
    rw [best_zeros]
    by_cases h5 : 5 < n
    · rw [if_pos h5]; simp [h5]
    · rw [if_neg h5]; simp [h5]
  have hf0 : (curL l order false 0).f = false := rfl
  have ho0 : (curL l order false 0).o = 0 := rfl
  rw [hl, hf, hn0, hps, hf0, ho0]
  simp only [Option.bind_some]
  by_cases h5 : (n : Int) > 5
  · refine pos h5 (pos (by simp) (pos trivial (pos trivial (pos (by unfold w5; rw [if_pos (by omega)]; rfl) ?_))))
    have e : (([(⟨0, false⟩ : S39)] : List S39).set (0 : Int).toNat (⟨(rd_T39 [(⟨0, false⟩ : S39)] 0).f0, true⟩ : S39)) = [⟨0, decide (5 < n)⟩] := by
      rw [decide_eq_true (by omega)]
      rfl
    rw [e]
    exact bnd (same_ev false 0 _ (by simp)) (now true)
  · refine neg h5 (pos trivial (pos trivial (pos ?_ ?_)))
    · unfold w5; rw [if_neg (by omega), w64 (by omega) (by omega)]
    · rw [decide_eq_false (by omega)]
      exact bnd (same_ev false 0 _ (by simp)) (now true)
end Go.Proofs.Ytpoigjkkcehpdaa.Pure
