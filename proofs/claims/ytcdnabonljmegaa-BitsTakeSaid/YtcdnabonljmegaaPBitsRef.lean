/- What the reference of layer 1 answers, as lists of bits. Condition: fewer than 2^46 bits. -/
import Derived.Test.YtcdnabonljmegaaPBitsPut
import Derived.Test.YtcdnabonljmegaaPAx7
import Derived.Test.YtcdnabonljmegaaPAx9
import Derived.Test.YtcdnabonljmegaaPAx5
namespace Go.Proofs.Ytcdnabonljmegaa.PL
open Go Go.RowKit Go.Proofs.Ytcdnabonljmegaa.PA Go.Proofs.YtcdnabonljmegaaW.PrintWords Go.Proofs.YtcdnabonljmegaaW.PrintMore
set_option linter.unusedSimpArgs false
set_option linter.unusedVariables false

theorem digits_l0 : ∀ (j : Nat) (n : Int) (done : List Bool), 0 ≤ n → n < 18446744073709551616 → j + done.length ≤ 64 → Ev (fun k => serinetteref01_Digits.l0 k n (List.replicate j false ++ done) ((j : Int) - 1)) (digs n j ++ done) := by
  intro j
  induction j with
  | zero =>
    intro n done h0 h1 hl
    refine succ ?_
    simp only [serinetteref01_Digits.l0]
    exact neg (by omega) (cst rfl)
  | succ j ih =>
    intro n done h0 h1 hl
    have e1 : (((j + 1 : Nat) : Int) - 1) = (j : Int) := by omega
    refine succ ?_
    simp only [serinetteref01_Digits.l0]
    rw [e1]
    have hlen : ((List.replicate (j + 1) false ++ done).length : Int) = (j : Int) + 1 + done.length := by simp
    refine pos (by omega) (pos (by omega) (pos (by rw [hlen]; omega) ?_))
    have e2 : IntKind.u64.wrap (Int.tdiv n 2) = n / 2 := by
      rw [Int.tdiv_eq_ediv_of_nonneg h0]
      exact wraps_u64' _ (by omega) (by omega)
    have e3 : (Int.tmod n 2 == 1) = decide (n % 2 = 1) := by
      rw [Int.tmod_eq_emod_of_nonneg h0]; rfl
    have e4 : ∀ v : Bool, (List.replicate (j + 1) false ++ done).set (j : Int).toNat v = List.replicate j false ++ (v :: done) := by
      intro v
      rw [Int.toNat_natCast, List.replicate_succ', List.append_assoc, List.set_append]
      simp
    rw [e2, e3, e4, w64 (by omega) (by omega)]
    have := ih (n / 2) (decide (n % 2 = 1) :: done) (by omega) (by omega) (by simp only [List.length_cons]; omega)
    rw [digs, List.append_assoc]
    exact this
theorem digits_ev (n w : Int) (h0 : 0 ≤ n) (h1 : n < 18446744073709551616) : Ev (fun k => serinetteref01_Digits.f k n w) (digs n (hw w)) := by
  unfold serinetteref01_Digits.f serinetteref01_Width.f
  rw [hw_eq]
  simp only [Option.bind_some, Int.toNat_natCast]
  have := hw_le w
  refine pos (by omega) (pos (by omega) ?_)
  rw [w64 (by omega) (by omega)]
  have := digits_l0 (hw w) n [] h0 h1 (by simp; omega)
  simpa using this
theorem number_l0 : ∀ (t p l : List Bool) (i : Int), l = p ++ t → l.length ≤ 64 → i = p.length → Ev (fun k => serinetteref01_Number.l0 k l (num p) i) (num l) := by
  intro t
  induction t with
  | nil =>
    intro p l i hl h64 hi
    refine succ ?_
    simp only [serinetteref01_Number.l0]
    exact neg (by rw [hl, hi]; simp) (cst (by rw [hl, List.append_nil]))
  | cons b t ih =>
    intro p l i hl h64 hi
    have hlen : l.length = p.length + t.length + 1 := by rw [hl]; simp; omega
    refine succ ?_
    simp only [serinetteref01_Number.l0]
    have rb : rdOf false l i = b := by
      unfold rdOf
      rw [hi, hl, Int.toNat_natCast]
      simp
    have hb := num_bd p
    have hp : (2 : Int) ^ p.length ≤ 2 ^ 63 := by
      have : (2 : Nat) ^ p.length ≤ 2 ^ 63 := Nat.pow_le_pow_right (by decide) (by omega)
      exact Int.ofNat_le.2 this |> fun h => by simpa using h
    have h63 : (2 : Int) ^ 63 = 9223372036854775808 := by decide
    have e1 : IntKind.u64.wrap (2 * num p) = 2 * num p := wraps_u64' _ (by omega) (by omega)
    have e2 : IntKind.u64.wrap (2 * num p + 1) = 2 * num p + 1 := wraps_u64' _ (by omega) (by omega)
    have hs := num_snoc p b
    rw [rb, e1, e2, w64 (x := i + 1) (by omega) (by omega)]
    have := ih (p ++ [b]) l (i + 1) (by rw [hl]; simp) h64 (by rw [hi]; simp)
    rw [hs] at this
    refine pos (by rw [hi]; omega) (pos (by omega) ?_)
    cases b with
    | true => exact pos rfl (by simpa using this)
    | false => exact neg (by decide) (by simpa using this)
theorem number_ev (l : List Bool) (h : l.length ≤ 64) : Ev (fun k => serinetteref01_Number.f k l) (num l) := by
  unfold serinetteref01_Number.f
  exact number_l0 l [] l 0 rfl h rfl
theorem bytes_l1 (full : List Bool) (hf : full.length < 70368744177664) : ∀ (d i : Nat) (done rest : List Bool), full = done ++ rest → done.length = 8 * i → rest.length = 8 * d → Ev (fun k => serinetteref01_Bytes.l1 k full (toB done) ((8 * i : Nat) : Int)) (toB full) := by
  intro d
  induction d with
  | zero =>
    intro i done rest hd hl hr
    obtain rfl := List.eq_nil_of_length_eq_zero (by omega : rest.length = 0)
    refine succ ?_
    simp only [serinetteref01_Bytes.l1]
    exact neg (by rw [hd]; simp; omega) (cst (by rw [hd, List.append_nil]))
  | succ d ih =>
    intro i done rest hd hl hr
    have hlen : full.length = 8 * i + 8 * d + 8 := by rw [hd]; simp; omega
    obtain ⟨c, t, rfl, hc⟩ : ∃ c t, rest = c ++ t ∧ c.length = 8 := ⟨rest.take 8, rest.drop 8, (List.take_append_drop _ _).symm, by simp; omega⟩
    have ht : t.length = 8 * d := by simp at hr; omega
    have e8 : wrap64 (((8 * i : Nat) : Int) + 8) = ((8 * (i + 1) : Nat) : Int) := by rw [w64 (by omega) (by omega)]; omega
    refine succ ?_
    simp only [serinetteref01_Bytes.l1]
    rw [e8]
    refine pos (by omega) (pos (by omega) (pos (by omega) (pos (by omega) ?_)))
    rw [Int.toNat_natCast, Int.toNat_natCast]
    have e9 : (full.take (8 * (i + 1))).drop (8 * i) = c := by
      have h1 : (done ++ c).length = 8 * (i + 1) := by simp; omega
      rw [hd, ← List.append_assoc, List.take_left' h1, List.drop_left' hl]
    rw [e9]
    refine bnd (number_ev c (by omega)) (pos (by rw [toB_len]; omega) ?_)
    have hb := num_bd c
    rw [hc] at hb
    have hb2 : num c % 256 = num c := Int.emod_eq_of_lt hb.1 hb.2
    rw [hb2]
    have := ih (i + 1) (done ++ c) t (by rw [hd]; simp) (by simp; omega) ht
    have e10 : toB (done ++ c) = toB done ++ [num c] := by
      rw [toB_app i done c hl]
      have := toB_cons hc []
      rw [List.append_nil, toB_nil] at this
      rw [this]
    rw [e10] at this
    exact this
theorem bytes_l0 : ∀ (d : Nat) (l l0 : List Bool), l0.length < 70368744177600 → l = l0 ++ List.replicate ((8 - l0.length % 8) % 8 - d) false → d ≤ (8 - l0.length % 8) % 8 → Ev (fun k => serinetteref01_Bytes.l0 k l) (toB l0) := by
  intro d
  induction d with
  | zero =>
    intro l l0 hl he hd
    have e : l = fillB l0 := by rw [he]; rfl
    have hlen := fillB_len l0
    rw [← e] at hlen
    refine succ ?_
    simp only [serinetteref01_Bytes.l0]
    refine pos (by omega) ?_
    have := bytes_l1 l (by omega) ((l0.length + 7) / 8) 0 [] l rfl rfl hlen
    rw [← toB_fillB l0, ← e]
    exact this
  | succ d ih =>
    intro l l0 hl he hd
    have hlen : l.length = l0.length + ((8 - l0.length % 8) % 8 - (d + 1)) := by rw [he]; simp
    refine succ ?_
    simp only [serinetteref01_Bytes.l0]
    refine neg (by omega) (pos (by omega) ?_)
    refine ih (l ++ [false]) l0 hl ?_ (by omega)
    rw [he, List.append_assoc]
    congr 1
    rw [← List.replicate_succ']
    congr 1; omega
theorem ref_bytes_ev (l : List Bool) (hl : l.length < 70368744177600) : Ev (fun k => serinetteref01_Bytes.f k l) (toB l) := by
  unfold serinetteref01_Bytes.f
  simp only [Option.bind_some, List.length_nil, List.nil_append]
  refine pos (by omega) ?_
  exact bytes_l0 ((8 - l.length % 8) % 8) l l hl (by simp) (Nat.le_refl _)
theorem same_l0 (a b : List Int) (h : a.length = b.length) (ha : a.length < 1152921504606846976) : ∀ (t p q u : List Int), a = p ++ t → b = q ++ u → p.length = q.length → Ev (fun k => serinetteref01_Same.l0 k a b (p.length : Int)) (decide (t = u)) := by
  intro t
  induction t with
  | nil =>
    intro p q u hp hq hl
    have l1 := congrArg List.length hp
    have l2 := congrArg List.length hq
    simp only [List.length_append, List.length_nil] at l1 l2
    obtain rfl := List.eq_nil_of_length_eq_zero (by omega : u.length = 0)
    refine succ ?_
    simp only [serinetteref01_Same.l0]
    exact neg (by omega) (cst (by simp))
  | cons x t ih =>
    intro p q u hp hq hl
    have l1 := congrArg List.length hp
    have l2 := congrArg List.length hq
    simp only [List.length_append, List.length_cons] at l1 l2
    cases u with
    | nil => simp at l2; omega
    | cons y u =>
      refine succ ?_
      simp only [serinetteref01_Same.l0]
      have ra : rd a (p.length : Int) = x := by rw [hp]; exact rd_at _ _ _
      have rb : rd b (p.length : Int) = y := by rw [hq]; exact rd_at' _ _ _ (by omega)
      simp only [List.length_cons] at l2
      rw [ra, rb, w64 (by omega) (by omega)]
      refine pos (by omega) (pos (by omega) (pos (by omega) ?_))
      by_cases hxy : x = y
      · refine pos hxy ?_
        have := ih (p ++ [x]) (q ++ [y]) u (by simp [hp]) (by simp [hq]) (by simp [hl])
        subst hxy
        simpa using this
      · exact neg hxy (cst (by simp [hxy]))
theorem same_ev (a b : List Int) (ha : a.length < 1152921504606846976) : Ev (fun k => serinetteref01_Same.f k a b) (decide (a = b)) := by
  unfold serinetteref01_Same.f
  by_cases h : a.length = b.length
  · exact pos (by omega) (same_l0 a b h ha a [] [] b rfl rfl rfl)
  · exact neg (by omega) (cst (by simp; intro e; exact h (by rw [e])))
theorem same_refl (a : List Int) (ha : a.length < 1152921504606846976) : Ev (fun k => serinetteref01_Same.f k a a) true := by simpa using same_ev a a ha
end Go.Proofs.Ytcdnabonljmegaa.PL
