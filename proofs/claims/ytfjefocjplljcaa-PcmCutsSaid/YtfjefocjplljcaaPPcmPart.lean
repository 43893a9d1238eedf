/- A part of a sound, and two that are joined, as pcm and the document answer them. Condition: up to ten channels, up to a thousand samples each. -/
import Derived.Test.YtfjefocjplljcaaPPcmSix
import Derived.Test.YtfjefocjplljcaaPAx17
import Derived.Test.YtfjefocjplljcaaPAx18
import Derived.Test.YtfjefocjplljcaaPAx19
import Derived.Test.YtfjefocjplljcaaPAx20
namespace Go.Proofs.Ytfjefocjplljcaa.PL
open Go Go.RowKit Go.Proofs.Ytfjefocjplljcaa.PA Go.Proofs.YtfjefocjplljcaaW.PrintWords Go.Proofs.YtfjefocjplljcaaW.PrintLast Go.Proofs.YtfjefocjplljcaaW.PrintMore
set_option linter.unusedSimpArgs false
set_option linter.unusedVariables false
/-- Two that are joined. -/
def joinV (a b : Int) (l : List (List Int)) (a2 b2 : Int) (l2 : List (List Int)) : Int × Int × List (List Int) × Int :=
  if l.length ≠ l2.length then (0, 0, [], 12) else if b ≠ b2 then (0, 0, [], 10) else if a ≠ a2 then (0, 0, [], 11) else (a, b, List.zipWith (· ++ ·) l l2, 0)
theorem zip_take (l l2 : List (List Int)) {i : Nat} (h1 : i < l.length) (h2 : i < l2.length) : (List.zipWith (· ++ ·) l l2).take (i + 1) = (List.zipWith (· ++ ·) l l2).take i ++ [rd_L1 l (i : Int) ++ rd_L1 l2 (i : Int)] := by
  have h : i < (List.zipWith (· ++ ·) l l2).length := by rw [List.length_zipWith]; omega
  rw [List.take_succ_eq_append_getElem h, rdL1_at l h1, rdL1_at l2 h2, List.getElem_zipWith]
theorem concat_two (r1 r2 : List Int) (h1 : r1.length ≤ 1000) (h2 : r2.length ≤ 1000) : slices_Concat_int_int.f [r1, r2] = some (r1 ++ r2) := by
  unfold slices_Concat_int_int.f
  rw [if_pos ⟨by simp; omega, by simp⟩]
  simp
theorem join_l0 (a2 b2 : Int) (l l2 : List (List Int)) (hl : l.length = l2.length) (hl10 : l.length ≤ 10) (h1 : ∀ c ∈ l, c.length ≤ 1000) (h2 : ∀ c ∈ l2, c.length ≤ 1000) (a b : Int) : ∀ (d i : Nat), i + d = l.length →
    Ev (fun k => pcm_Join.l0 k l (l.length : Int) (i : Int) a2 b2 l2 a b ((List.zipWith (· ++ ·) l l2).take i)) (a, b, List.zipWith (· ++ ·) l l2, 0) := by
  intro d
  induction d with
  | zero =>
    intro i hi
    obtain rfl : i = l.length := by omega
    refine succ ?_
    simp only [pcm_Join.l0]
    rw [List.take_of_length_le (show (List.zipWith (· ++ ·) l l2).length ≤ l.length by rw [List.length_zipWith]; omega)]
    exact neg (Int.lt_irrefl _) (now _)
  | succ d ih =>
    intro i hi
    have hil : i < l.length := by omega
    have hil2 : i < l2.length := by omega
    have f5 : i + 1 + d = l.length := by omega
    have f6 : ((List.zipWith (· ++ ·) l l2).take i).length < 5864062014805 := by rw [List.length_take, List.length_zipWith]; omega
    have hi62 : i + 1 < 4611686018427387904 := by omega
    have hc := concat_two _ _ (h1 _ (rdL1_mem l hil)) (h2 _ (rdL1_mem l2 hil2))
    have h := ih (i + 1) f5
    rw [zip_take l l2 hil hil2] at h
    have e1 : wrap64 ((i : Int) + 1) = ((i + 1 : Nat) : Int) := w64n hi62
    refine succ ?_
    simp only [pcm_Join.l0]
    rw [e1]
    exact pos (Int.ofNat_lt.2 hil) (pos (Int.natCast_nonneg _) (pos (Int.ofNat_lt.2 hil) (pos (Int.ofNat_lt.2 hil2) (bnd (cst hc) (pos f6 h)))))
theorem join_ev (a b : Int) (l : List (List Int)) (a2 b2 : Int) (l2 : List (List Int)) (hl10 : l.length ≤ 10) (h1 : ∀ c ∈ l, c.length ≤ 1000) (h2 : ∀ c ∈ l2, c.length ≤ 1000) : Ev (fun k => pcm_Join.f k a b l a2 b2 l2) (joinV a b l a2 b2 l2) := by
  unfold pcm_Join.f joinV
  by_cases hl : l.length = l2.length
  · rw [if_neg (fun q => q hl)]
    refine pos (by rw [hl]) ?_
    by_cases hb : b = b2
    · rw [if_neg (fun q => q hb)]
      refine pos hb ?_
      by_cases ha : a = a2
      · rw [if_neg (fun q => q ha)]
        exact pos ha (join_l0 a2 b2 l l2 hl hl10 h1 h2 a b l.length 0 (by omega))
      · rw [if_pos ha]; exact neg ha (now _)
    · rw [if_pos hb]; exact neg hb (now _)
  · rw [if_pos hl]; exact neg (fun q => hl (Int.ofNat_inj.1 q)) (now _)
theorem refJoin_l0 (a0 b0 a2 b2 : Int) (l l2 : List (List Int)) (hl : l.length = l2.length) (hl10 : l.length ≤ 10) (h1 : ∀ c ∈ l, c.length ≤ 1000) (h2 : ∀ c ∈ l2, c.length ≤ 1000) (a b : Int) : ∀ (d i : Nat), i + d = l.length →
    Ev (fun k => serinetteref06_Join.l0 k (i : Int) a0 b0 l a2 b2 l2 a b ((List.zipWith (· ++ ·) l l2).take i)) (a, b, List.zipWith (· ++ ·) l l2, 0) := by
  intro d
  induction d with
  | zero =>
    intro i hi
    obtain rfl : i = l.length := by omega
    refine succ ?_
    simp only [serinetteref06_Join.l0]
    rw [List.take_of_length_le (show (List.zipWith (· ++ ·) l l2).length ≤ l.length by rw [List.length_zipWith]; omega)]
    exact neg (Int.lt_irrefl _) (now _)
  | succ d ih =>
    intro i hi
    have hil : i < l.length := by omega
    have hil2 : i < l2.length := by omega
    have f5 : i + 1 + d = l.length := by omega
    have f6 : ((List.zipWith (· ++ ·) l l2).take i).length < 5864062014805 := by rw [List.length_take, List.length_zipWith]; omega
    have hi62 : i + 1 < 4611686018427387904 := by omega
    have g1 := h1 _ (rdL1_mem l hil)
    have g2 := h2 _ (rdL1_mem l2 hil2)
    have g3 : ([] : List Int).length + (rd_L1 l (i : Int)).length < 17592186044416 := by simp only [List.length_nil]; omega
    have g4 : (([] : List Int) ++ rd_L1 l (i : Int)).length + (rd_L1 l2 (i : Int)).length < 17592186044416 := by rw [List.nil_append]; omega
    have h := ih (i + 1) f5
    rw [zip_take l l2 hil hil2] at h
    have e1 : wrap64 ((i : Int) + 1) = ((i + 1 : Nat) : Int) := w64n hi62
    refine succ ?_
    simp only [serinetteref06_Join.l0]
    rw [e1]
    exact pos (Int.ofNat_lt.2 hil) (bnd (now _) (pos (Int.natCast_nonneg _) (pos g3 (bnd (now _) (pos (Int.ofNat_lt.2 hil2) (pos g4 (pos f6 h)))))))
theorem refJoin_ev (a b : Int) (l : List (List Int)) (a2 b2 : Int) (l2 : List (List Int)) (hl10 : l.length ≤ 10) (h1 : ∀ c ∈ l, c.length ≤ 1000) (h2 : ∀ c ∈ l2, c.length ≤ 1000) : Ev (fun k => serinetteref06_Join.f k a b l a2 b2 l2) (joinV a b l a2 b2 l2) := by
  unfold serinetteref06_Join.f joinV
  by_cases hl : l.length = l2.length
  · rw [if_neg (fun q => q hl)]
    refine pos (by rw [hl]) ?_
    by_cases hb : b = b2
    · rw [if_neg (fun q => q hb)]
      refine pos hb ?_
      by_cases ha : a = a2
      · rw [if_neg (fun q => q ha)]
        exact pos ha (refJoin_l0 a b a2 b2 l l2 hl hl10 h1 h2 a b l.length 0 (by omega))
      · rw [if_pos ha]; exact neg ha (now _)
    · rw [if_pos hb]; exact neg hb (now _)
  · rw [if_pos hl]; exact neg (fun q => hl (Int.ofNat_inj.1 q)) (now _)
/-- Some of a channel. -/
def rowP (c : List Int) (fr mn : Int) : List Int := (c.drop fr.toNat).take mn.toNat
theorem mx_nat (x : Int) : mx 0 x = (x.toNat : Int) := by unfold mx; split <;> omega
theorem mn_len (x : Int) (n : Nat) : mx 0 (mn x (n : Int)) = ((min x.toNat n : Nat) : Int) := by rw [mx_nat]; unfold mn; split <;> omega
theorem rowP_eq (c : List Int) (fr m : Int) : (c.take (min fr.toNat c.length + min m.toNat (c.length - min fr.toNat c.length))).drop (min fr.toNat c.length) = rowP c fr m := by
  unfold rowP
  rw [List.drop_take, Nat.add_sub_cancel_left]
  by_cases h : fr.toNat ≤ c.length
  · rw [Nat.min_eq_left h]
    by_cases h2 : m.toNat ≤ c.length - fr.toNat
    · rw [Nat.min_eq_left h2]
    · rw [Nat.min_eq_right (by omega), List.take_of_length_le (by rw [List.length_drop]; omega), List.take_of_length_le (by rw [List.length_drop]; omega)]
  · have e : min fr.toNat c.length = c.length := Nat.min_eq_right (by omega)
    rw [e, List.drop_of_length_le (Nat.le_refl c.length), List.drop_of_length_le (show c.length ≤ fr.toNat by omega), List.take_nil, List.take_nil]
theorem clone_eq (c : List Int) (h : c.length < 17592186044416) : slices_Clone_int_int.f c = some c := by
  unfold slices_Clone_int_int.f
  rw [bsome, if_pos (by simp only [List.length_nil]; omega), List.nil_append]
theorem rowP_len (c : List Int) (fr m : Int) : (rowP c fr m).length ≤ c.length := by
  unfold rowP; rw [List.length_take, List.length_drop]; omega
theorem part_l0 (l : List (List Int)) (hl10 : l.length ≤ 10) (h1 : ∀ c ∈ l, c.length ≤ 1000) (a b fr m : Int) : ∀ (d i : Nat), i + d = l.length →
    Ev (fun k => pcm_Part.l0 k fr m l (l.length : Int) (i : Int) a b ((l.take i).map fun c => rowP c fr m)) (a, b, l.map fun c => rowP c fr m) := by
  intro d
  induction d with
  | zero =>
    intro i hi
    obtain rfl : i = l.length := by omega
    refine succ ?_
    simp only [pcm_Part.l0]
    rw [List.take_length]
    exact neg (Int.lt_irrefl _) (now _)
  | succ d ih =>
    intro i hi
    have hil : i < l.length := by omega
    have f5 : i + 1 + d = l.length := by omega
    have f6 : ((l.take i).map fun c => rowP c fr m).length < 5864062014805 := by rw [List.length_map, List.length_take]; omega
    have hi62 : i + 1 < 4611686018427387904 := by omega
    have h := ih (i + 1) f5
    have et : (l.take (i + 1)).map (fun c => rowP c fr m) = (l.take i).map (fun c => rowP c fr m) ++ [rowP (rd_L1 l (i : Int)) fr m] := by
      rw [List.take_succ_eq_append_getElem hil, List.map_append, List.map_singleton, rdL1_at l hil]
    rw [et] at h
    obtain ⟨c, hc⟩ : ∃ c, rd_L1 l (i : Int) = c := ⟨_, rfl⟩
    have g1 := h1 _ (rdL1_mem l hil)
    rw [hc] at h g1
    obtain ⟨A, hA⟩ : ∃ A : Nat, min fr.toNat c.length = A := ⟨_, rfl⟩
    obtain ⟨B, hB⟩ : ∃ B : Nat, min m.toNat (c.length - A) = B := ⟨_, rfl⟩
    have eA : mx 0 (mn fr (c.length : Int)) = (A : Int) := by rw [mn_len, hA]
    have hAl : A ≤ c.length := by omega
    have hBl : A + B ≤ c.length := by omega
    have q1 : ((c.length : Nat) : Int) - (A : Int) = ((c.length - A : Nat) : Int) := by omega
    have hrow := rowP_eq c fr m
    rw [hA, hB] at hrow
    have q2 : (A : Int) ≤ ((A + B : Nat) : Int) := by omega
    have q3 : ((A + B : Nat) : Int) ≤ (c.length : Int) := by omega
    have q4 : (rowP c fr m).length < 17592186044416 := by have := rowP_len c fr m; omega
    have q5 : c.length - A < 4611686018427387904 := by omega
    have q6 : A + B < 4611686018427387904 := by omega
    have eS : wrap64 ((c.length : Int) - (A : Int)) = ((c.length - A : Nat) : Int) := by rw [q1]; exact w64n q5
    have eB : mx 0 (mn m ((c.length - A : Nat) : Int)) = (B : Int) := by rw [mn_len, hB]
    have eAB : wrap64 ((A : Int) + (B : Int)) = ((A + B : Nat) : Int) := w64n q6
    have e1 : wrap64 ((i : Int) + 1) = ((i + 1 : Nat) : Int) := w64n hi62
    refine succ ?_
    simp only [pcm_Part.l0]
    rw [e1, hc, eA, eS, eB, eAB, Int.toNat_natCast, Int.toNat_natCast, hrow]
    exact pos (Int.ofNat_lt.2 hil) (pos (Int.natCast_nonneg _) (pos (Int.ofNat_lt.2 hil) (pos (Int.natCast_nonneg _) (pos q2 (pos q3 (bnd (cst (clone_eq _ q4)) (pos f6 h)))))))
theorem part_ev (a b : Int) (l : List (List Int)) (fr m : Int) (hl10 : l.length ≤ 10) (h1 : ∀ c ∈ l, c.length ≤ 1000) : Ev (fun k => pcm_Part.f k a b l fr m) (a, b, l.map fun c => rowP c fr m) := by
  unfold pcm_Part.f
  exact part_l0 l hl10 h1 a b fr m l.length 0 (by omega)
theorem refPart_l1 (l : List (List Int)) (a0 b0 a b fr m : Int) (out : List (List Int)) (ho : out.length < 5864062014805) (i : Nat) (hil : i < l.length) (c : List Int) (hc : rd_L1 l (i : Int) = c) (hcl : c.length ≤ 1000) (hi62 : i + 1 < 4611686018427387904)
    (r : Int × Int × List (List Int)) (h : Ev (fun k => serinetteref06_Part.l0 k fr m ((i + 1 : Nat) : Int) a0 b0 l a b (out ++ [rowP c fr m])) r) :
    ∀ (d j : Nat), j + d = c.length - fr.toNat → j ≤ m.toNat → Ev (fun k => serinetteref06_Part.l1 k fr m (i : Int) ((c.drop fr.toNat).take j) ((fr.toNat + j : Nat) : Int) a0 b0 l a b out) r := by
  have e1 : wrap64 ((i : Int) + 1) = ((i + 1 : Nat) : Int) := w64n hi62
  have E1 := Aside0.mk e1
  clear e1
  intro d
  induction d with
  | zero =>
    intro j hj hjm
    have er : (c.drop fr.toNat).take j = rowP c fr m := by
      unfold rowP
      rw [List.take_of_length_le (by rw [List.length_drop]; omega), List.take_of_length_le (by rw [List.length_drop]; omega)]
    have g : ¬ (((fr.toNat + j : Nat) : Int) < (c.length : Int)) := by omega
    refine succ ?_
    simp only [serinetteref06_Part.l1]
    rw [hc, er, E1.out]
    exact pos (Int.natCast_nonneg _) (pos (Int.ofNat_lt.2 hil) (neg g (pos ho h)))
  | succ d ih =>
    intro j hj hjm
    have hlt : fr.toNat + j < c.length := by omega
    have hjl : j < (c.drop fr.toNat).length := by rw [List.length_drop]; omega
    have hlen : ((c.drop fr.toNat).take j).length = j := by rw [List.length_take]; omega
    have g2 : ((c.drop fr.toNat).take j).length < 17592186044416 := by omega
    by_cases hm : j < m.toNat
    · have h2 := ih (j + 1) (by omega) (by omega)
      have es : (c.drop fr.toNat).take (j + 1) = (c.drop fr.toNat).take j ++ [rd c ((fr.toNat + j : Nat) : Int)] := by
        rw [List.take_succ_eq_append_getElem hjl, rd_lt (Int.natCast_nonneg _) (Int.ofNat_lt.2 hlt), List.getElem_drop]
        rfl
      rw [es] at h2
      have g3 : (((c.drop fr.toNat).take j).length : Int) < m := by rw [hlen]; omega
      have g4 : fr.toNat + j + 1 < 4611686018427387904 := by omega
      have e2 : wrap64 (((fr.toNat + j : Nat) : Int) + 1) = ((fr.toNat + (j + 1) : Nat) : Int) := w64n (a := fr.toNat + j + 1) g4
      refine succ ?_
      simp only [serinetteref06_Part.l1]
      rw [hc, e2]
      exact pos (Int.natCast_nonneg _) (pos (Int.ofNat_lt.2 hil) (pos (Int.ofNat_lt.2 hlt) (pos g3 (pos (Int.natCast_nonneg _) (pos g2 h2)))))
    · have er : (c.drop fr.toNat).take j = rowP c fr m := by
        unfold rowP
        congr 1
        omega
      have g3 : ¬ ((((c.drop fr.toNat).take j).length : Int) < m) := by rw [hlen]; omega
      rw [er] at g3
      refine succ ?_
      simp only [serinetteref06_Part.l1]
      rw [hc, er, E1.out]
      exact pos (Int.natCast_nonneg _) (pos (Int.ofNat_lt.2 hil) (pos (Int.ofNat_lt.2 hlt) (neg g3 (pos ho h))))
theorem refPart_l0 (l : List (List Int)) (hl10 : l.length ≤ 10) (h1 : ∀ c ∈ l, c.length ≤ 1000) (a0 b0 a b fr m : Int) : ∀ (d i : Nat), i + d = l.length →
    Ev (fun k => serinetteref06_Part.l0 k fr m (i : Int) a0 b0 l a b ((l.take i).map fun c => rowP c fr m)) (a, b, l.map fun c => rowP c fr m) := by
  intro d
  induction d with
  | zero =>
    intro i hi
    obtain rfl : i = l.length := by omega
    refine succ ?_
    simp only [serinetteref06_Part.l0]
    rw [List.take_length]
    exact neg (Int.lt_irrefl _) (now _)
  | succ d ih =>
    intro i hi
    have hil : i < l.length := by omega
    have f5 : i + 1 + d = l.length := by omega
    have f6 : ((l.take i).map fun c => rowP c fr m).length < 5864062014805 := by rw [List.length_map, List.length_take]; omega
    have hi62 : i + 1 < 4611686018427387904 := by omega
    have h := ih (i + 1) f5
    have et : (l.take (i + 1)).map (fun c => rowP c fr m) = (l.take i).map (fun c => rowP c fr m) ++ [rowP (rd_L1 l (i : Int)) fr m] := by
      rw [List.take_succ_eq_append_getElem hil, List.map_append, List.map_singleton, rdL1_at l hil]
    rw [et] at h
    have h2 := refPart_l1 l a0 b0 a b fr m _ f6 i hil _ rfl (h1 _ (rdL1_mem l hil)) hi62 _ h
    refine succ ?_
    simp only [serinetteref06_Part.l0]
    rw [mx_nat]
    refine pos (Int.ofNat_lt.2 hil) ?_
    by_cases hfl : fr.toNat ≤ (rd_L1 l (i : Int)).length
    · exact h2 _ 0 (Nat.zero_add _) (Nat.zero_le _)
    · exact h2 0 0 (by omega) (Nat.zero_le _)
theorem refPart_ev (a b : Int) (l : List (List Int)) (fr m : Int) (hl10 : l.length ≤ 10) (h1 : ∀ c ∈ l, c.length ≤ 1000) : Ev (fun k => serinetteref06_Part.f k a b l fr m) (a, b, l.map fun c => rowP c fr m) := by
  unfold serinetteref06_Part.f
  exact refPart_l0 l hl10 h1 a b a b fr m l.length 0 (by omega)
end Go.Proofs.Ytfjefocjplljcaa.PL
