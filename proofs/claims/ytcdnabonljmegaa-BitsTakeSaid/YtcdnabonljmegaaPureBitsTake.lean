/- BitsTake: whatever is taken from any bytes, or fills them, each number, and what is left, behind it, and wrong, is as the document says. For every input (the law's own guards are in it). -/
import Derived.Test.YtcdnabonljmegaaPAx24
import Derived.Test.YtcdnabonljmegaaPBitsAwake
import Derived.Test.YtcdnabonljmegaaPBitsRef
import Derived.Test.YtcdnabonljmegaaPBitsRead
namespace Go.Proofs.Ytcdnabonljmegaa.Pure
open Go Go.RowKit Go.Proofs.Ytcdnabonljmegaa.PA Go.Proofs.YtcdnabonljmegaaW.PrintWords Go.Proofs.YtcdnabonljmegaaW.PrintLast Go.Proofs.YtcdnabonljmegaaW.PrintMore Go.Proofs.Ytcdnabonljmegaa.PL
set_option linter.unusedSimpArgs false
set_option linter.unusedVariables false
theorem bsome {α β : Type} (a : α) (f : α → Option β) : (some a).bind f = f a := by
  have h := Option.bind_some a f
  exact h
theorem number_at : ∀ (t p l : List Bool) (i : Int) (fuel : Nat), l = p ++ t → l.length ≤ 64 → i = p.length → t.length < fuel → serinetteref01_Number.l0 fuel l (num p) i = some (num l) := by
  intro t
  induction t with
  | nil =>
    intro p l i fuel hl h64 hi hf
    obtain ⟨k, rfl⟩ : ∃ k, fuel = k + 1 := ⟨fuel - 1, by omega⟩
    simp only [serinetteref01_Number.l0]
    rw [if_neg (by rw [hl, hi]; simp), hl, List.append_nil]
  | cons b t ih =>
    intro p l i fuel hl h64 hi hf
    obtain ⟨k, rfl⟩ : ∃ k, fuel = k + 1 := ⟨fuel - 1, by omega⟩
    have hlen : l.length = p.length + t.length + 1 := by rw [hl]; simp; omega
    simp only [serinetteref01_Number.l0]
    have rb : rdOf false l i = b := by
      unfold rdOf
      rw [hi, hl, Int.toNat_natCast]
      simp
    have hb := num_bd p
    have hp : (2 : Int) ^ p.length ≤ 2 ^ 63 := by
      have : (2 : Nat) ^ p.length ≤ 2 ^ 63 := Nat.pow_le_pow_right (by decide) (by omega)
      exact Int.ofNat_le.2 this |> fun h => by simpa using h
    have h63 : (2 : Int) ^ 63 = 9223372036854775808 := by decide
    have e1 : IntKind.u64.wrap (2 * num p) = 2 * num p := wraps_u64' _ (by omega) (by omega)
    have e2 : IntKind.u64.wrap (2 * num p + 1) = 2 * num p + 1 := wraps_u64' _ (by omega) (by omega)
    have hs := num_snoc p b
    rw [rb, e1, e2, w64 (x := i + 1) (by omega) (by omega)]
    have := ih (p ++ [b]) l (i + 1) k (by rw [hl]; simp) h64 (by rw [hi]; simp) (by simp only [List.length_cons] at hf; omega)
    rw [hs] at this
    rw [if_pos (by rw [hi]; omega), if_pos (by omega)]
    cases b with
    | true => rw [if_pos rfl]; simpa using this
    | false => rw [if_neg (by decide)]; simpa using this
theorem refcut_eq (b : List Int) (p n : Nat) (h : p + n ≤ 8 * b.length) (hn : n ≤ 64) : refcut (bitsOf b) (p : Int) ((p + n : Nat) : Int) = some (num (cutB b p n)) := by
  have hl := bitsOf_len b
  have e : ((bitsOf b).take (p + n)).drop p = cutB b p n := by
    unfold cutB
    rw [List.drop_take, Nat.add_sub_cancel_left]
  unfold refcut
  rw [if_pos ⟨Int.natCast_nonneg _, Int.ofNat_le.2 (Nat.le_add_right _ _), by rw [hl]; exact Int.ofNat_le.2 h⟩, Int.toNat_natCast, Int.toNat_natCast, e]
  have hc := cutB_len h
  exact number_at (cutB b p n) [] (cutB b p n) 0 100 rfl (by omega) rfl (by omega)
theorem refTake_eq (b : List Int) (p : Nat) (fl w : Int) (hbl : b.length < 1099511627776) (hp : p ≤ 8 * b.length) : serinetteref01_Reader_Take.f (bitsOf b) (p : Int) fl w = some (takeR b p fl (hw w)) := by
  have hl := bitsOf_len b
  have h64 := hw_le w
  have e0 : serinetteref01_Width.f w = some ((hw w : Nat) : Int) := by unfold serinetteref01_Width.f; rw [hw_eq]
  unfold serinetteref01_Reader_Take.f
  rw [e0, bsome]
  obtain ⟨n, hn⟩ : ∃ n, hw w = n := ⟨_, rfl⟩
  rw [hn] at h64 ⊢
  have e1 : wrap64 (((bitsOf b).length : Int) - (p : Int)) = ((8 * b.length - p : Nat) : Int) := by rw [hl]; exact wsub hp (by omega)
  have e2 : wrap64 ((p : Int) + (n : Int)) = ((p + n : Nat) : Int) := wadd (by omega)
  have e3 : wrap64 (((p + n : Nat) : Int) - (n : Int)) = (p : Int) := by
    have := wsub (a := p + n) (b := n) (by omega) (by omega)
    rw [this, Nat.add_sub_cancel]
  rw [e1, e2, e3]
  by_cases hfl : fl = 0
  · subst hfl
    rw [if_pos rfl]
    by_cases hs : 8 * b.length < p + n
    · have hgt : ((n : Nat) : Int) > ((8 * b.length - p : Nat) : Int) := Int.ofNat_lt.2 (by omega)
      rw [if_pos hgt]
      unfold takeR; rw [if_neg (by simp), if_pos hs]
    · have hgt : ¬ ((n : Nat) : Int) > ((8 * b.length - p : Nat) : Int) := Int.not_lt.2 (Int.ofNat_le.2 (by omega))
      rw [if_neg hgt, refcut_eq b p n (by omega) h64, bsome]
      unfold takeR; rw [if_neg (by simp), if_neg hs]
  · rw [if_neg hfl]
    unfold takeR; rw [if_pos hfl]
theorem cut_one (b : List Int) (x : Nat) (h : x < 8 * b.length) : cutB b x 1 = [rdOf false (bitsOf b) (x : Int)] := by
  have hl := bitsOf_len b
  have hx : x < (bitsOf b).length := by omega
  unfold cutB rdOf
  rw [Int.toNat_natCast, List.drop_eq_getElem_cons hx, List.getD_eq_getElem?_getD, List.getElem?_eq_getElem hx]
  rfl
theorem fill_l0 (b : List Int) (p : Nat) (hbl : b.length < 1099511627776) : ∀ (g x : Nat), gap x = g → x + g ≤ 8 * b.length →
    Ev (fun k => serinetteref01_Reader_Fill.l0 k (x : Int) (bitsOf b) (p : Int) 0) (if num (cutB b x g) ≠ 0 then ((p : Int), 5) else (((x + g : Nat) : Int), 0)) := by
  have hl := bitsOf_len b
  intro g
  induction g with
  | zero =>
    intro x hg hx
    refine succ ?_
    simp only [serinetteref01_Reader_Fill.l0]
    have hd := gap_dvd x
    rw [hg, Nat.add_zero] at hd
    have e : cutB b x 0 = [] := by unfold cutB; exact List.take_zero
    rw [e, num_nil, if_neg (by simp)]
    exact pos (by rw [tmod8, hd]; rfl) (now _)
  | succ g ih =>
    intro x hg hx
    have hd : x % 8 ≠ 0 := by unfold gap at hg; omega
    have hg1 : gap (x + 1) = g := by unfold gap at hg ⊢; omega
    have e2 : wrap64 ((x : Int) + 1) = ((x + 1 : Nat) : Int) := wsucc (by omega)
    have ec : cutB b x (g + 1) = rdOf false (bitsOf b) (x : Int) :: cutB b (x + 1) g := by
      rw [Nat.add_comm g 1, cutB_add, cut_one b x (by omega)]; rfl
    have en : num (cutB b x (g + 1)) = (if rdOf false (bitsOf b) (x : Int) then 1 else 0) * 2 ^ g + num (cutB b (x + 1) g) := by
      have h1 := num_append [rdOf false (bitsOf b) (x : Int)] (cutB b (x + 1) g)
      rw [List.singleton_append, ← ec, num_one, cutB_len (by omega)] at h1
      exact h1
    have hb := num_bd (cutB b (x + 1) g)
    have hp0 := pow2_pos g
    refine succ ?_
    simp only [serinetteref01_Reader_Fill.l0]
    rw [e2]
    refine neg (by rw [tmod8]; exact fun h => hd (by exact Int.ofNat_inj.1 h)) (pos (Int.natCast_nonneg _) (pos (by rw [hl]; omega) ?_))
    cases hr : rdOf false (bitsOf b) (x : Int) with
    | true =>
      rw [hr, if_pos rfl] at en
      rw [if_pos (by rw [en]; omega)]
      exact pos rfl (now _)
    | false =>
      rw [hr, if_neg (by decide), Int.zero_mul, Int.zero_add] at en
      rw [en, show x + (g + 1) = x + 1 + g by omega]
      exact neg (by decide) (ih (x + 1) hg1 (by omega))
theorem refFill_ev (b : List Int) (p : Nat) (fl : Int) (hbl : b.length < 1099511627776) (hp : p ≤ 8 * b.length) : Ev (fun k => serinetteref01_Reader_Fill.f k (bitsOf b) (p : Int) fl) (fillR b p fl) := by
  unfold serinetteref01_Reader_Fill.f fillR
  by_cases hfl : fl = 0
  · subst hfl
    rw [if_neg (show ¬ ((0 : Int) ≠ 0) from fun h => h rfl)]
    refine pos rfl ?_
    have hg := gap_lt p
    have hd := gap_dvd p
    exact fill_l0 b p hbl (gap p) p rfl (by omega)
  · rw [if_pos hfl]
    exact neg hfl (now _)
theorem refEnd_eq (b : List Int) (p : Nat) (fl : Int) : serinetteref01_Reader_End.f (bitsOf b) (p : Int) fl = some (endR b p fl, (p : Int), fl) := by
  have hl := bitsOf_len b
  unfold serinetteref01_Reader_End.f endR
  by_cases hfl : fl = 0
  · subst hfl
    rw [if_pos rfl, if_pos rfl, hl]
    by_cases h : p < 8 * b.length
    · rw [if_pos (Int.ofNat_lt.2 h), if_pos h]
    · rw [if_neg (fun q => h (Int.ofNat_lt.1 q)), if_neg h]
  · rw [if_neg hfl, if_neg hfl]
theorem bits_l0 (b : List Int) (hb : b.length ≤ 200) (hbd : ∀ x ∈ b, 0 ≤ x ∧ x < 256) : ∀ (t p : List Int), b = p ++ t → Ev (fun k => serinetteref01_Bits.l0 k b (bitsOf p) (p.length : Int)) (bitsOf b) := by
  intro t
  induction t with
  | nil =>
    intro p hp
    rw [List.append_nil] at hp
    subst hp
    refine succ ?_
    simp only [serinetteref01_Bits.l0]
    exact neg (Int.lt_irrefl _) (now _)
  | cons x t ih =>
    intro p hp
    have lb : b.length = p.length + t.length + 1 := by rw [hp]; simp; omega
    have rx : rd b (p.length : Int) = x := by rw [hp]; exact rd_at _ _ _
    have hx := hbd x (by rw [hp]; simp)
    have e2 : wrap64 ((p.length : Int) + 1) = ((p.length + 1 : Nat) : Int) := wsucc (by omega)
    have eu : IntKind.u64.wrap x = x := wraps_u64' _ hx.1 (by omega)
    have h8 : hw 8 = 8 := hw_nat (w := 8) (by omega)
    have hd := digits_ev x 8 hx.1 (by omega)
    rw [h8] at hd
    have ep : bitsOf (p ++ [x]) = bitsOf p ++ digs x 8 := by rw [bitsOf_app, bitsOf_cons]; simp [bitsOf]
    have hlp := bitsOf_len p
    have hn := ih (p ++ [x]) (by rw [hp]; simp)
    rw [ep, List.length_append, List.length_singleton] at hn
    refine succ ?_
    simp only [serinetteref01_Bits.l0]
    rw [rx, eu, e2]
    refine pos (Int.ofNat_lt.2 (by omega)) (pos (Int.natCast_nonneg _) (bnd hd (pos (by rw [hlp, digs_len]; omega) hn)))
theorem bits_ev (b : List Int) (hb : b.length ≤ 200) (hbd : ∀ x ∈ b, 0 ≤ x ∧ x < 256) : Ev (fun k => serinetteref01_Bits.f k b) (bitsOf b) := bits_l0 b hb hbd b [] rfl
theorem takeR_at (b : List Int) (p : Nat) (fl : Int) (n : Nat) (hp : p ≤ 8 * b.length) : ∃ (x : Int) (q : Nat) (f : Int), takeR b p fl n = (x, (q : Int), f) ∧ q ≤ 8 * b.length := by
  unfold takeR
  by_cases h1 : fl ≠ 0
  · rw [if_pos h1]; exact ⟨_, p, _, rfl, hp⟩
  · rw [if_neg h1]
    by_cases h2 : 8 * b.length < p + n
    · rw [if_pos h2]; exact ⟨_, p, _, rfl, hp⟩
    · rw [if_neg h2]; exact ⟨_, p + n, _, rfl, by omega⟩
theorem fillR_at (b : List Int) (p : Nat) (fl : Int) (hp : p ≤ 8 * b.length) : ∃ (q : Nat) (f : Int), fillR b p fl = ((q : Int), f) ∧ q ≤ 8 * b.length := by
  have hg := gap_lt p
  have hd := gap_dvd p
  unfold fillR
  by_cases h1 : fl ≠ 0
  · rw [if_pos h1]; exact ⟨p, _, rfl, hp⟩
  · rw [if_neg h1]
    by_cases h2 : num (cutB b p (gap p)) ≠ 0
    · rw [if_pos h2]; exact ⟨p, _, rfl, hp⟩
    · rw [if_neg h2]; exact ⟨p + gap p, _, rfl, by omega⟩
theorem j3_ev (b W : List Int) (F : List Bool) (i p : Nat) (x fl : Int) (hb : b.length ≤ 200) (hp : p ≤ 8 * b.length) (hi : i < 4611686018427387904)
    (h : Ev (fun k => serinettelaw01_BitsTake.l0 k W F true ((i + 1 : Nat) : Int) b (p : Int) fl (bitsOf b) (p : Int) fl) true) : Ev (fun k => serinettelaw01_BitsTake.j3 k W F true (i : Int) x x b (p : Int) fl (bitsOf b) (p : Int) fl) true := by
  have hbl : b.length < 1099511627776 := by omega
  have hlen := bitsOf_len b
  have hl := left_eq b p fl hbl hp
  have e2 : wrap64 ((i : Int) + 1) = ((i + 1 : Nat) : Int) := wsucc hi
  have e3 : wrap64 (((bitsOf b).length : Int) - (p : Int)) = ((8 * b.length - p : Nat) : Int) := by rw [hlen]; exact wsub hp (by omega)
  have he := end_eq b p fl hbl hp
  have hr := refEnd_eq b p fl
  refine succ ?_
  have X : ∀ k, serinettelaw01_BitsTake.j3 (k+1) W F true (i : Int) x x b (p : Int) fl (bitsOf b) (p : Int) fl = serinettelaw01_BitsTake.l0 k W F true ((i + 1 : Nat) : Int) b (p : Int) fl (bitsOf b) (p : Int) fl := by
    intro k
    have hA : bits_Reader_At.f b (p : Int) fl = some ((p : Int), (p : Int), fl) := rfl
    have hF : bits_Reader_Fail.f b (p : Int) fl = some (fl, (p : Int), fl) := rfl
    have hL : serinetteshadow_LenL.f (bitsOf b) (p : Int) fl = some (((bitsOf b).length : Int), (p : Int), fl) := rfl
    have hK : serinetteshadow_AtK.f (bitsOf b) (p : Int) fl = some ((p : Int), (p : Int), fl) := rfl
    have hE : serinetteshadow_ErrE.f (bitsOf b) (p : Int) fl = some (fl, (p : Int), fl) := rfl
    have hB : ∀ {α β : Type} (a : α) (f : α → Option β), (some a).bind f = f a := fun _ _ => rfl
    rw [serinettelaw01_BitsTake.j3, if_pos rfl, hl, hB, hL, hB, hK, hB, e3, if_pos rfl, hA, hB, hK, hB, if_pos rfl, hF, hB, hE, hB, if_pos rfl, he, hB, hr, hB, if_pos rfl, e2]
  simp only [X]
  exact h
theorem l0_ev (b W : List Int) (F : List Bool) (hb : b.length ≤ 200) (hbd : ∀ x ∈ b, 0 ≤ x ∧ x < 256) (hW : W.length ≤ 60) : ∀ (d i p : Nat) (fl : Int), i + d = W.length → p ≤ 8 * b.length →
    Ev (fun k => serinettelaw01_BitsTake.l0 k W F true (i : Int) b (p : Int) fl (bitsOf b) (p : Int) fl) true := by
  have hbl : b.length < 1099511627776 := by omega
  intro d
  induction d with
  | zero =>
    intro i p fl hi hp
    refine succ ?_
    simp only [serinettelaw01_BitsTake.l0]
    refine neg (by omega) (pos trivial ?_)
    rw [end_eq b p fl hbl hp, bsome, refEnd_eq, bsome]
    exact cst (by rw [beq_self_eq_true])
  | succ d ih =>
    intro i p fl hi hp
    have hiW : (i : Int) < (W.length : Int) := by omega
    have hi62 : i < 4611686018427387904 := by omega
    have hi1 : i + 1 + d = W.length := by omega
    have hj2 : ∀ z : Bool, Ev (fun k => serinettelaw01_BitsTake.j2 k W F true (i : Int) 0 0 z b (p : Int) fl (bitsOf b) (p : Int) fl) true := by
      intro z
      refine succ ?_
      simp only [serinettelaw01_BitsTake.j2]
      cases z with
      | true =>
        refine pos rfl (bnd (fillR_ev b p fl hbl hp hbd) (bnd (refFill_ev b p fl hbl hp) ?_))
        obtain ⟨q, f, e, hq⟩ := fillR_at b p fl hp
        rw [e]
        exact j3_ev b W F i q 0 f hb hq hi62 (ih (i + 1) q f hi1 hq)
      | false =>
        refine neg (by decide) (pos (Int.natCast_nonneg _) (pos hiW (bnd (take_ev b p fl (rd W (i : Int)) hbl hp hbd) (bnd (cst (refTake_eq b p fl _ hbl hp)) ?_))))
        obtain ⟨x, q, f, e, hq⟩ := takeR_at b p fl (hw (rd W (i : Int))) hp
        rw [e]
        exact j3_ev b W F i q x f hb hq hi62 (ih (i + 1) q f hi1 hq)
    refine succ ?_
    simp only [serinettelaw01_BitsTake.l0]
    refine pos hiW ?_
    by_cases hF : (i : Int) < (F.length : Int)
    · exact pos hF (pos (Int.natCast_nonneg _) (hj2 _))
    · exact neg hF (hj2 _)
theorem BitsTake : ∀ (l0 : List Int) (l1 : List Int) (l2 : List Bool), l0.length ≤ maxLen → l0.length * 1 ≤ 140737488351232 → (∀ x ∈ l0, (Lit.int .u8 x).wf = true) → l1.length ≤ maxLen → l1.length * 8 ≤ 140737488351232 → (∀ x ∈ l1, (Lit.int .i64 x).wf = true) → l2.length ≤ maxLen → (∀ x ∈ l2, True) → ∃ k, serinettelaw01_BitsTake.f k l0 l1 l2 = some true := by
  intro b W F h1 h2 hwb h3 h4 hwW h5 h6
  refine Ev.rounds ?_
  unfold serinettelaw01_BitsTake.f
  refine bnd awake_ev ?_
  have skip : Ev (fun k => serinettelaw01_BitsTake.j0 k b W F true true) true := by
    refine succ ?_
    simp only [serinettelaw01_BitsTake.j0]
    exact pos trivial (now _)
  by_cases hl : (b.length : Int) > 200
  · exact pos hl skip
  refine neg hl ?_
  by_cases hl2 : (W.length : Int) > 60
  · rw [decide_eq_true hl2]; exact skip
  rw [decide_eq_false hl2]
  have hb : b.length ≤ 200 := by omega
  have hbd : ∀ x ∈ b, 0 ≤ x ∧ x < 256 := fun x hx => wfu8 (hwb x hx)
  refine succ ?_
  simp only [serinettelaw01_BitsTake.j0]
  refine neg (by simp) ?_
  have eN : serinetteshadow_NewReader.f (bitsOf b) = some (bitsOf b, 0, 0) := rfl
  refine bnd (cst (open_eq b (by omega))) (bnd (bits_ev b hb hbd) (bnd (cst eN) ?_))
  exact l0_ev b W F hb hbd (by omega) W.length 0 0 0 (by omega) (by omega)
end Go.Proofs.Ytcdnabonljmegaa.Pure
