/- The row of the law SectionCuts, for every input that can be read: out of its plain statement and the walk, which stand in these parts, merged; this is the last one, the 7th. No further condition. -/
import Derived.Test.YtokdjeoecnnckaaRows
import Derived.WalkKit
import Derived.ProofKit
import Derived.OpenShut
import Derived.ShutString
import Derived.ChangeOld
import Derived.Below
import Derived.SizedLaws
import Derived.Test.YtokdjeoecnnckaaMCutsF
section
namespace Go.Proofs.Ytokdjeoecnnckaa.PL
open Go Go.RowKit Go.Proofs.Ytokdjeoecnnckaa.PA Go.Proofs.YtokdjeoecnnckaaW.PrintWords Go.Proofs.YtokdjeoecnnckaaW.PrintLast Go.Proofs.YtokdjeoecnnckaaW.PrintMore
set_option linter.unusedSimpArgs false
set_option linter.unusedVariables false
/-- The cuts are all numbers, none of them empty. -/
def Whole : List Int → Nat → Prop
  | [], r => r = 0
  | n :: cs, r => 1 ≤ n ∧ n ≤ (r : Int) ∧ Whole cs (r - n.toNat)
theorem whole_rep (s : Int) (h : 1 ≤ s) : ∀ (m r : Nat), s * m = (r : Int) → Whole (List.replicate m s) r
  | 0, r, hr => by
    show r = 0
    simp at hr
    omega
  | m + 1, r, hr => by
    have e : s * ((m + 1 : Nat) : Int) = s * m + s := by rw [Int.natCast_succ, Int.mul_add, Int.mul_one]
    have h0 : 0 ≤ s * (m : Int) := Int.mul_nonneg (by omega) (by omega)
    refine ⟨h, by omega, whole_rep s h m _ ?_⟩
    omega
theorem whole_cuts (n : Nat) (order : Int) (ho : 0 ≤ order) (o : Nat) (hne : cutsP (n : Int) order o ≠ []) : Whole (cutsP (n : Int) order o) n := by
  unfold cutsP at hne ⊢
  split
  · rename_i h
    have hp : (0 : Int) < 2 ^ o := Int.pow_pos (by decide)
    have h3 : ((2 ^ o : Nat) : Int) = (2 : Int) ^ o := by simp
    have hme := Int.mul_ediv_add_emod ((n : Int) + order) (2 ^ o)
    have hp2 : 0 < 2 ^ o := Nat.pow_pos (by decide)
    have e : ((n : Int) + order) / 2 ^ o * ((2 ^ o - 1 : Nat) : Int) = 2 ^ o * (((n : Int) + order) / 2 ^ o) - ((n : Int) + order) / 2 ^ o := by
      rw [show ((2 ^ o - 1 : Nat) : Int) = 2 ^ o - 1 by omega, Int.mul_sub, Int.mul_one, Int.mul_comm]
    have h0 : 0 ≤ ((n : Int) + order) / 2 ^ o * ((2 ^ o - 1 : Nat) : Int) := Int.mul_nonneg (by omega) (by omega)
    exact ⟨by omega, by omega, whole_rep _ (by omega) _ _ (by omega)⟩
  · rename_i h
    rw [if_neg h] at hne
    exact absurd rfl hne
theorem whole_cutsI (n : Nat) (order o : Int) (ho : 0 ≤ order) (hne : cutsI (n : Int) order o ≠ []) : Whole (cutsI (n : Int) order o) n ∧ 0 ≤ o ∧ o ≤ 15 := by
  unfold cutsI at hne ⊢
  split
  · rename_i h
    rw [if_pos h] at hne
    exact ⟨whole_cuts n order ho _ hne, h⟩
  · rename_i h
    rw [if_neg h] at hne
    exact absurd rfl hne
theorem whole_sfits : ∀ (cs : List Int) (r : Nat), Whole cs r → SFits cs r
  | [], _, _ => trivial
  | _ :: cs, r, h => ⟨by have := h.1; omega, h.2.1, whole_sfits cs _ h.2.2⟩
theorem rows_whole : ∀ (cs l : List Int) (ps : List S50), Whole cs l.length → cs.length = ps.length → (rowsP cs l ps).map (·.1) = ps ∧ (rowsP cs l ps).flatMap (·.2) = l ∧ (rowsP cs l ps).map (fun r => (r.2.length : Int)) = cs ∧ ∀ r ∈ rowsP cs l ps, r.2 ≠ []
  | [], l, ps, hw, hl => by
    have hw : l.length = 0 := hw
    rw [List.eq_nil_of_length_eq_zero hw, List.eq_nil_of_length_eq_zero (by simpa using hl.symm : ps.length = 0)]
    simp [rowsP]
  | _ :: _, _, [], _, hl => by simp at hl
  | n :: cs, l, p :: ps, hw, hl => by
    obtain ⟨h1, h2, h3⟩ := hw
    have ih := rows_whole cs (l.drop n.toNat) ps (by rw [List.length_drop]; exact h3) (by simpa using hl)
    have ht : ((l.take n.toNat).length : Int) = n := by rw [List.length_take]; omega
    simp only [rowsP, List.map_cons, List.flatMap_cons]
    refine ⟨by rw [ih.1], by rw [ih.2.1, List.take_append_drop], by rw [ih.2.2.1, ht], ?_⟩
    intro r hr
    rcases List.mem_cons.1 hr with rfl | hr
    · intro he
      rw [show (l.take n.toNat) = [] from he] at ht
      simp at ht
      omega
    · exact ih.2.2.2 r hr
/-- How many bits rows have. -/
def rowsN (w : Bool) : List (S50 × List Int) → Int
  | [] => 0
  | r :: t => sizeOf_ w + eachW r.2 r.1 + rowsN w t
theorem go_rows (w : Bool) : ∀ (cs l : List Int) (ps : List S50) (s : Int), cs.length = ps.length → 0 ≤ bitsGo w (split cs l) ps s →
    (∀ r ∈ rowsP cs l ps, 0 ≤ eachW r.2 r.1 ∧ (r.1.f1 = true ∨ (0 ≤ r.1.f0 ∧ r.1.f0 ≤ (mostOf w : Int)))) ∧ bitsGo w (split cs l) ps s = s + rowsN w (rowsP cs l ps)
  | [], l, ps, s, hl, h => by
    rw [List.eq_nil_of_length_eq_zero (by simpa using hl.symm : ps.length = 0)]
    simp [rowsP, split, bitsGo, rowsN]
  | _ :: _, _, [], _, hl, _ => by simp at hl
  | n :: cs, l, p :: ps, s, hl, h => by
    simp only [split, bitsGo] at h ⊢
    by_cases h1 : eachW (l.take n.toNat) p < 0
    · rw [if_pos h1] at h; omega
    rw [if_neg h1] at h ⊢
    by_cases h2 : p.f1 = true ∨ (0 ≤ p.f0 ∧ p.f0 ≤ (mostOf w : Int))
    · rw [if_pos h2] at h ⊢
      obtain ⟨i1, i2⟩ := go_rows w cs (l.drop n.toNat) ps _ (by simpa using hl) h
      refine ⟨?_, ?_⟩
      · intro r hr
        simp only [rowsP, List.mem_cons] at hr
        rcases hr with rfl | hr
        · exact ⟨Int.not_lt.1 h1, h2⟩
        · exact i1 r hr
      · rw [i2]
        simp only [rowsP, rowsN]
        omega
    · rw [if_neg h2] at h; omega
theorem ok_way {w : Bool} {q : S50} {xs : List Int} (h0 : 0 ≤ eachW xs q) (h2 : q.f1 = true ∨ (0 ≤ q.f0 ∧ q.f0 ≤ (mostOf w : Int))) : NearAll xs ∧ OkP w q ∧ (∀ y ∈ xs, OkN q y) ∧ eachW xs q = (if q.f1 = true then 5 + q.f0 * xs.length else bitsL (kk q.f0) xs) := by
  unfold eachW at h0 ⊢
  by_cases hr : q.f1 = true
  · rw [if_pos hr] at h0 ⊢
    split at h0
    · rename_i hc
      obtain ⟨hn, hw, h31⟩ := hc
      obtain ⟨w1, _, _⟩ := wid_spec hn
      refine ⟨hn, ⟨by omega, by rw [if_pos hr]; exact h31⟩, fun y hy => ?_, by rw [if_pos ⟨hn, hw, h31⟩, if_pos hr]⟩
      unfold OkN
      rw [if_pos hr]
      exact ⟨by omega, h31, fitsW_mono w1 (by omega) y hy⟩
    · omega
  · rw [if_neg hr] at h0 ⊢
    split at h0
    · rename_i hn
      have h2 := h2.resolve_left hr
      refine ⟨hn, ⟨h2.1, by rw [if_neg hr]; exact h2.2⟩, fun y hy => ?_, by rw [if_pos hn, if_neg hr]⟩
      unfold OkN
      rw [if_neg hr]
      exact hn y hy
    · omega
theorem long_eq {n k : Int} (hn : IsNear n) (h0 : 0 ≤ k) (h30 : k ≤ 30) : section_long.f n k = some (decide (fold n / 2 ^ kk k > 65535)) := by
  unfold section_long.f
  unfold IsNear at hn
  rw [fold_eq n (by omega)]
  simp only [Option.bind_some]
  have e : k = ((kk k : Nat) : Int) := by unfold kk; omega
  have hk := kk_le k
  rw [if_pos h0, show shr .u64 (fold n) k = shr .u64 (fold n) ((kk k : Nat) : Int) by rw [← e], shr_u64 _ (by omega)]
theorem szW_eq (w : Bool) : szW w = szR w := rfl
theorem rice_app (K : Int) : ∀ (xs : List Int) (A : List Bool), (∀ y ∈ xs, IsNear y ∧ ¬ fold y / 2 ^ kk K > 65535) → riceAll K A xs = A ++ xs.flatMap (fun y => putB y (kk K))
  | [], A, _ => by simp [riceAll]
  | x :: t, A, h => by
    have hx := h x (by simp)
    have e : riceAll K A (x :: t) = riceAll K (rputR A x (kk K)).2 t := rfl
    have e2 : (rputR A x (kk K)).2 = A ++ putB x (kk K) := by unfold rputR; rw [if_neg (by simpa using hx.1), if_neg hx.2]
    rw [e, e2, rice_app K t _ (fun y hy => h y (by simp [hy]))]
    simp
theorem raw_app (K : Int) : ∀ (xs : List Int) (A : List Bool), rawAll K A xs = A ++ xs.flatMap (fun y => digs (IntKind.u64.wrap y) (hw K))
  | [], A => by simp [rawAll]
  | x :: t, A => by
    have e : rawAll K A (x :: t) = rawAll K (A ++ digs (IntKind.u64.wrap x) (hw K)) t := rfl
    rw [e, raw_app K t]
    simp
theorem putB_sz {n : Int} (h : IsNear n) (k : Nat) : ((putB n k).length : Int) = sz n k := by
  have hf := fold_near h
  have hd := div_pow_bd (x := fold n) (s := k) hf.1
  rw [putB_len]
  unfold sz
  omega
theorem flat_sz (k : Nat) : ∀ (xs : List Int), NearAll xs → ((xs.flatMap (fun y => putB y k)).length : Int) = bitsL k xs
  | [], _ => rfl
  | x :: t, h => by
    have h1 := putB_sz (nearAll_cons.1 h).1 k
    have h2 := flat_sz k t (nearAll_cons.1 h).2
    simp only [List.flatMap_cons, List.length_append, bitsL]
    omega
theorem flat_digs (K : Nat) : ∀ (xs : List Int), (xs.flatMap (fun y => digs (IntKind.u64.wrap y) K)).length = K * xs.length
  | [] => by simp
  | x :: t => by
    have h2 := flat_digs K t
    simp only [List.flatMap_cons, List.length_append, digs_len, List.length_cons, h2]
    rw [Nat.mul_add]
    omega
theorem szR_sz (w : Bool) : ((hw (szR w) : Nat) : Int) = sizeOf_ w := by cases w <;> rfl
/-- A row that can be put: what stands behind other bits. -/
theorem part_app {w : Bool} {r : S50 × List Int} (h0 : 0 ≤ eachW r.2 r.1) (h2 : r.1.f1 = true ∨ (0 ≤ r.1.f0 ∧ r.1.f0 ≤ (mostOf w : Int))) (hl : longP r = false) (A : List Bool) :
    putPart w A r.1 r.2 = A ++ partB w r.1 r.2 ∧ ((partB w r.1 r.2).length : Int) = sizeOf_ w + eachW r.2 r.1 := by
  obtain ⟨q, xs⟩ := r
  have h0 : 0 ≤ eachW xs q := h0
  have h2 : q.f1 = true ∨ (0 ≤ q.f0 ∧ q.f0 ≤ (mostOf w : Int)) := h2
  obtain ⟨hn, hp, hok, he⟩ := ok_way h0 h2
  show putPart w A q xs = A ++ partB w q xs ∧ ((partB w q xs).length : Int) = sizeOf_ w + eachW xs q
  have hm := mostOf_le w
  have hs := szR_sz w
  unfold putPart partB headP numB
  rw [he]
  by_cases hr : q.f1 = true
  · simp only [if_pos hr]
    obtain ⟨p0, p1⟩ := hp
    rw [if_pos hr] at p1
    obtain ⟨K, hK⟩ : ∃ K : Nat, q.f0 = (K : Int) := ⟨q.f0.toNat, by omega⟩
    rw [hK] at p1 ⊢
    rw [raw_app, szW_eq, hw_nat (by omega)]
    refine ⟨by simp, ?_⟩
    have h5 : hw 5 = 5 := rfl
    rw [List.length_append, List.length_append, digs_len, digs_len, flat_digs, h5]
    have : ((K * xs.length : Nat) : Int) = (K : Int) * xs.length := by simp
    omega
  · simp only [if_neg hr]
    have hK := h2.resolve_left hr
    rw [rice_app, szW_eq]
    · refine ⟨by simp, ?_⟩
      have := flat_sz (kk q.f0) xs hn
      rw [List.length_append, digs_len]
      omega
    · intro y hy
      refine ⟨hn y hy, fun hc => ?_⟩
      unfold longP at hl
      have hf : q.f1 = false := by cases hh : q.f1 <;> simp_all
      rw [hf] at hl
      simp only [Bool.not_false, Bool.true_and] at hl
      have h3 := List.any_eq_false.1 hl y hy
      rw [long_eq (hn y hy) hK.1 (by omega)] at h3
      simp only [Option.getD_some, decide_eq_true_eq] at h3
      exact h3 hc
theorem all_app (w : Bool) : ∀ (rs : List (S50 × List Int)) (A : List Bool), (∀ r ∈ rs, (0 ≤ eachW r.2 r.1 ∧ (r.1.f1 = true ∨ (0 ≤ r.1.f0 ∧ r.1.f0 ≤ (mostOf w : Int)))) ∧ longP r = false) →
    putAllP w A rs = A ++ rs.flatMap (fun r => partB w r.1 r.2) ∧ ((rs.flatMap (fun r => partB w r.1 r.2)).length : Int) = rowsN w rs
  | [], A, _ => by simp [putAllP, rowsN]
  | r :: t, A, h => by
    have hr := h r (by simp)
    obtain ⟨h1, h2⟩ := part_app hr.1.1 hr.1.2 hr.2 A
    have e : putAllP w A (r :: t) = putAllP w (putPart w A r.1 r.2) t := rfl
    obtain ⟨i1, i2⟩ := all_app w t (A ++ partB w r.1 r.2) (fun x hx => h x (by simp [hx]))
    rw [e, h1, i1]
    refine ⟨by simp, ?_⟩
    simp only [List.flatMap_cons, List.length_append, rowsN]
    omega
/-- The section of some numbers by a plan. -/
def secB (l : List Int) (order : Int) (wd : Bool) (o : Int) (ps : List S50) : List Bool := headW wd o ++ (rowsP (cutsI (l.length : Int) order o) l ps).flatMap (fun r => partB wd r.1 r.2)
def lonP (l : List Int) (order o : Int) (ps : List S50) : Bool := (rowsP (cutsI (l.length : Int) order o) l ps).any longP
/-- What is known of a plan that has bits. -/
structure Fine (l : List Int) (order : Int) (wd : Bool) (o : Int) (ps : List S50) : Prop where
  ne : cutsI (l.length : Int) order o ≠ []
  oin : 0 ≤ o ∧ o ≤ 15
  len : (cutsI (l.length : Int) order o).length = ps.length
  whole : Whole (cutsI (l.length : Int) order o) l.length
  rows : ∀ r ∈ rowsP (cutsI (l.length : Int) order o) l ps, 0 ≤ eachW r.2 r.1 ∧ (r.1.f1 = true ∨ (0 ≤ r.1.f0 ∧ r.1.f0 ≤ (mostOf wd : Int)))
  bits : bitsV l order wd o ps = 6 + rowsN wd (rowsP (cutsI (l.length : Int) order o) l ps)
theorem fine_of {l : List Int} {order : Int} {wd : Bool} {o : Int} {ps : List S50} (ho : 0 ≤ order) (h : 0 ≤ bitsV l order wd o ps) : Fine l order wd o ps := by
  unfold bitsV at h
  split at h
  · omega
  · rename_i hc
    have hc1 : cutsI (l.length : Int) order o ≠ [] := fun x => hc (.inl x)
    have hc2 : (cutsI (l.length : Int) order o).length = ps.length := Decidable.not_not.1 (fun x => hc (.inr x))
    obtain ⟨w1, w2⟩ := whole_cutsI l.length order o ho hc1
    obtain ⟨g1, g2⟩ := go_rows wd _ l ps 6 hc2 h
    exact ⟨hc1, w2, hc2, w1, g1, by unfold bitsV; rw [if_neg hc, g2]⟩
theorem Fine.okr {l : List Int} {order : Int} {wd : Bool} {o : Int} {ps : List S50} (h : Fine l order wd o ps) : ∀ r ∈ rowsP (cutsI (l.length : Int) order o) l ps, OkR wd r := fun r hr => by
  obtain ⟨h1, h2⟩ := h.rows r hr
  obtain ⟨_, k1, k2, _⟩ := ok_way h1 h2
  exact ⟨(rows_whole _ l ps h.whole h.len).2.2.2 r hr, k1, k2⟩
theorem headB_eq (wd : Bool) (o : Int) : headB [] wd o = headW wd o := by simp [headB, headW]
theorem headW_len (wd : Bool) (o : Int) : (headW wd o).length = 6 := by
  unfold headW
  rw [List.length_append, digs_len, digs_len]
  rfl
theorem Fine.put {l : List Int} {order : Int} {wd : Bool} {o : Int} {ps : List S50} (h : Fine l order wd o ps) (hl : lonP l order o ps = false) :
    putAllP wd (headB [] wd o) (rowsP (cutsI (l.length : Int) order o) l ps) = secB l order wd o ps ∧ ((secB l order wd o ps).length : Int) = bitsV l order wd o ps := by
  obtain ⟨h1, h2⟩ := all_app wd (rowsP (cutsI (l.length : Int) order o) l ps) (headB [] wd o) (fun r hr => ⟨h.rows r hr, by
    cases hh : longP r
    · rfl
    · have := List.any_eq_false.1 hl r hr
      exact absurd hh this⟩)
  rw [headB_eq] at h1 ⊢
  refine ⟨h1, ?_⟩
  unfold secB
  rw [List.length_append, headW_len, h.bits]
  omega
/-- What section.Put answers on a new Writer. -/
theorem sput_eq (l : List Int) (hl : l.length ≤ 1000) (h64 : ∀ x ∈ l, -9223372036854775808 ≤ x ∧ x < 9223372036854775808) (order : Int) (ho : 0 ≤ order) (ho2 : order ≤ 32) (wd : Bool) (o : Int) (ps : List S50) (hps : ps.length ≤ 1000) :
    section_Put.f (WB []) 0 l order wd o ps = some (if bitsV l order wd o ps < 0 then (1, WB [], 0) else if lonP l order o ps = true then (7, WB [], 0) else (0, WB (secB l order wd o ps), bitsV l order wd o ps)) := by
  unfold section_Put.f sectionPut.f
  rw [if_pos ⟨rfl, rfl, hl, hps, h64⟩, lim15_ev (bitsV_ev hl ho ho2 wd o ps)]
  simp only [Option.bind_some]
  by_cases h0 : bitsV l order wd o ps < 0
  · rw [if_pos h0, if_pos h0]
  · rw [if_neg h0, if_neg h0, lim15_ev (cutsI_ev (l.length : Int) order o (by omega) (by omega) ho (by omega))]
    simp only [Option.bind_some]
    have hf := fine_of (l := l) (wd := wd) (o := o) (ps := ps) ho (by omega)
    have hk : ∀ p ∈ ps, p.f1 = true ∨ 0 ≤ p.f0 := by
      intro p hp
      have hm := (rows_whole _ l ps hf.whole hf.len).1
      rw [← hm] at hp
      obtain ⟨r, hr, rfl⟩ := List.mem_map.1 hp
      exact (hf.rows r hr).2.imp id (fun h => h.1)
    rw [if_pos ⟨whole_sfits _ _ hf.whole, hf.len, hk⟩]
    by_cases h1 : lonP l order o ps = true
    · have h1' : (rowsP (cutsI (l.length : Int) order o) l ps).any longP = true := h1
      rw [if_pos h1, if_pos h1']
    · have h1' : ¬ (rowsP (cutsI (l.length : Int) order o) l ps).any longP = true := h1
      obtain ⟨p1, p2⟩ := hf.put (by cases hh : lonP l order o ps <;> simp_all)
      rw [if_neg h1, if_neg h1', p1, p2]
end Go.Proofs.Ytokdjeoecnnckaa.PL
end
section
namespace Go.Proofs.Ytokdjeoecnnckaa.PA
open Go.RowKit Go.Proofs.YtokdjeoecnnckaaW.PrintWords Go.Proofs.YtokdjeoecnnckaaW.PrintLast Go.Proofs.YtokdjeoecnnckaaW.PrintMore
attribute [local go_sem] max2_int min2_int max_two min_two max_three min_three max_four min_four   -- for this text's walks alone
set_option linter.unusedVariables false
set_option linter.unusedSimpArgs false
theorem eqA50 (d : Nat) (w : World) (x0 y0 : Int) (x1 y1 : Bool) :
    (Op.equalIn (d + 2) 50 (.agg #[.int .i64 x0, .bool x1]) (.agg #[.int .i64 y0, .bool y1])).run Try.prog w = .ok (x0 == y0 && (x1 == y1)) w := by
  refine eqA_of Try.underlying50 (by kernel_rfl) ?_
  refine eqf_cons (by rfl) (by go_simp; rfl) (by go_simp; rfl) (by go_simp) ?_
  exact eqf_last (by rfl) (by go_simp; rfl) (by go_simp; rfl) (by go_simp)
end Go.Proofs.Ytokdjeoecnnckaa.PA
end
section
namespace Go.Proofs.Ytokdjeoecnnckaa.PL
open Go Go.RowKit Go.Proofs.Ytokdjeoecnnckaa.PA Go.Proofs.YtokdjeoecnnckaaW.PrintWords Go.Proofs.YtokdjeoecnnckaaW.PrintLast Go.Proofs.YtokdjeoecnnckaaW.PrintMore
set_option linter.unusedSimpArgs false
set_option linter.unusedVariables false
/-- No number that is too wide. -/
def nar (n : Int) : Prop := -2147483648 < n ∧ n < 2147483648
/-- What is read of a section: its numbers and its plan; or that one is too wide; or that it is cut off. -/
def OutR (b : List Int) (L : List Bool) (l : List Int) (wd : Bool) (o : Int) (ps : List S50) (res : List Int × Bool × Int × List S50 × Int × Int × Int) : Prop :=
  (L.length ≤ 8 * b.length ∧ (∀ x ∈ l, nar x) ∧ res = (l, wd, o, ps, 0, (L.length : Int), 0)) ∨ ((∃ x ∈ l, ¬ nar x) ∧ ∃ p f, res = ([], false, 0, [], 14, p, f)) ∨ (8 * b.length < L.length ∧ ∃ p f, res = ([], false, 0, [], 2, p, f))
theorem nums_out {b : List Int} (hb : GB b) {L : List Bool} (hpre : Pre b L) (l : List Int) (wd : Bool) (o : Int) (ps : List S50) (q : S50) (cuts : List Int) (cl i m : Int) (Q : List S50) :
    ∀ (ys : List Int) (j : Nat) (acc : List Int) (A R : List Bool), L = A ++ ys.flatMap (numB q) ++ R → A.length ≤ 8 * b.length → m = (j : Int) + (ys.length : Int) → (∀ y ∈ ys, y ∈ l ∧ OkN q y) → acc.length + ys.length ≤ 100000 → j + ys.length ≤ 100000 →
      ((∀ y ∈ ys, nar y) → (A ++ ys.flatMap (numB q)).length ≤ 8 * b.length → ∃ res, OutR b L l wd o ps res ∧ Ev (fun k => section_Take.l0 k (acc ++ ys) cuts cl (wrap64 (i + 1)) b ((A ++ ys.flatMap (numB q)).length : Int) 0 wd o Q) res) →
      ∃ res, OutR b L l wd o ps res ∧ Ev (fun k => section_Take.l1 k acc cuts cl i m (j : Int) b (A.length : Int) 0 wd o Q q.f0 q.f1) res := by
  intro ys
  induction ys with
  | nil =>
    intro j acc A R hL hA hm hy ha hj hk
    obtain ⟨res, h1, h2⟩ := hk (by simp) (by simpa using hA)
    simp only [List.flatMap_nil, List.append_nil] at h2
    refine ⟨res, h1, succ ?_⟩
    simp only [section_Take.l1]
    exact neg (by simp at hm; omega) h2
  | cons y t ih =>
    intro j acc A R hL hA hm hy ha hj hk
    obtain ⟨hyl, hyo⟩ := hy y (by simp)
    simp only [List.length_cons] at hm ha hj
    have e1 : L = A ++ numB q y ++ (t.flatMap (numB q) ++ R) := by rw [hL]; simp
    have e2 : L = (A ++ numB q y) ++ t.flatMap (numB q) ++ R := by rw [hL]; simp
    obtain ⟨v, p, f, g, t1⟩ := number_pre hb hpre q y hyo e1 hA
    rcases g with ⟨g, rfl, rfl, rfl⟩ | ⟨g, rfl, p', rfl, hp'⟩
    · by_cases hn : nar v
      · obtain ⟨res, h1, h2⟩ := ih (j + 1) (acc ++ [v]) (A ++ numB q v) R e2 g (by omega) (fun y hh => hy y (by simp [hh])) (by simp; omega) (by omega) (fun hs hl => by
          have := hk (fun z hz => by
            rcases List.mem_cons.1 hz with rfl | hz
            · exact hn
            · exact hs z hz) (by simpa using hl)
          simpa [List.append_assoc] using this)
        refine ⟨res, h1, succ ?_⟩
        simp only [section_Take.l1]
        have ej : wrap64 ((j : Int) + 1) = ((j + 1 : Nat) : Int) := by rw [w64 (by omega) (by omega)]; omega
        refine pos (by omega) (bnd t1 ?_)
        rw [fail_eq]
        simp only [Option.bind_some]
        rw [ej]
        unfold nar at hn
        exact pos (by first | trivial | rfl) (neg (by omega) (neg (by omega) (pos (by omega) h2)))
      · refine ⟨_, .inr (.inl ⟨⟨v, hyl, hn⟩, ((A ++ numB q v).length : Int), 0, rfl⟩), succ ?_⟩
        simp only [section_Take.l1]
        refine pos (by omega) (bnd t1 ?_)
        rw [fail_eq]
        simp only [Option.bind_some]
        refine pos (by first | trivial | rfl) ?_
        by_cases h1 : v ≤ -2147483648
        · exact pos h1 (now _)
        · refine neg h1 (pos ?_ (now _))
          unfold nar at hn
          omega
    · refine ⟨_, .inr (.inr ⟨?_, (p' : Int), 2, rfl⟩), succ ?_⟩
      · rw [e1, List.length_append]
        omega
      · simp only [section_Take.l1]
        refine pos (by omega) (bnd t1 ?_)
        rw [fail_eq]
        simp only [Option.bind_some]
        refine neg (by decide) ?_
        rw [fail_eq]
        exact now _
theorem rows_out {b : List Int} (hb : GB b) {L : List Bool} (hpre : Pre b L) (l : List Int) (hl : l.length ≤ 1000) (wd : Bool) (o : Int) (ps : List S50) (hps : ps.length ≤ 40000) (cuts : List Int) (hcl : cuts.length ≤ 40000) :
    ∀ (rs : List (S50 × List Int)) (pre acc : List Int) (Q : List S50) (A : List Bool), cuts = pre ++ rs.map (fun r => (r.2.length : Int)) → L = A ++ rs.flatMap (fun r => partB wd r.1 r.2) → A.length ≤ 8 * b.length → (∀ r ∈ rs, OkR wd r) →
      (∀ y ∈ acc, nar y) → acc ++ rs.flatMap (·.2) = l → Q ++ rs.map (·.1) = ps →
      ∃ res, OutR b L l wd o ps res ∧ Ev (fun k => section_Take.l0 k acc cuts (cuts.length : Int) (pre.length : Int) b (A.length : Int) 0 wd o Q) res := by
  intro rs
  induction rs with
  | nil =>
    intro pre acc Q A hc hL hA hok hacc hall hQ
    simp only [List.flatMap_nil, List.append_nil, List.map_nil] at hc hL hall hQ
    subst hL hall hQ
    refine ⟨_, .inl ⟨hA, hacc, rfl⟩, succ ?_⟩
    simp only [section_Take.l0]
    exact neg (by rw [hc]; omega) (now _)
  | cons r t ih =>
    intro pre acc Q A hc hL hA hok hacc hall hQ
    obtain ⟨hne, hway, hnum⟩ := hok r (by simp)
    obtain ⟨q, ys⟩ := r
    simp only at hne hway hnum
    simp only [List.map_cons, List.flatMap_cons] at hc hL hall hQ
    rw [show partB wd q ys = headP wd q ++ ys.flatMap (numB q) from rfl] at hL
    have hcl2 := congrArg List.length hc
    have hql := congrArg List.length hQ
    have hal := congrArg List.length hall
    simp only [List.length_append, List.length_cons] at hcl2 hql hal
    have hys : 0 < ys.length := List.length_pos_iff.2 hne
    have e1 : L = A ++ headP wd q ++ (ys.flatMap (numB q) ++ t.flatMap (fun r => partB wd r.1 r.2)) := by rw [hL]; simp
    have e2 : L = (A ++ headP wd q) ++ ys.flatMap (numB q) ++ t.flatMap (fun r => partB wd r.1 r.2) := by rw [hL]; simp
    have hrd : rd cuts (pre.length : Int) = (ys.length : Int) := by rw [hc]; exact rd_at _ _ _
    obtain ⟨v, r, p, f, g, t1⟩ := part_pre hb hpre wd q hway e1 hA
    rcases g with ⟨g, rfl, rfl, rfl, rfl⟩ | ⟨g, rfl, rfl, p', rfl, hp'⟩
    · have nx := nums_out hb hpre l wd o ps q cuts (cuts.length : Int) (pre.length : Int) (ys.length : Int) (Q ++ [(⟨q.f0, q.f1⟩ : S50)]) ys 0 acc (A ++ headP wd q) (t.flatMap (fun r => partB wd r.1 r.2)) e2 g (by omega)
        (fun y hy => ⟨by rw [← hall]; simp [hy], hnum y hy⟩) (by omega) (by omega) (fun hs hlen => by
          have hi := ih (pre ++ [(ys.length : Int)]) (acc ++ ys) (Q ++ [q]) ((A ++ headP wd q) ++ ys.flatMap (numB q)) (by rw [hc]; simp) e2 hlen (fun r hr => hok r (by simp [hr]))
            (fun y hy => by
              rcases List.mem_append.1 hy with h | h
              · exact hacc y h
              · exact hs y h) (by rw [← hall]; simp) (by rw [← hQ]; simp)
          have ei : wrap64 ((pre.length : Int) + 1) = ((pre ++ [(ys.length : Int)]).length : Int) := by rw [w64 (by omega) (by omega), List.length_append]; simp
          rw [ei]
          exact hi)
      obtain ⟨res, h1, h2⟩ := nx
      refine ⟨res, h1, succ ?_⟩
      simp only [section_Take.l0]
      rw [hrd]
      exact pos (by omega) (pos (by omega) (pos (by omega) (bnd t1 (pos (by omega) h2))))
    · obtain ⟨v2, t2⟩ := number_dead hb hp' r
      refine ⟨_, .inr (.inr ⟨?_, (p' : Int), 2, rfl⟩), succ ?_⟩
      · rw [e1, List.length_append]
        omega
      · simp only [section_Take.l0]
        rw [hrd]
        refine pos (by omega) (pos (by omega) (pos (by omega) (bnd t1 (pos (by omega) (succ ?_)))))
        simp only [section_Take.l1]
        refine pos (by omega) (bnd t2 ?_)
        rw [fail_eq]
        simp only [Option.bind_some]
        refine neg (by decide) ?_
        rw [fail_eq]
        exact now _
theorem take15 {b : List Int} (hb : GB b) {L : List Bool} (hpre : Pre b L) (l : List Int) (hl : l.length ≤ 1000) (hl0 : l.length ≠ 0) (wd : Bool) (o order : Int) (ho : 0 ≤ o ∧ o ≤ 15) (hord : 0 ≤ order ∧ order ≤ 32) (rs : List (S50 × List Int)) (hrs : rs.length ≤ 40000)
    (hc : cutsI (l.length : Int) order o = rs.map (fun r => (r.2.length : Int))) (hne : rs ≠ []) (hL : L = headW wd o ++ rs.flatMap (fun r => partB wd r.1 r.2)) (hok : ∀ r ∈ rs, OkR wd r) (hall : rs.flatMap (·.2) = l) :
    ∃ res, OutR b L l wd o (rs.map (·.1)) res ∧ Ev (fun k => section_Take.f k b 0 0 ((l.length : Int) + order) order) res := by
  have e1 : L = [] ++ digs (if wd then 1 else 0) (hw 2) ++ (digs (IntKind.u64.wrap o) (hw 4) ++ rs.flatMap (fun r => partB wd r.1 r.2)) := by rw [hL]; simp [headW]
  have e2 : L = digs (if wd then 1 else 0) (hw 2) ++ digs (IntKind.u64.wrap o) (hw 4) ++ rs.flatMap (fun r => partB wd r.1 r.2) := by rw [hL]; rfl
  have ht : ∃ res, OutR b L l wd o (rs.map (·.1)) res ∧ Ev (fun k => section_Take.j0 k ((l.length : Int) + order) order false b 0 0) res := by
    obtain ⟨v1, p1, f1, g1, z1, t1⟩ := take_pre hb hpre e1 2 (by rw [digs_len]) (by simp)
    rw [show (([] : List Bool).length : Int) = 0 from rfl] at t1
    simp only [List.nil_append] at g1
    rcases g1 with ⟨g1, rfl, rfl, rfl⟩ | ⟨g1, rfl, p', rfl, hp'⟩
    · have hv : num (digs (if wd then 1 else 0) (hw 2)) = if wd then 1 else 0 := by cases wd <;> decide +kernel
      obtain ⟨v2, p2, f2, g2, z2, t2⟩ := take_pre hb hpre e2 4 (by rw [digs_len]) g1
      have hm : decide (num (digs (if wd then 1 else 0) (hw 2)) > 1) = false := by rw [hv]; cases wd <;> decide
      have hx : (num (digs (if wd then 1 else 0) (hw 2)) == 1) = wd := by rw [hv]; cases wd <;> decide
      rcases g2 with ⟨g2, rfl, rfl, rfl⟩ | ⟨g2, rfl, p', rfl, hp'⟩
      · have hvo : wrap64 (num (digs (IntKind.u64.wrap o) (hw 4))) = o := by
          have e4 : hw 4 = 4 := rfl
          rw [e4, num_digs, wrapmod _ 4 (by decide), show (2 : Int) ^ 4 = 16 by decide, w64 (by omega) (by omega)]
          omega
        have hcl : (cutsI (l.length : Int) order o).length = rs.length := by rw [hc, List.length_map]
        obtain ⟨res, h1, h2⟩ := rows_out hb hpre l hl wd o (rs.map (·.1)) (by rw [List.length_map]; exact hrs) (cutsI (l.length : Int) order o) (by omega) rs [] [] [] (digs (if wd then 1 else 0) (hw 2) ++ digs (IntKind.u64.wrap o) (hw 4)) (by rw [hc]; rfl) e2 g2 hok (by simp) (by simpa using hall) (by simp)
        refine ⟨res, h1, succ ?_⟩
        simp only [section_Take.j0]
        refine neg (by decide) (bnd t1 ?_)
        rw [fail_eq]
        simp only [Option.bind_some]
        rw [hm]
        refine pos (by first | trivial | rfl) (succ ?_)
        simp only [section_Take.j1]
        refine neg (by decide) (bnd t2 ?_)
        rw [fail_eq]
        simp only [Option.bind_some]
        refine pos (by first | trivial | rfl) ?_
        rw [hvo, hx, w64 (x := (l.length : Int) + order - order) (by omega) (by omega), show (l.length : Int) + order - order = l.length by omega]
        refine bnd (cutsI_ev (l.length : Int) order o (by omega) (by omega) (by omega) (by omega)) (neg ?_ h2)
        rw [hcl]
        have := List.length_pos_iff.2 hne
        omega
      · refine ⟨_, .inr (.inr ⟨?_, (p' : Int), 2, rfl⟩), succ ?_⟩
        · rw [e2, List.length_append]; omega
        · simp only [section_Take.j0]
          refine neg (by decide) (bnd t1 ?_)
          rw [fail_eq]
          simp only [Option.bind_some]
          rw [hm]
          refine pos (by first | trivial | rfl) (succ ?_)
          simp only [section_Take.j1]
          refine neg (by decide) (bnd t2 ?_)
          rw [fail_eq]
          simp only [Option.bind_some]
          refine neg (by decide) ?_
          rw [fail_eq]
          exact now _
    · have t2 := take_dead hb hp' 4
      refine ⟨_, .inr (.inr ⟨?_, (p' : Int), 2, rfl⟩), succ ?_⟩
      · rw [e2, List.length_append, List.length_append]; omega
      · simp only [section_Take.j0]
        refine neg (by decide) (bnd t1 ?_)
        rw [fail_eq]
        simp only [Option.bind_some]
        refine neg (by decide) (succ ?_)
        simp only [section_Take.j1]
        refine neg (by decide) (bnd t2 ?_)
        rw [fail_eq]
        simp only [Option.bind_some]
        refine neg (by decide) ?_
        rw [fail_eq]
        exact now _
  obtain ⟨res, h1, h2⟩ := ht
  refine ⟨res, h1, ?_⟩
  unfold section_Take.f
  rw [show (decide ((l.length : Int) + order > 65535)) = false from decide_eq_false (by omega)]
  exact neg (by omega) (neg (by omega) (neg (by omega) h2))
end Go.Proofs.Ytokdjeoecnnckaa.PL
end
section
namespace Go.Proofs.Ytokdjeoecnnckaa.PL
open Go Go.RowKit Go.Proofs.Ytokdjeoecnnckaa.PA Go.Proofs.YtokdjeoecnnckaaW.PrintWords Go.Proofs.YtokdjeoecnnckaaW.PrintLast Go.Proofs.YtokdjeoecnnckaaW.PrintMore
set_option linter.unusedSimpArgs false
set_option linter.unusedVariables false
theorem new15 : bits_New.f = some (WB [], (0 : Int)) := rfl
theorem awake_ev : Ev (fun k => serinettelaw15_awake.f k) true := by
  have hb : bitsV [0, 0] 0 false 0 [(⟨0, false⟩ : S50)] = 12 := by decide +kernel
  have hl : lonP [0, 0] 0 0 [(⟨0, false⟩ : S50)] = false := by decide +kernel
  have hs : secB [0, 0] 0 false 0 [(⟨0, false⟩ : S50)] = [false, false, false, false, false, false, false, false, false, false, true, true] := by decide +kernel
  have hp := sput_eq [0, 0] (by decide) (by decide) 0 (by decide) (by decide) false 0 [(⟨0, false⟩ : S50)] (by decide)
  rw [hb, hl, if_neg (by decide), if_neg (by decide), hs] at hp
  have hby := bytes_eq [false, false, false, false, false, false, false, false, false, false, true, true] (by decide)
  have ht : toB [false, false, false, false, false, false, false, false, false, false, true, true] = [0, 48] := by decide +kernel
  rw [ht] at hby
  unfold serinettelaw15_awake.f
  rw [new15]
  simp only [Option.bind_some]
  rw [hp]
  simp only [Option.bind_some]
  refine pos (by first | trivial | rfl) ?_
  have hlen : bits_Writer_Len.f (WB [false, false, false, false, false, false, false, false, false, false, true, true]) 12 = some (12, WB [false, false, false, false, false, false, false, false, false, false, true, true], 12) := rfl
  rw [hlen]
  simp only [Option.bind_some]
  refine pos (by first | trivial | rfl) ?_
  have hby : bits_Writer_Bytes.f (WB [false, false, false, false, false, false, false, false, false, false, true, true]) 12 = some ([0, 48], WB [false, false, false, false, false, false, false, false, false, false, true, true], 12) := hby
  rw [hby]
  simp only [Option.bind_some]
  have hsame : Ev (fun k => serinetteref01_Same.f k [0, 48] [0, 48]) true := Ev.of (fun k => serinetteref01_Same.mono _ _ k) (k := 10) (by decide +kernel)
  exact bnd hsame (now true)
theorem split_sub : ∀ (cs l : List Int), ∀ p ∈ split cs l, ∀ x ∈ p, x ∈ l
  | [], _, p, hp, _, _ => by simp [split] at hp
  | n :: cs, l, p, hp, x, hx => by
    simp only [split, List.mem_cons] at hp
    rcases hp with rfl | hp
    · exact List.mem_of_mem_take hx
    · exact List.mem_of_mem_drop (split_sub cs (l.drop n.toNat) p hp x hx)
theorem split_lens : ∀ (cs l : List Int), ∀ p ∈ split cs l, p.length ≤ l.length
  | [], _, p, hp => by simp [split] at hp
  | n :: cs, l, p, hp => by
    simp only [split, List.mem_cons] at hp
    rcases hp with rfl | hp
    · rw [List.length_take]; omega
    · have := split_lens cs (l.drop n.toNat) p hp
      rw [List.length_drop] at this
      omega
theorem rowsN_le (w : Bool) : ∀ (rs : List (S50 × List Int)) (m : Nat), (∀ r ∈ rs, r.2.length ≤ 1000) → (rs.flatMap (·.2)).length ≤ m → rowsN w rs ≤ 10 * rs.length + 17179869300 * m
  | [], m, _, _ => by simp [rowsN]; omega
  | r :: t, m, h, hm => by
    simp only [List.flatMap_cons, List.length_append] at hm
    have h1 := eachW_le (h r (by simp)) r.1
    have h2 := rowsN_le w t (m - r.2.length) (fun x hx => h x (by simp [hx])) (by omega)
    have h3 := sizeOf_bd w
    simp only [rowsN, List.length_cons]
    omega
/-- A section's bits are not too many. -/
theorem Fine.le {l : List Int} {order : Int} {wd : Bool} {o : Int} {ps : List S50} (h : Fine l order wd o ps) (hl : l.length ≤ 100) (hps : ps.length ≤ 1000) : bitsV l order wd o ps ≤ 1800000000000 := by
  obtain ⟨w1, w2, w3, _⟩ := rows_whole _ l ps h.whole h.len
  have hrl : (rowsP (cutsI (l.length : Int) order o) l ps).length = ps.length := by rw [← List.length_map (f := (·.1)), w1]
  have h1 := rowsN_le wd (rowsP (cutsI (l.length : Int) order o) l ps) l.length (fun r hr => by
    have : r.2.length ≤ ((rowsP (cutsI (l.length : Int) order o) l ps).flatMap (·.2)).length := by
      obtain ⟨a, b, e⟩ := List.append_of_mem hr
      rw [e]
      simp only [List.flatMap_append, List.flatMap_cons, List.length_append]
      omega
    rw [w2] at this
    omega) (by rw [w2]; exact Nat.le_refl _)
  rw [h.bits]
  omega
/-- What is read of a section that was put. -/
theorem Fine.take {l : List Int} {order : Int} {wd : Bool} {o : Int} {ps : List S50} (h : Fine l order wd o ps) (hl : l.length ≤ 1000) (hl0 : l.length ≠ 0) (ho : 0 ≤ order ∧ order ≤ 32) (hps : ps.length ≤ 1000) {b : List Int} (hb : GB b) (hpre : Pre b (secB l order wd o ps)) :
    ∃ res, OutR b (secB l order wd o ps) l wd o ps res ∧ Ev (fun k => section_Take.f k b 0 0 ((l.length : Int) + order) order) res := by
  obtain ⟨w1, w2, w3, _⟩ := rows_whole _ l ps h.whole h.len
  have hrl : (rowsP (cutsI (l.length : Int) order o) l ps).length = ps.length := by rw [← List.length_map (f := (·.1)), w1]
  have := take15 hb hpre l hl hl0 wd o order h.oin ho (rowsP (cutsI (l.length : Int) order o) l ps) (by omega) w3.symm (fun e => h.ne (by rw [e] at w3; exact w3.symm)) rfl h.okr w2
  rw [w1] at this
  exact this
theorem Fine.len0 {l : List Int} {order : Int} {wd : Bool} {o : Int} {ps : List S50} (h : Fine l order wd o ps) : l.length ≠ 0 := by
  intro e
  have hw := h.whole
  have hne := h.ne
  match hc : cutsI (l.length : Int) order o with
  | [] => exact hne hc
  | n :: cs =>
    rw [hc] at hw
    have h1 := hw.1
    have h2 := hw.2.1
    omega
theorem gb_toB (L : List Bool) (hL : L.length < 4000000000000) (more : List Int) (hm : more.length ≤ 100) (hmb : ∀ x ∈ more, 0 ≤ x ∧ x < 256) : GB (toB L ++ more) := by
  have h8 := toB_len8 L
  refine ⟨by rw [List.length_append]; omega, fun x hx => ?_⟩
  rcases List.mem_append.1 hx with h | h
  · exact toB_bd L x h
  · exact hmb x h
theorem pre_take (L : List Bool) (m : Nat) : Pre ((toB L).take m) L := by
  refine ⟨bitsOf ((toB L).drop m), List.replicate ((8 - L.length % 8) % 8) false, ?_⟩
  rw [← bitsOf_app, List.take_append_drop, bitsOf_toB]
theorem tmod_in {x : Int} (h : 0 ≤ x) (m : Int) (hm : 0 < m) (hm2 : m < 100000) : wrap64 (Int.tmod x m) = x % m := by
  have h1 := Int.emod_nonneg x (show m ≠ 0 by omega)
  have h2 := Int.emod_lt_of_pos x hm
  rw [Int.tmod_eq_emod_of_nonneg h, w64 (by omega) (by omega)]
end Go.Proofs.Ytokdjeoecnnckaa.PL
end
section
namespace Go.Proofs.Ytokdjeoecnnckaa.PL
open Go Go.RowKit Go.Proofs.Ytokdjeoecnnckaa.PA Go.Proofs.YtokdjeoecnnckaaW.PrintWords Go.Proofs.YtokdjeoecnnckaaW.PrintLast Go.Proofs.YtokdjeoecnnckaaW.PrintMore
set_option linter.unusedSimpArgs false
set_option linter.unusedVariables false
/-- Numbers of 21 bits. -/
def Sm21 (l : List Int) : Prop := ∀ x ∈ l, -1048576 ≤ x ∧ x ≤ 1048576
theorem Sm21.near {l : List Int} (h : Sm21 l) : NearAll l := fun x hx => by
  have := h x hx
  unfold IsNear
  omega
theorem Sm21.nar {l : List Int} (h : Sm21 l) : ∀ x ∈ l, nar x := fun x hx => by
  have := h x hx
  unfold PL.nar
  omega
theorem Sm21.wid {l : List Int} (h : Sm21 l) : wid l ≤ 22 := by
  obtain ⟨w1, w2, w3⟩ := wid_spec h.near
  rcases Nat.lt_or_ge 22 (PL.wid l) with hw | hw
  · refine absurd (fun n hn => ?_) (w3 22 hw)
    have := h n hn
    have e : (2 : Int) ^ (22 - 1) = 2097152 := by decide
    exact .inr ⟨by decide, by rw [e]; omega, by rw [e]; omega⟩
  · exact hw
theorem rows_map (f : List Int → S50) : ∀ (cs l : List Int), rowsP cs l ((split cs l).map f) = (split cs l).map (fun p => (f p, p))
  | [], _ => by simp [rowsP, split]
  | n :: cs, l => by simp only [rowsP, split, List.map_cons, rows_map f cs]
theorem sz_le_bits (k : Nat) (hk : k ≤ 30) : ∀ (xs : List Int), NearAll xs → ∀ n ∈ xs, sz n k ≤ bitsL k xs
  | [], _, n, hn => by simp at hn
  | x :: t, h, n, hn => by
    obtain ⟨h1, h2⟩ := nearAll_cons.1 h
    have hb := bitsL_bd k hk t h2
    have hs := sz_bd h1 hk
    have h0 : 0 ≤ (1 + (k : Int)) * (t.length : Int) := Int.mul_nonneg (by omega) (by omega)
    simp only [bitsL]
    rcases List.mem_cons.1 hn with rfl | hn
    · omega
    · have := sz_le_bits k hk t h2 n hn
      omega
/-- The best way of a part of such numbers has no number that is too long. -/
theorem best_short {xs : List Int} (h : Sm21 xs) (hl : xs.length ≤ 1000) {m : Nat} (hm : m ≤ 30) : longP (partL xs m, xs) = false := by
  unfold longP
  cases hr : (partL xs m).f1 with
  | true => rfl
  | false =>
    simp only [Bool.not_false, Bool.true_and]
    refine List.any_eq_false.2 (fun n hn => ?_)
    have hnr := h.near
    have hw := h.wid
    have hle := (best_le xs m).2 (by omega)
    have hraw := raw_bd xs hl (by omega)
    have hc : ¬ (PL.wid xs ≤ 31 ∧ rawL xs < bitsL (amin (fun k => bitsL k xs) m) xs) := fun hc => by
      have hb : bestL xs m = ((PL.wid xs : Int), true, rawL xs, 0) := by unfold bestL; rw [if_pos hc]
      unfold partL at hr
      rw [hb] at hr
      cases hr
    have hb : bestL xs m = ((amin (fun k => bitsL k xs) m : Int), false, bitsL (amin (fun k => bitsL k xs) m) xs, 0) := by unfold bestL; rw [if_neg hc]
    have hk := amin_le (fun k => bitsL k xs) m
    have hf0 : (partL xs m).f0 = (amin (fun k => bitsL k xs) m : Int) := by unfold partL; rw [hb]
    rw [hb] at hle
    have hsz := sz_le_bits (amin (fun k => bitsL k xs) m) (by omega) xs hnr n hn
    rw [hf0, long_eq (hnr n hn) (by omega) (by omega), kk_nat (by omega)]
    have hlw : (PL.wid xs : Int) * (xs.length : Int) ≤ 34000 := hraw.2
    simp only [Option.getD_some, decide_eq_true_eq]
    unfold rawL at hle
    unfold sz at hsz
    simp only at hle
    omega
theorem best_lon {l : List Int} (h : Sm21 l) (hl : l.length ≤ 1000) (order : Int) (w : Bool) {j : Nat} (hj : j ≤ 8) : lonP l order (j : Int) (planPs l order w j) = false := by
  have hci : cutsI (l.length : Int) order (j : Int) = cutsP (l.length : Int) order j := by unfold cutsI; rw [if_pos ⟨by omega, by omega⟩, Int.toNat_natCast]
  unfold lonP planPs partsP
  rw [hci, rows_map]
  refine List.any_eq_false.2 (fun r hr => ?_)
  obtain ⟨p, hp, rfl⟩ := List.mem_map.1 hr
  have hs : Sm21 p := fun x hx => h x (split_sub _ l p hp x hx)
  rw [best_short hs (by have := split_lens _ l p hp; omega) (mostOf_le w)]
  decide
/-- What is found, put, and read. -/
theorem best_all {l : List Int} (h : Sm21 l) (hl : l.length ≤ 60) (h0 : l.length ≠ 0) {order : Int} (bo : 0 ≤ order ∧ order ≤ 32) {m : Nat} (hm : m ≤ 8) (wide : Bool) :
    ∃ (wd : Bool) (o : Int) (ps : List S50), parts_Best.f l order (m : Int) wide = some (wd, o, ps, bitsV l order wd o ps, 0) ∧ Fine l order wd o ps ∧ 0 ≤ bitsV l order wd o ps ∧ lonP l order o ps = false ∧ ps.length ≤ 256 := by
  have p3 : parts_Best.f l order (m : Int) wide = _ := best_f h.near (by omega) h0 bo.1 bo.2 hm wide
  have htop := topO_ne (order := order) (show (0 : Int) < (l.length : Int) by omega) m
  have hle := topO_le (l.length : Int) order m
  generalize topO (l.length : Int) order m = t at p3 htop hle
  have hcc := cuts_below (by omega) bo.1 htop
  have hbest : ∃ j, j ≤ t ∧ ∃ v : Bool, bestPlan l order t wide = curL l order v j := by
    unfold bestPlan
    split
    · exact ⟨_, amin_le _ _, _, rfl⟩
    · exact ⟨_, amin_le _ _, _, rfl⟩
  obtain ⟨j, hj, v, hb⟩ := hbest
  rw [hb] at p3
  have e1 := best_bits h.near (by omega) v (by omega) (hcc j hj)
  have hci : cutsI (l.length : Int) order (j : Int) = cutsP (l.length : Int) order j := by unfold cutsI; rw [if_pos ⟨by omega, by omega⟩, Int.toNat_natCast]
  have hge : 0 ≤ planL l order v j := by
    have : ∀ qs : List (List Int), (∀ p ∈ qs, NearAll p ∧ p.length ≤ 1000) → 0 ≤ planN v qs := by
      intro qs
      induction qs with
      | nil => intro _; simp [planN]
      | cons q t ih =>
        intro hq
        have h1 := hq q (by simp)
        have h2 := (bestN_bd h1.1 h1.2 (mostOf_le v)).1
        have h3 := ih (fun p hp => hq p (by simp [hp]))
        have h4 := sizeOf_bd v
        simp only [planN]
        omega
    have h5 := this (partsP l order j) (split_near _ l h.near (by omega))
    unfold planL
    omega
  refine ⟨v, (j : Int), planPs l order v j, ?_, fine_of bo.1 (by rw [e1]; exact hge), by rw [e1]; exact hge, best_lon h (by omega) order v (by omega), ?_⟩
  · rw [e1]; exact p3
  · have hlen : (planPs l order v j).length = (cutsP (l.length : Int) order j).length := by unfold planPs partsP; rw [List.length_map, split_len]
    rw [hlen, cutsP_len (hcc j hj)]
    have : 2 ^ j ≤ 2 ^ 8 := Nat.pow_le_pow_right (by decide) (by omega)
    omega
/-- What the laws make of their numbers. -/
def mod21 (l : List Int) : List Int := l.map (fun x => Int.tmod x 1048577)
theorem mod21_sm (l : List Int) : Sm21 (mod21 l) := fun x hx => by
  obtain ⟨y, _, rfl⟩ := List.mem_map.1 hx
  have h1 := Int.tmod_lt_of_pos y (show (0 : Int) < 1048577 by decide)
  have h2 := Int.lt_tmod_of_pos y (show (0 : Int) < 1048577 by decide)
  omega
end Go.Proofs.Ytokdjeoecnnckaa.PL
end
section
namespace Go.Proofs.Ytokdjeoecnnckaa.Pure
open Go.RowKit Go.Proofs.Ytokdjeoecnnckaa.PA Go.Proofs.YtokdjeoecnnckaaW.PrintWords Go.Proofs.YtokdjeoecnnckaaW.PrintLast Go.Proofs.YtokdjeoecnnckaaW.PrintMore Go.Proofs.Ytokdjeoecnnckaa.PL
set_option linter.unusedVariables false
set_option linter.unusedSimpArgs false
theorem mod21_at' {l : List Int} (hw : ∀ x ∈ l, (Lit.int .i32 x).wf = true) {p t : List Int} {x : Int} (hp : l = p ++ x :: t) : Int.tmod (wrap64 (rd l (p.length : Int))) 1048577 = Int.tmod x 1048577 := by
  have ra : rd l (p.length : Int) = x := by rw [hp]; exact rd_at _ _ _
  have hx := wfi32 (hw x (by rw [hp]; simp))
  rw [ra, w64 (by omega) (by omega)]
theorem cuts_loop (l : List Int) (hl : l.length ≤ 60) (hw : ∀ x ∈ l, (Lit.int .i32 x).wf = true) (a1 a2 a3 : Int) (ok : Bool) (r : Bool) :
    Ev (fun k => serinettelaw15_SectionCuts.l0 k l a1 a2 a3 ok (mod21 l) (l.length : Int)) r →
    ∀ (t p : List Int), l = p ++ t → Ev (fun k => serinettelaw15_SectionCuts.l0 k l a1 a2 a3 ok (mod21 p) (p.length : Int)) r := by
  intro hend t
  induction t with
  | nil =>
    intro p hp
    rw [List.append_nil] at hp
    rw [← hp]
    exact hend
  | cons x t ih =>
    intro p hp
    have l1 := congrArg List.length hp
    simp only [List.length_append, List.length_cons] at l1
    have nx := ih (p ++ [x]) (by simp [hp])
    have em : mod21 (p ++ [x]) = mod21 p ++ [Int.tmod x 1048577] := by simp [mod21]
    have eml : (mod21 p).length = p.length := by simp [mod21]
    have ei : wrap64 ((p.length : Int) + 1) = ((p ++ [x]).length : Int) := by rw [w64 (by omega) (by omega), List.length_append]; simp
    rw [em] at nx
    refine succ ?_
    simp only [serinettelaw15_SectionCuts.l0]
    rw [mod21_at' hw hp, ei]
    exact pos (by omega) (pos (by omega) (pos (by omega) nx))
theorem SectionCuts : serinettelaw15_SectionCuts.Pure := by
  intro l a1 a2 a3 h1 h2 hw w1 w2 w3
  refine Ev.rounds ?_
  unfold serinettelaw15_SectionCuts.f
  refine bnd awake_ev ?_
  have out : Ev (fun k => serinettelaw15_SectionCuts.j0 k l a1 a2 a3 true true) true := by
    refine succ ?_
    simp only [serinettelaw15_SectionCuts.j0]
    exact pos trivial (now _)
  by_cases c1 : (l.length : Int) > 60
  · exact pos c1 out
  refine neg c1 ?_
  by_cases c2 : l.length = 0
  · rw [show ((l.length : Int) == 0) = true by rw [c2]; rfl]
    exact out
  rw [show ((l.length : Int) == 0) = false from beq_eq_false_iff_ne.2 (by omega)]
  have g1 := wfu8 w1
  have g2 := wfu8 w2
  have g3 := wfu16 w3
  refine succ ?_
  simp only [serinettelaw15_SectionCuts.j0]
  refine neg (by decide) ?_
  refine cuts_loop l (by omega) hw a1 a2 a3 true true ?_ l [] rfl
  have hsm := mod21_sm l
  have hxl : (mod21 l).length = l.length := by simp [mod21]
  refine succ ?_
  simp only [serinettelaw15_SectionCuts.l0]
  rw [tmod_in g1.1 33 (by decide) (by decide), tmod_in g2.1 9 (by decide) (by decide)]
  obtain ⟨order, hord⟩ : ∃ x, a1 % 33 = x := ⟨_, rfl⟩
  obtain ⟨m, hm⟩ : ∃ m : Nat, a2 % 9 = (m : Int) := ⟨(a2 % 9).toNat, by omega⟩
  rw [hord, hm]
  have bo : 0 ≤ order ∧ order ≤ 32 := by omega
  have b8 : m ≤ 8 := by omega
  have hx60 : (mod21 l).length ≤ 60 := by omega
  have hx0 : (mod21 l).length ≠ 0 := by omega
  clear hord hm g1 g2 w1 w2 out c1 c2 h1 h2 hw
  refine neg (Int.lt_irrefl _) ?_
  generalize mod21 l = x at *
  obtain ⟨wd, o, ps, hb, hf, hge, hlon, hps⟩ := best_all hsm hx60 hx0 bo b8 true
  have hput := sput_eq x (by omega) (fun y hy => by have := hsm y hy; omega) order bo.1 bo.2 wd o ps (by omega)
  rw [if_neg (by omega), hlon, if_neg (by decide)] at hput
  obtain ⟨p1, p2⟩ := hf.put hlon
  have hle := hf.le (by omega) (by omega)
  have hlL : (secB x order wd o ps).length < 4000000000000 := by omega
  have h6 : 6 ≤ (secB x order wd o ps).length := by unfold secB; rw [List.length_append, headW_len]; omega
  have h8 := toB_len8 (secB x order wd o ps)
  have hgb0 := gb_toB (secB x order wd o ps) hlL [] (by simp) (by simp)
  rw [List.append_nil] at hgb0
  obtain ⟨c, hc⟩ : ∃ c : Nat, a3 % ((toB (secB x order wd o ps)).length : Int) = (c : Int) := ⟨(a3 % ((toB (secB x order wd o ps)).length : Int)).toNat, by
    have := Int.emod_nonneg a3 (show ((toB (secB x order wd o ps)).length : Int) ≠ 0 by omega)
    omega⟩
  have hcl : (c : Int) < ((toB (secB x order wd o ps)).length : Int) := by
    rw [← hc]
    exact Int.emod_lt_of_pos a3 (by omega)
  have hgb : GB ((toB (secB x order wd o ps)).take c) := ⟨by rw [List.length_take]; omega, fun y hy => hgb0.bd y (List.mem_of_mem_take hy)⟩
  obtain ⟨res, ho, ht⟩ := hf.take (by omega) hx0 bo (by omega) hgb (pre_take _ c)
  have e3 : Int.tmod (wrap64 a3) ((toB (secB x order wd o ps)).length : Int) = (c : Int) := by
    rw [w64 (x := a3) (by omega) (by omega), Int.tmod_eq_emod_of_nonneg g3.1]
    exact hc
  rw [← p2] at hb hput
  clear p1 hge hle hc g3 w3
  generalize secB x order wd o ps = L at *
  rw [hb]
  simp only [Option.bind_some]
  rw [new15]
  simp only [Option.bind_some]
  refine pos (by first | trivial | rfl) ?_
  rw [hput]
  simp only [Option.bind_some]
  rw [bytes_eq L (by omega)]
  simp only [Option.bind_some]
  refine pos (by first | trivial | rfl) ?_
  rw [show (((toB L).length : Int) == 0) = false from beq_eq_false_iff_ne.2 (by omega)]
  refine succ ?_
  simp only [serinettelaw15_SectionCuts.j2]
  rw [e3, Int.toNat_natCast]
  refine neg (by decide) (neg (by omega) (pos (by omega) (pos (by omega) ?_)))
  rw [open_eq _ hgb.len]
  simp only [Option.bind_some]
  rw [w64 (x := (x.length : Int) + order) (by omega) (by omega)]
  refine bnd ht ?_
  have htl : ((toB L).take c).length = c := by rw [List.length_take]; omega
  rcases ho with ⟨h1, _⟩ | ⟨⟨y, hy, hny⟩, _⟩ | ⟨_, p, f, rfl⟩
  · rw [htl] at h1
    omega
  · exact absurd (hsm.nar y hy) hny
  · exact pos (by first | trivial | rfl) (pos (by first | trivial | rfl) (cst rfl))
end Go.Proofs.Ytokdjeoecnnckaa.Pure
end
section
namespace Go.Proofs.Ytokdjeoecnnckaa.sectionCuts
open Go.ChangeShapes Go.WideShapes Go.ChangeAt Go.RowKit
open Go.ChangeMaps (open_string shut_string)
set_option linter.unusedVariables false
theorem own : ownKnob Try.prog.godebug = none := by kernel_rfl
theorem laidOut : laidOutB Try.prog = true := by kernel_rfl
def IsRow (k : IntKind) (w : World) (a : Option Addr) (len cap : Nat) (zs : List Int) : Prop :=
  (a = none ∧ len = 0 ∧ cap = 0 ∧ zs = []) ∨
  ∃ x, a = some x ∧ len ≤ cap ∧ cap ≤ maxLen ∧ zs.length = cap ∧ (∀ i, i < zs.length → w.cell? (x.add i) = some (.int k (zs.getD i 0))) ∧ ∀ n ∈ zs, (Lit.int k n).wf = true
set_option maxRecDepth 100000 in
theorem lifted (os : Os) (started : os.Started) (H : Type) (enc : TypeId × Value → H) :
    ReturnsInHanded {} Try.checked os 5 .any (Rows.sectionCutsSpec.pre6 enc Try.prog Try.f5 Rows.sectionCutsRow.domain false) (Rows.sectionCutsSpec.post enc Try.prog Try.f5 false true false false) := by
  refine returnsInHanded_of_change_sized (C := Try.checked) own started (by kernel_rfl) Try.func5
    (ChangeSpec.witness6 (enc := enc) (C := Try.checked) false ⟨#[], #[.slice none 0 0, .int .u8 0, .int .u8 0, .int .u16 0], []⟩ 8 (by kernel_rfl) (by kernel_rfl) (by kernel_rfl) (by kernel_rfl)) ?_
  intro W base args ds gs before hval0 hW hcnd hsz0 _
  have hsz : (DataW.weightsEach Try.prog (Try.f5.params.toList ++ Rows.sectionCutsSpec.plain.varTypes Try.prog) (ds ++ gs)).all (· ≤ reachBytes) = true := hsz0
  have hval : ∀ (j : Nat) t v, Try.f5.params[j]? = some t → args[j]? = some v → Value.okWide Try.prog W .any base t v := hval0
  have hW' := hW
  obtain ⟨p, q, hA0, hV, rfl, hfz, hnd⟩ := hW
  have hA : DataW.TrodAll enc Try.prog W 0 (fun _ => true) true Try.f5.params.toList args.toList ds p := hA0
  rw [Try.params5] at hA hval hsz
  obtain ⟨v0, vs0, d0, ds0, p0, q0, hargs, rfl, rfl, h0, r0⟩ := trodAll_cons hA
  obtain ⟨v1, vs1, d1, ds1, p1, q1, rfl, rfl, rfl, h1, r1⟩ := trodAll_cons r0
  obtain ⟨v2, vs2, d2, ds2, p2, q2, rfl, rfl, rfl, h2, r2⟩ := trodAll_cons r1
  obtain ⟨v3, vs3, d3, ds3, p3, q3, rfl, rfl, rfl, h3, r3⟩ := trodAll_cons r2
  obtain ⟨rfl, rfl, rfl⟩ := trodAll_nil r3
  obtain rfl : args = #[v0, v1, v2, v3] := by cases args; simp_all
  obtain ⟨rfl, rfl⟩ := trodVars_none hV
  obtain ⟨a0, len0, cap0, rfl⟩ := okWide_slice Try.underlying43 (hval 0 43 v0 rfl rfl)
  have k0 := h0
  have lt0 : ∀ x ∈ p0, x.block < W.heap.size := by obtain ⟨m, hm⟩ := k0; exact DataW.trod_lt m _ _ _ hm
  obtain ⟨z0, w0⟩ : ∃ zs, IsRow .i32 W a0 len0 cap0 zs := by
    obtain ⟨fuel, hf⟩ := h0
    rcases open_ints Try.underlying43 Try.underlying21 (by kernel_rfl) hf with ⟨hcs, _⟩ | ⟨x, l, c, zs, hcs, _, hl, hm, hz, _, hcell, hwz⟩
    · simp [Value.cells] at hcs
      obtain ⟨rfl, rfl, rfl⟩ := hcs
      exact ⟨[], .inl ⟨rfl, rfl, rfl, rfl⟩⟩
    · simp [Value.cells] at hcs
      obtain ⟨rfl, rfl, rfl⟩ := hcs
      exact ⟨zs, .inr ⟨_, rfl, hl, hm, by simpa using hz, hcell, hwz⟩⟩
  have y0 : len0 * 4 ≤ 140737488351232 := Go.Proofs.YtokdjeoecnnckaaW.PrintWords.sized_ints hsz (j := 0) (t := 43) rfl rfl Try.underlying43 Try.underlying21 (by kernel_rfl) (by kernel_rfl) h0
  obtain ⟨a1, rfl, rfl, rfl, w1⟩ := open_int Try.underlying5 (hval 1 5 v1 rfl rfl) h1
  obtain ⟨a2, rfl, rfl, rfl, w2⟩ := open_int Try.underlying5 (hval 2 5 v2 rfl rfl) h2
  obtain ⟨a3, rfl, rfl, rfl, w3⟩ := open_int Try.underlying47 (hval 3 47 v3 rfl rfl) h3
  clear hA0 hval0 hsz0 hsz
  refine (PA.serinettelaw15_SectionCuts.walk Pure.SectionCuts a0 len0 cap0 z0 a1 a2 a3 W w0 y0 w1 w2 w3).mono fun e W' ⟨he, bel⟩ => ?_
  subst he
  exact ⟨_, rfl, _, _, _, [], _, [], hW', trodAll_mk1 (shut_bool Try.underlying4 _), (trodAll_cons_mk (Below.trod laidOut (by kernel_rfl) (of_decide_eq_true (by kernel_rfl)) k0 bel lt0) (trodAll_cons_mk (shut_int Try.underlying5 w1) (trodAll_cons_mk (shut_int Try.underlying5 w2) (trodAll_cons_mk (shut_int Try.underlying47 w3) trodAll_mk0)))), rfl, bel.frame _, fun h => by cases h⟩
theorem over : Rows.sectionCutsRow.holds Try.pinned (OpenSpec.ofChange Rows.sectionCutsSpec) :=
  OpenClaim.holds_of_wide 5 Try.f5 rfl rfl rfl rfl rfl rfl rfl ⟨rfl, rfl, rfl, rfl, rfl⟩ rfl rfl rfl rfl rfl (by kernel_rfl) Try.func5 (by kernel_rfl)
    (of_decide_eq_true (by kernel_rfl)) (by unfold Func.isWrapper; first | (rw [if_pos (by decide +kernel)]; kernel_rfl) | (rw [if_neg (by decide +kernel)]; exact ⟨rfl, rfl⟩))
    (fun os started H enc _ => lifted os started H enc)
theorem proved : Rows.SectionCutsSaid := over
end Go.Proofs.Ytokdjeoecnnckaa.sectionCuts
namespace Go.Proofs.Ytokdjeoecnnckaa
/-- The row, under a short name, for the claim. -/
theorem sectionCuts_holds : Rows.SectionCutsSaid := sectionCuts.proved
end Go.Proofs.Ytokdjeoecnnckaa
end
