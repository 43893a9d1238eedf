/- What parts.Best finds, told of the parts themselves. Condition: up to a thousand near numbers. -/
import Derived.Test.YtpoigjkkcehpdaaB14B
namespace Go.Proofs.Ytpoigjkkcehpdaa.PL
open Go.RowKit Go.Proofs.Ytpoigjkkcehpdaa.PA Go.Proofs.YtpoigjkkcehpdaaW.PrintWords Go.Proofs.YtpoigjkkcehpdaaW.PrintLast Go.Proofs.YtpoigjkkcehpdaaW.PrintMore
set_option linter.unusedVariables false
set_option linter.unusedSimpArgs false
theorem wid_append (a b : List Int) (ha : NearAll a) (hb : NearAll b) : wid (a ++ b) = max (wid a) (wid b) := by
  obtain ⟨a1, _, a2⟩ := wid_spec ha
  obtain ⟨b1, _, b2⟩ := wid_spec hb
  refine wid_eq (nearAll_append.2 ⟨ha, hb⟩) (fitsW_append.2 ⟨fitsW_mono a1 (by omega), fitsW_mono b1 (by omega)⟩) (fun v hv hf => ?_)
  have hf := fitsW_append.1 hf
  rcases Nat.lt_or_ge v (wid a) with h | h
  · exact a2 v h hf.1
  · exact b2 v (by omega) hf.2
/-- What is known of near numbers. -/
def smP (l : List Int) : Sm := ⟨(l.length : Int), (List.range 31).map (fun k => bitsL k l), (wid l : Int)⟩
theorem smP_ys (l : List Int) {k : Nat} (hk : k < 31) : (smP l).ys.getD k 0 = bitsL k l := by
  simp [smP, List.getD_eq_getElem?_getD, hk]
theorem take_near {l : List Int} (h : NearAll l) (n : Nat) : NearAll (l.take n) := fun x hx => h x (List.mem_of_mem_take hx)
theorem drop_near {l : List Int} (h : NearAll l) (n : Nat) : NearAll (l.drop n) := fun x hx => h x (List.mem_of_mem_drop hx)
theorem sumBy_near (k : Nat) (hk : k ≤ 30) : ∀ (l : List Int) (s : Int), NearAll l → l.length ≤ 1000 → 0 ≤ s → s + 17179869300 * l.length ≤ 17179869300 * 1000 → l.foldl (fun s n => wrap64 (s + sizeV n (k : Int))) s = s + bitsL k l
  | [], s, _, _, _, _ => by simp [bitsL]
  | x :: t, s, hn, hl, h0, h1 => by
    have hx := (nearAll_cons.1 hn).1
    have hb := sz_bd hx hk
    have e : sizeV x (k : Int) = sz x k := by unfold sizeV; rw [size_eq, if_pos hx, kk_nat hk]; rfl
    simp only [List.length_cons] at hl h1
    rw [List.foldl_cons, e, w64 (by omega) (by omega), sumBy_near k hk t _ (nearAll_cons.1 hn).2 (by omega) (by omega) (by omega)]
    simp only [bitsL]
    omega
theorem smOf_near {l : List Int} (h : NearAll l) (hl : l.length ≤ 1000) : smOf widF l = smP l := by
  unfold smOf smP ysAt widF
  congr 1
  apply List.map_congr_left
  intro k hk
  have hk : k < 31 := List.mem_range.1 hk
  simp only [hk, if_true]
  have := sumBy_near k (by omega) l 0 h hl (by omega) (by omega)
  rw [Int.zero_add] at this
  exact this
theorem bits_bd (k : Nat) (hk : k ≤ 30) (l : List Int) (h : NearAll l) (hl : l.length ≤ 1000) : 0 ≤ bitsL k l ∧ bitsL k l ≤ 17179869300000 := by
  have h1 := bitsL_bd k hk l h
  have : 0 ≤ (1 + (k : Int)) * (l.length : Int) := Int.mul_nonneg (by omega) (by omega)
  omega
theorem withS_near {a b : List Int} (ha : NearAll a) (hb : NearAll b) (hl : a.length + b.length ≤ 1000) : withS (smP a) (smP b) = smP (a ++ b) := by
  unfold withS
  have e1 : wrap64 ((smP a).n + (smP b).n) = ((a ++ b).length : Int) := by
    simp only [smP, List.length_append]
    rw [w64 (by omega) (by omega)]; omega
  have e2 : zAt (smP a).ys (smP b).ys 31 = (List.range 31).map (fun k => bitsL k (a ++ b)) := by
    unfold zAt
    apply List.map_congr_left
    intro k hk
    have hk : k < 31 := List.mem_range.1 hk
    have b1 := bits_bd k (by omega) a ha (by omega)
    have b2 := bits_bd k (by omega) b hb (by omega)
    simp only [hk, if_true]
    rw [smP_ys a hk, smP_ys b hk, w64 (by omega) (by omega), bitsL_append]
  have e3 : mx (smP a).wd (smP b).wd = (wid (a ++ b) : Int) := by
    rw [wid_append a b ha hb]
    simp only [smP]
    unfold mx
    by_cases hw : (wid a : Int) < (wid b : Int)
    · rw [if_pos hw]; omega
    · rw [if_neg hw]; omega
  rw [e1, e2, e3]
  rfl
theorem bestK_near (l : List Int) : ∀ m, m ≤ 30 → bestK (smP l).ys m = ((amin (fun k => bitsL k l) m : Int), bitsL (amin (fun k => bitsL k l) m) l)
  | 0, _ => by simp only [bestK, amin]; rw [smP_ys l (by omega)]; rfl
  | m + 1, h => by
    simp only [bestK, amin]
    rw [bestK_near l m (by omega), smP_ys l (by omega)]
    simp only
    split <;> rfl
/-- A part's best way, and its bits. -/
theorem bestP_near {l : List Int} (h : NearAll l) (hl : l.length ≤ 1000) {m : Nat} (hm : m ≤ 30) : bestP (smP l).n (smP l).ys (smP l).wd m = (((bestL l m).1, (bestL l m).2.1), (bestL l m).2.2.1) := by
  have h34 := (wid_spec h).2.1
  have hb := raw_bd l hl h34
  have hr : bestRaw (smP l).n (smP l).wd = rawL l := by
    unfold bestRaw rawL smP
    simp only
    rw [Int.mul_comm, w64 (x := (wid l : Int) * l.length) (by omega) (by omega), w64 (by omega) (by omega)]
  unfold bestP
  rw [hr, bestK_near l m hm]
  unfold bestL
  have hw : (smP l).wd = (wid l : Int) := rfl
  rw [hw]
  by_cases hc : wid l ≤ 31 ∧ rawL l < bitsL (amin (fun k => bitsL k l) m) l
  · rw [if_pos ⟨by omega, hc.2⟩, if_pos hc]
  · rw [if_neg (fun g => hc ⟨by omega, g.2⟩), if_neg hc]
def partL (l : List Int) (m : Nat) : S39 := ⟨(bestL l m).1, (bestL l m).2.1⟩
def bestN (l : List Int) (m : Nat) : Int := (bestL l m).2.2.1
theorem partOf_near {l : List Int} (h : NearAll l) (hl : l.length ≤ 1000) {m : Nat} (hm : m ≤ 30) : partOf (smP l) m = partL l m := by unfold partOf partL; rw [bestP_near h hl hm]
theorem bitsOf_near {l : List Int} (h : NearAll l) (hl : l.length ≤ 1000) {m : Nat} (hm : m ≤ 30) : bitsOf (smP l) m = bestN l m := by unfold bitsOf bestN; rw [bestP_near h hl hm]
theorem best_le (l : List Int) (m : Nat) : (∀ k, k ≤ m → (bestL l m).2.2.1 ≤ bitsL k l) ∧ (wid l ≤ 31 → (bestL l m).2.2.1 ≤ rawL l) := by
  have hmin := amin_min (fun k => bitsL k l) m
  unfold bestL
  split
  · rename_i h
    exact ⟨fun k hk => by have := hmin k hk; simp only [] at *; omega, fun _ => Int.le_refl _⟩
  · rename_i h
    refine ⟨fun k hk => hmin k hk, fun h1 => ?_⟩
    have h2 : ¬ rawL l < bitsL (amin (fun k => bitsL k l) m) l := fun h3 => h ⟨h1, h3⟩
    simp only []; omega
theorem best_is (l : List Int) (m : Nat) : (∃ k, k ≤ m ∧ (bestL l m).2.2.1 = bitsL k l) ∨ (wid l ≤ 31 ∧ (bestL l m).2.2.1 = rawL l) := by
  unfold bestL
  split
  · rename_i h; exact .inr ⟨h.1, rfl⟩
  · exact .inl ⟨_, amin_le _ m, rfl⟩
theorem bestN_bd {l : List Int} (h : NearAll l) (hl : l.length ≤ 1000) {m : Nat} (hm : m ≤ 30) : 0 ≤ bestN l m ∧ bestN l m ≤ 17179869300 * l.length := by
  have h0 : bestN l m ≤ bitsL 0 l := (best_le l m).1 0 (Nat.zero_le _)
  have h1 := bitsL_bd 0 (by omega) l h
  refine ⟨?_, by omega⟩
  rcases best_is l m with ⟨k, hk, e⟩ | ⟨hw, e⟩
  · have := bits_bd k (by omega) l h hl
    unfold bestN; omega
  · have := raw_bd l hl (wid_spec h).2.1
    unfold bestN; rw [e]; unfold rawL; omega
/-- The parts. -/
def split : List Int → List Int → List (List Int)
  | [], _ => []
  | n :: cs, l => l.take n.toNat :: split cs (l.drop n.toNat)
theorem split_len : ∀ (cs l : List Int), (split cs l).length = cs.length
  | [], _ => rfl
  | _ :: cs, l => by simp [split, split_len cs]
theorem split_near : ∀ (cs l : List Int), NearAll l → l.length ≤ 1000 → ∀ p ∈ split cs l, NearAll p ∧ p.length ≤ 1000
  | [], _, _, _, p, hp => by simp [split] at hp
  | n :: cs, l, h, hl, p, hp => by
    simp only [split, List.mem_cons] at hp
    rcases hp with rfl | hp
    · exact ⟨take_near h _, by rw [List.length_take]; omega⟩
    · exact split_near cs _ (drop_near h _) (by rw [List.length_drop]; omega) p hp
theorem sums_near : ∀ (cs l : List Int), NearAll l → l.length ≤ 1000 → sumsOf widF cs l = (split cs l).map smP
  | [], _, _, _ => rfl
  | n :: cs, l, h, hl => by
    simp only [sumsOf, split, List.map_cons]
    rw [smOf_near (take_near h _) (by rw [List.length_take]; omega), sums_near cs _ (drop_near h _) (by rw [List.length_drop]; omega)]
def pairSum : List Int → List Int
  | a :: b :: r => (a + b) :: pairSum r
  | _ => []
def cut2 : List Int → Prop
  | a :: b :: r => 0 ≤ a ∧ 0 ≤ b ∧ cut2 r
  | _ => True
theorem pair_near : ∀ (cs l : List Int), cut2 cs → NearAll l → l.length ≤ 1000 → pairUp ((split cs l).map smP) = (split (pairSum cs) l).map smP
  | [], _, _, _, _ => rfl
  | [_], _, _, _, _ => rfl
  | a :: b :: r, l, hc, h, hl => by
    obtain ⟨ha, hb, hr⟩ := hc
    simp only [split, pairSum, List.map_cons, pairUp]
    rw [pair_near r _ hr (drop_near (drop_near h _) _) (by rw [List.length_drop, List.length_drop]; omega)]
    rw [withS_near (take_near h _) (take_near (drop_near h _) _) (by rw [List.length_take, List.length_take, List.length_drop]; omega)]
    have e : (a + b).toNat = a.toNat + b.toNat := by omega
    rw [e, List.take_add, List.drop_drop]
theorem pairSum_rep (s : Int) : ∀ m, pairSum (List.replicate (2 * m) s) = List.replicate m (2 * s)
  | 0 => rfl
  | m + 1 => by
    rw [show 2 * (m + 1) = 2 * m + 1 + 1 by omega, List.replicate_succ, List.replicate_succ, pairSum, pairSum_rep s m, List.replicate_succ]
    congr 1
    omega
theorem cut2_rep (s : Int) (h : 0 ≤ s) : ∀ m, cut2 (List.replicate (2 * m) s)
  | 0 => trivial
  | m + 1 => by
    rw [show 2 * (m + 1) = 2 * m + 1 + 1 by omega, List.replicate_succ, List.replicate_succ]
    exact ⟨h, h, cut2_rep s h m⟩
theorem cuts_pair {n order : Int} (hn : 0 ≤ n) (ho : 0 ≤ order) {o : Nat} (h : cutsP n order (o + 1) ≠ []) : cut2 (cutsP n order (o + 1)) ∧ pairSum (cutsP n order (o + 1)) = cutsP n order o := by
  have hc : (n + order) % 2 ^ (o + 1) = 0 ∧ order < (n + order) / 2 ^ (o + 1) := by
    unfold cutsP at h
    split at h
    · assumption
    · exact absurd rfl h
  obtain ⟨P, hP⟩ : ∃ P : Int, (2 : Int) ^ o = P := ⟨_, rfl⟩
  have hp : 0 < P := by rw [← hP]; exact Int.pow_pos (by decide)
  have e1 : (2 : Int) ^ (o + 1) = P * 2 := by rw [Int.pow_succ, hP]
  rw [e1] at hc
  obtain ⟨s, hs⟩ : ∃ s, (n + order) / (P * 2) = s := ⟨_, rfl⟩
  have hme := Int.mul_ediv_add_emod (n + order) (P * 2)
  rw [hs] at hc hme
  have hN : n + order = 2 * s * P := by rw [hc.1] at hme; rw [← hme]; grind
  have hd : (n + order) / P = 2 * s := by rw [hN]; exact Int.mul_ediv_cancel _ (by omega)
  have hm : (n + order) % P = 0 := by rw [hN]; exact Int.mul_emod_left _ _
  have h1 : cutsP n order (o + 1) = (s - order) :: s :: List.replicate (2 * (2 ^ o - 1)) s := by
    unfold cutsP
    rw [e1, hs, if_pos hc]
    have h2 : 2 ^ (o + 1) - 1 = 2 * (2 ^ o - 1) + 1 := by
      have : 0 < 2 ^ o := Nat.pow_pos (by decide)
      rw [Nat.pow_succ]; omega
    rw [h2, List.replicate_succ]
  have h2 : cutsP n order o = (2 * s - order) :: List.replicate (2 ^ o - 1) (2 * s) := by
    unfold cutsP
    rw [hP, hd, if_pos ⟨hm, by omega⟩]
  rw [h1, h2]
  refine ⟨⟨by omega, by omega, cut2_rep s (by omega) _⟩, ?_⟩
  simp only [pairSum]
  rw [pairSum_rep]
  congr 1
  omega
theorem cuts_down {n order : Int} (hn : 0 ≤ n) (ho : 0 ≤ order) {o : Nat} (h : cutsP n order (o + 1) ≠ []) : cutsP n order o ≠ [] := by
  have h1 := (cuts_pair hn ho h).2
  have h2 := cutsP_len h
  intro h3
  rw [h3] at h1
  have h4 : ∃ a b r, cutsP n order (o + 1) = a :: b :: r := by
    rw [Nat.pow_succ] at h2
    have : 0 < 2 ^ o := Nat.pow_pos (by decide)
    match hc : cutsP n order (o + 1) with
    | [] => rw [hc] at h2; simp at h2; omega
    | [_] => rw [hc] at h2; simp at h2; omega
    | a :: b :: r => exact ⟨a, b, r, rfl⟩
  obtain ⟨a, b, r, h5⟩ := h4
  rw [h5] at h1
  simp [pairSum] at h1
theorem cuts_below {n order : Int} (hn : 0 ≤ n) (ho : 0 ≤ order) : ∀ {o : Nat}, cutsP n order o ≠ [] → ∀ j, j ≤ o → cutsP n order j ≠ []
  | 0, h, j, hj => by obtain rfl : j = 0 := by omega
                      exact h
  | o + 1, h, j, hj => by
    rcases Nat.lt_or_ge o j with h1 | h1
    · obtain rfl : j = o + 1 := by omega
      exact h
    · exact cuts_below hn ho (cuts_down hn ho h) j h1
/-- The parts by an order. -/
def partsP (l : List Int) (order : Int) (j : Nat) : List (List Int) := split (cutsP (l.length : Int) order j) l
def lev (l : List Int) (order : Int) : Nat → List (Nat × List Sm)
  | 0 => [(0, (partsP l order 0).map smP)]
  | o + 1 => (o + 1, (partsP l order (o + 1)).map smP) :: lev l order o
theorem levels_near {l : List Int} (h : NearAll l) (hl : l.length ≤ 1000) {order : Int} (ho : 0 ≤ order) : ∀ o, cutsP (l.length : Int) order o ≠ [] → levels o ((partsP l order o).map smP) = lev l order o
  | 0, _ => rfl
  | o + 1, hc => by
    simp only [levels, lev]
    congr 1
    have h1 := cuts_pair (by omega) ho hc
    have h2 : pairUp ((partsP l order (o + 1)).map smP) = (partsP l order o).map smP := by
      unfold partsP
      rw [pair_near _ l h1.1 h hl, h1.2]
    rw [h2]
    exact levels_near h hl ho o (cuts_down (by omega) ho hc)
/-- How many bits a plan has. -/
def planN (w : Bool) : List (List Int) → Int
  | [] => 0
  | p :: ps => sizeOf_ w + bestN p (mostOf w) + planN w ps
def planL (l : List Int) (order : Int) (w : Bool) (j : Nat) : Int := 6 + planN w (partsP l order j)
def planPs (l : List Int) (order : Int) (w : Bool) (j : Nat) : List S39 := (partsP l order j).map (fun p => partL p (mostOf w))
theorem mostOf_le (w : Bool) : mostOf w ≤ 30 := by cases w <;> decide
theorem sizeOf_bd (w : Bool) : 4 ≤ sizeOf_ w ∧ sizeOf_ w ≤ 5 := by cases w <;> decide
theorem bits_fold (w : Bool) : ∀ (cs l : List Int) (s : Int), NearAll l → l.length ≤ 1000 → 0 ≤ s → s + 5 * cs.length + 17179869300 * l.length ≤ 1000000000000000 → cs.length ≤ 100000 → ((split cs l).map smP).foldl (planAdd w) s = s + planN w (split cs l)
  | [], l, s, _, _, _, _, _ => by simp [split, planN]
  | n :: cs, l, s, h, hl, h0, h1, hcl => by
    have hm := mostOf_le w
    have hb := bestN_bd (take_near h n.toNat) (by rw [List.length_take]; omega) hm
    have hz := sizeOf_bd w
    have hlt : (l.take n.toNat).length + (l.drop n.toNat).length = l.length := by rw [List.length_take, List.length_drop]; omega
    simp only [List.length_cons] at h1 hcl
    simp only [split, List.map_cons, List.foldl_cons, planN]
    unfold planAdd
    rw [bitsOf_near (take_near h _) (by omega) hm, w64 (x := sizeOf_ w + _) (by omega) (by omega), w64 (by omega) (by omega)]
    rw [show (fun n_ s_ => wrap64 (n_ + wrap64 (sizeOf_ w + bitsOf s_ (mostOf w)))) = planAdd w from rfl]
    rw [bits_fold w cs _ _ (drop_near h _) (by omega) (by omega) (by omega) (by omega)]
    omega
theorem planBits_near {l : List Int} (h : NearAll l) (hl : l.length ≤ 1000) (order : Int) (w : Bool) {j : Nat} (hj : j ≤ 8) : planBits ((partsP l order j).map smP) w = planL l order w j := by
  unfold planBits planL partsP
  have hlen : (cutsP (l.length : Int) order j).length ≤ 256 := by
    by_cases hc : cutsP (l.length : Int) order j = []
    · rw [hc]; simp
    · rw [cutsP_len hc]
      have : 2 ^ j ≤ 2 ^ 8 := Nat.pow_le_pow_right (by decide) hj
      omega
  exact bits_fold w _ l 6 h hl (by omega) (by omega) (by omega)
theorem planParts_near {l : List Int} (h : NearAll l) (hl : l.length ≤ 1000) (order : Int) (w : Bool) (j : Nat) : planParts ((partsP l order j).map smP) w = planPs l order w j := by
  unfold planParts planPs
  rw [List.map_map]
  apply List.map_congr_left
  intro p hp
  have := split_near _ l h hl p hp
  exact partOf_near this.1 this.2 (mostOf_le w)
def curL (l : List Int) (order : Int) (w : Bool) (j : Nat) : Cur := ⟨w, (j : Int), planPs l order w j, planL l order w j⟩
theorem mkCur_near {l : List Int} (h : NearAll l) (hl : l.length ≤ 1000) (order : Int) (w : Bool) {j : Nat} (hj : j ≤ 8) : mkCur w (j : Int) ((partsP l order j).map smP) = curL l order w j := by
  unfold mkCur curL
  rw [planBits_near h hl order w hj, planParts_near h hl order w j]
theorem amin_or (f : Nat → Int) (m i : Nat) : (if f (m + 1) ≤ f i then (if f (amin f m) ≤ f (m + 1) then amin f m else m + 1) else (if f (amin f m) ≤ f i then amin f m else i)) = (if f (amin f (m + 1)) ≤ f i then amin f (m + 1) else i) := by
  by_cases h1 : f (m + 1) < f (amin f m)
  · have e : amin f (m + 1) = m + 1 := by rw [amin, if_pos h1]
    rw [e]
    by_cases h2 : f (m + 1) ≤ f i
    · rw [if_pos h2, if_pos h2, if_neg (by omega)]
    · rw [if_neg h2, if_neg h2, if_neg (by omega)]
  · have e : amin f (m + 1) = amin f m := by rw [amin, if_neg h1]
    rw [e]
    by_cases h2 : f (m + 1) ≤ f i
    · rw [if_pos h2, if_pos (by omega), if_pos (by omega)]
    · rw [if_neg h2]
theorem fin_near {l : List Int} (h : NearAll l) (hl : l.length ≤ 1000) (order : Int) (w : Bool) : ∀ (m i : Nat), m ≤ 8 → finCur false w (curL l order w i) (lev l order m) = curL l order w (if planL l order w (amin (planL l order w) m) ≤ planL l order w i then amin (planL l order w) m else i)
  | 0, i, _ => by
    have e : (curL l order w i).n = planL l order w i := rfl
    simp only [lev, finCur, stepCur]
    rw [planBits_near h hl order w (by omega), mkCur_near h hl order w (by omega), e]
    simp only [Bool.false_eq_true, false_or]
    have e0 : amin (planL l order w) 0 = 0 := rfl
    rw [e0]
    by_cases h1 : planL l order w 0 ≤ planL l order w i
    · rw [if_pos h1, if_pos h1]
    · rw [if_neg h1, if_neg h1]
  | m + 1, i, hm => by
    have e : (curL l order w i).n = planL l order w i := rfl
    rw [← amin_or]
    simp only [lev, finCur, stepCur]
    rw [planBits_near h hl order w hm, mkCur_near h hl order w hm, e]
    simp only [Bool.false_eq_true, false_or]
    by_cases h1 : planL l order w (m + 1) ≤ planL l order w i
    · rw [if_pos h1, if_pos h1, fin_near h hl order w m (m + 1) (by omega)]
    · rw [if_neg h1, if_neg h1, fin_near h hl order w m i (by omega)]
theorem fin_first {l : List Int} (h : NearAll l) (hl : l.length ≤ 1000) (order : Int) (w : Bool) (m : Nat) (hm : m ≤ 8) : finCur true w zCur (lev l order m) = curL l order w (amin (planL l order w) m) := by
  cases m with
  | zero =>
    simp only [lev, finCur, stepCur, amin, true_or, if_true]
    exact mkCur_near h hl order w (by omega)
  | succ m =>
    simp only [lev, finCur, stepCur, true_or, if_true]
    rw [mkCur_near h hl order w hm, fin_near h hl order w m (m + 1) (by omega)]
    by_cases h2 : planL l order w (m + 1) < planL l order w (amin (planL l order w) m)
    · have e : amin (planL l order w) (m + 1) = m + 1 := by rw [amin, if_pos h2]
      rw [e, if_neg (by omega)]
    · have e : amin (planL l order w) (m + 1) = amin (planL l order w) m := by rw [amin, if_neg h2]
      rw [e, if_pos (by omega)]
/-- What parts.Best answers: the first narrow plan of fewest bits, or the first wide one, if that has fewer. -/
def bestPlan (l : List Int) (order : Int) (o : Nat) (wide : Bool) : Cur :=
  if wide = true ∧ planL l order true (amin (planL l order true) o) < planL l order false (amin (planL l order false) o) then curL l order true (amin (planL l order true) o) else curL l order false (amin (planL l order false) o)
theorem bestOf_near {l : List Int} (h : NearAll l) (hl : l.length ≤ 1000) (h0 : l.length ≠ 0) {order : Int} (ho : 0 ≤ order) {most : Nat} (hm : most ≤ 8) (wide : Bool) : bestOf l order most wide = bestPlan l order (topO (l.length : Int) order most) wide := by
  unfold bestOf bestPlan bestCur
  have hne := topO_ne (order := order) (show (0 : Int) < (l.length : Int) by omega) most
  have hle := topO_le (l.length : Int) order most
  generalize topO (l.length : Int) order most = o at hne hle
  rw [sums_near _ l h hl]
  have e := levels_near h hl ho o hne
  unfold partsP at e
  rw [e, fin_first h hl order true o (by omega), fin_first h hl order false o (by omega)]
  rfl
theorem best_f {l : List Int} (h : NearAll l) (hl : l.length ≤ 1000) (h0 : l.length ≠ 0) {order : Int} (ho : 0 ≤ order) (ho2 : order ≤ 32) {most : Nat} (hm : most ≤ 8) (wide : Bool) : partsBest.f l order (most : Int) wide = some ((bestPlan l order (topO (l.length : Int) order most) wide).f, (bestPlan l order (topO (l.length : Int) order most) wide).o, (bestPlan l order (topO (l.length : Int) order most) wide).ps, (bestPlan l order (topO (l.length : Int) order most) wide).n, 0) := by
  unfold partsBest.f
  rw [if_neg (by omega), if_neg h0, if_neg (by omega), if_pos h, Int.toNat_natCast, bestOf_near h hl h0 ho hm wide]
end Go.Proofs.Ytpoigjkkcehpdaa.PL
