/- The row of the law SectionBest, for every input that can be read: out of its plain statement and the walk, which stand in these parts, merged; this is the last one, the 7th. No further condition. -/
import Derived.Laws.BitsLemmas
import Derived.Test.YtokdjeoecnnckaaRows
import Derived.WalkKit
import Derived.ProofKit
import Derived.OpenShut
import Derived.ShutString
import Derived.ChangeOld
import Derived.Below
import Derived.SizedLaws
import Derived.Test.YtokdjeoecnnckaaMBestF
section
namespace Go.Proofs.Ytokdjeoecnnckaa.PL
open Go.RowKit Go.Proofs.Ytokdjeoecnnckaa.PA Go.Proofs.YtokdjeoecnnckaaW.PrintWords Go.Proofs.YtokdjeoecnnckaaW.PrintLast Go.Proofs.YtokdjeoecnnckaaW.PrintMore
set_option linter.unusedVariables false
def eachW (l : List Int) (p : S50) : Int := if p.f1 = true then (if NearAll l ∧ (wid l : Int) ≤ p.f0 ∧ p.f0 ≤ 31 then 5 + p.f0 * l.length else -1) else if NearAll l then bitsL (kk p.f0) l else -1
def bitsGo (w : Bool) : List (List Int) → List S50 → Int → Int
  | q :: qs, p :: ps, s => if eachW q p < 0 then -1 else if p.f1 = true ∨ (0 ≤ p.f0 ∧ p.f0 ≤ (mostOf w : Int)) then bitsGo w qs ps (s + (sizeOf_ w + eachW q p)) else -1
  | [], _, s => s
  | _ :: _, [], _ => -1
theorem eachW_le {l : List Int} (hl : l.length ≤ 1000) (p : S50) : eachW l p ≤ 5 + 17179869300 * l.length := by
  unfold eachW
  split
  · split
    · rename_i hc
      have : p.f0 * (l.length : Int) ≤ 31 * l.length := Int.mul_le_mul_of_nonneg_right hc.2.2 (by omega)
      omega
    · omega
  · split
    · rename_i h
      have := bitsL_bd (kk p.f0) (kk_le _) l h
      omega
    · omega
theorem eachW_best {q : List Int} (h : NearAll q) (hl : q.length ≤ 1000) {m : Nat} (hm : m ≤ 30) : eachW q (partL q m) = bestN q m ∧ ((partL q m).f1 = true ∨ (0 ≤ (partL q m).f0 ∧ (partL q m).f0 ≤ (m : Int))) := by
  by_cases hc : wid q ≤ 31 ∧ rawL q < bitsL (amin (fun k => bitsL k q) m) q
  · have hb : bestL q m = ((wid q : Int), true, rawL q, 0) := by unfold bestL; rw [if_pos hc]
    unfold eachW partL bestN
    rw [hb]
    refine ⟨?_, .inl rfl⟩
    rw [if_pos rfl, if_pos ⟨h, Int.le_refl _, by show (wid q : Int) ≤ 31; omega⟩]
    rfl
  · have hb : bestL q m = ((amin (fun k => bitsL k q) m : Int), false, bitsL (amin (fun k => bitsL k q) m) q, 0) := by unfold bestL; rw [if_neg hc]
    have hle := amin_le (fun k => bitsL k q) m
    unfold eachW partL bestN
    rw [hb]
    refine ⟨?_, .inr ⟨by show 0 ≤ ((amin (fun k => bitsL k q) m : Nat) : Int); omega, by show ((amin (fun k => bitsL k q) m : Nat) : Int) ≤ m; omega⟩⟩
    rw [if_neg (show ¬ (false = true) by decide), if_pos h, kk_nat (by omega)]
theorem go_best (w : Bool) : ∀ (qs : List (List Int)) (s : Int), (∀ q ∈ qs, NearAll q ∧ q.length ≤ 1000) → bitsGo w qs (qs.map (fun p => partL p (mostOf w))) s = s + planN w qs
  | [], s, _ => by simp [bitsGo, planN]
  | q :: qs, s, h => by
    have hq := h q (by simp)
    have hb := eachW_best hq.1 hq.2 (mostOf_le w)
    have h0 := (bestN_bd hq.1 hq.2 (mostOf_le w)).1
    simp only [List.map_cons, bitsGo]
    rw [hb.1, if_neg (by omega), if_pos hb.2, go_best w qs _ (fun x hx => h x (by simp [hx]))]
    simp only [planN]
    omega
theorem bits_l0 (w : Bool) (o : Int) (cs : List Int) (ps : List S50) (hlen : ps.length = cs.length) (hcl : cs.length ≤ 40000) :
    ∀ (t p : List Int) (l : List Int) (s : Int), cs = p ++ t → l.length ≤ 1000 → Fits t l.length → 0 ≤ s → s + 10 * t.length + 17179869300 * l.length ≤ 1000000000000000 → Ev (fun k => parts_Bits.l0 k l (mostOf w : Int) (sizeOf_ w) s cs (cs.length : Int) (p.length : Int) w o ps) (bitsGo w (split t l) (ps.drop p.length) s) := by
  intro t
  induction t with
  | nil =>
    intro p l s hp hl hf h0 hs
    refine succ ?_
    simp only [parts_Bits.l0]
    exact neg (by rw [hp]; simp) (cst (by simp [split, bitsGo]))
  | cons c t ih =>
    intro p l s hp hl hf h0 hs
    obtain ⟨hc0, hc1, hf2⟩ := hf
    have l1 := congrArg List.length hp
    simp only [List.length_append, List.length_cons] at l1 hs
    refine succ ?_
    simp only [parts_Bits.l0]
    have ra : rd cs (p.length : Int) = c := by rw [hp]; exact rd_at _ _ _
    have hpl : p.length < ps.length := by omega
    have hd : ps.drop p.length = ps[p.length] :: ps.drop (p.length + 1) := List.drop_eq_getElem_cons hpl
    have rp : rd_T50 ps (p.length : Int) = ps[p.length] := by simp [rd_T50, List.getD_eq_getElem?_getD, hpl]
    rw [ra, rp]
    generalize ps[p.length] = q at hd
    have hlt : (l.take c.toNat).length + (l.drop c.toNat).length = l.length := by rw [List.length_take, List.length_drop]; omega
    have hev : Ev (fun k => cost_Each.f k (l.take c.toNat) q.f0 q.f1) (eachW (l.take c.toNat) q) := each_ev (l.take c.toNat) q.f0 q.f1 (by omega)
    have hle := eachW_le (l := l.take c.toNat) (by omega) q
    have hz := sizeOf_bd w
    rw [hd]
    simp only [split, bitsGo]
    refine pos (by omega) (pos (by omega) (pos (by omega) (pos (by omega) (pos (by omega) (pos (by omega) (bnd hev ?_))))))
    obtain ⟨v, hv⟩ : ∃ v, eachW (l.take c.toNat) q = v := ⟨_, rfl⟩
    rw [hv] at hle ⊢
    by_cases h1 : v < 0
    · rw [if_pos h1]
      exact pos h1 (now _)
    · rw [if_neg h1]
      refine neg h1 ?_
      have nx := ih (p ++ [c]) (l.drop c.toNat) (s + (sizeOf_ w + v)) (by simp [hp]) (by omega) (by rw [List.length_drop]; exact hf2) (by omega) (by omega)
      have e3 : (p ++ [c]).length = p.length + 1 := by simp
      rw [e3] at nx
      rw [w64 (x := sizeOf_ w + v) (by omega) (by omega), w64 (x := s + (sizeOf_ w + v)) (by omega) (by omega), w64 (x := (p.length : Int) + 1) (by omega) (by omega)]
      have e4 : ((p.length + 1 : Nat) : Int) = (p.length : Int) + 1 := by omega
      rw [e4] at nx
      by_cases hr : q.f1 = true
      · rw [if_pos (.inl hr)]
        exact pos hr nx
      · refine neg hr ?_
        by_cases h2 : q.f0 < 0
        · rw [if_neg (fun g => by have := g.resolve_left hr; omega)]
          exact pos h2 (now _)
        · refine neg h2 ?_
          by_cases h3 : q.f0 > (mostOf w : Int)
          · rw [if_neg (fun g => by have := g.resolve_left hr; omega)]
            exact pos h3 (now _)
          · rw [if_pos (.inr ⟨by omega, by omega⟩)]
            exact neg h3 nx
def cutsI (n order o : Int) : List Int := if 0 ≤ o ∧ o ≤ 15 then cutsP n order o.toNat else []
theorem cutsI_ev (n order o : Int) (hn0 : 0 ≤ n) (hn : n ≤ 100000) (ho0 : 0 ≤ order) (ho1 : order ≤ 100000) : Ev (fun k => parts_Cuts.f k n order o) (cutsI n order o) := by
  have out : Ev (fun k => parts_Cuts.j0 k n order o true) [] := by
    refine succ ?_
    simp only [parts_Cuts.j0]
    exact pos trivial (now _)
  unfold cutsI
  by_cases h : 0 ≤ o ∧ o ≤ 15
  · rw [if_pos h]
    have := cuts_ev n order o.toNat hn0 hn ho0 ho1 (by omega)
    rw [show ((o.toNat : Nat) : Int) = o by omega] at this
    exact this
  · rw [if_neg h]
    unfold parts_Cuts.f
    refine neg (by omega) (neg (by omega) ?_)
    by_cases h1 : o < 0
    · exact pos h1 out
    · refine neg h1 ?_
      rw [decide_eq_true (by omega)]
      exact out
def bitsV (l : List Int) (order : Int) (w : Bool) (o : Int) (ps : List S50) : Int :=
  if cutsI (l.length : Int) order o = [] ∨ (cutsI (l.length : Int) order o).length ≠ ps.length then -1 else bitsGo w (split (cutsI (l.length : Int) order o) l) ps 6
theorem bitsV_ev {l : List Int} (hl : l.length ≤ 1000) {order : Int} (ho : 0 ≤ order) (ho2 : order ≤ 32) (w : Bool) (o : Int) (ps : List S50) : Ev (fun k => parts_Bits.f k l order w o ps) (bitsV l order w o ps) := by
  unfold parts_Bits.f
  refine bnd (cutsI_ev (l.length : Int) order o (by omega) (by omega) (by omega) (by omega)) ?_
  unfold bitsV
  have out : ∀ cs, Ev (fun k => parts_Bits.j0 k l cs true w o ps) (-1) := fun cs => by
    refine succ ?_
    simp only [parts_Bits.j0]
    exact pos trivial (now _)
  by_cases hc : cutsI (l.length : Int) order o = []
  · rw [if_pos (.inl hc), hc]
    exact pos rfl (out _)
  refine neg (by have := List.length_pos_iff.2 hc; omega) ?_
  by_cases hl2 : (cutsI (l.length : Int) order o).length = ps.length
  · rw [if_neg (fun g => g.elim hc (fun x => x hl2))]
    have e : (((cutsI (l.length : Int) order o).length : Int) != (ps.length : Int)) = false := by rw [hl2]; simp
    rw [e]
    have hin : 0 ≤ o ∧ o ≤ 15 := by
      unfold cutsI at hc
      split at hc
      · assumption
      · exact absurd rfl hc
    have hci : cutsI (l.length : Int) order o = cutsP (l.length : Int) order o.toNat := by unfold cutsI; rw [if_pos hin]
    have hfit := fits_cuts l.length order ho o.toNat
    have hlen : (cutsI (l.length : Int) order o).length ≤ 40000 := by
      rw [hci, cutsP_len (by rw [← hci]; exact hc)]
      have h1 : (2 : Nat) ^ o.toNat ≤ 2 ^ 15 := Nat.pow_le_pow_right (by decide) (by omega)
      have h2 : (2 : Nat) ^ 15 = 32768 := by decide
      omega
    rw [← hci] at hfit
    refine succ ?_
    simp only [parts_Bits.j0]
    refine neg (by decide) ?_
    have ht : parts_top.f w = some ((mostOf w : Int), sizeOf_ w) := by cases w <;> rfl
    rw [ht]
    simp only [Option.bind_some]
    have := bits_l0 w o (cutsI (l.length : Int) order o) ps hl2.symm hlen (cutsI (l.length : Int) order o) [] l 6 rfl hl hfit (by omega) (by omega)
    simpa using this
  · rw [if_pos (.inr hl2)]
    have e : (((cutsI (l.length : Int) order o).length : Int) != (ps.length : Int)) = true := by rw [bne_iff_ne]; omega
    rw [e]
    exact out _
theorem best_bits {l : List Int} (h : NearAll l) (hl : l.length ≤ 1000) {order : Int} (w : Bool) {j : Nat} (hj : j ≤ 8) (hc : cutsP (l.length : Int) order j ≠ []) : bitsV l order w (j : Int) (planPs l order w j) = planL l order w j := by
  have hci : cutsI (l.length : Int) order (j : Int) = cutsP (l.length : Int) order j := by unfold cutsI; rw [if_pos ⟨by omega, by omega⟩, Int.toNat_natCast]
  have hlen : (planPs l order w j).length = (cutsP (l.length : Int) order j).length := by unfold planPs partsP; rw [List.length_map, split_len]
  unfold bitsV
  rw [hci, if_neg (fun g => g.elim hc (fun x => x hlen.symm))]
  unfold planPs planL partsP
  exact go_best w _ 6 (split_near _ l h hl)
end Go.Proofs.Ytokdjeoecnnckaa.PL
end
section
namespace Go.Proofs.Ytokdjeoecnnckaa.PL
open Go Go.RowKit Go.Proofs.Ytokdjeoecnnckaa.PA Go.Proofs.YtokdjeoecnnckaaW.PrintWords
set_option linter.unusedVariables false
def unfold (u : Int) : Int := if u % 2 = 0 then u / 2 else -(u / 2) - 1
theorem and_one (u : Int) (h : 0 ≤ u ∧ u < 18446744073709551616) : Go.bits .and .u64 u 1 = u % 2 := by
  have hk : ∀ n : Int, 0 ≤ n → n < 2 ^ 64 → IntKind.u64.wrap n = n := by
    intro n h0 h1
    have e : (2 : Int) ^ 64 = 18446744073709551616 := by decide
    rw [e] at h1
    rw [u64_wrap]; omega
  have e : (2 : Int) ^ 64 = 18446744073709551616 := by decide
  have := bits_mask .u64 64 (by decide) hk 1 (by decide) u h.1 (by rw [e]; exact h.2)
  exact this
theorem xor_zero64 (m : Nat) (h : m < 9223372036854775808) : Go.bits .xor .i64 (m : Int) 0 = (m : Int) := by
  have e : (BitVec.ofInt 64 (m : Int) ^^^ BitVec.ofInt 64 0).toNat = m := by
    rw [BitVec.ofInt_natCast, show BitVec.ofInt 64 0 = 0#64 from rfl, BitVec.xor_zero, BitVec.toNat_ofNat]
    exact Nat.mod_eq_of_lt (by omega)
  show IntKind.i64.wrap ((BitVec.ofInt 64 (m : Int) ^^^ BitVec.ofInt 64 0).toNat : Int) = _
  rw [e, Go.IntKind.wrap_i64]; omega
theorem xor_ones64 (m : Nat) (h : m < 9223372036854775808) : Go.bits .xor .i64 (m : Int) (-1) = -(m : Int) - 1 := by
  have e : (BitVec.ofInt 64 (m : Int) ^^^ BitVec.ofInt 64 (-1)).toNat = 18446744073709551615 - m := by
    rw [BitVec.ofInt_natCast, show BitVec.ofInt 64 (-1) = BitVec.allOnes 64 by decide, BitVec.xor_allOnes, BitVec.toNat_not, BitVec.toNat_ofNat, Nat.mod_eq_of_lt (by omega)]
  show IntKind.i64.wrap ((BitVec.ofInt 64 (m : Int) ^^^ BitVec.ofInt 64 (-1)).toNat : Int) = _
  rw [e, Go.IntKind.wrap_i64]; omega
theorem unfold_eq (u : Int) (h : 0 ≤ u ∧ u < 18446744073709551616) : rice_Unfold.f u = some (unfold u) := by
  unfold rice_Unfold.f unfold
  rw [and_one u h, w64 (x := u / 2) (by omega) (by omega)]
  obtain ⟨m, hm⟩ := Int.eq_ofNat_of_zero_le (show 0 ≤ u / 2 by omega)
  have hb : m < 9223372036854775808 := by omega
  rw [hm]
  by_cases hu : u % 2 = 0
  · rw [hu, if_pos rfl, show wrap64 (-(wrap64 0)) = 0 by rw [w64 (x := 0) (by omega) (by omega), w64 (by omega) (by omega)]; rfl, xor_zero64 m hb]
  · rw [show u % 2 = 1 by omega, if_neg (by decide), show wrap64 (-(wrap64 1)) = -1 by rw [w64 (x := 1) (by omega) (by omega), w64 (by omega) (by omega)], xor_ones64 m hb]
theorem unfold_fold (n : Int) : unfold (fold n) = n := by
  unfold unfold fold; split <;> split <;> omega
end Go.Proofs.Ytokdjeoecnnckaa.PL
end
section
namespace Go.Proofs.Ytokdjeoecnnckaa.PL
open Go Go.RowKit Go.Proofs.Ytokdjeoecnnckaa.PA Go.Proofs.YtokdjeoecnnckaaW.PrintWords Go.Proofs.YtokdjeoecnnckaaW.PrintMore
set_option linter.unusedSimpArgs false
set_option linter.unusedVariables false
def cutB (b : List Int) (p n : Nat) : List Bool := ((bitsOf b).drop p).take n
theorem cutB_len {b : List Int} {p n : Nat} (h : p + n ≤ 8 * b.length) : (cutB b p n).length = n := by
  unfold cutB; rw [List.length_take, List.length_drop, bitsOf_len]; omega
theorem cutB_add (b : List Int) (p m n : Nat) : cutB b p (m + n) = cutB b p m ++ cutB b (p + m) n := by
  unfold cutB; rw [List.take_add, List.drop_drop]
theorem byte_cut (x : Int) {j m : Nat} (h : j + m ≤ 8) : ((digs x 8).drop j).take m = digs (x / 2 ^ (8 - j - m)) m := by
  have e1 := digs_add x j (8 - j)
  rw [show j + (8 - j) = 8 by omega] at e1
  have e2 := digs_add x m (8 - j - m)
  rw [show m + (8 - j - m) = 8 - j by omega] at e2
  rw [e1, List.drop_left' (digs_len _ _), e2, List.take_left' (digs_len _ _)]
theorem cut_step (b : List Int) (q j m : Nat) (hq : q < b.length) (h : j + m ≤ 8) : cutB b (8 * q + j) m = digs (rd b (q : Int) / 2 ^ (8 - j - m)) m := by
  have hb : b = b.take q ++ rd b (q : Int) :: b.drop (q + 1) := by
    have e := List.drop_eq_getElem_cons hq
    have e2 : rd b (q : Int) = b[q] := rd_lt (by omega) (by omega)
    rw [e2, ← e, List.take_append_drop]
  have hl : (bitsOf (b.take q)).length = 8 * q := by rw [bitsOf_len, List.length_take]; omega
  unfold cutB
  conv => lhs; rw [hb]
  rw [bitsOf_app, bitsOf_cons, ← List.drop_drop, List.drop_left' hl, List.drop_append_of_le_length (by rw [digs_len]; omega), List.take_append_of_le_length (by rw [List.length_drop, digs_len]; omega), byte_cut _ h]
theorem or_join (a x : Int) (m s : Nat) (ha0 : 0 ≤ a) (ha : a < 2 ^ s) (hs : s + m ≤ 64) (hx0 : 0 ≤ x) (hx : x < 2 ^ m) : Go.bits .or .u64 (shl .u64 a (m : Int)) x = a * 2 ^ m + x := by
  have hm0 := pow2_pos m
  have e : (2 : Int) ^ s * 2 ^ m = 2 ^ (s + m) := (Int.pow_add 2 s m).symm
  have h64 : (2 : Int) ^ (s + m) ≤ 2 ^ 64 := by
    have : (2 : Nat) ^ (s + m) ≤ 2 ^ 64 := Nat.pow_le_pow_right (by decide) hs
    have h := Int.ofNat_le.2 this
    simpa using h
  have hlt : a * 2 ^ m + x < 2 ^ s * 2 ^ m := by
    have h1 : (a + 1) * 2 ^ m ≤ 2 ^ s * 2 ^ m := Int.mul_le_mul_of_nonneg_right (by omega) (Int.le_of_lt hm0)
    rw [Int.add_mul, Int.one_mul] at h1
    omega
  have h0 : 0 ≤ a * 2 ^ m := Int.mul_nonneg ha0 (Int.le_of_lt hm0)
  have hb1 : a * 2 ^ m < 2 ^ 64 := by rw [e] at hlt; omega
  have hx1 : x < 2 ^ 64 := by rw [e] at hlt; omega
  have hb2 : a * 2 ^ m < 18446744073709551616 := by rw [← pow64]; exact hb1
  rw [shl_u64' (by omega) h0 hb2]
  exact bits_join .u64 64 (by decide) wraps_u64 m _ _ h0 (Int.mul_emod_left _ _) hb1 hx0 hx hx1
theorem tdiv8 (p : Nat) (h : p < 4611686018427387904) : wrap64 (Int.tdiv (p : Int) 8) = ((p / 8 : Nat) : Int) := by
  rw [Int.tdiv_eq_ediv_of_nonneg (by omega), w64 (by omega) (by omega)]; omega
theorem tmod8 (p : Nat) : Int.tmod (p : Int) 8 = ((p % 8 : Nat) : Int) := by rw [Int.tmod_eq_emod_of_nonneg (by omega)]; omega
theorem wsub {a b : Nat} (h : b ≤ a) (ha : a < 4611686018427387904) : wrap64 ((a : Int) - (b : Int)) = ((a - b : Nat) : Int) := by rw [w64 (by omega) (by omega)]; omega
theorem wadd {a b : Nat} (ha : a + b < 4611686018427387904) : wrap64 ((a : Int) + (b : Int)) = ((a + b : Nat) : Int) := by rw [w64 (by omega) (by omega)]; omega
theorem room8 (p : Nat) : wrap64 (8 - Int.tmod (p : Int) 8) = ((8 - p % 8 : Nat) : Int) := by rw [tmod8]; exact wsub (a := 8) (by omega) (by omega)
theorem mn_nat (a b : Nat) : mn (a : Int) (b : Int) = ((min a b : Nat) : Int) := by unfold mn; split <;> omega
theorem take_step (k : Nat) (b : List Int) (acc : Int) (left p s : Nat) (fl : Int) (m : Nat) (hm : m = min (8 - p % 8) left) (h1 : 1 ≤ left) (hbl : b.length < 1099511627776) (hpl : p + left ≤ 8 * b.length) (hbd : ∀ x ∈ b, 0 ≤ x ∧ x < 256)
    (ha0 : 0 ≤ acc) (ha : zG (acc < 2 ^ s)) (hs : s + left ≤ 64) :
    bits_Reader_Take.l0 (k + 1) (left : Int) acc b (p : Int) fl = bits_Reader_Take.l0 k ((left - m : Nat) : Int) (acc * 2 ^ m + num (cutB b p m)) b ((p + m : Nat) : Int) fl := by
  obtain ⟨q, hq⟩ : ∃ q, q = p / 8 := ⟨_, rfl⟩
  obtain ⟨j, hj⟩ : ∃ j, j = p % 8 := ⟨_, rfl⟩
  have hp : p = 8 * q + j := by omega
  have hj8 : j < 8 := by omega
  have hm1 : 1 ≤ m := by omega
  have hml : m ≤ left := by omega
  have hjm : j + m ≤ 8 := by omega
  have hm8 : m ≤ 8 := by omega
  have hqb : q < b.length := by omega
  have hsm : s + m ≤ 64 := by omega
  have h8m : 8 - j - m ≤ 8 := by omega
  have hp62 : p < 4611686018427387904 := by omega
  have hl62 : left < 4611686018427387904 := by omega
  have hpm62 : p + m < 4611686018427387904 := by omega
  have hroomm : m ≤ 8 - j := by omega
  have hrl : 8 - j < 4611686018427387904 := by omega
  have hqi : (q : Int) < (b.length : Int) := by omega
  have hne : ¬ ((left : Int) = 0) := by omega
  have hx := hbd (rd b (q : Int)) (rd_mem (by omega) hqi)
  have hcut : num (cutB b p m) = rd b (q : Int) / 2 ^ (8 - j - m) % 2 ^ m := by rw [hp, cut_step b q j m hqb hjm, num_digs]
  have hsr := shr_u8' (rd b (q : Int)) h8m
  have hdb := Int.ediv_nonneg hx.1 (Int.le_of_lt (pow2_pos (8 - j - m)))
  have hdl := Int.ediv_le_self (2 ^ (8 - j - m)) hx.1
  have hpe := part_eq (rd b (q : Int) / 2 ^ (8 - j - m)) hm1 hm8
  have hmod : rd b (q : Int) / 2 ^ (8 - j - m) % 256 = rd b (q : Int) / 2 ^ (8 - j - m) := Int.emod_eq_of_lt hdb (Int.lt_of_le_of_lt hdl hx.2)
  rw [hmod] at hpe
  have hb0 := num_bd (cutB b p m)
  rw [cutB_len (Nat.le_trans (Nat.add_le_add_left hml p) hpl), hcut] at hb0
  have hwr : IntKind.u64.wrap (rd b (q : Int) / 2 ^ (8 - j - m) % 2 ^ m) = rd b (q : Int) / 2 ^ (8 - j - m) % 2 ^ m :=
    wraps_u64' _ hb0.1 (Int.lt_of_lt_of_le (Int.lt_of_lt_of_le hb0.2 (pow_le_256 hm8)) (by decide))
  have hor := or_join acc (rd b (q : Int) / 2 ^ (8 - j - m) % 2 ^ m) m s ha0 ha.out hsm hb0.1 hb0.2
  have htd := tdiv8 p hp62
  rw [← hq] at htd
  have hroom := room8 p
  rw [← hj] at hroom
  have hmn : mn (wrap64 (8 - Int.tmod (p : Int) 8)) (left : Int) = (m : Int) := by rw [hroom, mn_nat, hj, ← hm]
  have hsh : wrap64 (wrap64 (8 - Int.tmod (p : Int) 8) - (m : Int)) = ((8 - j - m : Nat) : Int) := by rw [hroom]; exact wsub hroomm hrl
  have hl1 : wrap64 ((left : Int) - (m : Int)) = ((left - m : Nat) : Int) := wsub hml hl62
  have hp1 : wrap64 ((p : Int) + (m : Int)) = ((p + m : Nat) : Int) := wadd hpm62
  simp only [bits_Reader_Take.l0]
  rw [if_neg hne, htd, hmn, hsh, hl1, hp1, if_pos (Int.natCast_nonneg _), if_pos hqi, if_pos (Int.natCast_nonneg _), if_pos (Int.natCast_nonneg _), hsr, hpe, hwr, hor, hcut]
theorem take_l0 : ∀ (left fuel : Nat) (b : List Int) (acc : Int) (p s : Nat) (fl : Int), left < fuel → b.length < 1099511627776 → p + left ≤ 8 * b.length → (∀ x ∈ b, 0 ≤ x ∧ x < 256) → 0 ≤ acc → zG (acc < 2 ^ s) → s + left ≤ 64 →
    bits_Reader_Take.l0 fuel (left : Int) acc b (p : Int) fl = some (acc * 2 ^ left + num (cutB b p left), ((p + left : Nat) : Int), fl) := by
  intro left
  induction left using Nat.strongRecOn with
  | _ left ih =>
  intro fuel b acc p s fl hf hbl hpl hbd ha0 ha hs
  obtain ⟨k, rfl⟩ : ∃ k, fuel = k + 1 := ⟨fuel - 1, by omega⟩
  by_cases h0 : left = 0
  · subst h0
    have e0 : ((0 : Nat) : Int) = 0 := rfl
    simp only [bits_Reader_Take.l0]
    rw [e0, if_pos (rfl : (0 : Int) = 0)]
    simp [cutB, num_nil]
  obtain ⟨m, hm⟩ : ∃ m : Nat, m = min (8 - p % 8) left := ⟨_, rfl⟩
  have hm1 : 1 ≤ m := by omega
  have hml : m ≤ left := by omega
  have a1 : left - m < left := by omega
  have a3 : left - m < k := by omega
  have a4 : p + m + (left - m) ≤ 8 * b.length := by omega
  have a5 : s + m + (left - m) ≤ 64 := by omega
  have a6 : p + m + (left - m) = p + left := by omega
  have a7 : m + (left - m) = left := by omega
  have hb0 := num_bd (cutB b p m)
  rw [cutB_len (Nat.le_trans (Nat.add_le_add_left hml p) hpl)] at hb0
  have hm0 := pow2_pos m
  have h2 : acc * 2 ^ m + num (cutB b p m) < 2 ^ (s + m) := by
    rw [Int.pow_add]
    have h1 : (acc + 1) * 2 ^ m ≤ 2 ^ s * 2 ^ m := Int.mul_le_mul_of_nonneg_right (Int.add_one_le_of_lt ha.out) (Int.le_of_lt hm0)
    rw [Int.add_mul, Int.one_mul] at h1
    exact Int.lt_of_lt_of_le (Int.add_lt_add_left hb0.2 _) h1
  have h3 : 0 ≤ acc * 2 ^ m + num (cutB b p m) := Int.add_nonneg (Int.mul_nonneg ha0 (Int.le_of_lt hm0)) hb0.1
  rw [take_step k b acc left p s fl m hm (Nat.one_le_iff_ne_zero.2 h0) hbl hpl hbd ha0 ha hs, ih (left - m) a1 k b _ (p + m) (s + m) fl a3 hbl a4 hbd h3 ⟨h2⟩ a5, a6]
  have e : acc * 2 ^ left + num (cutB b p left) = (acc * 2 ^ m + num (cutB b p m)) * 2 ^ (left - m) + num (cutB b (p + m) (left - m)) := by
    have e1 := cutB_add b p m (left - m)
    rw [a7] at e1
    rw [e1, num_append, cutB_len a4, Int.add_mul, Int.mul_assoc, ← Int.pow_add, a7]
    exact Int.add_assoc _ _ _ |>.symm
  rw [e]
def takeR (b : List Int) (p : Nat) (fl : Int) (w : Nat) : Int × Int × Int :=
  if fl ≠ 0 then (0, (p : Int), fl) else if 8 * b.length < p + w then (0, (p : Int), 2) else (num (cutB b p w), ((p + w : Nat) : Int), 0)
theorem left_eq (b : List Int) (p : Nat) (fl : Int) (hbl : b.length < 1099511627776) (hp : p ≤ 8 * b.length) : bits_Reader_Left.f b (p : Int) fl = some (((8 * b.length - p : Nat) : Int), (p : Int), fl) := by
  unfold bits_Reader_Left.f
  rw [w64 (x := 8 * (b.length : Int)) (by omega) (by omega), w64 (by omega) (by omega)]
  congr 2; omega
theorem take_ev (b : List Int) (p : Nat) (fl w : Int) (hbl : b.length < 1099511627776) (hp : p ≤ 8 * b.length) (hbd : ∀ x ∈ b, 0 ≤ x ∧ x < 256) : Ev (fun k => bits_Reader_Take.f k b (p : Int) fl w) (takeR b p fl (hw w)) := by
  unfold bits_Reader_Take.f
  rw [held_eq]
  simp only [Option.bind_some]
  have h64 := hw_le w
  have j1no : ∀ (fl : Int) (x : Int), fl ≠ 0 → Ev (fun k => bits_Reader_Take.j1 k x b (p : Int) fl) (0, (p : Int), fl) := by
    intro fl x hfl
    refine succ ?_
    simp only [bits_Reader_Take.j1]
    exact neg hfl (now _)
  by_cases hfl : fl = 0
  · subst hfl
    refine pos rfl ?_
    rw [left_eq b p 0 hbl hp]
    simp only [Option.bind_some]
    by_cases hs : 8 * b.length < p + hw w
    · have e : takeR b p 0 (hw w) = (0, (p : Int), 2) := by unfold takeR; rw [if_neg (by simp), if_pos hs]
      rw [e, decide_eq_true (by omega)]
      refine succ ?_
      simp only [bits_Reader_Take.j0]
      exact pos trivial (j1no 2 _ (by decide))
    · have e : takeR b p 0 (hw w) = (num (cutB b p (hw w)), ((p + hw w : Nat) : Int), 0) := by unfold takeR; rw [if_neg (by simp), if_neg hs]
      rw [e, decide_eq_false (by omega)]
      refine succ ?_
      simp only [bits_Reader_Take.j0]
      refine neg (by simp) (succ ?_)
      simp only [bits_Reader_Take.j1]
      refine pos trivial ⟨hw w + 1, fun k hk => ?_⟩
      show bits_Reader_Take.l0 k ((hw w : Nat) : Int) 0 b (p : Int) 0 = _
      rw [take_l0 (hw w) k b 0 p 0 0 (by omega) hbl (by omega) hbd (by omega) ⟨by simp⟩ (by omega)]
      simp
  · have e : takeR b p fl (hw w) = (0, (p : Int), fl) := by unfold takeR; rw [if_pos hfl]
    rw [e]
    refine neg hfl (succ ?_)
    simp only [bits_Reader_Take.j0]
    exact neg (by simp) (j1no fl _ hfl)
theorem open_eq (b : List Int) (hb : b.length < 1099511627776) : bits_Open.f b = some (b, ((0 : Nat) : Int), 0) := by
  unfold bits_Open.f bytes_Clone.f
  simp only [Option.bind_some, List.length_nil, List.nil_append]
  rw [if_pos (by omega)]
  rfl
def gap (p : Nat) : Nat := (8 - p % 8) % 8
theorem takeR_ok {b : List Int} {p w : Nat} (h : p + w ≤ 8 * b.length) : takeR b p 0 w = (num (cutB b p w), ((p + w : Nat) : Int), 0) := by
  unfold takeR; rw [if_neg (by simp), if_neg (by omega)]
theorem toB_len8 (L : List Bool) : L.length ≤ 8 * (toB L).length ∧ 8 * (toB L).length ≤ L.length + 7 := by rw [toB_len]; omega
end Go.Proofs.Ytokdjeoecnnckaa.PL
end
section
namespace Go.Proofs.Ytokdjeoecnnckaa.PL
open Go Go.RowKit Go.Proofs.Ytokdjeoecnnckaa.PA Go.Proofs.YtokdjeoecnnckaaW.PrintWords Go.Proofs.YtokdjeoecnnckaaW.PrintMore
set_option linter.unusedSimpArgs false
set_option linter.unusedVariables false
theorem fail_eq (b : List Int) (p : Nat) (fl : Int) : bits_Reader_Fail.f b (p : Int) fl = some (fl, (p : Int), fl) := rfl
end Go.Proofs.Ytokdjeoecnnckaa.PL
end
section
namespace Go.Proofs.Ytokdjeoecnnckaa.PL
open Go Go.RowKit Go.Proofs.Ytokdjeoecnnckaa.PA Go.Proofs.YtokdjeoecnnckaaW.PrintWords Go.Proofs.YtokdjeoecnnckaaW.PrintLast Go.Proofs.YtokdjeoecnnckaaW.PrintMore
set_option linter.unusedSimpArgs false
set_option linter.unusedVariables false
structure GB (b : List Int) : Prop where
  len : b.length < 1099511627776
  bd : ∀ x ∈ b, 0 ≤ x ∧ x < 256
def Pre (b : List Int) (L : List Bool) : Prop := ∃ C D, bitsOf b ++ C = L ++ D
theorem pre_cut {b : List Int} {L A B R : List Bool} (h : Pre b L) (hL : L = A ++ B ++ R) (hn : (A ++ B).length ≤ 8 * b.length) : cutB b A.length B.length = B := by
  obtain ⟨C, D, e⟩ := h
  have hl : A.length + B.length ≤ (bitsOf b).length := by rw [bitsOf_len]; simpa using hn
  have e1 : ((bitsOf b ++ C).drop A.length).take B.length = ((bitsOf b).drop A.length).take B.length := by
    rw [List.drop_append_of_le_length (by omega), List.take_append_of_le_length (by rw [List.length_drop]; omega)]
  unfold cutB
  rw [← e1, e, hL]
  simp only [List.append_assoc]
  rw [List.drop_left, List.take_left]
def Got (b : List Int) (X : List Bool) (n v p f : Int) : Prop := (X.length ≤ 8 * b.length ∧ v = n ∧ p = (X.length : Int) ∧ f = 0) ∨ (8 * b.length < X.length ∧ f = 2 ∧ ∃ p' : Nat, p = (p' : Int) ∧ p' ≤ 8 * b.length)
theorem take_pre {b : List Int} (hb : GB b) {L A B R : List Bool} (h : Pre b L) (hL : L = A ++ B ++ R) (w : Int) (hw' : hw w = B.length) (hA : A.length ≤ 8 * b.length) :
    ∃ v p f, Got b (A ++ B) (num B) v p f ∧ (f = 2 → v = 0) ∧ Ev (fun q => bits_Reader_Take.f q b (A.length : Int) 0 w) (v, p, f) := by
  have ht := take_ev b A.length 0 w hb.len hA hb.bd
  rw [hw'] at ht
  by_cases hn : (A ++ B).length ≤ 8 * b.length
  · have hn' : A.length + B.length ≤ 8 * b.length := by simpa using hn
    rw [takeR_ok hn', pre_cut h hL hn] at ht
    exact ⟨_, _, _, .inl ⟨hn, rfl, by rw [List.length_append], rfl⟩, (fun h => absurd h (by decide)), ht⟩
  · have e : takeR b A.length 0 B.length = (0, (A.length : Int), 2) := by
      unfold takeR
      rw [if_neg (by simp), if_pos (by simp at hn; omega)]
    rw [e] at ht
    exact ⟨_, _, _, .inr ⟨by omega, rfl, A.length, rfl, hA⟩, fun _ => rfl, ht⟩
theorem take_dead {b : List Int} (hb : GB b) {p : Nat} (hp : p ≤ 8 * b.length) (w : Int) : Ev (fun q => bits_Reader_Take.f q b (p : Int) 2 w) (0, (p : Int), 2) := by
  have ht := take_ev b p 2 w hb.len hp hb.bd
  have e : takeR b p 2 (hw w) = (0, (p : Int), 2) := by unfold takeR; rw [if_pos (by decide)]
  rw [e] at ht
  exact ht
theorem rtake_pre {b : List Int} (hb : GB b) {L : List Bool} (h : Pre b L) (n : Int) (hn : IsNear n) (k : Nat) (hk : k ≤ 30) (z : Nat) (hz : fold n / 2 ^ k = (z : Int)) : ∀ (d i : Nat) (A R : List Bool), i + d = z →
    L = A ++ (List.replicate d false ++ (true :: digs (fold n) k)) ++ R → A.length ≤ 8 * b.length →
    ∃ v p f, Got b (A ++ (List.replicate d false ++ (true :: digs (fold n) k))) n v p f ∧ Ev (fun q => rice_Take.l0 q (k : Int) (i : Int) b (A.length : Int) 0) (v, p, f) := by
  have hf := fold_near hn
  have hd := div_pow_bd (x := fold n) (s := k) hf.1
  intro d
  induction d with
  | zero =>
    intro i A R hi hL hA
    have hiz : i = z := by omega
    have e1 : L = A ++ [true] ++ (digs (fold n) k ++ R) := by rw [hL]; simp
    have e2 : L = (A ++ [true]) ++ digs (fold n) k ++ R := by rw [hL]; simp
    have e3 : A ++ [true] ++ digs (fold n) k = A ++ (List.replicate 0 false ++ (true :: digs (fold n) k)) := by simp
    obtain ⟨v1, p1, f1, g1, _, t1⟩ := take_pre hb h e1 1 (by decide) hA
    rcases g1 with ⟨g1, rfl, rfl, rfl⟩ | ⟨g1, rfl, p', rfl, hp'⟩
    · obtain ⟨v2, p2, f2, g2, _, t2⟩ := take_pre hb h e2 (k : Int) (by rw [hw_nat (by omega), digs_len]) g1
      rcases g2 with ⟨g2, rfl, rfl, rfl⟩ | ⟨g2, rfl, p', rfl, hp'⟩
      · rw [e3] at t2 g2
        refine ⟨n, _, 0, .inl ⟨g2, rfl, rfl, rfl⟩, ?_⟩
        have eu : Go.bits .or .u64 (shl .u64 (i : Int) (k : Int)) (num (digs (fold n) k)) = fold n := by
          have hb := num_bd (digs (fold n) k)
          rw [digs_len] at hb
          have hi34 : (i : Int) < 2 ^ 34 := by
            have e : (2 : Int) ^ 34 = 17179869184 := by decide
            rw [e]; omega
          rw [or_join (i : Int) (num (digs (fold n) k)) k 34 (by omega) hi34 (by omega) hb.1 hb.2, num_digs, hiz, ← hz]
          have := Int.mul_ediv_add_emod (fold n) (2 ^ k)
          rw [Int.mul_comm]; exact this
        refine succ ?_
        simp only [rice_Take.l0]
        refine bnd t1 ?_
        rw [fail_eq]
        simp only [Option.bind_some]
        refine pos (by first | trivial | rfl) (neg (by rw [num_one]; decide) (bnd t2 ?_))
        rw [fail_eq]
        simp only [Option.bind_some]
        refine pos (by first | trivial | rfl) (pos (by omega) ?_)
        rw [eu, unfold_eq _ ⟨hf.1, by omega⟩, unfold_fold]
        exact now _
      · rw [e3] at g2
        refine ⟨0, _, 2, .inr ⟨g2, rfl, p', rfl, hp'⟩, ?_⟩
        refine succ ?_
        simp only [rice_Take.l0]
        refine bnd t1 ?_
        rw [fail_eq]
        simp only [Option.bind_some]
        refine pos (by first | trivial | rfl) (neg (by rw [num_one]; decide) (bnd t2 ?_))
        rw [fail_eq]
        simp only [Option.bind_some]
        exact neg (by decide) (now _)
    · refine ⟨0, _, 2, .inr ⟨by simp at g1 ⊢; omega, rfl, p', rfl, hp'⟩, ?_⟩
      refine succ ?_
      simp only [rice_Take.l0]
      refine bnd t1 ?_
      rw [fail_eq]
      simp only [Option.bind_some]
      exact neg (by decide) (now _)
  | succ d ih =>
    intro i A R hi hL hA
    have e1 : L = A ++ [false] ++ ((List.replicate d false ++ (true :: digs (fold n) k)) ++ R) := by rw [hL]; simp [List.replicate_succ]
    have e2 : L = (A ++ [false]) ++ (List.replicate d false ++ (true :: digs (fold n) k)) ++ R := by rw [hL]; simp [List.replicate_succ]
    have e3 : A ++ (List.replicate (d + 1) false ++ (true :: digs (fold n) k)) = (A ++ [false]) ++ (List.replicate d false ++ (true :: digs (fold n) k)) := by simp [List.replicate_succ]
    obtain ⟨v1, p1, f1, g1, _, t1⟩ := take_pre hb h e1 1 (by decide) hA
    rcases g1 with ⟨g1, rfl, rfl, rfl⟩ | ⟨g1, rfl, p', rfl, hp'⟩
    · obtain ⟨v, p, f, g, t⟩ := ih (i + 1) (A ++ [false]) R (by omega) e2 g1
      refine ⟨v, p, f, by rw [e3]; exact g, ?_⟩
      have ew : IntKind.u64.wrap ((i : Int) + 1) = ((i + 1 : Nat) : Int) := by rw [u64_wrap]; omega
      refine succ ?_
      simp only [rice_Take.l0]
      refine bnd t1 ?_
      rw [fail_eq]
      simp only [Option.bind_some]
      refine pos (by first | trivial | rfl) (pos (by rw [num_one]; rfl) ?_)
      rw [ew]
      exact t
    · refine ⟨0, _, 2, .inr ⟨by simp at g1 ⊢; omega, rfl, p', rfl, hp'⟩, ?_⟩
      refine succ ?_
      simp only [rice_Take.l0]
      refine bnd t1 ?_
      rw [fail_eq]
      simp only [Option.bind_some]
      exact neg (by decide) (now _)
theorem sext (n : Int) (K : Nat) (h2 : K ≤ 31) (hn : inn n K) : shr .i64 (shl .i64 (n % 2 ^ K) ((64 - K : Nat) : Int)) ((64 - K : Nat) : Int) = n := by
  obtain ⟨h1, h3, h4⟩ := hn
  obtain ⟨Q, hQ⟩ : ∃ Q : Int, (2 : Int) ^ (K - 1) = Q := ⟨_, rfl⟩
  obtain ⟨P, hP⟩ : ∃ P : Int, (2 : Int) ^ (64 - K) = P := ⟨_, rfl⟩
  have hQ0 : 0 < Q := by rw [← hQ]; exact pow2_pos _
  have hP0 : 0 < P := by rw [← hP]; exact pow2_pos _
  have e2 : (2 : Int) ^ K = 2 * Q := by
    obtain ⟨j, rfl⟩ : ∃ j, K = j + 1 := ⟨K - 1, by omega⟩
    rw [Int.pow_succ, Int.mul_comm, ← hQ]
    rfl
  have e64 : 2 * Q * P = 18446744073709551616 := by
    rw [← e2, ← hP, ← Int.pow_add, show K + (64 - K) = 64 by omega]
    decide
  have hQP : Q * P = 9223372036854775808 := by
    have : 2 * (Q * P) = 18446744073709551616 := by rw [← Int.mul_assoc]; exact e64
    omega
  rw [hQ] at h3 h4
  have b1 : n * P < Q * P := Int.mul_lt_mul_of_pos_right h4 hP0
  have b2 : -Q * P ≤ n * P := Int.mul_le_mul_of_nonneg_right h3 (Int.le_of_lt hP0)
  have e3 : -Q * P = -(Q * P) := Int.neg_mul Q P
  rw [shr_eq' _ (by omega)]
  have esh : ∀ x : Int, shl .i64 x ((64 - K : Nat) : Int) = wrap64 (x * P) := by
    intro x
    unfold shl
    rw [Int.toNat_natCast, show min (64 - K) IntKind.i64.bits = 64 - K by simp [IntKind.bits], hP]
    exact i64_w _
  rw [esh, hP, e2]
  have ew : wrap64 (n % (2 * Q) * P) = n * P := by
    have hm := Int.mul_ediv_add_emod n (2 * Q)
    have e5 : n % (2 * Q) * P = n * P + 18446744073709551616 * (-(n / (2 * Q))) := by
      have : n * P = (2 * Q * (n / (2 * Q)) + n % (2 * Q)) * P := by rw [hm]
      rw [this, ← e64]
      grind
    rw [e5, w64_add, w64 (by omega) (by omega)]
  rw [ew]
  exact Int.mul_ediv_cancel _ (by omega)
def szR (w : Bool) : Int := if w then 5 else 4
def numB (q : S50) (n : Int) : List Bool := if q.f1 = true then digs (IntKind.u64.wrap n) (hw q.f0) else putB n (kk q.f0)
def headP (w : Bool) (q : S50) : List Bool := if q.f1 = true then digs 31 (hw (szR w)) ++ digs (IntKind.u64.wrap q.f0) (hw 5) else digs (IntKind.u64.wrap q.f0) (hw (szR w))
def partB (w : Bool) (q : S50) (xs : List Int) : List Bool := headP w q ++ xs.flatMap (numB q)
def OkN (q : S50) (y : Int) : Prop := if q.f1 = true then 0 ≤ q.f0 ∧ q.f0 ≤ 31 ∧ (y = 0 ∨ inn y q.f0.toNat) else IsNear y
theorem wrapmod (n : Int) (K : Nat) (hK : K ≤ 31) : IntKind.u64.wrap n % 2 ^ K = n % 2 ^ K := by
  rw [wrap_u64]
  have e : (18446744073709551616 : Int) = 2 ^ K * 2 ^ (64 - K) := by rw [← Int.pow_add, show K + (64 - K) = 64 by omega]; decide
  rw [e]
  exact Int.emod_emod_of_dvd n (Int.dvd_mul_right _ _)
theorem number_pre {b : List Int} (hb : GB b) {L A R : List Bool} (h : Pre b L) (q : S50) (y : Int) (hq : OkN q y) (hL : L = A ++ numB q y ++ R) (hA : A.length ≤ 8 * b.length) :
    ∃ v p f, Got b (A ++ numB q y) y v p f ∧ Ev (fun k => section_number.f k b (A.length : Int) 0 q.f0 q.f1) (v, p, f) := by
  unfold numB at hL ⊢
  unfold OkN at hq
  unfold section_number.f
  by_cases hr : q.f1 = true
  · rw [if_pos hr] at hL hq ⊢
    obtain ⟨h0, h1, h2⟩ := hq
    obtain ⟨K, hK⟩ : ∃ K : Nat, q.f0 = (K : Int) := ⟨q.f0.toNat, by omega⟩
    rw [hK] at hL h0 h1 h2 ⊢
    rw [Int.toNat_natCast] at h2
    have hK31 : K ≤ 31 := by omega
    rw [hw_nat (by omega)] at hL ⊢
    by_cases hK0 : K = 0
    · subst hK0
      have hy : y = 0 := h2.resolve_right (fun h => by have := h.1; omega)
      refine ⟨0, (A.length : Int), 0, .inl ⟨by simpa [digs] using hA, hy.symm, by simp [digs], rfl⟩, ?_⟩
      refine pos hr (bnd (a := (0, (A.length : Int), 0)) ?_ (now _))
      unfold section_raw.f
      exact pos rfl (now _)
    · have hi : inn y K := by
        rcases h2 with rfl | h2
        · have := pow2_pos (K - 1)
          exact ⟨by omega, by omega, by omega⟩
        · exact h2
      obtain ⟨v1, p1, f1, g1, z1, t1⟩ := take_pre hb h hL (K : Int) (by rw [hw_nat (by omega), digs_len]) hA
      have e64 : wrap64 (64 - (K : Int)) = ((64 - K : Nat) : Int) := by rw [w64 (by omega) (by omega)]; omega
      have key : Ev (fun k => section_raw.f k b (A.length : Int) 0 (K : Int)) (shr .i64 (shl .i64 (wrap64 v1) ((64 - K : Nat) : Int)) ((64 - K : Nat) : Int), p1, f1) := by
        unfold section_raw.f
        refine neg (by omega) (bnd t1 ?_)
        rw [e64]
        exact pos (by omega) (now _)
      refine ⟨_, _, _, ?_, pos hr (bnd key (now _))⟩
      rcases g1 with ⟨g1, rfl, rfl, rfl⟩ | ⟨g1, rfl, p', rfl, hp'⟩
      · refine .inl ⟨g1, ?_, rfl, rfl⟩
        have hbn := num_bd (digs (IntKind.u64.wrap y) K)
        rw [digs_len] at hbn
        have h31 : (2 : Int) ^ K ≤ 2147483648 := by
          have : (2 : Nat) ^ K ≤ 2 ^ 31 := Nat.pow_le_pow_right (by decide) hK31
          have h := Int.ofNat_le.2 this
          simpa using h
        rw [w64 (by omega) (by omega), num_digs, wrapmod _ _ hK31]
        exact sext y K hK31 hi
      · exact .inr ⟨g1, rfl, p', rfl, hp'⟩
  · rw [if_neg hr] at hL hq ⊢
    have hf := fold_near hq
    have hd := div_pow_bd (x := fold y) (s := kk q.f0) hf.1
    obtain ⟨v, p, f, g, t⟩ := rtake_pre hb h y hq (kk q.f0) (kk_le _) (fold y / 2 ^ kk q.f0).toNat (Int.toNat_of_nonneg hd.1).symm (fold y / 2 ^ kk q.f0).toNat 0 A R (by omega) hL hA
    refine ⟨v, p, f, g, neg hr (bnd (a := (v, p, f)) ?_ (now _))⟩
    unfold rice_Take.f rice_held.f
    rw [kk_eq]
    simp only [Option.bind_some]
    exact t
theorem number_dead {b : List Int} (hb : GB b) {p : Nat} (hp : p ≤ 8 * b.length) (r : Bool) : ∃ v, Ev (fun k => section_number.f k b (p : Int) 2 0 r) (v, (p : Int), 2) := by
  unfold section_number.f
  cases r
  · refine ⟨0, neg (by decide) (bnd (a := (0, (p : Int), 2)) ?_ (now _))⟩
    unfold rice_Take.f rice_held.f
    rw [kk_eq]
    simp only [Option.bind_some]
    refine succ ?_
    simp only [rice_Take.l0]
    refine bnd (take_dead hb hp 1) ?_
    rw [fail_eq]
    simp only [Option.bind_some]
    exact neg (by decide) (now _)
  · refine ⟨0, pos rfl (bnd (a := (0, (p : Int), 2)) ?_ (now _))⟩
    unfold section_raw.f
    exact pos rfl (now _)
def headW (wd : Bool) (o : Int) : List Bool := digs (if wd then 1 else 0) (hw 2) ++ digs (IntKind.u64.wrap o) (hw 4)
def OkP (w : Bool) (q : S50) : Prop := 0 ≤ q.f0 ∧ if q.f1 = true then q.f0 ≤ 31 else q.f0 ≤ (mostOf w : Int)
structure OkR (w : Bool) (r : S50 × List Int) : Prop where
  ne : r.2 ≠ []
  way : OkP w r.1
  num : ∀ y ∈ r.2, OkN r.1 y
theorem size15 (w : Bool) : section_size.f w = some (szR w) := by cases w <;> rfl
theorem szR_hw (w : Bool) : hw (szR w) = if w then 5 else 4 := by cases w <;> rfl
theorem part_pre {b : List Int} (hb : GB b) {L A R : List Bool} (h : Pre b L) (w : Bool) (q : S50) (hq : OkP w q) (hL : L = A ++ headP w q ++ R) (hA : A.length ≤ 8 * b.length) :
    ∃ v r p f, ((A ++ headP w q).length ≤ 8 * b.length ∧ v = q.f0 ∧ r = q.f1 ∧ p = ((A ++ headP w q).length : Int) ∧ f = 0 ∨ 8 * b.length < (A ++ headP w q).length ∧ v = 0 ∧ f = 2 ∧ ∃ p' : Nat, p = (p' : Int) ∧ p' ≤ 8 * b.length) ∧
      Ev (fun k => section_part.f k b (A.length : Int) 0 w) (v, r, p, f) := by
  unfold headP at hL ⊢
  obtain ⟨h0, h1⟩ := hq
  unfold section_part.f
  rw [size15]
  simp only [Option.bind_some]
  have hs0 : 0 ≤ szR w := by cases w <;> decide
  by_cases hr : q.f1 = true
  · rw [if_pos hr] at hL h1 ⊢
    have e1 : L = A ++ digs 31 (hw (szR w)) ++ (digs (IntKind.u64.wrap q.f0) (hw 5) ++ R) := by rw [hL]; simp
    have e2 : L = (A ++ digs 31 (hw (szR w))) ++ digs (IntKind.u64.wrap q.f0) (hw 5) ++ R := by rw [hL]; simp
    obtain ⟨v1, p1, f1, g1, z1, t1⟩ := take_pre hb h e1 (szR w) (by rw [digs_len]) hA
    rcases g1 with ⟨g1, rfl, rfl, rfl⟩ | ⟨g1, rfl, p', rfl, hp'⟩
    · obtain ⟨v2, p2, f2, g2, z2, t2⟩ := take_pre hb h e2 5 (by rw [digs_len]) g1
      have hall : wrap64 (num (digs 31 (hw (szR w)))) = wrap64 (shl .i64 1 (szR w) - 1) := by cases w <;> decide +kernel
      rcases g2 with ⟨g2, rfl, rfl, rfl⟩ | ⟨g2, rfl, p', rfl, hp'⟩
      · refine ⟨_, true, _, _, .inl ⟨by simpa using g2, ?_, hr.symm, by simp, rfl⟩, bnd t1 (pos hs0 (pos hall (bnd t2 (now _))))⟩
        have e5 : hw 5 = 5 := rfl
        rw [e5, num_digs, wrapmod _ 5 (by decide), show (2 : Int) ^ 5 = 32 by decide, w64 (by omega) (by omega)]
        omega
      · refine ⟨_, true, _, _, .inr ⟨by simpa using g2, ?_, rfl, p', rfl, hp'⟩, bnd t1 (pos hs0 (pos hall (bnd t2 (now _))))⟩
        rw [z2 rfl]; exact w64 (x := 0) (by decide) (by decide)
    · have h0' : ¬ wrap64 v1 = wrap64 (shl .i64 1 (szR w) - 1) := by rw [z1 rfl]; cases w <;> decide +kernel
      refine ⟨_, false, _, _, .inr ⟨by simp at g1 ⊢; omega, ?_, rfl, p', rfl, hp'⟩, bnd t1 (pos hs0 (neg h0' (now _)))⟩
      rw [z1 rfl]; exact w64 (x := 0) (by decide) (by decide)
  · rw [if_neg hr] at hL h1 ⊢
    obtain ⟨v1, p1, f1, g1, z1, t1⟩ := take_pre hb h hL (szR w) (by rw [digs_len]) hA
    have hf : q.f1 = false := by cases hh : q.f1 <;> simp_all
    rcases g1 with ⟨g1, rfl, rfl, rfl⟩ | ⟨g1, rfl, p', rfl, hp'⟩
    · have hv : wrap64 (num (digs (IntKind.u64.wrap q.f0) (hw (szR w)))) = q.f0 := by
        rw [num_digs, szR_hw, wrapmod _ _ (by cases w <;> decide)]
        cases w
        · have h1 : q.f0 ≤ 14 := h1
          simp only [Bool.false_eq_true, if_false]
          rw [show (2 : Int) ^ 4 = 16 by decide, w64 (by omega) (by omega)]; omega
        · have h1 : q.f0 ≤ 30 := h1
          simp only [if_true]
          rw [show (2 : Int) ^ 5 = 32 by decide, w64 (by omega) (by omega)]; omega
      have hne : ¬ q.f0 = wrap64 (shl .i64 1 (szR w) - 1) := by
        cases w
        · have h1 : q.f0 ≤ 14 := h1
          have e : wrap64 (shl .i64 1 (szR false) - 1) = 15 := by decide +kernel
          rw [e]; omega
        · have h1 : q.f0 ≤ 30 := h1
          have e : wrap64 (shl .i64 1 (szR true) - 1) = 31 := by decide +kernel
          rw [e]; omega
      refine ⟨q.f0, false, _, _, .inl ⟨g1, rfl, hf.symm, rfl, rfl⟩, bnd t1 ?_⟩
      simp only [hv]
      exact pos hs0 (neg hne (now _))
    · have h0' : ¬ wrap64 v1 = wrap64 (shl .i64 1 (szR w) - 1) := by rw [z1 rfl]; cases w <;> decide +kernel
      refine ⟨_, false, _, _, .inr ⟨g1, ?_, rfl, p', rfl, hp'⟩, bnd t1 (pos hs0 (neg h0' (now _)))⟩
      rw [z1 rfl]; exact w64 (x := 0) (by decide) (by decide)
end Go.Proofs.Ytokdjeoecnnckaa.PL
end
section
namespace Go.Proofs.Ytokdjeoecnnckaa.PL
open Go Go.RowKit Go.Proofs.Ytokdjeoecnnckaa.PA Go.Proofs.YtokdjeoecnnckaaW.PrintWords Go.Proofs.YtokdjeoecnnckaaW.PrintLast Go.Proofs.YtokdjeoecnnckaaW.PrintMore
set_option linter.unusedSimpArgs false
set_option linter.unusedVariables false
def Whole : List Int → Nat → Prop
  | [], r => r = 0
  | n :: cs, r => 1 ≤ n ∧ n ≤ (r : Int) ∧ Whole cs (r - n.toNat)
theorem whole_rep (s : Int) (h : 1 ≤ s) : ∀ (m r : Nat), s * m = (r : Int) → Whole (List.replicate m s) r
  | 0, r, hr => by
    show r = 0
    simp at hr
    omega
  | m + 1, r, hr => by
    have e : s * ((m + 1 : Nat) : Int) = s * m + s := by rw [Int.natCast_succ, Int.mul_add, Int.mul_one]
    have h0 : 0 ≤ s * (m : Int) := Int.mul_nonneg (by omega) (by omega)
    refine ⟨h, by omega, whole_rep s h m _ ?_⟩
    omega
theorem whole_cuts (n : Nat) (order : Int) (ho : 0 ≤ order) (o : Nat) (hne : cutsP (n : Int) order o ≠ []) : Whole (cutsP (n : Int) order o) n := by
  unfold cutsP at hne ⊢
  split
  · rename_i h
    have hp : (0 : Int) < 2 ^ o := Int.pow_pos (by decide)
    have h3 : ((2 ^ o : Nat) : Int) = (2 : Int) ^ o := by simp
    have hme := Int.mul_ediv_add_emod ((n : Int) + order) (2 ^ o)
    have hp2 : 0 < 2 ^ o := Nat.pow_pos (by decide)
    have e : ((n : Int) + order) / 2 ^ o * ((2 ^ o - 1 : Nat) : Int) = 2 ^ o * (((n : Int) + order) / 2 ^ o) - ((n : Int) + order) / 2 ^ o := by
      rw [show ((2 ^ o - 1 : Nat) : Int) = 2 ^ o - 1 by omega, Int.mul_sub, Int.mul_one, Int.mul_comm]
    have h0 : 0 ≤ ((n : Int) + order) / 2 ^ o * ((2 ^ o - 1 : Nat) : Int) := Int.mul_nonneg (by omega) (by omega)
    exact ⟨by omega, by omega, whole_rep _ (by omega) _ _ (by omega)⟩
  · rename_i h
    rw [if_neg h] at hne
    exact absurd rfl hne
theorem whole_cutsI (n : Nat) (order o : Int) (ho : 0 ≤ order) (hne : cutsI (n : Int) order o ≠ []) : Whole (cutsI (n : Int) order o) n ∧ 0 ≤ o ∧ o ≤ 15 := by
  unfold cutsI at hne ⊢
  split
  · rename_i h
    rw [if_pos h] at hne
    exact ⟨whole_cuts n order ho _ hne, h⟩
  · rename_i h
    rw [if_neg h] at hne
    exact absurd rfl hne
theorem whole_sfits : ∀ (cs : List Int) (r : Nat), Whole cs r → SFits cs r
  | [], _, _ => trivial
  | _ :: cs, r, h => ⟨by have := h.1; omega, h.2.1, whole_sfits cs _ h.2.2⟩
theorem rows_whole : ∀ (cs l : List Int) (ps : List S50), Whole cs l.length → cs.length = ps.length → (rowsP cs l ps).map (·.1) = ps ∧ (rowsP cs l ps).flatMap (·.2) = l ∧ (rowsP cs l ps).map (fun r => (r.2.length : Int)) = cs ∧ ∀ r ∈ rowsP cs l ps, r.2 ≠ []
  | [], l, ps, hw, hl => by
    have hw : l.length = 0 := hw
    rw [List.eq_nil_of_length_eq_zero hw, List.eq_nil_of_length_eq_zero (by simpa using hl.symm : ps.length = 0)]
    simp [rowsP]
  | _ :: _, _, [], _, hl => by simp at hl
  | n :: cs, l, p :: ps, hw, hl => by
    obtain ⟨h1, h2, h3⟩ := hw
    have ih := rows_whole cs (l.drop n.toNat) ps (by rw [List.length_drop]; exact h3) (by simpa using hl)
    have ht : ((l.take n.toNat).length : Int) = n := by rw [List.length_take]; omega
    simp only [rowsP, List.map_cons, List.flatMap_cons]
    refine ⟨by rw [ih.1], by rw [ih.2.1, List.take_append_drop], by rw [ih.2.2.1, ht], ?_⟩
    intro r hr
    rcases List.mem_cons.1 hr with rfl | hr
    · intro he
      rw [show (l.take n.toNat) = [] from he] at ht
      simp at ht
      omega
    · exact ih.2.2.2 r hr
def rowsN (w : Bool) : List (S50 × List Int) → Int
  | [] => 0
  | r :: t => sizeOf_ w + eachW r.2 r.1 + rowsN w t
theorem go_rows (w : Bool) : ∀ (cs l : List Int) (ps : List S50) (s : Int), cs.length = ps.length → 0 ≤ bitsGo w (split cs l) ps s →
    (∀ r ∈ rowsP cs l ps, 0 ≤ eachW r.2 r.1 ∧ (r.1.f1 = true ∨ (0 ≤ r.1.f0 ∧ r.1.f0 ≤ (mostOf w : Int)))) ∧ bitsGo w (split cs l) ps s = s + rowsN w (rowsP cs l ps)
  | [], l, ps, s, hl, h => by
    rw [List.eq_nil_of_length_eq_zero (by simpa using hl.symm : ps.length = 0)]
    simp [rowsP, split, bitsGo, rowsN]
  | _ :: _, _, [], _, hl, _ => by simp at hl
  | n :: cs, l, p :: ps, s, hl, h => by
    simp only [split, bitsGo] at h ⊢
    by_cases h1 : eachW (l.take n.toNat) p < 0
    · rw [if_pos h1] at h; omega
    rw [if_neg h1] at h ⊢
    by_cases h2 : p.f1 = true ∨ (0 ≤ p.f0 ∧ p.f0 ≤ (mostOf w : Int))
    · rw [if_pos h2] at h ⊢
      obtain ⟨i1, i2⟩ := go_rows w cs (l.drop n.toNat) ps _ (by simpa using hl) h
      refine ⟨?_, ?_⟩
      · intro r hr
        simp only [rowsP, List.mem_cons] at hr
        rcases hr with rfl | hr
        · exact ⟨Int.not_lt.1 h1, h2⟩
        · exact i1 r hr
      · rw [i2]
        simp only [rowsP, rowsN]
        omega
    · rw [if_neg h2] at h; omega
theorem ok_way {w : Bool} {q : S50} {xs : List Int} (h0 : 0 ≤ eachW xs q) (h2 : q.f1 = true ∨ (0 ≤ q.f0 ∧ q.f0 ≤ (mostOf w : Int))) : NearAll xs ∧ OkP w q ∧ (∀ y ∈ xs, OkN q y) ∧ eachW xs q = (if q.f1 = true then 5 + q.f0 * xs.length else bitsL (kk q.f0) xs) := by
  unfold eachW at h0 ⊢
  by_cases hr : q.f1 = true
  · rw [if_pos hr] at h0 ⊢
    split at h0
    · rename_i hc
      obtain ⟨hn, hw, h31⟩ := hc
      obtain ⟨w1, _, _⟩ := wid_spec hn
      refine ⟨hn, ⟨by omega, by rw [if_pos hr]; exact h31⟩, fun y hy => ?_, by rw [if_pos ⟨hn, hw, h31⟩, if_pos hr]⟩
      unfold OkN
      rw [if_pos hr]
      exact ⟨by omega, h31, fitsW_mono w1 (by omega) y hy⟩
    · omega
  · rw [if_neg hr] at h0 ⊢
    split at h0
    · rename_i hn
      have h2 := h2.resolve_left hr
      refine ⟨hn, ⟨h2.1, by rw [if_neg hr]; exact h2.2⟩, fun y hy => ?_, by rw [if_pos hn, if_neg hr]⟩
      unfold OkN
      rw [if_neg hr]
      exact hn y hy
    · omega
theorem long_eq {n k : Int} (hn : IsNear n) (h0 : 0 ≤ k) (h30 : k ≤ 30) : section_long.f n k = some (decide (fold n / 2 ^ kk k > 65535)) := by
  unfold section_long.f
  unfold IsNear at hn
  rw [fold_eq n (by omega)]
  simp only [Option.bind_some]
  have e : k = ((kk k : Nat) : Int) := by unfold kk; omega
  have hk := kk_le k
  rw [if_pos h0, show shr .u64 (fold n) k = shr .u64 (fold n) ((kk k : Nat) : Int) by rw [← e], shr_u64 _ (by omega)]
theorem szW_eq (w : Bool) : szW w = szR w := rfl
theorem rice_app (K : Int) : ∀ (xs : List Int) (A : List Bool), (∀ y ∈ xs, IsNear y ∧ ¬ fold y / 2 ^ kk K > 65535) → riceAll K A xs = A ++ xs.flatMap (fun y => putB y (kk K))
  | [], A, _ => by simp [riceAll]
  | x :: t, A, h => by
    have hx := h x (by simp)
    have e : riceAll K A (x :: t) = riceAll K (rputR A x (kk K)).2 t := rfl
    have e2 : (rputR A x (kk K)).2 = A ++ putB x (kk K) := by unfold rputR; rw [if_neg (by simpa using hx.1), if_neg hx.2]
    rw [e, e2, rice_app K t _ (fun y hy => h y (by simp [hy]))]
    simp
theorem raw_app (K : Int) : ∀ (xs : List Int) (A : List Bool), rawAll K A xs = A ++ xs.flatMap (fun y => digs (IntKind.u64.wrap y) (hw K))
  | [], A => by simp [rawAll]
  | x :: t, A => by
    have e : rawAll K A (x :: t) = rawAll K (A ++ digs (IntKind.u64.wrap x) (hw K)) t := rfl
    rw [e, raw_app K t]
    simp
theorem putB_sz {n : Int} (h : IsNear n) (k : Nat) : ((putB n k).length : Int) = sz n k := by
  have hf := fold_near h
  have hd := div_pow_bd (x := fold n) (s := k) hf.1
  rw [putB_len]
  unfold sz
  omega
theorem flat_sz (k : Nat) : ∀ (xs : List Int), NearAll xs → ((xs.flatMap (fun y => putB y k)).length : Int) = bitsL k xs
  | [], _ => rfl
  | x :: t, h => by
    have h1 := putB_sz (nearAll_cons.1 h).1 k
    have h2 := flat_sz k t (nearAll_cons.1 h).2
    simp only [List.flatMap_cons, List.length_append, bitsL]
    omega
theorem flat_digs (K : Nat) : ∀ (xs : List Int), (xs.flatMap (fun y => digs (IntKind.u64.wrap y) K)).length = K * xs.length
  | [] => by simp
  | x :: t => by
    have h2 := flat_digs K t
    simp only [List.flatMap_cons, List.length_append, digs_len, List.length_cons, h2]
    rw [Nat.mul_add]
    omega
theorem szR_sz (w : Bool) : ((hw (szR w) : Nat) : Int) = sizeOf_ w := by cases w <;> rfl
theorem part_app {w : Bool} {r : S50 × List Int} (h0 : 0 ≤ eachW r.2 r.1) (h2 : r.1.f1 = true ∨ (0 ≤ r.1.f0 ∧ r.1.f0 ≤ (mostOf w : Int))) (hl : longP r = false) (A : List Bool) :
    putPart w A r.1 r.2 = A ++ partB w r.1 r.2 ∧ ((partB w r.1 r.2).length : Int) = sizeOf_ w + eachW r.2 r.1 := by
  obtain ⟨q, xs⟩ := r
  have h0 : 0 ≤ eachW xs q := h0
  have h2 : q.f1 = true ∨ (0 ≤ q.f0 ∧ q.f0 ≤ (mostOf w : Int)) := h2
  obtain ⟨hn, hp, hok, he⟩ := ok_way h0 h2
  show putPart w A q xs = A ++ partB w q xs ∧ ((partB w q xs).length : Int) = sizeOf_ w + eachW xs q
  have hm := mostOf_le w
  have hs := szR_sz w
  unfold putPart partB headP numB
  rw [he]
  by_cases hr : q.f1 = true
  · simp only [if_pos hr]
    obtain ⟨p0, p1⟩ := hp
    rw [if_pos hr] at p1
    obtain ⟨K, hK⟩ : ∃ K : Nat, q.f0 = (K : Int) := ⟨q.f0.toNat, by omega⟩
    rw [hK] at p1 ⊢
    rw [raw_app, szW_eq, hw_nat (by omega)]
    refine ⟨by simp, ?_⟩
    have h5 : hw 5 = 5 := rfl
    rw [List.length_append, List.length_append, digs_len, digs_len, flat_digs, h5]
    have : ((K * xs.length : Nat) : Int) = (K : Int) * xs.length := by simp
    omega
  · simp only [if_neg hr]
    have hK := h2.resolve_left hr
    rw [rice_app, szW_eq]
    · refine ⟨by simp, ?_⟩
      have := flat_sz (kk q.f0) xs hn
      rw [List.length_append, digs_len]
      omega
    · intro y hy
      refine ⟨hn y hy, fun hc => ?_⟩
      unfold longP at hl
      have hf : q.f1 = false := by cases hh : q.f1 <;> simp_all
      rw [hf] at hl
      simp only [Bool.not_false, Bool.true_and] at hl
      have h3 := List.any_eq_false.1 hl y hy
      rw [long_eq (hn y hy) hK.1 (by omega)] at h3
      simp only [Option.getD_some, decide_eq_true_eq] at h3
      exact h3 hc
theorem all_app (w : Bool) : ∀ (rs : List (S50 × List Int)) (A : List Bool), (∀ r ∈ rs, (0 ≤ eachW r.2 r.1 ∧ (r.1.f1 = true ∨ (0 ≤ r.1.f0 ∧ r.1.f0 ≤ (mostOf w : Int)))) ∧ longP r = false) →
    putAllP w A rs = A ++ rs.flatMap (fun r => partB w r.1 r.2) ∧ ((rs.flatMap (fun r => partB w r.1 r.2)).length : Int) = rowsN w rs
  | [], A, _ => by simp [putAllP, rowsN]
  | r :: t, A, h => by
    have hr := h r (by simp)
    obtain ⟨h1, h2⟩ := part_app hr.1.1 hr.1.2 hr.2 A
    have e : putAllP w A (r :: t) = putAllP w (putPart w A r.1 r.2) t := rfl
    obtain ⟨i1, i2⟩ := all_app w t (A ++ partB w r.1 r.2) (fun x hx => h x (by simp [hx]))
    rw [e, h1, i1]
    refine ⟨by simp, ?_⟩
    simp only [List.flatMap_cons, List.length_append, rowsN]
    omega
def secB (l : List Int) (order : Int) (wd : Bool) (o : Int) (ps : List S50) : List Bool := headW wd o ++ (rowsP (cutsI (l.length : Int) order o) l ps).flatMap (fun r => partB wd r.1 r.2)
def lonP (l : List Int) (order o : Int) (ps : List S50) : Bool := (rowsP (cutsI (l.length : Int) order o) l ps).any longP
structure Fine (l : List Int) (order : Int) (wd : Bool) (o : Int) (ps : List S50) : Prop where
  ne : cutsI (l.length : Int) order o ≠ []
  oin : 0 ≤ o ∧ o ≤ 15
  len : (cutsI (l.length : Int) order o).length = ps.length
  whole : Whole (cutsI (l.length : Int) order o) l.length
  rows : ∀ r ∈ rowsP (cutsI (l.length : Int) order o) l ps, 0 ≤ eachW r.2 r.1 ∧ (r.1.f1 = true ∨ (0 ≤ r.1.f0 ∧ r.1.f0 ≤ (mostOf wd : Int)))
  bits : bitsV l order wd o ps = 6 + rowsN wd (rowsP (cutsI (l.length : Int) order o) l ps)
theorem fine_of {l : List Int} {order : Int} {wd : Bool} {o : Int} {ps : List S50} (ho : 0 ≤ order) (h : 0 ≤ bitsV l order wd o ps) : Fine l order wd o ps := by
  unfold bitsV at h
  split at h
  · omega
  · rename_i hc
    have hc1 : cutsI (l.length : Int) order o ≠ [] := fun x => hc (.inl x)
    have hc2 : (cutsI (l.length : Int) order o).length = ps.length := Decidable.not_not.1 (fun x => hc (.inr x))
    obtain ⟨w1, w2⟩ := whole_cutsI l.length order o ho hc1
    obtain ⟨g1, g2⟩ := go_rows wd _ l ps 6 hc2 h
    exact ⟨hc1, w2, hc2, w1, g1, by unfold bitsV; rw [if_neg hc, g2]⟩
theorem Fine.okr {l : List Int} {order : Int} {wd : Bool} {o : Int} {ps : List S50} (h : Fine l order wd o ps) : ∀ r ∈ rowsP (cutsI (l.length : Int) order o) l ps, OkR wd r := fun r hr => by
  obtain ⟨h1, h2⟩ := h.rows r hr
  obtain ⟨_, k1, k2, _⟩ := ok_way h1 h2
  exact ⟨(rows_whole _ l ps h.whole h.len).2.2.2 r hr, k1, k2⟩
theorem headB_eq (wd : Bool) (o : Int) : headB [] wd o = headW wd o := by simp [headB, headW]
theorem headW_len (wd : Bool) (o : Int) : (headW wd o).length = 6 := by
  unfold headW
  rw [List.length_append, digs_len, digs_len]
  rfl
theorem Fine.put {l : List Int} {order : Int} {wd : Bool} {o : Int} {ps : List S50} (h : Fine l order wd o ps) (hl : lonP l order o ps = false) :
    putAllP wd (headB [] wd o) (rowsP (cutsI (l.length : Int) order o) l ps) = secB l order wd o ps ∧ ((secB l order wd o ps).length : Int) = bitsV l order wd o ps := by
  obtain ⟨h1, h2⟩ := all_app wd (rowsP (cutsI (l.length : Int) order o) l ps) (headB [] wd o) (fun r hr => ⟨h.rows r hr, by
    cases hh : longP r
    · rfl
    · have := List.any_eq_false.1 hl r hr
      exact absurd hh this⟩)
  rw [headB_eq] at h1 ⊢
  refine ⟨h1, ?_⟩
  unfold secB
  rw [List.length_append, headW_len, h.bits]
  omega
theorem sput_eq (l : List Int) (hl : l.length ≤ 1000) (h64 : ∀ x ∈ l, -9223372036854775808 ≤ x ∧ x < 9223372036854775808) (order : Int) (ho : 0 ≤ order) (ho2 : order ≤ 32) (wd : Bool) (o : Int) (ps : List S50) (hps : ps.length ≤ 1000) :
    section_Put.f (WB []) 0 l order wd o ps = some (if bitsV l order wd o ps < 0 then (1, WB [], 0) else if lonP l order o ps = true then (7, WB [], 0) else (0, WB (secB l order wd o ps), bitsV l order wd o ps)) := by
  unfold section_Put.f sectionPut.f
  rw [if_pos ⟨rfl, rfl, hl, hps, h64⟩, lim15_ev (bitsV_ev hl ho ho2 wd o ps)]
  simp only [Option.bind_some]
  by_cases h0 : bitsV l order wd o ps < 0
  · rw [if_pos h0, if_pos h0]
  · rw [if_neg h0, if_neg h0, lim15_ev (cutsI_ev (l.length : Int) order o (by omega) (by omega) ho (by omega))]
    simp only [Option.bind_some]
    have hf := fine_of (l := l) (wd := wd) (o := o) (ps := ps) ho (by omega)
    have hk : ∀ p ∈ ps, p.f1 = true ∨ 0 ≤ p.f0 := by
      intro p hp
      have hm := (rows_whole _ l ps hf.whole hf.len).1
      rw [← hm] at hp
      obtain ⟨r, hr, rfl⟩ := List.mem_map.1 hp
      exact (hf.rows r hr).2.imp id (fun h => h.1)
    rw [if_pos ⟨whole_sfits _ _ hf.whole, hf.len, hk⟩]
    by_cases h1 : lonP l order o ps = true
    · have h1' : (rowsP (cutsI (l.length : Int) order o) l ps).any longP = true := h1
      rw [if_pos h1, if_pos h1']
    · have h1' : ¬ (rowsP (cutsI (l.length : Int) order o) l ps).any longP = true := h1
      obtain ⟨p1, p2⟩ := hf.put (by cases hh : lonP l order o ps <;> simp_all)
      rw [if_neg h1, if_neg h1', p1, p2]
end Go.Proofs.Ytokdjeoecnnckaa.PL
end
section
namespace Go.Proofs.Ytokdjeoecnnckaa.PL
open Go.RowKit Go.Proofs.Ytokdjeoecnnckaa.PA Go.Proofs.YtokdjeoecnnckaaW.PrintWords
theorem ints_l0 (a b : List Int) (h : a.length = b.length) (ha : a.length < 1152921504606846976) : ∀ (t p q : List Int) (u : List Int), a = p ++ t → b = q ++ u → p.length = q.length → Ev (fun k => serinetteref01_Ints.l0 k a b (p.length : Int)) (decide (t = u)) := by
  intro t
  induction t with
  | nil =>
    intro p q u hp hq hl
    have hu : u = [] := by
      have := congrArg List.length hp; have := congrArg List.length hq; simp at *; apply List.eq_nil_of_length_eq_zero; omega
    subst hu
    refine succ ?_
    simp only [serinetteref01_Ints.l0]
    exact neg (by rw [hp]; simp) (cst (by simp))
  | cons x t ih =>
    intro p q u hp hq hl
    have l1 := congrArg List.length hp; have l2 := congrArg List.length hq
    cases u with
    | nil => simp at *; omega
    | cons y u =>
      simp only [List.length_append, List.length_cons] at l1 l2
      refine succ ?_
      simp only [serinetteref01_Ints.l0]
      refine pos (by omega) (pos (by omega) (pos (by omega) ?_))
      rw [w64 (by omega) (by omega)]
      have ra : rd a (p.length : Int) = x := by rw [hp]; exact rd_at _ _ _
      have rb : rd b (p.length : Int) = y := by rw [hq, hl]; exact rd_at _ _ _
      rw [ra, rb]
      by_cases hxy : x = y
      · refine pos hxy ?_
        have := ih (p ++ [x]) (q ++ [y]) u (by simp [hp]) (by simp [hq]) (by simp [hl])
        subst hxy
        simpa using this
      · exact neg hxy (cst (by simp [hxy]))
theorem ints_ev (a b : List Int) (ha : a.length < 1152921504606846976) : Ev (fun k => serinetteref01_Ints.f k a b) (decide (a = b)) := by
  unfold serinetteref01_Ints.f
  by_cases h : a.length = b.length
  · exact pos (by omega) (ints_l0 a b h ha a [] [] b rfl rfl rfl)
  · exact neg (by omega) (cst (by simp; intro e; exact h (by rw [e])))
theorem ints_refl (a : List Int) (ha : a.length < 1152921504606846976) : Ev (fun k => serinetteref01_Ints.f k a a) true := by simpa using ints_ev a a ha
end Go.Proofs.Ytokdjeoecnnckaa.PL
end
section
namespace Go.Proofs.Ytokdjeoecnnckaa.PL
open Go.RowKit Go.Proofs.Ytokdjeoecnnckaa.PA Go.Proofs.YtokdjeoecnnckaaW.PrintWords Go.Proofs.YtokdjeoecnnckaaW.PrintLast Go.Proofs.YtokdjeoecnnckaaW.PrintMore
set_option linter.unusedVariables false
set_option linter.unusedSimpArgs false
theorem same_ev (w : Bool) (o : Int) (ps : List S50) (hl : ps.length < 1000000) : Ev (fun k => serinetteref14_Same.f k w o ps w o ps) true := by
  unfold serinetteref14_Same.f
  refine neg (by simp) (pos rfl ?_)
  have e : ((ps.length : Int) != (ps.length : Int)) = false := by simp
  rw [e]
  refine succ ?_
  simp only [serinetteref14_Same.j0]
  refine neg (by decide) ?_
  have key : ∀ (d i : Nat), i + d = ps.length → Ev (fun k => serinetteref14_Same.l0 k (i : Int) w o ps w o ps) true := by
    intro d
    induction d with
    | zero =>
      intro i hi
      refine succ ?_
      simp only [serinetteref14_Same.l0]
      exact neg (by omega) (now true)
    | succ d ih =>
      intro i hi
      refine succ ?_
      simp only [serinetteref14_Same.l0]
      rw [w64 (by omega) (by omega)]
      refine pos (by omega) (pos (by omega) (pos (by omega) (neg (by simp) ?_)))
      have := ih (i + 1) (by omega)
      simpa using this
  exact key ps.length 0 (by omega)
end Go.Proofs.Ytokdjeoecnnckaa.PL
end
section
namespace Go.Proofs.Ytokdjeoecnnckaa.PL
open Go Go.RowKit Go.Proofs.Ytokdjeoecnnckaa.PA Go.Proofs.YtokdjeoecnnckaaW.PrintWords Go.Proofs.YtokdjeoecnnckaaW.PrintLast Go.Proofs.YtokdjeoecnnckaaW.PrintMore
set_option linter.unusedSimpArgs false
set_option linter.unusedVariables false
def nar (n : Int) : Prop := -2147483648 < n ∧ n < 2147483648
def OutR (b : List Int) (L : List Bool) (l : List Int) (wd : Bool) (o : Int) (ps : List S50) (res : List Int × Bool × Int × List S50 × Int × Int × Int) : Prop :=
  (L.length ≤ 8 * b.length ∧ (∀ x ∈ l, nar x) ∧ res = (l, wd, o, ps, 0, (L.length : Int), 0)) ∨ ((∃ x ∈ l, ¬ nar x) ∧ ∃ p f, res = ([], false, 0, [], 14, p, f)) ∨ (8 * b.length < L.length ∧ ∃ p f, res = ([], false, 0, [], 2, p, f))
theorem nums_out {b : List Int} (hb : GB b) {L : List Bool} (hpre : Pre b L) (l : List Int) (wd : Bool) (o : Int) (ps : List S50) (q : S50) (cuts : List Int) (cl i m : Int) (Q : List S50) :
    ∀ (ys : List Int) (j : Nat) (acc : List Int) (A R : List Bool), L = A ++ ys.flatMap (numB q) ++ R → A.length ≤ 8 * b.length → m = (j : Int) + (ys.length : Int) → (∀ y ∈ ys, y ∈ l ∧ OkN q y) → acc.length + ys.length ≤ 100000 → j + ys.length ≤ 100000 →
      ((∀ y ∈ ys, nar y) → (A ++ ys.flatMap (numB q)).length ≤ 8 * b.length → ∃ res, OutR b L l wd o ps res ∧ Ev (fun k => section_Take.l0 k (acc ++ ys) cuts cl (wrap64 (i + 1)) b ((A ++ ys.flatMap (numB q)).length : Int) 0 wd o Q) res) →
      ∃ res, OutR b L l wd o ps res ∧ Ev (fun k => section_Take.l1 k acc cuts cl i m (j : Int) b (A.length : Int) 0 wd o Q q.f0 q.f1) res := by
  intro ys
  induction ys with
  | nil =>
    intro j acc A R hL hA hm hy ha hj hk
    obtain ⟨res, h1, h2⟩ := hk (by simp) (by simpa using hA)
    simp only [List.flatMap_nil, List.append_nil] at h2
    refine ⟨res, h1, succ ?_⟩
    simp only [section_Take.l1]
    exact neg (by simp at hm; omega) h2
  | cons y t ih =>
    intro j acc A R hL hA hm hy ha hj hk
    obtain ⟨hyl, hyo⟩ := hy y (by simp)
    simp only [List.length_cons] at hm ha hj
    have e1 : L = A ++ numB q y ++ (t.flatMap (numB q) ++ R) := by rw [hL]; simp
    have e2 : L = (A ++ numB q y) ++ t.flatMap (numB q) ++ R := by rw [hL]; simp
    obtain ⟨v, p, f, g, t1⟩ := number_pre hb hpre q y hyo e1 hA
    rcases g with ⟨g, rfl, rfl, rfl⟩ | ⟨g, rfl, p', rfl, hp'⟩
    · by_cases hn : nar v
      · obtain ⟨res, h1, h2⟩ := ih (j + 1) (acc ++ [v]) (A ++ numB q v) R e2 g (by omega) (fun y hh => hy y (by simp [hh])) (by simp; omega) (by omega) (fun hs hl => by
          have := hk (fun z hz => by
            rcases List.mem_cons.1 hz with rfl | hz
            · exact hn
            · exact hs z hz) (by simpa using hl)
          simpa [List.append_assoc] using this)
        refine ⟨res, h1, succ ?_⟩
        simp only [section_Take.l1]
        have ej : wrap64 ((j : Int) + 1) = ((j + 1 : Nat) : Int) := by rw [w64 (by omega) (by omega)]; omega
        refine pos (by omega) (bnd t1 ?_)
        rw [fail_eq]
        simp only [Option.bind_some]
        rw [ej]
        unfold nar at hn
        exact pos (by first | trivial | rfl) (neg (by omega) (neg (by omega) (pos (by omega) h2)))
      · refine ⟨_, .inr (.inl ⟨⟨v, hyl, hn⟩, ((A ++ numB q v).length : Int), 0, rfl⟩), succ ?_⟩
        simp only [section_Take.l1]
        refine pos (by omega) (bnd t1 ?_)
        rw [fail_eq]
        simp only [Option.bind_some]
        refine pos (by first | trivial | rfl) ?_
        by_cases h1 : v ≤ -2147483648
        · exact pos h1 (now _)
        · refine neg h1 (pos ?_ (now _))
          unfold nar at hn
          omega
    · refine ⟨_, .inr (.inr ⟨?_, (p' : Int), 2, rfl⟩), succ ?_⟩
      · rw [e1, List.length_append]
        omega
      · simp only [section_Take.l1]
        refine pos (by omega) (bnd t1 ?_)
        rw [fail_eq]
        simp only [Option.bind_some]
        refine neg (by decide) ?_
        rw [fail_eq]
        exact now _
theorem rows_out {b : List Int} (hb : GB b) {L : List Bool} (hpre : Pre b L) (l : List Int) (hl : l.length ≤ 1000) (wd : Bool) (o : Int) (ps : List S50) (hps : ps.length ≤ 40000) (cuts : List Int) (hcl : cuts.length ≤ 40000) :
    ∀ (rs : List (S50 × List Int)) (pre acc : List Int) (Q : List S50) (A : List Bool), cuts = pre ++ rs.map (fun r => (r.2.length : Int)) → L = A ++ rs.flatMap (fun r => partB wd r.1 r.2) → A.length ≤ 8 * b.length → (∀ r ∈ rs, OkR wd r) →
      (∀ y ∈ acc, nar y) → acc ++ rs.flatMap (·.2) = l → Q ++ rs.map (·.1) = ps →
      ∃ res, OutR b L l wd o ps res ∧ Ev (fun k => section_Take.l0 k acc cuts (cuts.length : Int) (pre.length : Int) b (A.length : Int) 0 wd o Q) res := by
  intro rs
  induction rs with
  | nil =>
    intro pre acc Q A hc hL hA hok hacc hall hQ
    simp only [List.flatMap_nil, List.append_nil, List.map_nil] at hc hL hall hQ
    subst hL hall hQ
    refine ⟨_, .inl ⟨hA, hacc, rfl⟩, succ ?_⟩
    simp only [section_Take.l0]
    exact neg (by rw [hc]; omega) (now _)
  | cons r t ih =>
    intro pre acc Q A hc hL hA hok hacc hall hQ
    obtain ⟨hne, hway, hnum⟩ := hok r (by simp)
    obtain ⟨q, ys⟩ := r
    simp only at hne hway hnum
    simp only [List.map_cons, List.flatMap_cons] at hc hL hall hQ
    rw [show partB wd q ys = headP wd q ++ ys.flatMap (numB q) from rfl] at hL
    have hcl2 := congrArg List.length hc
    have hql := congrArg List.length hQ
    have hal := congrArg List.length hall
    simp only [List.length_append, List.length_cons] at hcl2 hql hal
    have hys : 0 < ys.length := List.length_pos_iff.2 hne
    have e1 : L = A ++ headP wd q ++ (ys.flatMap (numB q) ++ t.flatMap (fun r => partB wd r.1 r.2)) := by rw [hL]; simp
    have e2 : L = (A ++ headP wd q) ++ ys.flatMap (numB q) ++ t.flatMap (fun r => partB wd r.1 r.2) := by rw [hL]; simp
    have hrd : rd cuts (pre.length : Int) = (ys.length : Int) := by rw [hc]; exact rd_at _ _ _
    obtain ⟨v, r, p, f, g, t1⟩ := part_pre hb hpre wd q hway e1 hA
    rcases g with ⟨g, rfl, rfl, rfl, rfl⟩ | ⟨g, rfl, rfl, p', rfl, hp'⟩
    · have nx := nums_out hb hpre l wd o ps q cuts (cuts.length : Int) (pre.length : Int) (ys.length : Int) (Q ++ [(⟨q.f0, q.f1⟩ : S50)]) ys 0 acc (A ++ headP wd q) (t.flatMap (fun r => partB wd r.1 r.2)) e2 g (by omega)
        (fun y hy => ⟨by rw [← hall]; simp [hy], hnum y hy⟩) (by omega) (by omega) (fun hs hlen => by
          have hi := ih (pre ++ [(ys.length : Int)]) (acc ++ ys) (Q ++ [q]) ((A ++ headP wd q) ++ ys.flatMap (numB q)) (by rw [hc]; simp) e2 hlen (fun r hr => hok r (by simp [hr]))
            (fun y hy => by
              rcases List.mem_append.1 hy with h | h
              · exact hacc y h
              · exact hs y h) (by rw [← hall]; simp) (by rw [← hQ]; simp)
          have ei : wrap64 ((pre.length : Int) + 1) = ((pre ++ [(ys.length : Int)]).length : Int) := by rw [w64 (by omega) (by omega), List.length_append]; simp
          rw [ei]
          exact hi)
      obtain ⟨res, h1, h2⟩ := nx
      refine ⟨res, h1, succ ?_⟩
      simp only [section_Take.l0]
      rw [hrd]
      exact pos (by omega) (pos (by omega) (pos (by omega) (bnd t1 (pos (by omega) h2))))
    · obtain ⟨v2, t2⟩ := number_dead hb hp' r
      refine ⟨_, .inr (.inr ⟨?_, (p' : Int), 2, rfl⟩), succ ?_⟩
      · rw [e1, List.length_append]
        omega
      · simp only [section_Take.l0]
        rw [hrd]
        refine pos (by omega) (pos (by omega) (pos (by omega) (bnd t1 (pos (by omega) (succ ?_)))))
        simp only [section_Take.l1]
        refine pos (by omega) (bnd t2 ?_)
        rw [fail_eq]
        simp only [Option.bind_some]
        refine neg (by decide) ?_
        rw [fail_eq]
        exact now _
theorem take15 {b : List Int} (hb : GB b) {L : List Bool} (hpre : Pre b L) (l : List Int) (hl : l.length ≤ 1000) (hl0 : l.length ≠ 0) (wd : Bool) (o order : Int) (ho : 0 ≤ o ∧ o ≤ 15) (hord : 0 ≤ order ∧ order ≤ 32) (rs : List (S50 × List Int)) (hrs : rs.length ≤ 40000)
    (hc : cutsI (l.length : Int) order o = rs.map (fun r => (r.2.length : Int))) (hne : rs ≠ []) (hL : L = headW wd o ++ rs.flatMap (fun r => partB wd r.1 r.2)) (hok : ∀ r ∈ rs, OkR wd r) (hall : rs.flatMap (·.2) = l) :
    ∃ res, OutR b L l wd o (rs.map (·.1)) res ∧ Ev (fun k => section_Take.f k b 0 0 ((l.length : Int) + order) order) res := by
  have e1 : L = [] ++ digs (if wd then 1 else 0) (hw 2) ++ (digs (IntKind.u64.wrap o) (hw 4) ++ rs.flatMap (fun r => partB wd r.1 r.2)) := by rw [hL]; simp [headW]
  have e2 : L = digs (if wd then 1 else 0) (hw 2) ++ digs (IntKind.u64.wrap o) (hw 4) ++ rs.flatMap (fun r => partB wd r.1 r.2) := by rw [hL]; rfl
  have ht : ∃ res, OutR b L l wd o (rs.map (·.1)) res ∧ Ev (fun k => section_Take.j0 k ((l.length : Int) + order) order false b 0 0) res := by
    obtain ⟨v1, p1, f1, g1, z1, t1⟩ := take_pre hb hpre e1 2 (by rw [digs_len]) (by simp)
    rw [show (([] : List Bool).length : Int) = 0 from rfl] at t1
    simp only [List.nil_append] at g1
    rcases g1 with ⟨g1, rfl, rfl, rfl⟩ | ⟨g1, rfl, p', rfl, hp'⟩
    · have hv : num (digs (if wd then 1 else 0) (hw 2)) = if wd then 1 else 0 := by cases wd <;> decide +kernel
      obtain ⟨v2, p2, f2, g2, z2, t2⟩ := take_pre hb hpre e2 4 (by rw [digs_len]) g1
      have hm : decide (num (digs (if wd then 1 else 0) (hw 2)) > 1) = false := by rw [hv]; cases wd <;> decide
      have hx : (num (digs (if wd then 1 else 0) (hw 2)) == 1) = wd := by rw [hv]; cases wd <;> decide
      rcases g2 with ⟨g2, rfl, rfl, rfl⟩ | ⟨g2, rfl, p', rfl, hp'⟩
      · have hvo : wrap64 (num (digs (IntKind.u64.wrap o) (hw 4))) = o := by
          have e4 : hw 4 = 4 := rfl
          rw [e4, num_digs, wrapmod _ 4 (by decide), show (2 : Int) ^ 4 = 16 by decide, w64 (by omega) (by omega)]
          omega
        have hcl : (cutsI (l.length : Int) order o).length = rs.length := by rw [hc, List.length_map]
        obtain ⟨res, h1, h2⟩ := rows_out hb hpre l hl wd o (rs.map (·.1)) (by rw [List.length_map]; exact hrs) (cutsI (l.length : Int) order o) (by omega) rs [] [] [] (digs (if wd then 1 else 0) (hw 2) ++ digs (IntKind.u64.wrap o) (hw 4)) (by rw [hc]; rfl) e2 g2 hok (by simp) (by simpa using hall) (by simp)
        refine ⟨res, h1, succ ?_⟩
        simp only [section_Take.j0]
        refine neg (by decide) (bnd t1 ?_)
        rw [fail_eq]
        simp only [Option.bind_some]
        rw [hm]
        refine pos (by first | trivial | rfl) (succ ?_)
        simp only [section_Take.j1]
        refine neg (by decide) (bnd t2 ?_)
        rw [fail_eq]
        simp only [Option.bind_some]
        refine pos (by first | trivial | rfl) ?_
        rw [hvo, hx, w64 (x := (l.length : Int) + order - order) (by omega) (by omega), show (l.length : Int) + order - order = l.length by omega]
        refine bnd (cutsI_ev (l.length : Int) order o (by omega) (by omega) (by omega) (by omega)) (neg ?_ h2)
        rw [hcl]
        have := List.length_pos_iff.2 hne
        omega
      · refine ⟨_, .inr (.inr ⟨?_, (p' : Int), 2, rfl⟩), succ ?_⟩
        · rw [e2, List.length_append]; omega
        · simp only [section_Take.j0]
          refine neg (by decide) (bnd t1 ?_)
          rw [fail_eq]
          simp only [Option.bind_some]
          rw [hm]
          refine pos (by first | trivial | rfl) (succ ?_)
          simp only [section_Take.j1]
          refine neg (by decide) (bnd t2 ?_)
          rw [fail_eq]
          simp only [Option.bind_some]
          refine neg (by decide) ?_
          rw [fail_eq]
          exact now _
    · have t2 := take_dead hb hp' 4
      refine ⟨_, .inr (.inr ⟨?_, (p' : Int), 2, rfl⟩), succ ?_⟩
      · rw [e2, List.length_append, List.length_append]; omega
      · simp only [section_Take.j0]
        refine neg (by decide) (bnd t1 ?_)
        rw [fail_eq]
        simp only [Option.bind_some]
        refine neg (by decide) (succ ?_)
        simp only [section_Take.j1]
        refine neg (by decide) (bnd t2 ?_)
        rw [fail_eq]
        simp only [Option.bind_some]
        refine neg (by decide) ?_
        rw [fail_eq]
        exact now _
  obtain ⟨res, h1, h2⟩ := ht
  refine ⟨res, h1, ?_⟩
  unfold section_Take.f
  rw [show (decide ((l.length : Int) + order > 65535)) = false from decide_eq_false (by omega)]
  exact neg (by omega) (neg (by omega) (neg (by omega) h2))
end Go.Proofs.Ytokdjeoecnnckaa.PL
end
section
namespace Go.Proofs.Ytokdjeoecnnckaa.PL
open Go Go.RowKit Go.Proofs.Ytokdjeoecnnckaa.PA Go.Proofs.YtokdjeoecnnckaaW.PrintWords Go.Proofs.YtokdjeoecnnckaaW.PrintLast Go.Proofs.YtokdjeoecnnckaaW.PrintMore
set_option linter.unusedSimpArgs false
set_option linter.unusedVariables false
theorem new15 : bits_New.f = some (WB [], (0 : Int)) := rfl
theorem awake_ev : Ev (fun k => serinettelaw15_awake.f k) true := by
  have hb : bitsV [0, 0] 0 false 0 [(⟨0, false⟩ : S50)] = 12 := by decide +kernel
  have hl : lonP [0, 0] 0 0 [(⟨0, false⟩ : S50)] = false := by decide +kernel
  have hs : secB [0, 0] 0 false 0 [(⟨0, false⟩ : S50)] = [false, false, false, false, false, false, false, false, false, false, true, true] := by decide +kernel
  have hp := sput_eq [0, 0] (by decide) (by decide) 0 (by decide) (by decide) false 0 [(⟨0, false⟩ : S50)] (by decide)
  rw [hb, hl, if_neg (by decide), if_neg (by decide), hs] at hp
  have hby := bytes_eq [false, false, false, false, false, false, false, false, false, false, true, true] (by decide)
  have ht : toB [false, false, false, false, false, false, false, false, false, false, true, true] = [0, 48] := by decide +kernel
  rw [ht] at hby
  unfold serinettelaw15_awake.f
  rw [new15]
  simp only [Option.bind_some]
  rw [hp]
  simp only [Option.bind_some]
  refine pos (by first | trivial | rfl) ?_
  have hlen : bits_Writer_Len.f (WB [false, false, false, false, false, false, false, false, false, false, true, true]) 12 = some (12, WB [false, false, false, false, false, false, false, false, false, false, true, true], 12) := rfl
  rw [hlen]
  simp only [Option.bind_some]
  refine pos (by first | trivial | rfl) ?_
  have hby : bits_Writer_Bytes.f (WB [false, false, false, false, false, false, false, false, false, false, true, true]) 12 = some ([0, 48], WB [false, false, false, false, false, false, false, false, false, false, true, true], 12) := hby
  rw [hby]
  simp only [Option.bind_some]
  have hsame : Ev (fun k => serinetteref01_Same.f k [0, 48] [0, 48]) true := Ev.of (fun k => serinetteref01_Same.mono _ _ k) (k := 10) (by decide +kernel)
  exact bnd hsame (now true)
theorem split_sub : ∀ (cs l : List Int), ∀ p ∈ split cs l, ∀ x ∈ p, x ∈ l
  | [], _, p, hp, _, _ => by simp [split] at hp
  | n :: cs, l, p, hp, x, hx => by
    simp only [split, List.mem_cons] at hp
    rcases hp with rfl | hp
    · exact List.mem_of_mem_take hx
    · exact List.mem_of_mem_drop (split_sub cs (l.drop n.toNat) p hp x hx)
theorem split_lens : ∀ (cs l : List Int), ∀ p ∈ split cs l, p.length ≤ l.length
  | [], _, p, hp => by simp [split] at hp
  | n :: cs, l, p, hp => by
    simp only [split, List.mem_cons] at hp
    rcases hp with rfl | hp
    · rw [List.length_take]; omega
    · have := split_lens cs (l.drop n.toNat) p hp
      rw [List.length_drop] at this
      omega
theorem rowsN_le (w : Bool) : ∀ (rs : List (S50 × List Int)) (m : Nat), (∀ r ∈ rs, r.2.length ≤ 1000) → (rs.flatMap (·.2)).length ≤ m → rowsN w rs ≤ 10 * rs.length + 17179869300 * m
  | [], m, _, _ => by simp [rowsN]; omega
  | r :: t, m, h, hm => by
    simp only [List.flatMap_cons, List.length_append] at hm
    have h1 := eachW_le (h r (by simp)) r.1
    have h2 := rowsN_le w t (m - r.2.length) (fun x hx => h x (by simp [hx])) (by omega)
    have h3 := sizeOf_bd w
    simp only [rowsN, List.length_cons]
    omega
theorem Fine.le {l : List Int} {order : Int} {wd : Bool} {o : Int} {ps : List S50} (h : Fine l order wd o ps) (hl : l.length ≤ 100) (hps : ps.length ≤ 1000) : bitsV l order wd o ps ≤ 1800000000000 := by
  obtain ⟨w1, w2, w3, _⟩ := rows_whole _ l ps h.whole h.len
  have hrl : (rowsP (cutsI (l.length : Int) order o) l ps).length = ps.length := by rw [← List.length_map (f := (·.1)), w1]
  have h1 := rowsN_le wd (rowsP (cutsI (l.length : Int) order o) l ps) l.length (fun r hr => by
    have : r.2.length ≤ ((rowsP (cutsI (l.length : Int) order o) l ps).flatMap (·.2)).length := by
      obtain ⟨a, b, e⟩ := List.append_of_mem hr
      rw [e]
      simp only [List.flatMap_append, List.flatMap_cons, List.length_append]
      omega
    rw [w2] at this
    omega) (by rw [w2]; exact Nat.le_refl _)
  rw [h.bits]
  omega
theorem Fine.take {l : List Int} {order : Int} {wd : Bool} {o : Int} {ps : List S50} (h : Fine l order wd o ps) (hl : l.length ≤ 1000) (hl0 : l.length ≠ 0) (ho : 0 ≤ order ∧ order ≤ 32) (hps : ps.length ≤ 1000) {b : List Int} (hb : GB b) (hpre : Pre b (secB l order wd o ps)) :
    ∃ res, OutR b (secB l order wd o ps) l wd o ps res ∧ Ev (fun k => section_Take.f k b 0 0 ((l.length : Int) + order) order) res := by
  obtain ⟨w1, w2, w3, _⟩ := rows_whole _ l ps h.whole h.len
  have hrl : (rowsP (cutsI (l.length : Int) order o) l ps).length = ps.length := by rw [← List.length_map (f := (·.1)), w1]
  have := take15 hb hpre l hl hl0 wd o order h.oin ho (rowsP (cutsI (l.length : Int) order o) l ps) (by omega) w3.symm (fun e => h.ne (by rw [e] at w3; exact w3.symm)) rfl h.okr w2
  rw [w1] at this
  exact this
theorem Fine.len0 {l : List Int} {order : Int} {wd : Bool} {o : Int} {ps : List S50} (h : Fine l order wd o ps) : l.length ≠ 0 := by
  intro e
  have hw := h.whole
  have hne := h.ne
  match hc : cutsI (l.length : Int) order o with
  | [] => exact hne hc
  | n :: cs =>
    rw [hc] at hw
    have h1 := hw.1
    have h2 := hw.2.1
    omega
theorem gb_toB (L : List Bool) (hL : L.length < 4000000000000) (more : List Int) (hm : more.length ≤ 100) (hmb : ∀ x ∈ more, 0 ≤ x ∧ x < 256) : GB (toB L ++ more) := by
  have h8 := toB_len8 L
  refine ⟨by rw [List.length_append]; omega, fun x hx => ?_⟩
  rcases List.mem_append.1 hx with h | h
  · exact toB_bd L x h
  · exact hmb x h
theorem pre_more (L : List Bool) (more : List Int) : Pre (toB L ++ more) L := by
  refine ⟨[], List.replicate ((8 - L.length % 8) % 8) false ++ bitsOf more, ?_⟩
  rw [bitsOf_app, bitsOf_toB]
  simp
theorem tmod_in {x : Int} (h : 0 ≤ x) (m : Int) (hm : 0 < m) (hm2 : m < 100000) : wrap64 (Int.tmod x m) = x % m := by
  have h1 := Int.emod_nonneg x (show m ≠ 0 by omega)
  have h2 := Int.emod_lt_of_pos x hm
  rw [Int.tmod_eq_emod_of_nonneg h, w64 (by omega) (by omega)]
end Go.Proofs.Ytokdjeoecnnckaa.PL
end
section
namespace Go.Proofs.Ytokdjeoecnnckaa.PL
open Go Go.RowKit Go.Proofs.Ytokdjeoecnnckaa.PA Go.Proofs.YtokdjeoecnnckaaW.PrintWords Go.Proofs.YtokdjeoecnnckaaW.PrintLast Go.Proofs.YtokdjeoecnnckaaW.PrintMore
set_option linter.unusedSimpArgs false
set_option linter.unusedVariables false
def Sm21 (l : List Int) : Prop := ∀ x ∈ l, -1048576 ≤ x ∧ x ≤ 1048576
theorem Sm21.near {l : List Int} (h : Sm21 l) : NearAll l := fun x hx => by
  have := h x hx
  unfold IsNear
  omega
theorem Sm21.nar {l : List Int} (h : Sm21 l) : ∀ x ∈ l, nar x := fun x hx => by
  have := h x hx
  unfold PL.nar
  omega
theorem Sm21.wid {l : List Int} (h : Sm21 l) : wid l ≤ 22 := by
  obtain ⟨w1, w2, w3⟩ := wid_spec h.near
  rcases Nat.lt_or_ge 22 (PL.wid l) with hw | hw
  · refine absurd (fun n hn => ?_) (w3 22 hw)
    have := h n hn
    have e : (2 : Int) ^ (22 - 1) = 2097152 := by decide
    exact .inr ⟨by decide, by rw [e]; omega, by rw [e]; omega⟩
  · exact hw
theorem rows_map (f : List Int → S50) : ∀ (cs l : List Int), rowsP cs l ((split cs l).map f) = (split cs l).map (fun p => (f p, p))
  | [], _ => by simp [rowsP, split]
  | n :: cs, l => by simp only [rowsP, split, List.map_cons, rows_map f cs]
theorem sz_le_bits (k : Nat) (hk : k ≤ 30) : ∀ (xs : List Int), NearAll xs → ∀ n ∈ xs, sz n k ≤ bitsL k xs
  | [], _, n, hn => by simp at hn
  | x :: t, h, n, hn => by
    obtain ⟨h1, h2⟩ := nearAll_cons.1 h
    have hb := bitsL_bd k hk t h2
    have hs := sz_bd h1 hk
    have h0 : 0 ≤ (1 + (k : Int)) * (t.length : Int) := Int.mul_nonneg (by omega) (by omega)
    simp only [bitsL]
    rcases List.mem_cons.1 hn with rfl | hn
    · omega
    · have := sz_le_bits k hk t h2 n hn
      omega
theorem best_short {xs : List Int} (h : Sm21 xs) (hl : xs.length ≤ 1000) {m : Nat} (hm : m ≤ 30) : longP (partL xs m, xs) = false := by
  unfold longP
  cases hr : (partL xs m).f1 with
  | true => rfl
  | false =>
    simp only [Bool.not_false, Bool.true_and]
    refine List.any_eq_false.2 (fun n hn => ?_)
    have hnr := h.near
    have hw := h.wid
    have hle := (best_le xs m).2 (by omega)
    have hraw := raw_bd xs hl (by omega)
    have hc : ¬ (PL.wid xs ≤ 31 ∧ rawL xs < bitsL (amin (fun k => bitsL k xs) m) xs) := fun hc => by
      have hb : bestL xs m = ((PL.wid xs : Int), true, rawL xs, 0) := by unfold bestL; rw [if_pos hc]
      unfold partL at hr
      rw [hb] at hr
      cases hr
    have hb : bestL xs m = ((amin (fun k => bitsL k xs) m : Int), false, bitsL (amin (fun k => bitsL k xs) m) xs, 0) := by unfold bestL; rw [if_neg hc]
    have hk := amin_le (fun k => bitsL k xs) m
    have hf0 : (partL xs m).f0 = (amin (fun k => bitsL k xs) m : Int) := by unfold partL; rw [hb]
    rw [hb] at hle
    have hsz := sz_le_bits (amin (fun k => bitsL k xs) m) (by omega) xs hnr n hn
    rw [hf0, long_eq (hnr n hn) (by omega) (by omega), kk_nat (by omega)]
    have hlw : (PL.wid xs : Int) * (xs.length : Int) ≤ 34000 := hraw.2
    simp only [Option.getD_some, decide_eq_true_eq]
    unfold rawL at hle
    unfold sz at hsz
    simp only at hle
    omega
theorem best_lon {l : List Int} (h : Sm21 l) (hl : l.length ≤ 1000) (order : Int) (w : Bool) {j : Nat} (hj : j ≤ 8) : lonP l order (j : Int) (planPs l order w j) = false := by
  have hci : cutsI (l.length : Int) order (j : Int) = cutsP (l.length : Int) order j := by unfold cutsI; rw [if_pos ⟨by omega, by omega⟩, Int.toNat_natCast]
  unfold lonP planPs partsP
  rw [hci, rows_map]
  refine List.any_eq_false.2 (fun r hr => ?_)
  obtain ⟨p, hp, rfl⟩ := List.mem_map.1 hr
  have hs : Sm21 p := fun x hx => h x (split_sub _ l p hp x hx)
  rw [best_short hs (by have := split_lens _ l p hp; omega) (mostOf_le w)]
  decide
theorem best_all {l : List Int} (h : Sm21 l) (hl : l.length ≤ 60) (h0 : l.length ≠ 0) {order : Int} (bo : 0 ≤ order ∧ order ≤ 32) {m : Nat} (hm : m ≤ 8) (wide : Bool) :
    ∃ (wd : Bool) (o : Int) (ps : List S50), parts_Best.f l order (m : Int) wide = some (wd, o, ps, bitsV l order wd o ps, 0) ∧ Fine l order wd o ps ∧ 0 ≤ bitsV l order wd o ps ∧ lonP l order o ps = false ∧ ps.length ≤ 256 := by
  have p3 : parts_Best.f l order (m : Int) wide = _ := best_f h.near (by omega) h0 bo.1 bo.2 hm wide
  have htop := topO_ne (order := order) (show (0 : Int) < (l.length : Int) by omega) m
  have hle := topO_le (l.length : Int) order m
  generalize topO (l.length : Int) order m = t at p3 htop hle
  have hcc := cuts_below (by omega) bo.1 htop
  have hbest : ∃ j, j ≤ t ∧ ∃ v : Bool, bestPlan l order t wide = curL l order v j := by
    unfold bestPlan
    split
    · exact ⟨_, amin_le _ _, _, rfl⟩
    · exact ⟨_, amin_le _ _, _, rfl⟩
  obtain ⟨j, hj, v, hb⟩ := hbest
  rw [hb] at p3
  have e1 := best_bits h.near (by omega) v (by omega) (hcc j hj)
  have hci : cutsI (l.length : Int) order (j : Int) = cutsP (l.length : Int) order j := by unfold cutsI; rw [if_pos ⟨by omega, by omega⟩, Int.toNat_natCast]
  have hge : 0 ≤ planL l order v j := by
    have : ∀ qs : List (List Int), (∀ p ∈ qs, NearAll p ∧ p.length ≤ 1000) → 0 ≤ planN v qs := by
      intro qs
      induction qs with
      | nil => intro _; simp [planN]
      | cons q t ih =>
        intro hq
        have h1 := hq q (by simp)
        have h2 := (bestN_bd h1.1 h1.2 (mostOf_le v)).1
        have h3 := ih (fun p hp => hq p (by simp [hp]))
        have h4 := sizeOf_bd v
        simp only [planN]
        omega
    have h5 := this (partsP l order j) (split_near _ l h.near (by omega))
    unfold planL
    omega
  refine ⟨v, (j : Int), planPs l order v j, ?_, fine_of bo.1 (by rw [e1]; exact hge), by rw [e1]; exact hge, best_lon h (by omega) order v (by omega), ?_⟩
  · rw [e1]; exact p3
  · have hlen : (planPs l order v j).length = (cutsP (l.length : Int) order j).length := by unfold planPs partsP; rw [List.length_map, split_len]
    rw [hlen, cutsP_len (hcc j hj)]
    have : 2 ^ j ≤ 2 ^ 8 := Nat.pow_le_pow_right (by decide) (by omega)
    omega
def mod21 (l : List Int) : List Int := l.map (fun x => Int.tmod x 1048577)
theorem mod21_sm (l : List Int) : Sm21 (mod21 l) := fun x hx => by
  obtain ⟨y, _, rfl⟩ := List.mem_map.1 hx
  have h1 := Int.tmod_lt_of_pos y (show (0 : Int) < 1048577 by decide)
  have h2 := Int.lt_tmod_of_pos y (show (0 : Int) < 1048577 by decide)
  omega
end Go.Proofs.Ytokdjeoecnnckaa.PL
end
section
namespace Go.Proofs.Ytokdjeoecnnckaa.Pure
open Go.RowKit Go.Proofs.Ytokdjeoecnnckaa.PA Go.Proofs.YtokdjeoecnnckaaW.PrintWords Go.Proofs.YtokdjeoecnnckaaW.PrintLast Go.Proofs.YtokdjeoecnnckaaW.PrintMore Go.Proofs.Ytokdjeoecnnckaa.PL
set_option linter.unusedVariables false
set_option linter.unusedSimpArgs false
theorem mod21_at {l : List Int} (hw : ∀ x ∈ l, (Lit.int .i32 x).wf = true) {p t : List Int} {x : Int} (hp : l = p ++ x :: t) : Int.tmod (wrap64 (rd l (p.length : Int))) 1048577 = Int.tmod x 1048577 := by
  have ra : rd l (p.length : Int) = x := by rw [hp]; exact rd_at _ _ _
  have hx := wfi32 (hw x (by rw [hp]; simp))
  rw [ra, w64 (by omega) (by omega)]
theorem best_loop (l : List Int) (hl : l.length ≤ 60) (hw : ∀ x ∈ l, (Lit.int .i32 x).wf = true) (a1 a2 : Int) (wide ok : Bool) (r : Bool) :
    Ev (fun k => serinettelaw15_SectionBest.l0 k l a1 a2 wide ok (mod21 l) (l.length : Int)) r →
    ∀ (t p : List Int), l = p ++ t → Ev (fun k => serinettelaw15_SectionBest.l0 k l a1 a2 wide ok (mod21 p) (p.length : Int)) r := by
  intro hend t
  induction t with
  | nil =>
    intro p hp
    rw [List.append_nil] at hp
    rw [← hp]
    exact hend
  | cons x t ih =>
    intro p hp
    have l1 := congrArg List.length hp
    simp only [List.length_append, List.length_cons] at l1
    have nx := ih (p ++ [x]) (by simp [hp])
    have em : mod21 (p ++ [x]) = mod21 p ++ [Int.tmod x 1048577] := by simp [mod21]
    have eml : (mod21 p).length = p.length := by simp [mod21]
    have ei : wrap64 ((p.length : Int) + 1) = ((p ++ [x]).length : Int) := by rw [w64 (by omega) (by omega), List.length_append]; simp
    rw [em] at nx
    refine succ ?_
    simp only [serinettelaw15_SectionBest.l0]
    rw [mod21_at hw hp, ei]
    exact pos (by omega) (pos (by omega) (pos (by omega) nx))
theorem SectionBest : serinettelaw15_SectionBest.Pure := by
  intro l a1 a2 wide h1 h2 hw w1 w2
  refine Ev.rounds ?_
  unfold serinettelaw15_SectionBest.f
  refine bnd awake_ev ?_
  have out : Ev (fun k => serinettelaw15_SectionBest.j0 k l a1 a2 wide true true) true := by
    refine succ ?_
    simp only [serinettelaw15_SectionBest.j0]
    exact pos trivial (now _)
  by_cases c1 : (l.length : Int) > 60
  · exact pos c1 out
  refine neg c1 ?_
  by_cases c2 : l.length = 0
  · rw [show ((l.length : Int) == 0) = true by rw [c2]; rfl]
    exact out
  rw [show ((l.length : Int) == 0) = false from beq_eq_false_iff_ne.2 (by omega)]
  have g1 := wfu8 w1
  have g2 := wfu8 w2
  refine succ ?_
  simp only [serinettelaw15_SectionBest.j0]
  refine neg (by decide) ?_
  refine best_loop l (by omega) hw a1 a2 wide true true ?_ l [] rfl
  have hsm := mod21_sm l
  have hxl : (mod21 l).length = l.length := by simp [mod21]
  refine succ ?_
  simp only [serinettelaw15_SectionBest.l0]
  rw [tmod_in g1.1 33 (by decide) (by decide), tmod_in g2.1 9 (by decide) (by decide)]
  obtain ⟨order, hord⟩ : ∃ x, a1 % 33 = x := ⟨_, rfl⟩
  obtain ⟨m, hm⟩ : ∃ m : Nat, a2 % 9 = (m : Int) := ⟨(a2 % 9).toNat, by omega⟩
  rw [hord, hm]
  have bo : 0 ≤ order ∧ order ≤ 32 := by omega
  have b8 : m ≤ 8 := by omega
  have hx60 : (mod21 l).length ≤ 60 := by omega
  have hx0 : (mod21 l).length ≠ 0 := by omega
  clear hord hm g1 g2 w1 w2 out c1 c2 h1 h2 hw
  refine neg (Int.lt_irrefl _) ?_
  generalize mod21 l = x at *
  obtain ⟨wd, o, ps, hb, hf, hge, hlon, hps⟩ := best_all hsm hx60 hx0 bo b8 wide
  have hput := sput_eq x (by omega) (fun y hy => by have := hsm y hy; omega) order bo.1 bo.2 wd o ps (by omega)
  rw [if_neg (by omega), hlon, if_neg (by decide)] at hput
  obtain ⟨p1, p2⟩ := hf.put hlon
  have hle := hf.le (by omega) (by omega)
  have hlL : (secB x order wd o ps).length < 4000000000000 := by omega
  have hgb := gb_toB (secB x order wd o ps) hlL [] (by simp) (by simp)
  have hpre := pre_more (secB x order wd o ps) []
  rw [List.append_nil] at hgb hpre
  obtain ⟨res, ho, ht⟩ := hf.take (by omega) hx0 bo (by omega) hgb hpre
  have h8 := toB_len8 (secB x order wd o ps)
  rw [← p2] at hb hput
  clear p1 hge hle
  generalize secB x order wd o ps = L at *
  rw [hb]
  simp only [Option.bind_some]
  rw [new15]
  simp only [Option.bind_some]
  refine pos (by first | trivial | rfl) ?_
  rw [hput]
  simp only [Option.bind_some]
  rw [bytes_eq L (by omega)]
  simp only [Option.bind_some]
  rw [open_eq _ hgb.len]
  simp only [Option.bind_some]
  rw [w64 (x := (x.length : Int) + order) (by omega) (by omega)]
  refine bnd ht ?_
  rcases ho with ⟨_, h2, rfl⟩ | ⟨⟨y, hy, hny⟩, p, f, rfl⟩ | ⟨h1, _⟩
  · refine pos (by first | trivial | rfl) (pos (by first | trivial | rfl) ?_)
    rw [len_eq]
    simp only [Option.bind_some]
    exact pos (by first | trivial | rfl) (pos (by first | trivial | rfl) (bnd (ints_refl x (by omega)) (pos (by first | trivial | rfl) (bnd (same_ev wd o ps (by omega)) (now true)))))
  · exact absurd (hsm.nar y hy) hny
  · omega
end Go.Proofs.Ytokdjeoecnnckaa.Pure
end
section
namespace Go.Proofs.Ytokdjeoecnnckaa.sectionBest
open Go.ChangeShapes Go.WideShapes Go.ChangeAt Go.RowKit
open Go.ChangeMaps (open_string shut_string)
set_option linter.unusedVariables false
theorem own : ownKnob Try.prog.godebug = none := by kernel_rfl
theorem laidOut : laidOutB Try.prog = true := by kernel_rfl
def IsRow (k : IntKind) (w : World) (a : Option Addr) (len cap : Nat) (zs : List Int) : Prop :=
  (a = none ∧ len = 0 ∧ cap = 0 ∧ zs = []) ∨
  ∃ x, a = some x ∧ len ≤ cap ∧ cap ≤ maxLen ∧ zs.length = cap ∧ (∀ i, i < zs.length → w.cell? (x.add i) = some (.int k (zs.getD i 0))) ∧ ∀ n ∈ zs, (Lit.int k n).wf = true
set_option maxRecDepth 100000 in
theorem lifted (os : Os) (started : os.Started) (H : Type) (enc : TypeId × Value → H) :
    ReturnsInHanded {} Try.checked os 4 .any (Rows.sectionBestSpec.pre6 enc Try.prog Try.f4 Rows.sectionBestRow.domain false) (Rows.sectionBestSpec.post enc Try.prog Try.f4 false true false false) := by
  refine returnsInHanded_of_change_sized (C := Try.checked) own started (by kernel_rfl) Try.func4
    (ChangeSpec.witness6 (enc := enc) (C := Try.checked) false ⟨#[], #[.slice none 0 0, .int .u8 0, .int .u8 0, .bool false], []⟩ 8 (by kernel_rfl) (by kernel_rfl) (by kernel_rfl) (by kernel_rfl)) ?_
  intro W base args ds gs before hval0 hW hcnd hsz0 _
  have hsz : (DataW.weightsEach Try.prog (Try.f4.params.toList ++ Rows.sectionBestSpec.plain.varTypes Try.prog) (ds ++ gs)).all (· ≤ reachBytes) = true := hsz0
  have hval : ∀ (j : Nat) t v, Try.f4.params[j]? = some t → args[j]? = some v → Value.okWide Try.prog W .any base t v := hval0
  have hW' := hW
  obtain ⟨p, q, hA0, hV, rfl, hfz, hnd⟩ := hW
  have hA : DataW.TrodAll enc Try.prog W 0 (fun _ => true) true Try.f4.params.toList args.toList ds p := hA0
  rw [Try.params4] at hA hval hsz
  obtain ⟨v0, vs0, d0, ds0, p0, q0, hargs, rfl, rfl, h0, r0⟩ := trodAll_cons hA
  obtain ⟨v1, vs1, d1, ds1, p1, q1, rfl, rfl, rfl, h1, r1⟩ := trodAll_cons r0
  obtain ⟨v2, vs2, d2, ds2, p2, q2, rfl, rfl, rfl, h2, r2⟩ := trodAll_cons r1
  obtain ⟨v3, vs3, d3, ds3, p3, q3, rfl, rfl, rfl, h3, r3⟩ := trodAll_cons r2
  obtain ⟨rfl, rfl, rfl⟩ := trodAll_nil r3
  obtain rfl : args = #[v0, v1, v2, v3] := by cases args; simp_all
  obtain ⟨rfl, rfl⟩ := trodVars_none hV
  obtain ⟨a0, len0, cap0, rfl⟩ := okWide_slice Try.underlying43 (hval 0 43 v0 rfl rfl)
  have k0 := h0
  have lt0 : ∀ x ∈ p0, x.block < W.heap.size := by obtain ⟨m, hm⟩ := k0; exact DataW.trod_lt m _ _ _ hm
  obtain ⟨z0, w0⟩ : ∃ zs, IsRow .i32 W a0 len0 cap0 zs := by
    obtain ⟨fuel, hf⟩ := h0
    rcases open_ints Try.underlying43 Try.underlying21 (by kernel_rfl) hf with ⟨hcs, _⟩ | ⟨x, l, c, zs, hcs, _, hl, hm, hz, _, hcell, hwz⟩
    · simp [Value.cells] at hcs
      obtain ⟨rfl, rfl, rfl⟩ := hcs
      exact ⟨[], .inl ⟨rfl, rfl, rfl, rfl⟩⟩
    · simp [Value.cells] at hcs
      obtain ⟨rfl, rfl, rfl⟩ := hcs
      exact ⟨zs, .inr ⟨_, rfl, hl, hm, by simpa using hz, hcell, hwz⟩⟩
  have y0 : len0 * 4 ≤ 140737488351232 := Go.Proofs.YtokdjeoecnnckaaW.PrintWords.sized_ints hsz (j := 0) (t := 43) rfl rfl Try.underlying43 Try.underlying21 (by kernel_rfl) (by kernel_rfl) h0
  obtain ⟨a1, rfl, rfl, rfl, w1⟩ := open_int Try.underlying5 (hval 1 5 v1 rfl rfl) h1
  obtain ⟨a2, rfl, rfl, rfl, w2⟩ := open_int Try.underlying5 (hval 2 5 v2 rfl rfl) h2
  obtain ⟨a3, rfl, rfl, rfl⟩ := open_bool Try.underlying4 (hval 3 4 v3 rfl rfl) h3
  clear hA0 hval0 hsz0 hsz
  refine (PA.serinettelaw15_SectionBest.walk Pure.SectionBest a0 len0 cap0 z0 a1 a2 a3 W w0 y0 w1 w2).mono fun e W' ⟨he, bel⟩ => ?_
  subst he
  exact ⟨_, rfl, _, _, _, [], _, [], hW', trodAll_mk1 (shut_bool Try.underlying4 _), (trodAll_cons_mk (Below.trod laidOut (by kernel_rfl) (of_decide_eq_true (by kernel_rfl)) k0 bel lt0) (trodAll_cons_mk (shut_int Try.underlying5 w1) (trodAll_cons_mk (shut_int Try.underlying5 w2) (trodAll_cons_mk (shut_bool Try.underlying4 _) trodAll_mk0)))), rfl, bel.frame _, fun h => by cases h⟩
theorem over : Rows.sectionBestRow.holds Try.pinned (OpenSpec.ofChange Rows.sectionBestSpec) :=
  OpenClaim.holds_of_wide 4 Try.f4 rfl rfl rfl rfl rfl rfl rfl ⟨rfl, rfl, rfl, rfl, rfl⟩ rfl rfl rfl rfl rfl (by kernel_rfl) Try.func4 (by kernel_rfl)
    (of_decide_eq_true (by kernel_rfl)) (by unfold Func.isWrapper; first | (rw [if_pos (by decide +kernel)]; kernel_rfl) | (rw [if_neg (by decide +kernel)]; exact ⟨rfl, rfl⟩))
    (fun os started H enc _ => lifted os started H enc)
theorem proved : Rows.SectionBestSaid := over
end Go.Proofs.Ytokdjeoecnnckaa.sectionBest
namespace Go.Proofs.Ytokdjeoecnnckaa
theorem sectionBest_holds : Rows.SectionBestSaid := sectionBest.proved
end Go.Proofs.Ytokdjeoecnnckaa
end
