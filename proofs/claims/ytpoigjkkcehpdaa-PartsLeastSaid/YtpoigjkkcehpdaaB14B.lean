/- parts.finest, parts.Best, by hand: what it answers. Condition: up to a thousand numbers. -/
import Derived.Test.YtpoigjkkcehpdaaB14A
import Derived.Test.YtpoigjkkcehpdaaPAx4
import Derived.ScopeJumps
import Derived.WalkMore
import Derived.Deep.LoopGhost
import Derived.Test.YtpoigjkkcehpdaaP14Cuts
namespace Go.Proofs.Ytpoigjkkcehpdaa.PA
open Go Go.RowKit Go.Proofs.YtpoigjkkcehpdaaW.PrintWords Go.Proofs.YtpoigjkkcehpdaaW.PrintLast Go.Proofs.YtpoigjkkcehpdaaW.PrintMore
attribute [local go_sem] max2_int min2_int max_two min_two max_three min_three max_four min_four
set_option linter.unusedSimpArgs false
set_option linter.unusedVariables false
/-- What is known of some numbers. -/
def smOf (wf : List Int → Int) (l : List Int) : Sm := ⟨(l.length : Int), ysAt l 31, wf l⟩
def sumsOf (wf : List Int → Int) : List Int → List Int → List Sm
  | [], _ => []
  | n :: cs, l => smOf wf (l.take n.toNat) :: sumsOf wf cs (l.drop n.toNat)
def Fits : List Int → Nat → Prop
  | [], _ => True
  | n :: cs, r => 0 ≤ n ∧ n ≤ (r : Int) ∧ Fits cs (r - n.toNat)
/-- The parts' widths are known. -/
def WFits (k : Nat) (wf : List Int → Int) : List Int → List Int → Prop
  | [], _ => True
  | n :: cs, l => cost_Width.f k (l.take n.toNat) = some (wf (l.take n.toNat)) ∧ WFits k wf cs (l.drop n.toNat)
theorem info55 : (Try.prog.info? 55).map (fun i => (i.zero, i.size, i.bytes)) = some (some (.agg (iA (sumL 0 zs31 0))), 33, 264) := by kernel_rfl
theorem fold_zipL : ∀ (xs : List Value) (k : Nat) (Z : Array Value), k + xs.length = Z.size → (xs.zipIdx k).foldl (fun (cs : Array Value) (x : Value × Nat) => cs.setIfInBounds x.2 x.1) Z = (Z.toList.take k ++ xs).toArray
  | [], k, Z, h => by
    have : Z.toList.take k = Z.toList := List.take_of_length_le (by simp at h ⊢; omega)
    simp [this]
  | x :: xs, k, Z, h => by
    rw [List.zipIdx_cons, List.foldl_cons, fold_zipL xs (k + 1) (Z.setIfInBounds k x) (by simp at h ⊢; omega)]
    have hk : k < Z.toList.length := by simp at h ⊢; omega
    congr 1
    have h2 : (Z.setIfInBounds k x).toList = Z.toList.set k x := by simp
    rw [h2, List.take_add_one, List.getElem?_set_self hk, List.take_set_of_le (Nat.le_refl k)]
    simp
theorem fold_zip (X Z : Array Value) (n : Nat) (h : Z.size = X.size) (hn : n = X.size) : Array.foldl (fun (cs : Array Value) (x : Value × Nat) => cs.setIfInBounds x.2 x.1) Z X.zipIdx 0 n = X := by
  subst hn
  have h1 : X.size = X.zipIdx.size := by simp
  conv => lhs; rw [h1]
  rw [← Array.foldl_toList, Array.toList_zipIdx, fold_zipL _ 0 Z (by simp [h])]
  simp
set_option maxHeartbeats 8000000 in
set_option maxRecDepth 100000 in
theorem parts_finest.calls (k : Nat) (A : Option Addr) (c : Nat) (l : List Int) (order : Int) (most o : Nat) (cutsF : Nat → List Int) (wf : List Int → Int) (w : World)
    (hr : Kd.C (Kd.int .i64) w A l.length l) (hc : l.length ≤ c) (hW : WFits k wf (cutsF o) l)
    (hm : most < 100) (hC : ∀ j, j ≤ most → parts_Cuts.f k (l.length : Int) order (j : Int) = some (cutsF j)) (ho : o ≤ most) (hne : cutsF o ≠ []) (hmax : ∀ j, o < j → j ≤ most → cutsF j = []) (hfit : Fits (cutsF o) l.length) (hlen : (cutsF o).length < 400000) :
    Calls Try.prog 17 #[.slice A l.length c, .int .i64 order, .int .i64 (most : Int)] w fun e w' => ∃ v : Value, e = .returned (.tuple #[v, .int .i64 (o : Int)]) ∧ Kd.R kS 55 w' w.heap.size (fun _ => True) v (sumsOf wf (cutsF o) l) ∧ Below w.heap.size w w' := by
  have HR := Aside0.mk hr
  have HCc := Aside0.mk hc
  have HW := Aside0.mk hW
  have HM := Aside0.mk hm
  have HCu := Aside0.mk hC
  have HO_ := Aside0.mk ho
  have HNE := Aside0.mk hne
  have HMX := Aside0.mk hmax
  have HF := Aside0.mk hfit
  have HLEN := Aside0.mk hlen
  have HB := Aside0.mk (Below.refl w.heap.size w)
  clear hr hc hW hm hC ho hne hmax hfit hlen
  go_enter Try.func17, Try.ntmps17
  go_upto_region 1 with (fail)
  go_loopg [2] (most - o) (fun kq v2 w' => ∃ (j : Nat), v2 = .int .i64 (j : Int) ∧ Aside0 (o + kq = j) ∧ Aside0 (j ≤ most) ∧ Aside0 (Below w.heap.size w w'))
  case atStart => exact ⟨most, rfl, ⟨by have := HO_.out; omega⟩, ⟨Nat.le_refl _⟩, HB⟩
  case round =>
    clear HB
    obtain ⟨j, rfl, HK, HJ, HB⟩ := hrel
    by_cases hj : j = o
    · subst hj
      obtain ⟨cs, hcs⟩ : ∃ cs, cutsF j = cs := ⟨_, rfl⟩
      have HCS := Aside0.mk (show parts_Cuts.f k (l.length : Int) order (j : Int) = some cs by rw [HCu.out j HJ.out, hcs])
      have hne := HNE.out
      have hq0 : ¬ (cs.length : Int) = 0 := by rw [hcs] at hne; have := List.length_pos_iff.2 hne; omega
      have hq : decide ((cs.length : Int) = 0) = false := decide_eq_false hq0
      have hq2 : ((cs.length : Int) == 0) = false := beq_eq_false_iff_ne.2 hq0
      clear hq0
      have HCS0 := Aside0.mk hcs
      clear hne hcs
      go_upto_region 3 with (go_at_call 12; (refine (parts_Cuts.calls k _ _ _ cs _ HCS.out).mono ?_); rintro e w9 ⟨v0_, rfl, hR, hb⟩; obtain ⟨A1, c1, rfl⟩ := Kd.R_slice hR; clear hR; have n_ := Aside0.mk (below_step HB.out hb); clear HB hb; have HB := n_; clear n_)
      clear hq hq2
      have hlo := HB.out.size
      go_upto_region 5 with (go_at_call 12; (refine (parts_Cuts.calls k _ _ _ cs _ HCS.out).mono ?_); rintro e w4 ⟨v0_, rfl, hR, hb⟩; obtain ⟨A2, c2, hv2, hc2, hCr⟩ := Kd.R_reads hR; subst hv2; have n_ := Aside0.mk (below_step HB.out hb); clear HB hb hR; have HB := n_; clear n_; have HC2 := Aside0.mk hc2; clear hc2)
      have hs4 := HB.out.size
      have HL := Aside0.mk (Kd.C_below HR.out HB.out)
      have HCR := Aside0.mk hCr
      have hFt := HF.out
      rw [HCS0.out] at hFt
      have HFt := Aside0.mk hFt
      have hWt := HW.out
      rw [HCS0.out] at hWt
      have HWt := Aside0.mk hWt
      clear hWt
      have hLN := HLEN.out
      rw [HCS0.out] at hLN
      have HLN := Aside0.mk hLN
      clear hCr hFt HF hLN
      have hO := Kd.R_nil kS 55 w4 w4.heap.size (fun _ => True)
      have HO := Aside0.mk hO
      have HB4 := Aside0.mk (Below.refl w4.heap.size w4)
      clear hO
      go_loopg [0, 8, 26] cs.length (fun kq v0 v8 v26 w' => ∃ (i : Nat) (A' : Option Addr) (c' : Nat) (l' : List Int) (acc : List Sm), v0 = .slice A' l'.length c' ∧ v26 = .int .i64 (i : Int) ∧ Aside0 (i + kq = cs.length) ∧ Aside0 (Kd.C (Kd.int .i64) w4 A' l'.length l') ∧ Aside0 (l'.length ≤ c') ∧ Aside0 (l'.length ≤ l.length) ∧ Aside0 (Fits (cs.drop i) l'.length) ∧ Aside0 (WFits k wf (cs.drop i) l') ∧ Aside0 (acc ++ sumsOf wf (cs.drop i) l' = sumsOf wf cs l) ∧ Aside0 (acc.length = i) ∧ Aside0 (Kd.R kS 55 w' w4.heap.size (fun _ => True) v8 acc) ∧ Aside0 (Below w4.heap.size w4 w'))
      case atStart => exact ⟨0, A, c, l, [], rfl, rfl, ⟨by omega⟩, HL, HCc, ⟨Nat.le_refl _⟩, HFt, HWt, ⟨rfl⟩, ⟨rfl⟩, HO, HB4⟩
      case round =>
        clear HO HB4 HL HFt HWt
        obtain ⟨i, A', c', l', acc, rfl, rfl, HK, HL, HLc, HLl, HFt, HWt, HAcc, HAl, HO, HB4⟩ := hrel
        by_cases hi : i < cs.length
        · have hq : decide ((i : Int) < (cs.length : Int)) = true := decide_eq_true (by omega)
          obtain ⟨ad, rfl, hcell⟩ := Kd.at_int (Kd.C_below HCR.out HB4.out) (i : Int) (by omega) (by omega)
          have hrd : rd cs (i : Int) = cs.getD i 0 := by unfold rd; simp
          rw [hrd] at hcell
          have hdr : cs.drop i = cs.getD i 0 :: cs.drop (i + 1) := by rw [List.drop_eq_getElem_cons hi, List.getD_eq_getElem?_getD, List.getElem?_eq_getElem hi]; rfl
          have hft := HFt.out
          have hacc := HAcc.out
          have hwt := HWt.out
          rw [hdr] at hft hacc hwt
          obtain ⟨n, hn⟩ : ∃ n, cs.getD i 0 = n := ⟨_, rfl⟩
          rw [hn] at hcell hft hacc hwt
          obtain ⟨hn0, hn1, hft⟩ := hft
          obtain ⟨hwt0, hwt1⟩ := hwt
          obtain ⟨m, rfl⟩ : ∃ m : Nat, n = (m : Int) := ⟨n.toNat, by omega⟩
          simp only [Int.toNat_natCast] at hft hcell hacc hwt0 hwt1
          have HWn0 := Aside0.mk hwt0
          have HWn1 := Aside0.mk hwt1
          clear hwt0 hwt1
          have HFn := Aside0.mk hft
          have HAn := Aside0.mk hacc
          have hmc : m ≤ c' := by have := HLc.out; omega
          have hml : m ≤ l'.length := by omega
          have hk1 : decide ((m : Int) ≤ (c' : Int)) = true := decide_eq_true (by omega)
          have hk2 : decide ((m : Int) ≤ (l'.length : Int)) = true := decide_eq_true (by omega)
          have hlc := HLc.out
          clear hft hacc hdr hrd HFt HAcc hn hn0 HWt
          go_upto_region 7 with (fail)
          have hlt : (l'.take m).length = m := by rw [List.length_take]; omega
          have hcall := parts_of.calls k A' c' (l'.take m) (wf (l'.take m)) wr (Kd.C_take (Kd.C_below HL.out HB4.out) hml) (by omega) HWn0.out
          rw [hlt] at hcall
          have HCALL := Aside0.mk hcall
          obtain ⟨s, hs⟩ : ∃ s, smOf wf (l'.take m) = s := ⟨_, rfl⟩
          have hsum : sumL (m : Int) (ysAt (l'.take m) 31) (wf (l'.take m)) = sumL s.n s.ys s.wd := by rw [← hs]; simp only [smOf, hlt]
          have HSUM := Aside0.mk hsum
          have H31 := Aside0.mk (show s.ys.length = 31 by rw [← hs]; exact ysAt_len _ _)
          have HS := Aside0.mk hs
          have HI := Aside0.mk hi
          have HHL := Aside0.mk hlt
          have hsz : (iA (sumL s.n s.ys s.wd)).size = 33 := by rw [iA_size]; simp [sumL, H31.out]
          clear hcall hs hsum hlt
          go_wp2_with (first
            | (go_at_call 30; (refine (HCALL.out).mono ?_); rintro e w5 ⟨rfl, hb5⟩; rw [HSUM.out]; have n_ := Aside0.mk (below_step HB4.out hb5); have m_ := Aside0.mk (Kd.R_below HO.out hb5); clear HB4 HO hb5; have HB4 := n_; have HO := m_; clear n_ m_)
            | ((with_reducible refine gate_builtin (b := .append) (xs := #[.tmp 30, .tmp 35]) rfl ?_); at_builtin; rw [fold_zip (iA (sumL s.n s.ys s.wd)) _ _ ?hz ?hn]; rotate_left; (case hz => rw [iA_size]; simp [sumL, H31.out]); (case hn => first | rfl | exact hsz.symm); refine Kd.R_append kS (w0 := w4) w4.heap.size rfl (.tmp 30) (.tmp 35) 45 55 (.agg (iA (sumL 0 zs31 0))) 264 rfl Try.underlying45 info55 rfl (by decide) (by omega) u8 acc s s.c (fun _ => True) (fun _ => False) rfl rfl ⟨rfl, H31.out⟩ (fun _ hk => hk.elim) (fun _ _ => trivial) HO.out HB4.out (below_size HB4.out) ?aL ?_; (case aL => (have := HI.out; have := HLN.out; have := HAl.out; omega)); intro v9 w9 ho hb hg hat; obtain ⟨A9, c9, rfl⟩ := Kd.R_slice ho; clear HB4 HO; have HB4 := Aside0.mk hb; have HO := Aside0.mk ho; clear hb ho hg hat; skip))
          all_goals
            go_roundg (cs.length - (i + 1))
            case measure => have := HK.out; omega
            case rel =>
              have hd := Kd.C_drop (c := c') HL.out hml hlc
              have ha : (acc ++ [s]) ++ sumsOf wf (cs.drop (i + 1)) (l'.drop m) = sumsOf wf cs l := by rw [← HAn.out, ← HS.out]; simp [sumsOf]
              have hlx := HLN.out
              have hO := HO.out
              rw [List.length_append, List.length_singleton] at hO
              first
                | (rw [if_pos h] at hd; refine ⟨i + 1, A', 0, l'.drop m, acc ++ [s], by rw [List.length_drop], by rw [wrapn (by omega)]; rfl, ⟨by omega⟩, ⟨hd⟩, ⟨by rw [List.length_drop]; omega⟩, ⟨by rw [List.length_drop]; have := HLl.out; omega⟩, ⟨by rw [List.length_drop]; exact HFn.out⟩, HWn1, ⟨ha⟩, ⟨by simp [HAl.out]⟩, ⟨hO⟩, HB4⟩)
                | (rw [if_neg h] at hd; refine ⟨i + 1, A'.map (·.add m), c' - m, l'.drop m, acc ++ [s], by rw [List.length_drop], by rw [wrapn (by omega)]; rfl, ⟨by omega⟩, ⟨by simpa [show (Kd.int IntKind.i64).sz = 1 from rfl] using hd⟩, ⟨by rw [List.length_drop]; omega⟩, ⟨by rw [List.length_drop]; have := HLl.out; omega⟩, ⟨by rw [List.length_drop]; exact HFn.out⟩, HWn1, ⟨ha⟩, ⟨by simp [HAl.out]⟩, ⟨hO⟩, HB4⟩)
        · have hq : decide ((i : Int) < (cs.length : Int)) = false := decide_eq_false (by omega)
          obtain rfl : i = cs.length := by have := HK.out; omega
          have ha : acc = sumsOf wf cs l := by have h_ := HAcc.out; rw [List.drop_length] at h_; simpa [sumsOf] using h_
          obtain ⟨Av, cv, rfl⟩ := Kd.R_slice HO.out
          go_wp2
          go_ret2
          rw [HCS0.out, ← ha]
          exact ⟨_, rfl, Kd.R_lower HO.out hs4, below_step HB.out HB4.out⟩
    · have hjo : o < j := by have := HK.out; omega
      have HCS := Aside0.mk (show parts_Cuts.f k (l.length : Int) order (j : Int) = some [] by rw [HCu.out j HJ.out, HMX.out j hjo HJ.out])
      have hq : decide ((([] : List Int).length : Int) = 0) = true := by decide
      have hm := HM.out
      have hj2 := HJ.out
      have hw1 : wrap64 ((j : Int) - 1) = ((j - 1 : Nat) : Int) := by unfold wrap64; omega
      go_wp2_with (go_at_call 12; (refine (parts_Cuts.calls k _ _ _ [] _ HCS.out).mono ?_); rintro e w9 ⟨v0_, rfl, hR, hb⟩; obtain ⟨A1, c1, rfl⟩ := Kd.R_slice hR; clear hR; have n_ := Aside0.mk (below_step HB.out hb); clear HB hb; have HB := n_; clear n_)
      go_roundg (j - 1 - o)
      case measure => have := HK.out; omega
      case rel => exact ⟨j - 1, by first | rfl | rw [hw1] | (congr 1; omega), ⟨by omega⟩, ⟨by omega⟩, HB⟩
set_option linter.unusedSimpArgs false
set_option linter.unusedVariables false
theorem wp_scope_ghost_k {P : Program} {Q : Exit → Act → World → Prop} {a : Act} {w : World} {c B : Code} (l : Nat) (hf : findLabel c l = some (Code.seq .skip B)) (I : Nat → Act → World → Prop)
    (round : ∀ n a w, I n a w → ∀ (J : Nat → Act → World → Prop) (K : Act → World → Prop), (∀ k a' w', I k a' w' → J k a' w') → (∀ a' w', Handed J n a' w' → K a' w') → B.wp P (Exit.jump l K Q) a w)
    (first : ∀ K : Act → World → Prop, (∀ n a w, I n a w → B.wp P (Exit.jump l K Q) a w) → c.wp P (Exit.jump l K Q) a w) : (Code.scope c).wp P Q a w := by
  have key : ∀ n a w, I n a w → B.wp P (Exit.jump l (fun a' w' => (∃ n, I n a' w') ∧ leastOf (fun n => I n a' w') < leastOf (fun n => I n a w)) Q) a w := by
    intro n a w hI
    refine wp_mono (round _ a w (leastOf_spec (p := fun n => I n a w) ⟨n, hI⟩).1 I (fun a' w' => Handed I (leastOf fun n => I n a w) a' w') (fun _ _ _ q => q) (fun _ _ q => q)) ?_
    intro e a' w' hq
    cases e with
    | goto l' =>
      obtain ⟨rfl, n', hlt, hI'⟩ := hq
      exact ⟨rfl, ⟨n', hI'⟩, Nat.lt_of_le_of_lt ((leastOf_spec (p := fun n => I n a' w') ⟨n', hI'⟩).2 n' hI') hlt⟩
    | normal => exact hq
    | exit id => exact hq
    | ret => exact hq
    | panic ch => exact hq
    | outgrown => exact hq
  refine wp_scope_jumps (rest := Code.seq .skip B) l (fun a w => ∃ n, I n a w) (fun a w => leastOf (fun n => I n a w)) hf ?_ ?_
  · refine first _ fun n a w hI => wp_mono (key n a w hI) ?_
    intro e a' w' hq
    cases e with
    | goto l' => exact ⟨hq.1, hq.2.1⟩
    | normal => exact hq
    | exit id => exact hq
    | ret => exact hq
    | panic ch => exact hq
    | outgrown => exact hq
  · rintro a w ⟨n, hI⟩
    exact wp_seq (wp_skip (key n a w hI))
theorem zSm_len : zSm.ys.length = 31 := by simp [zSm, zs31]
/-- Two parts as one. -/
def withS (a b : Sm) : Sm := ⟨wrap64 (a.n + b.n), zAt a.ys b.ys 31, mx a.wd b.wd⟩
def pairUp : List Sm → List Sm
  | a :: b :: r => withS a b :: pairUp r
  | _ => []
/-- A plan so far: whether it is wide, its order, its parts, its bits. -/
structure Cur where
  f : Bool
  o : Int
  ps : List S39
  n : Int
def zCur : Cur := ⟨false, 0, [], 0⟩
def mkCur (w : Bool) (o : Int) (s : List Sm) : Cur := ⟨w, o, planParts s w, planBits s w⟩
def stepCur (first w : Bool) (c : Cur) (x : Nat × List Sm) : Cur := if first = true ∨ planBits x.2 w ≤ c.n then mkCur w (x.1 : Int) x.2 else c
def levels : Nat → List Sm → List (Nat × List Sm)
  | 0, s => [(0, s)]
  | o + 1, s => (o + 1, s) :: levels o (pairUp s)
def finCur (first w : Bool) (c : Cur) : List (Nat × List Sm) → Cur
  | [] => c
  | x :: xs => finCur false w (stepCur first w c x) xs
def bestCur (wide : Bool) (o : Nat) (s : List Sm) : Cur :=
  if wide = true ∧ (finCur true true zCur (levels o s)).n < (finCur true false zCur (levels o s)).n then finCur true true zCur (levels o s) else finCur true false zCur (levels o s)
def Evens : Nat → List Sm → Prop
  | 0, _ => True
  | o + 1, s => s.length % 2 = 0 ∧ Evens o (pairUp s)
theorem kS_reads {W : World} {b A n c} {s : List Sm} (h : Kd.R kS 55 W b (fun _ => True) (.slice A n c) s) : n = s.length ∧ n ≤ c ∧ Kd.C kS W A s.length s := Kd.R_reads' h
theorem R_put4 {W : World} {b : Nat} {α : Type} {d : Kd α} {e : TypeId} {v : Value} {xs : List α} {g13 g14 : Nat} {c13 c14 : Array Value} (h : Kd.R d e W b (fun _ => True) v xs)
    (h13 : W.heap[g13]? = some (.cells c13 48 (0, 0))) (h14 : W.heap[g14]? = some (.cells c14 49 (0, 0))) (hn : g14 ≠ g13) (hd1 : ∀ q, q ∈ e :: d.E → q ≠ 48) (hd2 : ∀ q, q ∈ e :: d.E → q ≠ 49) (i j k m : Nat) (u1 u2 u3 u4 : Value) :
    Kd.R d e ((((W.setCell ⟨g13, i, none⟩ u1).setCell ⟨g13, j, none⟩ u2).setCell ⟨g13, k, none⟩ u3).setCell ⟨g14, m, none⟩ u4) b (fun _ => True) v xs :=
  Kd.R_set (Kd.R_set (Kd.R_set (Kd.R_set h h13 hd1 i u1) (blk_set h13 i u1) hd1 j u2) (blk_set (blk_set h13 i u1) j u2) hd1 k u3) (blk_far (blk_far (blk_far h14 hn u1) hn u2) hn u3) hd2 m u4
theorem sumsOf_len (wf : List Int → Int) : ∀ (cs l : List Int), (sumsOf wf cs l).length = cs.length
  | [], _ => rfl
  | _ :: cs, l => by simp [sumsOf, sumsOf_len wf cs]
theorem pairUp_len : ∀ (n : Nat) (s : List Sm), s.length = 2 * n → (pairUp s).length = n
  | 0, [], _ => rfl
  | 0, _ :: _, h => by simp at h
  | n + 1, [], h => by simp at h
  | n + 1, [_], h => by simp at h; omega
  | n + 1, a :: b :: r, h => by simp [pairUp]; exact pairUp_len n r (by simp at h; omega)
theorem Evens_pow : ∀ (o : Nat) (s : List Sm), s.length = 2 ^ o → Evens o s
  | 0, _, _ => trivial
  | o + 1, s, h => ⟨by rw [h, Nat.pow_succ]; omega, Evens_pow o _ (pairUp_len (2 ^ o) s (by rw [h, Nat.pow_succ]; omega))⟩
theorem below_put4 {W w : World} {b g13 g14 : Nat} (h : Below b w W) (h13 : b ≤ g13) (h14 : b ≤ g14) (i j k m : Nat) (u1 u2 u3 u4 : Value) :
    Below b w ((((W.setCell ⟨g13, i, none⟩ u1).setCell ⟨g13, j, none⟩ u2).setCell ⟨g13, k, none⟩ u3).setCell ⟨g14, m, none⟩ u4) := by
  exact (((h.setCell h13 _).setCell h13 _).setCell h13 _).setCell h14 _
theorem pairUp_drop {s : List Sm} {j : Nat} (h : 2 * j + 1 < s.length) : pairUp (s.drop (2 * j)) = withS (s.getD (2 * j) zSm) (s.getD (2 * j + 1) zSm) :: pairUp (s.drop (2 * (j + 1))) := by
  have h1 : s.drop (2 * j) = s.getD (2 * j) zSm :: s.getD (2 * j + 1) zSm :: s.drop (2 * (j + 1)) := by
    rw [List.drop_eq_getElem_cons (by omega), List.drop_eq_getElem_cons h, List.getD_eq_getElem?_getD, List.getD_eq_getElem?_getD, List.getElem?_eq_getElem (by omega), List.getElem?_eq_getElem h]
    rfl
  rw [h1]
  rfl
theorem load_at_yields {P : Program} {op : Oper} {a : Act} {w : World} (ty : TypeId) (x : Operand) (N : Option Tmp) (ho : op.op = .load ty x) (ad : Addr) (hx : a.eval x = .pointer (some ad)) (cs : List Value) (C : Array Value) (hC : cs.toArray = C) (d : TypeDesc) (hc : ∀ j v, cs[j]? = some v → w.cell? (ad.add j) = some v)
    (hu : P.underlying ty = some d) (hd : d.isRow = true) (hi : (P.info? ty).map (·.size) = some cs.length) : (execOp a.eval op).run P w = .ok (.value (.agg C)) w := by
  subst hC
  have hl : (loadCells ad cs.length).run P w = .ok cs.toArray w := run_loadCells_list (P := P) w ad cs hc
  have hv : (loadVar ty ad).run P w = .ok (.agg cs.toArray) w := by
    cases hq : P.info? ty with
    | none => simp [hq] at hi
    | some i =>
      have hs : i.size = cs.length := by simpa [hq] using hi
      have hagg : (isAgg ty).run P w = .ok true w := by
        unfold isAgg
        rw [Sem.run_bind, run_underlying hu w]
        cases d <;> simp_all
      simp [loadVar, Sem.run_bind, hagg, sizeOf, typeInfo, hq, hs, hl]
  unfold execOp
  simp only [ho, hx, Instr.loadAt, Instr.sureAddr, Sem.run_bind, Sem.run_pure, Result.andThen_ok, hv]
set_option maxHeartbeats 8000000 in
set_option maxRecDepth 100000 in
theorem parts_Best.goes (k : Nat) (A : Option Addr) (c : Nat) (l : List Int) (order : Int) (most o : Nat) (wide : Bool) (cutsF : Nat → List Int) (wf : List Int → Int) (w : World)
    (hr : Kd.C (Kd.int .i64) w A l.length l) (hc : l.length ≤ c) (hW0 : cost_Width.f k l = some (wf l)) (hW : WFits k wf (cutsF o) l)
    (ho1 : 0 ≤ order) (ho2 : order ≤ 32) (hl0 : l.length ≠ 0) (hw0 : 0 ≤ wf l) (hm : most ≤ 8) (hC : ∀ j, j ≤ most → parts_Cuts.f k (l.length : Int) order (j : Int) = some (cutsF j)) (ho : o ≤ most) (hne : cutsF o ≠ []) (hmax : ∀ j, o < j → j ≤ most → cutsF j = []) (hfit : Fits (cutsF o) l.length) (hlen : (cutsF o).length = 2 ^ o) :
    Calls Try.prog 9 #[.slice A l.length c, .int .i64 order, .int .i64 (most : Int), .bool wide] w fun e w' => ∃ v : Value, e = .returned (.tuple #[.agg #[.bool (bestCur wide o (sumsOf wf (cutsF o) l)).f, .int .i64 (bestCur wide o (sumsOf wf (cutsF o) l)).o, v], .int .i64 (bestCur wide o (sumsOf wf (cutsF o) l)).n, .int .i64 0]) ∧ Kd.R k39 39 w' w.heap.size (fun _ => True) v (bestCur wide o (sumsOf wf (cutsF o) l)).ps ∧ Below w.heap.size w w' := by
  have hlen4 : (cutsF o).length < 400000 := by
    rw [hlen]
    have : 2 ^ o ≤ 2 ^ 8 := Nat.pow_le_pow_right (by decide) (by omega)
    have : (2 : Nat) ^ 8 = 256 := by decide
    omega
  have hEv := Evens_pow o (sumsOf wf (cutsF o) l) (by rw [sumsOf_len, hlen])
  have hsl : (sumsOf wf (cutsF o) l).length ≤ 400000 := by rw [sumsOf_len]; omega
  have d1 : decide (order < 0) = false := decide_eq_false (by omega)
  have d2 : decide ((32 : Int) < order) = false := decide_eq_false (by omega)
  have d3 : decide ((most : Int) < 0) = false := decide_eq_false (by omega)
  have d4 : decide ((8 : Int) < (most : Int)) = false := decide_eq_false (by omega)
  have d5 : ((l.length : Int) == 0) = false := beq_eq_false_iff_ne.2 (by omega)
  have d5' : decide ((l.length : Int) = 0) = false := decide_eq_false (by omega)
  have d6 : decide (wf l < 0) = false := decide_eq_false (by omega)
  obtain ⟨bc, hbc_⟩ : ∃ bc, bestCur wide o (sumsOf wf (cutsF o) l) = bc := ⟨_, rfl⟩
  rw [hbc_]
  have HBC := Aside0.mk hbc_
  clear hbc_
  have HR := Aside0.mk hr
  have HCc := Aside0.mk hc
  have HWf := Aside0.mk hW0
  have HFIN := Aside0.mk (fun (W : World) (hr' : Kd.C (Kd.int .i64) W A l.length l) => parts_finest.calls k A c l order most o cutsF wf W hr' hc hW (by omega) hC ho hne hmax hfit hlen4)
  have HEV := Aside0.mk hEv
  have HSL := Aside0.mk hsl
  have HO8 := Aside0.mk (show o ≤ 8 by omega)
  clear hr hc hW hW0 hm hC ho hne hmax hfit hlen hlen4 hEv hsl ho1 ho2 hl0 hw0
  go_enter Try.func9, Try.ntmps9
  go_wp2_with (first | ((with_reducible refine gate_dst (N := 8) rfl ?_); refine box_event ?hg (N := 8) ?hd (cs := #[.bool false, .int .i64 0, .slice none 0 0]) (t := 26) ?hr ?_; (case hd => rfl); (case hg => rfl); (case hr => go_loud (first | (go_simp; done) | (go_simp; rfl))); intro g8 hg8_ w8 hbox8 hb8; have G8 := Aside0.mk hg8_; clear hg8_; have X8 := Aside0.mk hbox8; have B8 := Aside0.mk hb8; clear hbox8 hb8))
  have L8 := Aside0.mk (show w.heap.size ≤ g8 from G8.out ▸ Nat.le_refl _)
  refine wp_scope_ghost_k 0 rfl (fun kq a_ w' => ∃ (g13 g14 : Nat) (v11 : Value) (fst_ : Bool) (u4 u5 u6 u7 u16 u17 u18 u19 u20 u21 u22 u23 u24 u25 u26 u27 u28 u29 u30 u31 u32 u33 u34 u35 u36 u37 u38 u39 u40 u41 u42 u43 u44 u45 u46 u47 u48 u49 u50 u51 u52 u53 u54 u55 u56 u57 u58 u59 u60 u61 u62 u63 u64 u65 u66 u67 u68 u69 u70 u71 u72 u73 u74 u75 u76 u77 u78 u79 u80 u81 u82 u83 u84 u85 u86 u87 u88 u89 u90 u91 u92 u93 u94 u95 u96 u97 u98 u99 u100 u101 u102 u103 u104 u105 u106 u107 u108 u109 u110 u111 u112 u113 u114 u115 u116 u117 u118 u119 u120 u121 u122 u123 : Value), (∃ s c0 c1 v0 v1, Aside0 (finCur fst_ false c0 (levels kq s) = finCur true false zCur (levels o (sumsOf wf (cutsF o) l))) ∧ Aside0 (finCur fst_ true c1 (levels kq s) = finCur true true zCur (levels o (sumsOf wf (cutsF o) l))) ∧ Aside0 (Evens kq s) ∧ Aside0 (s.length ≤ 400000) ∧ Aside0 (kq ≤ 8) ∧ Aside0 (Kd.R kS 55 w' w.heap.size (fun _ => True) v11 s)
      ∧ Aside0 (w'.heap[g8]? = some (.cells #[.bool false, .int .i64 0, .slice none 0 0] 26 (0, 0))) ∧ Aside0 (w'.heap[g13]? = some (.cells #[.bool c0.f, .int .i64 c0.o, v0, .bool c1.f, .int .i64 c1.o, v1] 48 (0, 0))) ∧ Aside0 (w'.heap[g14]? = some (.cells #[.int .i64 c0.n, .int .i64 c1.n] 49 (0, 0)))
      ∧ Aside0 (Kd.R k39 39 w' w.heap.size (fun _ => True) v0 c0.ps) ∧ Aside0 (Kd.R k39 39 w' w.heap.size (fun _ => True) v1 c1.ps) ∧ Aside0 (Below w.heap.size w w') ∧ Aside0 (g13 ≠ g14) ∧ Aside0 (g8 ≠ g13) ∧ Aside0 (g8 ≠ g14) ∧ Aside0 (w.heap.size ≤ g13) ∧ Aside0 (w.heap.size ≤ g14)) ∧ a_ = { tmps := #[.slice A l.length c, .int .i64 order, .int .i64 (most : Int), .bool wide, u4, u5, u6, u7, .pointer (some ⟨g8, 0, none⟩), .int .i64 0, .int .i64 0, v11, .int .i64 (kq : Int), .pointer (some ⟨g13, 0, none⟩), .pointer (some ⟨g14, 0, none⟩), .bool fst_, u16, u17, u18, u19, u20, u21, u22, u23, u24, u25, u26, u27, u28, u29, u30, u31, u32, u33, u34, u35, u36, u37, u38, u39, u40, u41, u42, u43, u44, u45, u46, u47, u48, u49, u50, u51, u52, u53, u54, u55, u56, u57, u58, u59, u60, u61, u62, u63, u64, u65, u66, u67, u68, u69, u70, u71, u72, u73, u74, u75, u76, u77, u78, u79, u80, u81, u82, u83, u84, u85, u86, u87, u88, u89, u90, u91, u92, u93, u94, u95, u96, u97, u98, u99, u100, u101, u102, u103, u104, u105, u106, u107, u108, u109, u110, u111, u112, u113, u114, u115, u116, u117, u118, u119, u120, u121, u122, u123], defers := [] }) ?round ?first
  case first =>
    intro K_ hR_
    go_wp2_with (first
      | (go_at_call 16; (refine (cost_Width.calls k A c l (wf l) _ (Kd.C_below HR.out B8.out) HCc.out HWf.out).mono ?_); rintro e w5 ⟨rfl, ⟨nd, rfl⟩⟩)
      | (go_at_call 17; (refine (HFIN.out _ (Kd.C_below HR.out (pw_below_drewN B8.out nd))).mono ?_); rintro e w6 ⟨v17, rfl, hO17, hB17⟩; have O17 := Aside0.mk hO17; have B17 := Aside0.mk hB17; clear hO17 hB17)
      | ((with_reducible refine gate_dst (N := 13) rfl ?_); refine box_event ?hg (N := 13) ?hd (cs := #[.bool false, .int .i64 0, .slice none 0 0, .bool false, .int .i64 0, .slice none 0 0]) (t := 48) ?hr ?_; (case hd => rfl); (case hg => rfl); (case hr => go_loud (first | (go_simp; done) | (go_simp; rfl))); intro g13 hg13_ w13 hbox13 hb13; have G13 := Aside0.mk hg13_; clear hg13_; have X13 := Aside0.mk hbox13; have B13 := Aside0.mk hb13; clear hbox13 hb13)
      | ((with_reducible refine gate_dst (N := 14) rfl ?_); refine box_event ?hg (N := 14) ?hd (cs := #[.int .i64 0, .int .i64 0]) (t := 49) ?hr ?_; (case hd => rfl); (case hg => rfl); (case hr => go_loud (first | (go_simp; done) | (go_simp; rfl))); intro g14 hg14_ w14 hbox14 hb14; have G14 := Aside0.mk hg14_; clear hg14_; have X14 := Aside0.mk hbox14; have B14 := Aside0.mk hb14; clear hbox14 hb14))
    have hB6 : Below w.heap.size w w6 := below_step (pw_below_drewN B8.out nd) B17.out
    have hB13 : Below w.heap.size w w13 := below_step hB6 B13.out
    have hB14 : Below w.heap.size w w14 := below_step hB13 B14.out
    have hO14 := Kd.R_below (Kd.R_below O17.out B13.out) B14.out
    have hX8 := blk_below (blk_below (blk_below (blk_drewN X8.out nd) B17.out) B13.out) B14.out
    have hX13 := blk_below X13.out B14.out
    have z0 := (pw_below_drewN B8.out nd).size
    have z6 := hB6.size
    have z13 := hB13.size
    have e8 := blk_lt (blk_below (blk_drewN X8.out nd) B17.out)
    have g13e := G13.out
    have g14e := G14.out
    have z613 := B13.out.size
    have e13 := blk_lt X13.out
    have hO14 := Kd.R_lower hO14 z0
    go_step3
    go_step
    go_step
    refine hR_ o _ _ ?_
    refine ⟨g13, g14, v17, true, ?_⟩
    repeat apply Exists.intro
    refine ⟨?_, rfl⟩
    exact ⟨sumsOf wf (cutsF o) l, zCur, zCur, _, _, ⟨rfl⟩, ⟨rfl⟩, HEV, HSL, HO8, ⟨hO14⟩, ⟨hX8⟩, ⟨hX13⟩, X14, ⟨Kd.R_nil k39 39 w14 w.heap.size (fun _ => True)⟩, ⟨Kd.R_nil k39 39 w14 w.heap.size (fun _ => True)⟩, ⟨hB14⟩, ⟨by omega⟩, ⟨by omega⟩, ⟨by omega⟩, ⟨by omega⟩, ⟨by omega⟩⟩
  case round =>
    intro lv a_ wr h_ J_ K_ hJ_ hK_
    obtain ⟨g13, g14, v11, fst_, h_⟩ := h_
    iterate 112 (obtain ⟨_, h_⟩ := h_)
    obtain ⟨⟨s, c0, c1, v0, v1, HF0, HF1, HEVs, HSl, HLV, HS, HX8, HX13, HX14, HR0, HR1, HB, N1314, N813, N814, L13, L14⟩, ha_⟩ := h_
    subst ha_
    clear HFIN HEV HSL HO8 G8 X8 B8 HWf d1 d2 d3 d4 d5 d5' d6
    obtain ⟨A11, c11, rfl⟩ := Kd.R_slice HS.out
    have hSC := kS_reads HS.out
    have HSc := Aside0.mk hSC.2.1
    clear hSC
    go_wp2
    have hX8 := blk_alloc HX8.out (Obj.cells #[Value.bool false, Value.bool true] 4)
    have hX13 := blk_alloc HX13.out (Obj.cells #[Value.bool false, Value.bool true] 4)
    have hX14 := blk_alloc HX14.out (Obj.cells #[Value.bool false, Value.bool true] 4)
    have hXB := blk_new wr (Obj.cells #[Value.bool false, Value.bool true] 4)
    have hB1 := below_alloc (Below.refl wr.heap.size wr) (Obj.cells #[Value.bool false, Value.bool true] 4)
    have hB := below_step HB.out hB1
    have hS := Kd.R_below HS.out hB1
    have hR0 := Kd.R_below HR0.out hB1
    have hR1 := Kd.R_below HR1.out hB1
    have hzB := HB.out.size
    have e8 := blk_lt HX8.out
    have e13 := blk_lt HX13.out
    have e14 := blk_lt HX14.out
    obtain ⟨W1, hW1⟩ : ∃ W1, wr.alloc (Obj.cells #[Value.bool false, Value.bool true] 4) = W1 := ⟨_, rfl⟩
    obtain ⟨gB, hgB⟩ : ∃ gB, wr.heap.size = gB := ⟨_, rfl⟩
    rw [hW1] at hX8 hX13 hX14 hXB hB hS hR0 hR1 ⊢
    rw [hgB] at hXB hzB e8 e13 e14 ⊢
    clear HX8 HX13 HX14 HB HS HR0 HR1 hB1 hW1 hgB
    have HX8 := Aside0.mk hX8
    have HX13 := Aside0.mk hX13
    have HX14 := Aside0.mk hX14
    have HXB := Aside0.mk hXB
    have HB := Aside0.mk hB
    have HS := Aside0.mk hS
    have HR0 := Aside0.mk hR0
    have HR1 := Aside0.mk hR1
    have NB8 := Aside0.mk (show gB ≠ g8 by omega)
    have NB13 := Aside0.mk (show gB ≠ g13 by omega)
    have NB14 := Aside0.mk (show gB ≠ g14 by omega)
    clear hX8 hX13 hX14 hXB hB hS hR0 hR1 hzB e8 e13 e14
    go_loopg [57] 2 (fun kq v57 w' => ∃ (i : Nat) (c0_ c1_ : Cur) (v0_ v1_ : Value), v57 = .int .i64 (i : Int) ∧ Aside0 (i + kq = 2) ∧ Aside0 (c0_ = if i = 0 then c0 else stepCur fst_ false c0 (lv, s)) ∧ Aside0 (c1_ = if i ≤ 1 then c1 else stepCur fst_ true c1 (lv, s)) ∧ Aside0 (w'.heap[g8]? = some (.cells #[.bool false, .int .i64 0, .slice none 0 0] 26 (0, 0))) ∧ Aside0 (w'.heap[g13]? = some (.cells #[.bool c0_.f, .int .i64 c0_.o, v0_, .bool c1_.f, .int .i64 c1_.o, v1_] 48 (0, 0))) ∧ Aside0 (w'.heap[g14]? = some (.cells #[.int .i64 c0_.n, .int .i64 c1_.n] 49 (0, 0))) ∧ Aside0 (w'.heap[gB]? = some (.cells #[.bool false, .bool true] 4 (0, 0))) ∧ Aside0 (Kd.R kS 55 w' w.heap.size (fun _ => True) (.slice A11 s.length c11) s) ∧ Aside0 (Kd.R k39 39 w' w.heap.size (fun _ => True) v0_ c0_.ps) ∧ Aside0 (Kd.R k39 39 w' w.heap.size (fun _ => True) v1_ c1_.ps) ∧ Aside0 (Below w.heap.size w w'))
    case atStart => exact ⟨0, c0, c1, v0, v1, rfl, ⟨rfl⟩, ⟨rfl⟩, ⟨rfl⟩, HX8, HX13, HX14, HXB, HS, HR0, HR1, HB⟩
    case round =>
      clear HX8 HX13 HX14 HXB HB HS HR0 HR1
      obtain ⟨i, c0_, c1_, v0_, v1_, rfl, HK, HD0, HD1, HX8, HX13, HX14, HXB, HS, HR0, HR1, HB⟩ := hrel
      have hi : i = 0 ∨ i = 1 ∨ i = 2 := by have := HK.out; omega
      rcases hi with rfl | rfl | rfl
      case inl =>
        have hSR := kS_reads HS.out
        have hcB : wr.cell? ⟨gB, 0, none⟩ = some (.bool false) := (blk_cell HXB.out 0).trans rfl
        have hcall := parts_plan.calls A11 c11 s (lv : Int) false wr hSR.2.2 hSR.2.1 (by have := HSl.out; omega)
        obtain ⟨nP, hnP⟩ : ∃ nP, planBits s false = nP := ⟨_, rfl⟩
        rw [hnP] at hcall
        have HCALL := Aside0.mk hcall
        have HNP := Aside0.mk hnP
        clear hcall hSR hnP
        go_upto_region 15 with (first | (go_at_call 18; (refine (HCALL.out).mono ?_); rintro e w2 ⟨vQ_, rfl, hP, hb2⟩; obtain ⟨Ap, cp, rfl⟩ := Kd.R_slice hP; have HP := Aside0.mk hP; have B2 := Aside0.mk hb2; clear hP hb2) | ((with_reducible refine gate_dst (N := 18) rfl ?_); refine box_event ?hg (N := 18) ?hd (cs := #[.bool false, .int .i64 0, .slice none 0 0]) (t := 26) ?hr ?_; (case hd => rfl); (case hg => rfl); (case hr => go_loud (first | (go_simp; done) | (go_simp; rfl))); intro g18 hg18_ w3 hbox18 hb3; have G18 := Aside0.mk hg18_; clear hg18_; have X18 := Aside0.mk hbox18; have B3 := Aside0.mk hb3; clear hbox18 hb3) | ((with_reducible refine gate_store (t := 26) (p := 18) rfl ?_); refine wpList_store_row rfl 26 _ _ rfl g18 #[.bool false, .int .i64 (lv : Int), (.slice Ap (planParts s false).length cp)] rfl rfl 26 _ X18.out sz26 rfl (by simp [Value.oneCell']) ?_))
        have hX18 := setRow_heap w3 g18 _ #[.bool false, .int .i64 (lv : Int), (.slice Ap (planParts s false).length cp)] _ _ X18.out
        have hg18 := G18.out
        have zb := HB.out.size
        have zb2 := B2.out.size
        have z8 := blk_lt HX8.out
        have z13 := blk_lt HX13.out
        have z14 := blk_lt HX14.out
        have zB := blk_lt HXB.out
        have l18 : w.heap.size ≤ g18 := by omega
        have hb4 := below_setRow (below_step B2.out B3.out) (by omega : wr.heap.size ≤ g18) #[.bool false, .int .i64 (lv : Int), (.slice Ap (planParts s false).length cp)]
        have hP := Kd.R_mono (Kd.R_step (Kd.R_types (Kd.R_below HP.out B3.out) X18.out (by decide)) (fun k hk _ => setRow_other w3 g18 k #[.bool false, .int .i64 (lv : Int), (.slice Ap (planParts s false).length cp)] hk.2)) (ok' := fun _ => True) (fun _ _ => trivial)
        have hP := Kd.R_lower hP zb
        have hX8 := blk_below HX8.out hb4
        have hX13 := blk_below HX13.out hb4
        have hX14 := blk_below HX14.out hb4
        have hXB := blk_below HXB.out hb4
        have hS := Kd.R_below HS.out hb4
        have hR0 := Kd.R_below HR0.out hb4
        have hR1 := Kd.R_below HR1.out hb4
        have hB := below_step HB.out hb4
        obtain ⟨W4, hW4⟩ : ∃ W4, w3.setRow g18 #[.bool false, .int .i64 (lv : Int), (.slice Ap (planParts s false).length cp)] = W4 := ⟨_, rfl⟩
        rw [hW4] at hX18 hP hX8 hX13 hX14 hXB hS hR0 hR1 hB ⊢
        have n1 := N1314.out
        have n2 := NB13.out
        have n3 := NB14.out
        have n4 := N813.out
        have n5 := N814.out
        have hc130 : W4.cell? ⟨g13, 0, none⟩ = some (.bool c0_.f) := (blk_cell hX13 0).trans rfl
        have hf130 := blk_frozen hX13 0
        have hc131 : W4.cell? ⟨g13, 1, none⟩ = some (.int .i64 c0_.o) := (blk_cell hX13 1).trans rfl
        have hf131 := blk_frozen hX13 1
        have hc132 : W4.cell? ⟨g13, 2, none⟩ = some (v0_) := (blk_cell hX13 2).trans rfl
        have hf132 := blk_frozen hX13 2
        have hc14 : W4.cell? ⟨g14, 0, none⟩ = some (.int .i64 c0_.n) := (blk_cell hX14 0).trans rfl
        have hf14 := blk_frozen hX14 0
        have hc180 : W4.cell? ⟨g18, 0, none⟩ = some (.bool false) := (blk_cell hX18 0).trans rfl
        have hc181 : W4.cell? ⟨g18, 1, none⟩ = some (.int .i64 (lv : Int)) := (blk_cell hX18 1).trans rfl
        have hc182 : W4.cell? ⟨g18, 2, none⟩ = some (.slice Ap (planParts s false).length cp) := (blk_cell hX18 2).trans rfl
        clear X18 HP G18 HCALL B2 B3 HX8 HX13 HX14 HXB HS HR0 HR1 HB hW4 hb4 zb zb2 hg18 z8 z13 z14 zB l18
        have HX18 := Aside0.mk hX18
        have HP := Aside0.mk hP
        have HX8 := Aside0.mk hX8
        have HX13 := Aside0.mk hX13
        have HX14 := Aside0.mk hX14
        have HXB := Aside0.mk hXB
        have HS := Aside0.mk hS
        have HR0 := Aside0.mk hR0
        have HR1 := Aside0.mk hR1
        have HB := Aside0.mk hB
        clear hX18 hP hX8 hX13 hX14 hXB hS hR0 hR1 hB
        have hdec : (fst_ = true ∨ nP ≤ c0_.n) ∨ (fst_ = false ∧ ¬ nP ≤ c0_.n) := by
          cases fst_ with
          | true => exact Or.inl (Or.inl rfl)
          | false => by_cases hq : nP ≤ c0_.n; exact Or.inl (Or.inr hq); exact Or.inr ⟨rfl, hq⟩
        rcases hdec with hT | ⟨rfl, hT⟩
        · have HT_ := Aside0.mk hT
          have hTT : fst_ = true ∨ (fst_ = false ∧ nP ≤ c0_.n) := by
            cases fst_ with
            | true => exact Or.inl rfl
            | false => exact Or.inr ⟨rfl, hT.resolve_left (by decide)⟩
          clear hT
          rcases hTT with rfl | ⟨rfl, hle⟩
          · go_wp2
            go_roundg 1
            case measure => have := HK.out; omega
            case rel =>
              have hT := HT_.out
              clear hc180 hc181 hc182
              have tX8 := blk_far (blk_far (blk_far (blk_far HX8.out N813.out (p := ⟨g13, 0, none⟩) (.bool false)) N813.out (p := ⟨g13, 1, none⟩) (.int .i64 (lv : Int))) N813.out (p := ⟨g13, 2, none⟩) (.slice Ap (planParts s false).length cp)) N814.out (p := ⟨g14, 0, none⟩) (.int .i64 nP)
              have tXB := blk_far (blk_far (blk_far (blk_far HXB.out NB13.out (p := ⟨g13, 0, none⟩) (.bool false)) NB13.out (p := ⟨g13, 1, none⟩) (.int .i64 (lv : Int))) NB13.out (p := ⟨g13, 2, none⟩) (.slice Ap (planParts s false).length cp)) NB14.out (p := ⟨g14, 0, none⟩) (.int .i64 nP)
              have tX13 := blk_far (blk_set (blk_set (blk_set HX13.out 0 (.bool false)) 1 (.int .i64 (lv : Int))) 2 (.slice Ap (planParts s false).length cp)) N1314.out (p := ⟨g14, 0, none⟩) (.int .i64 nP)
              have tX14 := blk_set (blk_far (blk_far (blk_far HX14.out (Ne.symm N1314.out) (p := ⟨g13, 0, none⟩) (.bool false)) (Ne.symm N1314.out) (p := ⟨g13, 1, none⟩) (.int .i64 (lv : Int))) (Ne.symm N1314.out) (p := ⟨g13, 2, none⟩) (.slice Ap (planParts s false).length cp)) 0 (.int .i64 nP)
              have tS := R_put4 HS.out HX13.out HX14.out (Ne.symm N1314.out) (by decide) (by decide) 0 1 2 0 (.bool false) (.int .i64 (lv : Int)) (.slice Ap (planParts s false).length cp) (.int .i64 nP)
              have tP := R_put4 HP.out HX13.out HX14.out (Ne.symm N1314.out) (by decide) (by decide) 0 1 2 0 (.bool false) (.int .i64 (lv : Int)) (.slice Ap (planParts s false).length cp) (.int .i64 nP)
              have tR := R_put4 HR1.out HX13.out HX14.out (Ne.symm N1314.out) (by decide) (by decide) 0 1 2 0 (.bool false) (.int .i64 (lv : Int)) (.slice Ap (planParts s false).length cp) (.int .i64 nP)
              have tB := below_put4 HB.out L13.out L14.out 0 1 2 0 (.bool false) (.int .i64 (lv : Int)) (.slice Ap (planParts s false).length cp) (.int .i64 nP)
              have hst : stepCur true false c0 (lv, s) = ⟨false, (lv : Int), planParts s false, nP⟩ := by
                have hcc : c0_ = c0 := HD0.out
                rw [← hcc, stepCur, if_pos (by first | exact Or.inl rfl | (rw [← HNP.out] at hT; exact hT)), mkCur, HNP.out]
              exact ⟨1, ⟨false, (lv : Int), planParts s false, nP⟩, c1_, (.slice Ap (planParts s false).length cp), v1_, rfl, ⟨rfl⟩, ⟨hst.symm⟩, ⟨HD1.out⟩, ⟨tX8⟩, ⟨tX13⟩, ⟨tX14⟩, ⟨tXB⟩, ⟨tS⟩, ⟨tP⟩, ⟨tR⟩, ⟨tB⟩⟩
          · have hdd : decide (nP ≤ c0_.n) = true := decide_eq_true hle
            clear hle
            go_wp2
            go_roundg 1
            case measure => have := HK.out; omega
            case rel =>
              have hT := HT_.out
              clear hc180 hc181 hc182
              have tX8 := blk_far (blk_far (blk_far (blk_far HX8.out N813.out (p := ⟨g13, 0, none⟩) (.bool false)) N813.out (p := ⟨g13, 1, none⟩) (.int .i64 (lv : Int))) N813.out (p := ⟨g13, 2, none⟩) (.slice Ap (planParts s false).length cp)) N814.out (p := ⟨g14, 0, none⟩) (.int .i64 nP)
              have tXB := blk_far (blk_far (blk_far (blk_far HXB.out NB13.out (p := ⟨g13, 0, none⟩) (.bool false)) NB13.out (p := ⟨g13, 1, none⟩) (.int .i64 (lv : Int))) NB13.out (p := ⟨g13, 2, none⟩) (.slice Ap (planParts s false).length cp)) NB14.out (p := ⟨g14, 0, none⟩) (.int .i64 nP)
              have tX13 := blk_far (blk_set (blk_set (blk_set HX13.out 0 (.bool false)) 1 (.int .i64 (lv : Int))) 2 (.slice Ap (planParts s false).length cp)) N1314.out (p := ⟨g14, 0, none⟩) (.int .i64 nP)
              have tX14 := blk_set (blk_far (blk_far (blk_far HX14.out (Ne.symm N1314.out) (p := ⟨g13, 0, none⟩) (.bool false)) (Ne.symm N1314.out) (p := ⟨g13, 1, none⟩) (.int .i64 (lv : Int))) (Ne.symm N1314.out) (p := ⟨g13, 2, none⟩) (.slice Ap (planParts s false).length cp)) 0 (.int .i64 nP)
              have tS := R_put4 HS.out HX13.out HX14.out (Ne.symm N1314.out) (by decide) (by decide) 0 1 2 0 (.bool false) (.int .i64 (lv : Int)) (.slice Ap (planParts s false).length cp) (.int .i64 nP)
              have tP := R_put4 HP.out HX13.out HX14.out (Ne.symm N1314.out) (by decide) (by decide) 0 1 2 0 (.bool false) (.int .i64 (lv : Int)) (.slice Ap (planParts s false).length cp) (.int .i64 nP)
              have tR := R_put4 HR1.out HX13.out HX14.out (Ne.symm N1314.out) (by decide) (by decide) 0 1 2 0 (.bool false) (.int .i64 (lv : Int)) (.slice Ap (planParts s false).length cp) (.int .i64 nP)
              have tB := below_put4 HB.out L13.out L14.out 0 1 2 0 (.bool false) (.int .i64 (lv : Int)) (.slice Ap (planParts s false).length cp) (.int .i64 nP)
              have hst : stepCur false false c0 (lv, s) = ⟨false, (lv : Int), planParts s false, nP⟩ := by
                have hcc : c0_ = c0 := HD0.out
                rw [← hcc, stepCur, if_pos (by first | exact Or.inl rfl | (rw [← HNP.out] at hT; exact hT)), mkCur, HNP.out]
              exact ⟨1, ⟨false, (lv : Int), planParts s false, nP⟩, c1_, (.slice Ap (planParts s false).length cp), v1_, rfl, ⟨rfl⟩, ⟨hst.symm⟩, ⟨HD1.out⟩, ⟨tX8⟩, ⟨tX13⟩, ⟨tX14⟩, ⟨tXB⟩, ⟨tS⟩, ⟨tP⟩, ⟨tR⟩, ⟨tB⟩⟩
        · have hdd : decide (nP ≤ c0_.n) = false := decide_eq_false hT
          have HT_ := Aside0.mk hT
          clear hT
          go_wp2
          go_roundg 1
          case measure => have := HK.out; omega
          case rel =>
            have hT := HT_.out
            have hst : stepCur false false c0 (lv, s) = c0_ := by
              have hcc : c0_ = c0 := HD0.out
              rw [← hcc, stepCur, if_neg (by rw [HNP.out]; rintro (h_ | h_); exact absurd h_ (by decide); first | exact hT h_ | exact absurd h_ (Int.not_le.2 hT))]
            exact ⟨1, c0_, c1_, v0_, v1_, rfl, ⟨rfl⟩, ⟨hst.symm⟩, ⟨HD1.out⟩, HX8, HX13, HX14, HXB, HS, HR0, HR1, HB⟩
      case inr.inl =>
        have hSR := kS_reads HS.out
        have hcB : wr.cell? ⟨gB, 1, none⟩ = some (.bool true) := (blk_cell HXB.out 1).trans rfl
        have hcall := parts_plan.calls A11 c11 s (lv : Int) true wr hSR.2.2 hSR.2.1 (by have := HSl.out; omega)
        obtain ⟨nP, hnP⟩ : ∃ nP, planBits s true = nP := ⟨_, rfl⟩
        rw [hnP] at hcall
        have HCALL := Aside0.mk hcall
        have HNP := Aside0.mk hnP
        clear hcall hSR hnP
        go_upto_region 15 with (first | (go_at_call 18; (refine (HCALL.out).mono ?_); rintro e w2 ⟨vQ_, rfl, hP, hb2⟩; obtain ⟨Ap, cp, rfl⟩ := Kd.R_slice hP; have HP := Aside0.mk hP; have B2 := Aside0.mk hb2; clear hP hb2) | ((with_reducible refine gate_dst (N := 18) rfl ?_); refine box_event ?hg (N := 18) ?hd (cs := #[.bool false, .int .i64 0, .slice none 0 0]) (t := 26) ?hr ?_; (case hd => rfl); (case hg => rfl); (case hr => go_loud (first | (go_simp; done) | (go_simp; rfl))); intro g18 hg18_ w3 hbox18 hb3; have G18 := Aside0.mk hg18_; clear hg18_; have X18 := Aside0.mk hbox18; have B3 := Aside0.mk hb3; clear hbox18 hb3) | ((with_reducible refine gate_store (t := 26) (p := 18) rfl ?_); refine wpList_store_row rfl 26 _ _ rfl g18 #[.bool true, .int .i64 (lv : Int), (.slice Ap (planParts s true).length cp)] rfl rfl 26 _ X18.out sz26 rfl (by simp [Value.oneCell']) ?_))
        have hX18 := setRow_heap w3 g18 _ #[.bool true, .int .i64 (lv : Int), (.slice Ap (planParts s true).length cp)] _ _ X18.out
        have hg18 := G18.out
        have zb := HB.out.size
        have zb2 := B2.out.size
        have z8 := blk_lt HX8.out
        have z13 := blk_lt HX13.out
        have z14 := blk_lt HX14.out
        have zB := blk_lt HXB.out
        have l18 : w.heap.size ≤ g18 := by omega
        have hb4 := below_setRow (below_step B2.out B3.out) (by omega : wr.heap.size ≤ g18) #[.bool true, .int .i64 (lv : Int), (.slice Ap (planParts s true).length cp)]
        have hP := Kd.R_mono (Kd.R_step (Kd.R_types (Kd.R_below HP.out B3.out) X18.out (by decide)) (fun k hk _ => setRow_other w3 g18 k #[.bool true, .int .i64 (lv : Int), (.slice Ap (planParts s true).length cp)] hk.2)) (ok' := fun _ => True) (fun _ _ => trivial)
        have hP := Kd.R_lower hP zb
        have hX8 := blk_below HX8.out hb4
        have hX13 := blk_below HX13.out hb4
        have hX14 := blk_below HX14.out hb4
        have hXB := blk_below HXB.out hb4
        have hS := Kd.R_below HS.out hb4
        have hR0 := Kd.R_below HR0.out hb4
        have hR1 := Kd.R_below HR1.out hb4
        have hB := below_step HB.out hb4
        obtain ⟨W4, hW4⟩ : ∃ W4, w3.setRow g18 #[.bool true, .int .i64 (lv : Int), (.slice Ap (planParts s true).length cp)] = W4 := ⟨_, rfl⟩
        rw [hW4] at hX18 hP hX8 hX13 hX14 hXB hS hR0 hR1 hB ⊢
        have n1 := N1314.out
        have n2 := NB13.out
        have n3 := NB14.out
        have n4 := N813.out
        have n5 := N814.out
        have hc133 : W4.cell? ⟨g13, 3, none⟩ = some (.bool c1_.f) := (blk_cell hX13 3).trans rfl
        have hf133 := blk_frozen hX13 3
        have hc134 : W4.cell? ⟨g13, 4, none⟩ = some (.int .i64 c1_.o) := (blk_cell hX13 4).trans rfl
        have hf134 := blk_frozen hX13 4
        have hc135 : W4.cell? ⟨g13, 5, none⟩ = some (v1_) := (blk_cell hX13 5).trans rfl
        have hf135 := blk_frozen hX13 5
        have hc14 : W4.cell? ⟨g14, 1, none⟩ = some (.int .i64 c1_.n) := (blk_cell hX14 1).trans rfl
        have hf14 := blk_frozen hX14 1
        have hc180 : W4.cell? ⟨g18, 0, none⟩ = some (.bool true) := (blk_cell hX18 0).trans rfl
        have hc181 : W4.cell? ⟨g18, 1, none⟩ = some (.int .i64 (lv : Int)) := (blk_cell hX18 1).trans rfl
        have hc182 : W4.cell? ⟨g18, 2, none⟩ = some (.slice Ap (planParts s true).length cp) := (blk_cell hX18 2).trans rfl
        clear X18 HP G18 HCALL B2 B3 HX8 HX13 HX14 HXB HS HR0 HR1 HB hW4 hb4 zb zb2 hg18 z8 z13 z14 zB l18
        have HX18 := Aside0.mk hX18
        have HP := Aside0.mk hP
        have HX8 := Aside0.mk hX8
        have HX13 := Aside0.mk hX13
        have HX14 := Aside0.mk hX14
        have HXB := Aside0.mk hXB
        have HS := Aside0.mk hS
        have HR0 := Aside0.mk hR0
        have HR1 := Aside0.mk hR1
        have HB := Aside0.mk hB
        clear hX18 hP hX8 hX13 hX14 hXB hS hR0 hR1 hB
        have hdec : (fst_ = true ∨ nP ≤ c1_.n) ∨ (fst_ = false ∧ ¬ nP ≤ c1_.n) := by
          cases fst_ with
          | true => exact Or.inl (Or.inl rfl)
          | false => by_cases hq : nP ≤ c1_.n; exact Or.inl (Or.inr hq); exact Or.inr ⟨rfl, hq⟩
        rcases hdec with hT | ⟨rfl, hT⟩
        · have HT_ := Aside0.mk hT
          have hTT : fst_ = true ∨ (fst_ = false ∧ nP ≤ c1_.n) := by
            cases fst_ with
            | true => exact Or.inl rfl
            | false => exact Or.inr ⟨rfl, hT.resolve_left (by decide)⟩
          clear hT
          rcases hTT with rfl | ⟨rfl, hle⟩
          · go_wp2
            go_roundg 0
            case measure => have := HK.out; omega
            case rel =>
              have hT := HT_.out
              clear hc180 hc181 hc182
              have tX8 := blk_far (blk_far (blk_far (blk_far HX8.out N813.out (p := ⟨g13, 3, none⟩) (.bool true)) N813.out (p := ⟨g13, 4, none⟩) (.int .i64 (lv : Int))) N813.out (p := ⟨g13, 5, none⟩) (.slice Ap (planParts s true).length cp)) N814.out (p := ⟨g14, 1, none⟩) (.int .i64 nP)
              have tXB := blk_far (blk_far (blk_far (blk_far HXB.out NB13.out (p := ⟨g13, 3, none⟩) (.bool true)) NB13.out (p := ⟨g13, 4, none⟩) (.int .i64 (lv : Int))) NB13.out (p := ⟨g13, 5, none⟩) (.slice Ap (planParts s true).length cp)) NB14.out (p := ⟨g14, 1, none⟩) (.int .i64 nP)
              have tX13 := blk_far (blk_set (blk_set (blk_set HX13.out 3 (.bool true)) 4 (.int .i64 (lv : Int))) 5 (.slice Ap (planParts s true).length cp)) N1314.out (p := ⟨g14, 1, none⟩) (.int .i64 nP)
              have tX14 := blk_set (blk_far (blk_far (blk_far HX14.out (Ne.symm N1314.out) (p := ⟨g13, 3, none⟩) (.bool true)) (Ne.symm N1314.out) (p := ⟨g13, 4, none⟩) (.int .i64 (lv : Int))) (Ne.symm N1314.out) (p := ⟨g13, 5, none⟩) (.slice Ap (planParts s true).length cp)) 1 (.int .i64 nP)
              have tS := R_put4 HS.out HX13.out HX14.out (Ne.symm N1314.out) (by decide) (by decide) 3 4 5 1 (.bool true) (.int .i64 (lv : Int)) (.slice Ap (planParts s true).length cp) (.int .i64 nP)
              have tP := R_put4 HP.out HX13.out HX14.out (Ne.symm N1314.out) (by decide) (by decide) 3 4 5 1 (.bool true) (.int .i64 (lv : Int)) (.slice Ap (planParts s true).length cp) (.int .i64 nP)
              have tR := R_put4 HR0.out HX13.out HX14.out (Ne.symm N1314.out) (by decide) (by decide) 3 4 5 1 (.bool true) (.int .i64 (lv : Int)) (.slice Ap (planParts s true).length cp) (.int .i64 nP)
              have tB := below_put4 HB.out L13.out L14.out 3 4 5 1 (.bool true) (.int .i64 (lv : Int)) (.slice Ap (planParts s true).length cp) (.int .i64 nP)
              have hst : stepCur true true c1 (lv, s) = ⟨true, (lv : Int), planParts s true, nP⟩ := by
                have hcc : c1_ = c1 := HD1.out
                rw [← hcc, stepCur, if_pos (by first | exact Or.inl rfl | (rw [← HNP.out] at hT; exact hT)), mkCur, HNP.out]
              exact ⟨2, c0_, ⟨true, (lv : Int), planParts s true, nP⟩, v0_, (.slice Ap (planParts s true).length cp), rfl, ⟨rfl⟩, ⟨HD0.out⟩, ⟨hst.symm⟩, ⟨tX8⟩, ⟨tX13⟩, ⟨tX14⟩, ⟨tXB⟩, ⟨tS⟩, ⟨tR⟩, ⟨tP⟩, ⟨tB⟩⟩
          · have hdd : decide (nP ≤ c1_.n) = true := decide_eq_true hle
            clear hle
            go_wp2
            go_roundg 0
            case measure => have := HK.out; omega
            case rel =>
              have hT := HT_.out
              clear hc180 hc181 hc182
              have tX8 := blk_far (blk_far (blk_far (blk_far HX8.out N813.out (p := ⟨g13, 3, none⟩) (.bool true)) N813.out (p := ⟨g13, 4, none⟩) (.int .i64 (lv : Int))) N813.out (p := ⟨g13, 5, none⟩) (.slice Ap (planParts s true).length cp)) N814.out (p := ⟨g14, 1, none⟩) (.int .i64 nP)
              have tXB := blk_far (blk_far (blk_far (blk_far HXB.out NB13.out (p := ⟨g13, 3, none⟩) (.bool true)) NB13.out (p := ⟨g13, 4, none⟩) (.int .i64 (lv : Int))) NB13.out (p := ⟨g13, 5, none⟩) (.slice Ap (planParts s true).length cp)) NB14.out (p := ⟨g14, 1, none⟩) (.int .i64 nP)
              have tX13 := blk_far (blk_set (blk_set (blk_set HX13.out 3 (.bool true)) 4 (.int .i64 (lv : Int))) 5 (.slice Ap (planParts s true).length cp)) N1314.out (p := ⟨g14, 1, none⟩) (.int .i64 nP)
              have tX14 := blk_set (blk_far (blk_far (blk_far HX14.out (Ne.symm N1314.out) (p := ⟨g13, 3, none⟩) (.bool true)) (Ne.symm N1314.out) (p := ⟨g13, 4, none⟩) (.int .i64 (lv : Int))) (Ne.symm N1314.out) (p := ⟨g13, 5, none⟩) (.slice Ap (planParts s true).length cp)) 1 (.int .i64 nP)
              have tS := R_put4 HS.out HX13.out HX14.out (Ne.symm N1314.out) (by decide) (by decide) 3 4 5 1 (.bool true) (.int .i64 (lv : Int)) (.slice Ap (planParts s true).length cp) (.int .i64 nP)
              have tP := R_put4 HP.out HX13.out HX14.out (Ne.symm N1314.out) (by decide) (by decide) 3 4 5 1 (.bool true) (.int .i64 (lv : Int)) (.slice Ap (planParts s true).length cp) (.int .i64 nP)
              have tR := R_put4 HR0.out HX13.out HX14.out (Ne.symm N1314.out) (by decide) (by decide) 3 4 5 1 (.bool true) (.int .i64 (lv : Int)) (.slice Ap (planParts s true).length cp) (.int .i64 nP)
              have tB := below_put4 HB.out L13.out L14.out 3 4 5 1 (.bool true) (.int .i64 (lv : Int)) (.slice Ap (planParts s true).length cp) (.int .i64 nP)
              have hst : stepCur false true c1 (lv, s) = ⟨true, (lv : Int), planParts s true, nP⟩ := by
                have hcc : c1_ = c1 := HD1.out
                rw [← hcc, stepCur, if_pos (by first | exact Or.inl rfl | (rw [← HNP.out] at hT; exact hT)), mkCur, HNP.out]
              exact ⟨2, c0_, ⟨true, (lv : Int), planParts s true, nP⟩, v0_, (.slice Ap (planParts s true).length cp), rfl, ⟨rfl⟩, ⟨HD0.out⟩, ⟨hst.symm⟩, ⟨tX8⟩, ⟨tX13⟩, ⟨tX14⟩, ⟨tXB⟩, ⟨tS⟩, ⟨tR⟩, ⟨tP⟩, ⟨tB⟩⟩
        · have hdd : decide (nP ≤ c1_.n) = false := decide_eq_false hT
          have HT_ := Aside0.mk hT
          clear hT
          go_wp2
          go_roundg 0
          case measure => have := HK.out; omega
          case rel =>
            have hT := HT_.out
            have hst : stepCur false true c1 (lv, s) = c1_ := by
              have hcc : c1_ = c1 := HD1.out
              rw [← hcc, stepCur, if_neg (by rw [HNP.out]; rintro (h_ | h_); exact absurd h_ (by decide); first | exact hT h_ | exact absurd h_ (Int.not_le.2 hT))]
            exact ⟨2, c0_, c1_, v0_, v1_, rfl, ⟨rfl⟩, ⟨HD0.out⟩, ⟨hst.symm⟩, HX8, HX13, HX14, HXB, HS, HR0, HR1, HB⟩
      case inr.inr =>
        have hf0 : finCur fst_ false c0 (levels lv s) = finCur false false c0_ (levels lv s).tail := by
          rw [HD0.out]; cases lv <;> rfl
        have hf1 : finCur fst_ true c1 (levels lv s) = finCur false true c1_ (levels lv s).tail := by
          rw [HD1.out]; cases lv <;> rfl
        have HF0 := Aside0.mk (hf0.symm.trans HF0.out)
        have HF1 := Aside0.mk (hf1.symm.trans HF1.out)
        clear hf0 hf1 HD0 HD1
        have hc130 : wr.cell? ⟨g13, 0, none⟩ = some (.bool c0_.f) := (blk_cell HX13.out 0).trans rfl
        have hc131 : wr.cell? ⟨g13, 1, none⟩ = some (.int .i64 c0_.o) := (blk_cell HX13.out 1).trans rfl
        have hc132 : wr.cell? ⟨g13, 2, none⟩ = some v0_ := (blk_cell HX13.out 2).trans rfl
        have hc133 : wr.cell? ⟨g13, 3, none⟩ = some (.bool c1_.f) := (blk_cell HX13.out 3).trans rfl
        have hc134 : wr.cell? ⟨g13, 4, none⟩ = some (.int .i64 c1_.o) := (blk_cell HX13.out 4).trans rfl
        have hc135 : wr.cell? ⟨g13, 5, none⟩ = some v1_ := (blk_cell HX13.out 5).trans rfl
        have hc140 : wr.cell? ⟨g14, 0, none⟩ = some (.int .i64 c0_.n) := (blk_cell HX14.out 0).trans rfl
        have hc141 : wr.cell? ⟨g14, 1, none⟩ = some (.int .i64 c1_.n) := (blk_cell HX14.out 1).trans rfl
        obtain ⟨Aa, ca, rfl⟩ := Kd.R_slice HR0.out
        obtain ⟨Ab, cb, rfl⟩ := Kd.R_slice HR1.out
        clear HXB NB8 NB13 NB14
        cases lv with
        | zero =>
          have hz : decide ((0 : Int) < ((0 : Nat) : Int)) = false := by decide
          have hz2 : ((0 : Nat) : Int) = 0 := rfl
          have hE0 : c0_ = finCur true false zCur (levels o (sumsOf wf (cutsF o) l)) := HF0.out
          have hE1 : c1_ = finCur true true zCur (levels o (sumsOf wf (cutsF o) l)) := HF1.out
          have hbc : bestCur wide o (sumsOf wf (cutsF o) l) = if wide = true ∧ c1_.n < c0_.n then c1_ else c0_ := by rw [bestCur, ← hE0, ← hE1]
          rw [HBC.out] at hbc
          clear HBC
          have HBC := Aside0.mk hbc
          have hc80 : wr.cell? ⟨g8, 0, none⟩ = some (.bool false) := (blk_cell HX8.out 0).trans rfl
          have hc81 : wr.cell? ⟨g8, 1, none⟩ = some (.int .i64 0) := (blk_cell HX8.out 1).trans rfl
          have hc82 : wr.cell? ⟨g8, 2, none⟩ = some (.slice none 0 0) := (blk_cell HX8.out 2).trans rfl
          have n4 := N813.out
          have n5 := N814.out
          have n4s := n4.symm
          have n5s := n5.symm
          have hf80 := blk_frozen HX8.out 0
          have hf81 := blk_frozen HX8.out 1
          have hf82 := blk_frozen HX8.out 2
          clear hE0 hE1 hbc HF0 HF1 HEVs HLV HSl HR HCc hJ_ hK_
          go_upto_region 27 with (fail)
          have hdec : (wide = true ∧ c1_.n < c0_.n) ∨ (wide = true ∧ ¬ c1_.n < c0_.n) ∨ wide = false := by
            cases wide with
            | false => exact Or.inr (Or.inr rfl)
            | true => by_cases hq : c1_.n < c0_.n; exact Or.inl ⟨rfl, hq⟩; exact Or.inr (Or.inl ⟨rfl, hq⟩)
          rcases hdec with ⟨rfl, hq⟩ | ⟨rfl, hq⟩ | rfl
          · have hdd : decide (c1_.n < c0_.n) = true := decide_eq_true hq
            have hE : bc = c1_ := by rw [HBC.out, if_pos ⟨rfl, hq⟩]
            subst hE
            clear hq HBC
            have hB9 : Below w.heap.size w ((((wr.setCell ⟨g8, 0, none⟩ (.bool bc.f)).setCell ⟨g8, 1, none⟩ (.int .i64 bc.o)).setCell ⟨g8, 2, none⟩ (.slice Ab bc.ps.length cb)).drew) := below_drew1 (((HB.out.setCell L8.out _).setCell L8.out _).setCell L8.out _)
            have hX9 : (((wr.setCell ⟨g8, 0, none⟩ (.bool bc.f)).setCell ⟨g8, 1, none⟩ (.int .i64 bc.o)).setCell ⟨g8, 2, none⟩ (.slice Ab bc.ps.length cb)).drew.heap[g8]? = some (.cells #[.bool bc.f, .int .i64 bc.o, .slice Ab bc.ps.length cb] 26 (0, 0)) := blk_drew (blk_set (blk_set (blk_set HX8.out 0 (.bool bc.f)) 1 (.int .i64 bc.o)) 2 (.slice Ab bc.ps.length cb))
            have hR9 := Kd.R_set (Kd.R_set (Kd.R_set HR1.out HX8.out (by decide) 0 (.bool bc.f)) (blk_set HX8.out 0 (.bool bc.f)) (by decide) 1 (.int .i64 bc.o)) (blk_set (blk_set HX8.out 0 (.bool bc.f)) 1 (.int .i64 bc.o)) (by decide) 2 (.slice Ab bc.ps.length cb)
            have HB9 := Aside0.mk hB9
            have HX9 := Aside0.mk hX9
            have HR9 := Aside0.mk hR9
            clear hB9 hX9 hR9
            go_wp2
            go_region
            go_wp2
            (try simp only [Exit.jump])
            refine bodyPost_ret (results_cell_row_tmp2 rfl _ _ g8 26 _ _ _ rfl HX9.out Try.underlying26 rfl sz26) rfl ?_
            exact ⟨_, rfl, Kd.R_drew HR9.out, HB9.out⟩
          · have hdd : decide (c1_.n < c0_.n) = false := decide_eq_false hq
            have hE : bc = c0_ := by rw [HBC.out, if_neg (fun h_ => hq h_.2)]
            subst hE
            clear hq HBC
            have hB9 : Below w.heap.size w ((((wr.setCell ⟨g8, 0, none⟩ (.bool bc.f)).setCell ⟨g8, 1, none⟩ (.int .i64 bc.o)).setCell ⟨g8, 2, none⟩ (.slice Aa bc.ps.length ca)).drew) := below_drew1 (((HB.out.setCell L8.out _).setCell L8.out _).setCell L8.out _)
            have hX9 : (((wr.setCell ⟨g8, 0, none⟩ (.bool bc.f)).setCell ⟨g8, 1, none⟩ (.int .i64 bc.o)).setCell ⟨g8, 2, none⟩ (.slice Aa bc.ps.length ca)).drew.heap[g8]? = some (.cells #[.bool bc.f, .int .i64 bc.o, .slice Aa bc.ps.length ca] 26 (0, 0)) := blk_drew (blk_set (blk_set (blk_set HX8.out 0 (.bool bc.f)) 1 (.int .i64 bc.o)) 2 (.slice Aa bc.ps.length ca))
            have hR9 := Kd.R_set (Kd.R_set (Kd.R_set HR0.out HX8.out (by decide) 0 (.bool bc.f)) (blk_set HX8.out 0 (.bool bc.f)) (by decide) 1 (.int .i64 bc.o)) (blk_set (blk_set HX8.out 0 (.bool bc.f)) 1 (.int .i64 bc.o)) (by decide) 2 (.slice Aa bc.ps.length ca)
            have HB9 := Aside0.mk hB9
            have HX9 := Aside0.mk hX9
            have HR9 := Aside0.mk hR9
            clear hB9 hX9 hR9
            go_wp2
            go_region
            go_wp2
            (try simp only [Exit.jump])
            refine bodyPost_ret (results_cell_row_tmp2 rfl _ _ g8 26 _ _ _ rfl HX9.out Try.underlying26 rfl sz26) rfl ?_
            exact ⟨_, rfl, Kd.R_drew HR9.out, HB9.out⟩
          · have hE : bc = c0_ := by rw [HBC.out, if_neg (fun h_ => absurd h_.1 (by decide))]
            subst hE
            clear HBC
            have hB9 : Below w.heap.size w ((((wr.setCell ⟨g8, 0, none⟩ (.bool bc.f)).setCell ⟨g8, 1, none⟩ (.int .i64 bc.o)).setCell ⟨g8, 2, none⟩ (.slice Aa bc.ps.length ca)).drew) := below_drew1 (((HB.out.setCell L8.out _).setCell L8.out _).setCell L8.out _)
            have hX9 : (((wr.setCell ⟨g8, 0, none⟩ (.bool bc.f)).setCell ⟨g8, 1, none⟩ (.int .i64 bc.o)).setCell ⟨g8, 2, none⟩ (.slice Aa bc.ps.length ca)).drew.heap[g8]? = some (.cells #[.bool bc.f, .int .i64 bc.o, .slice Aa bc.ps.length ca] 26 (0, 0)) := blk_drew (blk_set (blk_set (blk_set HX8.out 0 (.bool bc.f)) 1 (.int .i64 bc.o)) 2 (.slice Aa bc.ps.length ca))
            have hR9 := Kd.R_set (Kd.R_set (Kd.R_set HR0.out HX8.out (by decide) 0 (.bool bc.f)) (blk_set HX8.out 0 (.bool bc.f)) (by decide) 1 (.int .i64 bc.o)) (blk_set (blk_set HX8.out 0 (.bool bc.f)) 1 (.int .i64 bc.o)) (by decide) 2 (.slice Aa bc.ps.length ca)
            have HB9 := Aside0.mk hB9
            have HX9 := Aside0.mk hX9
            have HR9 := Aside0.mk hR9
            clear hB9 hX9 hR9
            go_wp2
            go_region
            go_wp2
            (try simp only [Exit.jump])
            refine bodyPost_ret (results_cell_row_tmp2 rfl _ _ g8 26 _ _ _ rfl HX9.out Try.underlying26 rfl sz26) rfl ?_
            exact ⟨_, rfl, Kd.R_drew HR9.out, HB9.out⟩
        | succ lv =>
          have hz : decide ((0 : Int) < ((lv + 1 : Nat) : Int)) = true := decide_eq_true (by omega)
          have hev := HEVs.out
          obtain ⟨hev1, hev2⟩ := hev
          obtain ⟨n2, hn2⟩ : ∃ n2, s.length = 2 * n2 := ⟨s.length / 2, by omega⟩
          have HN2 := Aside0.mk hn2
          have HEV2 := Aside0.mk hev2
          have HSl2 := HSl.out
          obtain ⟨W2, hW2⟩ : ∃ W2, W2 = wr := ⟨wr, rfl⟩
          subst hW2
          have HO := Aside0.mk (Kd.R_nil kS 55 W2 W2.heap.size (fun _ => True))
          have HBW := Aside0.mk (Below.refl W2.heap.size W2)
          clear hev1 hev2 hn2 hc130 hc131 hc132 hc133 hc134 hc135 hc140 hc141 HBC HSl2
          go_upto_region 22 with (fail)
          go_loopg [20, 21] n2 (fun kq v20 v21 w' => ∃ (j : Nat) (acc : List Sm), v21 = .int .i64 (2 * (j : Int)) ∧ Aside0 (j + kq = n2) ∧ Aside0 (acc ++ pairUp (s.drop (2 * j)) = pairUp s) ∧ Aside0 (acc.length = j) ∧ Aside0 (Kd.R kS 55 w' W2.heap.size (fun _ => True) v20 acc) ∧ Aside0 (Below W2.heap.size W2 w'))
          case atStart => exact ⟨0, [], rfl, ⟨by omega⟩, ⟨rfl⟩, ⟨rfl⟩, HO, HBW⟩
          case round =>
            clear HO HBW
            obtain ⟨j, acc, rfl, HK, HAcc, HAl, HO, HBW⟩ := hrel
            by_cases hj : j < n2
            · have hq : decide (2 * (j : Int) < (s.length : Int)) = true := decide_eq_true (by have := HN2.out; omega)
              have HJ := Aside0.mk hj
              clear hj
              have hn2_ := HN2.out
              have hj_ := HJ.out
              have hsl_ := HSl.out
              obtain ⟨ad, hA, h31a, hca⟩ := kS_at (Kd.C_below (kS_reads HS.out).2.2 HBW.out) (2 * j) (by omega)
              obtain ⟨ad2, hA2, h31b, hcb⟩ := kS_at (Kd.C_below (kS_reads HS.out).2.2 HBW.out) (2 * j + 1) (by omega)
              subst hA
              obtain rfl : ad = ad2 := Option.some.inj hA2
              clear hA2
              obtain ⟨sA, hsA⟩ : ∃ sA, s.getD (2 * j) zSm = sA := ⟨_, rfl⟩
              obtain ⟨sB, hsB⟩ : ∃ sB, s.getD (2 * j + 1) zSm = sB := ⟨_, rfl⟩
              rw [hsA] at h31a hca
              rw [hsB] at h31b hcb
              have HsA := Aside0.mk hsA
              have HsB := Aside0.mk hsB
              have H31a := Aside0.mk h31a
              have H31b := Aside0.mk h31b
              have HCa := Aside0.mk (show ∀ j_ u_, sA.c[j_]? = some u_ → wr.drew.cell? ((ad.add (2 * j * 33)).add j_) = some u_ from fun j_ u_ h_ => by rw [Addr.add_add]; exact hca j_ u_ h_)
              have HCb := Aside0.mk (show ∀ j_ u_, sB.c[j_]? = some u_ → wr.drew.cell? ((ad.add ((2 * j + 1) * 33)).add j_) = some u_ from fun j_ u_ h_ => by rw [Addr.add_add]; exact hcb j_ u_ h_)
              have hw1 : wrap64 (2 * (j : Int) + 1) = 2 * (j : Int) + 1 := by unfold wrap64; omega
              have hk0 : (2 * (j : Int) < (s.length : Int)) = True := eq_true (by omega)
              have hk1 : (0 ≤ 2 * (j : Int)) = True := eq_true (by omega)
              have hk2 : (0 ≤ 2 * (j : Int) + 1) = True := eq_true (by omega)
              have hk3 : (2 * (j : Int) + 1 < (s.length : Int)) = True := eq_true (by omega)
              have ht1 : (2 * (j : Int)).toNat = 2 * j := by omega
              have ht2 : (2 * (j : Int) + 1).toNat = 2 * j + 1 := by omega
              clear hsA hsB h31a h31b hca hcb hn2_ hj_ hsl_
              go_upto_region 24 with (fail)
              refine start_ (n := 14) (S := fun w' => (∀ j_ u_, sA.c[j_]? = some u_ → w'.cell? ((ad.add (2 * j * 33)).add j_) = some u_) ∧ (∀ j_ u_, sB.c[j_]? = some u_ → w'.cell? ((ad.add ((2 * j + 1) * 33)).add j_) = some u_)) (ds := [10, 11, 12]) #[false, false, false, false, false, false, false, false, false, false, false, false, false, false] (by kernel_rfl) rfl rfl ⟨HCa.out, HCb.out⟩ (fun hHeld => ?_)
              refine pure_ (i := 0) (N := some 92) (v := ?_) (a' := ?_) #[true, false, false, false, false, false, false, false, false, false, false, false, false, false] rfl rfl (by kernel_rfl) (fun _ _ _ h => h) (Or.inl ⟨by rfl, ?_⟩) ?_ ?_
              rotate_left
              · intro w'
                go_simp
                with_reducible rfl
              rotate_left
              · simp only [Act.put, List.setIfInBounds_toArray, List.set_cons_zero, List.set_cons_succ, i64_w, i32_w]
                rfl
              refine pure_ (i := 1) (N := some 93) (v := ?_) (a' := ?_) #[true, true, false, false, false, false, false, false, false, false, false, false, false, false] rfl rfl (by kernel_rfl) (fun _ _ _ h => h) (Or.inl ⟨by rfl, ?_⟩) ?_ ?_
              rotate_left
              · intro w'
                go_simp
                with_reducible rfl
              rotate_left
              · simp only [Act.put, List.setIfInBounds_toArray, List.set_cons_zero, List.set_cons_succ, i64_w, i32_w]
                rfl
              refine pure_ (i := 2) (N := some 94) (v := ?_) (a' := ?_) #[true, true, true, false, false, false, false, false, false, false, false, false, false, false] rfl rfl (by kernel_rfl) (fun _ _ _ h => h) (Or.inl ⟨by rfl, ?_⟩) ?_ ?_
              rotate_left
              · intro w'
                go_simp
                with_reducible rfl
              rotate_left
              · simp only [Act.put, List.setIfInBounds_toArray, List.set_cons_zero, List.set_cons_succ, i64_w, i32_w]
                rfl
              refine pure_ (i := 5) (N := some 97) (v := ?_) (a' := ?_) #[true, true, true, false, false, true, false, false, false, false, false, false, false, false] rfl rfl (by kernel_rfl) (fun _ _ _ h => h) (Or.inl ⟨by rfl, ?_⟩) ?_ ?_
              rotate_left
              · intro w'
                go_simp
                with_reducible rfl
              rotate_left
              · simp only [Act.put, List.setIfInBounds_toArray, List.set_cons_zero, List.set_cons_succ, i64_w, i32_w]
                rfl
              refine pure_ (i := 6) (N := some 98) (v := ?_) (a' := ?_) #[true, true, true, false, false, true, true, false, false, false, false, false, false, false] rfl rfl (by kernel_rfl) (fun _ _ _ h => h) (Or.inl ⟨by rfl, ?_⟩) ?_ ?_
              rotate_left
              · intro w'
                go_simp
                with_reducible rfl
              rotate_left
              · simp only [Act.put, List.setIfInBounds_toArray, List.set_cons_zero, List.set_cons_succ, i64_w, i32_w]
                rfl
              refine pure_ (i := 7) (N := some 99) (v := ?_) (a' := ?_) #[true, true, true, false, false, true, true, true, false, false, false, false, false, false] rfl rfl (by kernel_rfl) (fun _ _ _ h => h) (Or.inl ⟨by rfl, ?_⟩) ?_ ?_
              rotate_left
              · intro w'
                go_simp
                with_reducible rfl
              rotate_left
              · simp only [Act.put, List.setIfInBounds_toArray, List.set_cons_zero, List.set_cons_succ, i64_w, i32_w]
                rfl
              refine pure_ (i := 3) (N := some 95) (v := ?_) (a' := ?_) #[true, true, true, true, false, true, true, true, false, false, false, false, false, false] rfl rfl (by kernel_rfl) (fun _ _ _ h => h) (Or.inl ⟨by rfl, ?_⟩) ?_ ?_
              rotate_left
              · intro w'
                go_simp
                with_reducible rfl
              rotate_left
              · simp only [Act.put, List.setIfInBounds_toArray, List.set_cons_zero, List.set_cons_succ, i64_w, i32_w]
                rfl
              refine pure_ (i := 8) (N := some 100) (v := ?_) (a' := ?_) #[true, true, true, true, false, true, true, true, true, false, false, false, false, false] rfl rfl (by kernel_rfl) (fun _ _ _ h => h) (Or.inl ⟨by rfl, ?_⟩) ?_ ?_
              rotate_left
              · intro w'
                go_simp
                with_reducible rfl
              rotate_left
              · simp only [Act.put, List.setIfInBounds_toArray, List.set_cons_zero, List.set_cons_succ, i64_w, i32_w]
                rfl
              refine take_ (i := 4) (N := some 96) (v := .agg (iA (sumL sA.n sA.ys sA.wd))) (a' := ?aa4) #[true, true, true, true, true, true, true, true, true, false, false, false, false, false] rfl rfl (by kernel_rfl) (fun _ _ _ h => h) (Or.inl ⟨by rfl, ?yy4⟩) hHeld ?ha4 ?hh4
              case yy4 =>
                rintro w' ⟨s0, s1⟩
                apply load_at_yields (ty := 55) (N := none) (cs := sA.c) (C := iA (sumL sA.n sA.ys sA.wd)) (hC := rfl) (hc := s0) (hu := Try.underlying55)
                · rfl
                · rfl
                · rfl
                · rw [Sm.c_len H31a.out]; exact sz55
              case ha4 =>
                simp only [Act.put, List.setIfInBounds_toArray, List.set_cons_zero, List.set_cons_succ, i64_w, i32_w]
                rfl
              refine take_ (i := 9) (N := some 101) (v := .agg (iA (sumL sB.n sB.ys sB.wd))) (a' := ?aa9) #[true, true, true, true, true, true, true, true, true, true, false, false, false, false] rfl rfl (by kernel_rfl) (fun _ _ _ h => h) (Or.inl ⟨by rfl, ?yy9⟩) hHeld ?ha9 ?hh9
              case yy9 =>
                rintro w' ⟨s0, s1⟩
                apply load_at_yields (ty := 55) (N := none) (cs := sB.c) (C := iA (sumL sB.n sB.ys sB.wd)) (hC := rfl) (hc := s1) (hu := Try.underlying55)
                · rfl
                · rfl
                · rfl
                · rw [Sm.c_len H31b.out]; exact sz55
              case ha9 =>
                simp only [Act.put, List.setIfInBounds_toArray, List.set_cons_zero, List.set_cons_succ, i64_w, i32_w]
                rfl
              refine last_ (i := 10) (N := some 102) #[true, true, true, true, true, true, true, true, true, true, true, false, false, false] rfl rfl (by kernel_rfl) (by decide) (fun K hK => ?_)
              refine goes_ Try.func19 (by kernel_rfl) rfl #[.agg (iA (sumL sA.n sA.ys sA.wd)), .agg (iA (sumL sB.n sB.ys sB.wd))] (by rfl) rfl rfl (by first | rfl | ((try simp only [List.map_toArray, List.map_cons, List.map_nil]); rfl)) ?_
              refine (parts_with.calls sA.n sA.wd sB.n sB.wd sA.ys sB.ys H31a.out H31b.out _).mono ?_
              rintro e w5 ⟨rfl, hb5⟩
              refine ⟨_, rfl, ?_⟩
              have hBW5 := below_step (below_drew1 HBW.out) hb5
              have hO5 := Kd.R_below (Kd.R_drew HO.out) hb5
              have hsS : (.agg (iA (sumL (wrap64 (sA.n + sB.n)) (zAt sA.ys sB.ys 31) (mx sA.wd sB.wd))) : Value) = .agg (iA (sumL (withS sA sB).n (withS sA sB).ys (withS sA sB).wd)) := rfl
              rw [hsS]
              have hs31 : (withS sA sB).ys.length = 31 := zAt_len _ _ _
              obtain ⟨sC, hsC⟩ : ∃ sC, withS sA sB = sC := ⟨_, rfl⟩
              rw [hsC] at hs31 ⊢
              have H31c := Aside0.mk hs31
              have HSC := Aside0.mk hsC
              have HBW5 := Aside0.mk hBW5
              have HO5 := Aside0.mk hO5
              clear hBW5 hO5 hsS hs31 hsC hb5
              refine hK.out _ _ ?_
              clear hK K
              refine norm_ (a' := ?_) ?_ ?_
              rotate_left
              · show Act.put _ (some 102) _ = _
                simp only [Act.put, List.setIfInBounds_toArray, List.set_cons_zero, List.set_cons_succ, i64_w, i32_w]
                rfl
              refine last_ (i := 11) (N := some 103) #[true, true, true, true, true, true, true, true, true, true, true, true, false, false] rfl rfl (by kernel_rfl) (by decide) (fun K hK => ?_)
              refine event_step (v := .slice (some ⟨w5.heap.size, 0, none⟩) 1 1) (w1 := w5.alloc (.cells sC.c.toArray 55)) (by rfl) ?hrun ?_
              case hrun =>
                have hsz : (iA (sumL sC.n sC.ys sC.wd)).size = 33 := by rw [iA_size]; simp [sumL, H31c.out]
                go_simp
                rw [fold_zip (iA (sumL sC.n sC.ys sC.wd)) _ _ (by rw [hsz]; rfl) (by first | rfl | exact hsz.symm)]
                rfl
              refine hK.out _ _ ?_
              clear hK K
              refine norm_ (a' := ?_) ?_ ?_
              rotate_left
              · show Act.put _ (some 103) _ = _
                simp only [Act.put, List.setIfInBounds_toArray, List.set_cons_zero, List.set_cons_succ, i64_w, i32_w]
                rfl
              refine last_ (i := 12) (N := some 104) #[true, true, true, true, true, true, true, true, true, true, true, true, true, false] rfl rfl (by kernel_rfl) (by decide) (fun K hK => ?_)
              refine Kd.R_append_step kS (w0 := W2) W2.heap.size (by rfl) (.tmp 92) (.tmp 103) 45 55 (.agg (iA (sumL 0 zs31 0))) 264 rfl Try.underlying45 info55 rfl (by decide) (by omega) u20 acc sC sC.c (fun _ => True) (fun _ => False) rfl rfl ⟨rfl, H31c.out⟩ (fun _ hk => hk.elim) (fun _ _ => trivial) HO5.out HBW5.out (below_size HBW5.out) (by have := HJ.out; have := HAl.out; have := HN2.out; have := HSl.out; omega) ?_
              intro v9 w9 ho hb hg hat
              have HO9 := Aside0.mk ho
              have HB9 := Aside0.mk hb
              clear ho hb hg hat
              refine hK.out _ _ ?_
              clear hK K
              refine norm_ (a' := ?_) ?_ ?_
              rotate_left
              · show Act.put _ (some 104) _ = _
                simp only [Act.put, List.setIfInBounds_toArray, List.set_cons_zero, List.set_cons_succ, i64_w, i32_w]
                rfl
              refine pure_ (i := 13) (N := some 20) (v := ?_) (a' := ?_) #[true, true, true, true, true, true, true, true, true, true, true, true, true, true] rfl rfl (by kernel_rfl) (fun _ _ _ h => h) (Or.inl ⟨by rfl, ?_⟩) ?_ ?_
              rotate_left
              · intro w'
                go_simp
                with_reducible rfl
              rotate_left
              · simp only [Act.put, List.setIfInBounds_toArray, List.set_cons_zero, List.set_cons_succ, i64_w, i32_w]
                rfl
              refine done_ (by kernel_rfl) ?_
              have hj_ := HJ.out
              have hn_ := HN2.out
              have hs_ := HSl.out
              have hw2 : wrap64 (2 * (j : Int) + 2) = 2 * (j : Int) + 2 := by unfold wrap64; omega
              clear hj_ hn_ hs_
              go_wp2
              go_roundg (n2 - (j + 1))
              case measure => have := HK.out; have := HJ.out; omega
              case rel =>
                have hO := HO9.out
                have hd := pairUp_drop (s := s) (j := j) (by have := HJ.out; have := HN2.out; omega)
                rw [HsA.out, HsB.out, HSC.out] at hd
                have ha : (acc ++ [sC]) ++ pairUp (s.drop (2 * (j + 1))) = pairUp s := by rw [← HAcc.out, hd, List.append_assoc]; first | done | rfl
                exact ⟨j + 1, acc ++ [sC], by first | rfl | omega | (congr 1; try omega), ⟨by have := HK.out; have := HJ.out; omega⟩, ⟨ha⟩, ⟨by simp [HAl.out]⟩, ⟨hO⟩, HB9⟩
            · have hq : decide (2 * (j : Int) < (s.length : Int)) = false := decide_eq_false (by have := HN2.out; omega)
              have hwl : wrap64 (lv : Int) = (lv : Int) := by have := HLV.out; unfold wrap64; omega
              obtain rfl : j = n2 := by have := HK.out; omega
              have ha : acc = pairUp s := by have h_ := HAcc.out; rw [List.drop_of_length_le (by have := HN2.out; omega)] at h_; simpa [pairUp] using h_
              have hlen2 : (pairUp s).length = j := pairUp_len j s HN2.out
              have HA := Aside0.mk ha
              have HL2 := Aside0.mk hlen2
              clear ha hlen2
              go_wp2
              go_step3
              rw [hwl]
              refine ⟨rfl, hK_ _ _ ?_⟩
              go_roundg lv
              case measure => omega
              case rel =>
                have hO := HO.out
                rw [HA.out] at hO
                have hb := HBW.out
                have hlw := HB.out.size
                exact ⟨pairUp s, c0_, c1_, _, _, ⟨HF0.out⟩, ⟨HF1.out⟩, HEV2, ⟨by have := HL2.out; have := HN2.out; have := HSl.out; omega⟩, ⟨by have := HLV.out; omega⟩, ⟨Kd.R_lower hO hlw⟩, ⟨blk_below HX8.out hb⟩, ⟨blk_below HX13.out hb⟩, ⟨blk_below HX14.out hb⟩, ⟨Kd.R_below HR0.out hb⟩, ⟨Kd.R_below HR1.out hb⟩, ⟨below_step HB.out hb⟩, N1314, N813, N814, L13, L14⟩
set_option linter.unusedSimpArgs false
set_option linter.unusedVariables false
set_option maxHeartbeats 8000000 in
set_option maxRecDepth 100000 in
theorem parts_Best.arg (A : Option Addr) (c n : Nat) (order most : Int) (wide : Bool) (w : World) (h : order < 0 ∨ 32 < order ∨ most < 0 ∨ 8 < most) :
    Calls Try.prog 9 #[.slice A n c, .int .i64 order, .int .i64 most, .bool wide] w fun e w' => e = .returned (.tuple #[.agg #[.bool false, .int .i64 0, .slice none 0 0], .int .i64 0, .int .i64 1]) ∧ Below w.heap.size w w' := by
  go_enter Try.func9, Try.ntmps9
  by_cases h1 : order < 0
  · have d1 : decide (order < 0) = true := decide_eq_true h1
    clear h1 h
    go_wp2_with (first | ((with_reducible refine gate_dst (N := 8) rfl ?_); refine box_event ?hg (N := 8) ?hd (cs := #[.bool false, .int .i64 0, .slice none 0 0]) (t := 26) ?hr ?_; (case hd => rfl); (case hg => rfl); (case hr => go_loud (first | (go_simp; done) | (go_simp; rfl))); intro g8 hg8_ w8 hbox8 hb8; have L8 := Aside0.mk (show w.heap.size ≤ g8 from hg8_ ▸ Nat.le_refl _); clear hg8_; have X8 := Aside0.mk hbox8; have B8 := Aside0.mk hb8; clear hbox8 hb8))
    refine wp_scope_ghost_k 0 rfl (fun _ _ _ => False) (fun _ _ _ h_ => h_.elim) (fun K_ hR_ => ?_)
    clear hR_
    go_wp2_with (first | ((with_reducible refine gate_store (t := 26) (p := 8) rfl ?_); refine wpList_store_row rfl 26 _ _ rfl g8 #[.bool false, .int .i64 0, .slice none 0 0] rfl rfl 26 _ X8.out sz26 rfl (by simp [Value.oneCell']) ?_))
    (try simp only [Exit.jump])
    have hX := setRow_heap _ g8 _ #[.bool false, .int .i64 0, .slice none 0 0] _ _ (X8.out)
    refine bodyPost_ret (results_cell_row_tmp2 rfl _ _ g8 26 _ _ _ rfl hX Try.underlying26 rfl sz26) rfl ?_
    exact ⟨rfl, below_setRow (B8.out) L8.out _⟩
  · have d1 : decide (order < 0) = false := decide_eq_false h1
    by_cases h2 : 32 < order
    · have d2 : decide ((32 : Int) < order) = true := decide_eq_true h2
      clear h1 h2 h
      go_wp2_with (first | ((with_reducible refine gate_dst (N := 8) rfl ?_); refine box_event ?hg (N := 8) ?hd (cs := #[.bool false, .int .i64 0, .slice none 0 0]) (t := 26) ?hr ?_; (case hd => rfl); (case hg => rfl); (case hr => go_loud (first | (go_simp; done) | (go_simp; rfl))); intro g8 hg8_ w8 hbox8 hb8; have L8 := Aside0.mk (show w.heap.size ≤ g8 from hg8_ ▸ Nat.le_refl _); clear hg8_; have X8 := Aside0.mk hbox8; have B8 := Aside0.mk hb8; clear hbox8 hb8))
      refine wp_scope_ghost_k 0 rfl (fun _ _ _ => False) (fun _ _ _ h_ => h_.elim) (fun K_ hR_ => ?_)
      clear hR_
      go_wp2_with (first | ((with_reducible refine gate_store (t := 26) (p := 8) rfl ?_); refine wpList_store_row rfl 26 _ _ rfl g8 #[.bool false, .int .i64 0, .slice none 0 0] rfl rfl 26 _ X8.out sz26 rfl (by simp [Value.oneCell']) ?_))
      (try simp only [Exit.jump])
      have hX := setRow_heap _ g8 _ #[.bool false, .int .i64 0, .slice none 0 0] _ _ (X8.out)
      refine bodyPost_ret (results_cell_row_tmp2 rfl _ _ g8 26 _ _ _ rfl hX Try.underlying26 rfl sz26) rfl ?_
      exact ⟨rfl, below_setRow (B8.out) L8.out _⟩
    · have d2 : decide ((32 : Int) < order) = false := decide_eq_false h2
      by_cases h3 : most < 0
      · have d3 : decide (most < 0) = true := decide_eq_true h3
        clear h1 h2 h3 h
        go_wp2_with (first | ((with_reducible refine gate_dst (N := 8) rfl ?_); refine box_event ?hg (N := 8) ?hd (cs := #[.bool false, .int .i64 0, .slice none 0 0]) (t := 26) ?hr ?_; (case hd => rfl); (case hg => rfl); (case hr => go_loud (first | (go_simp; done) | (go_simp; rfl))); intro g8 hg8_ w8 hbox8 hb8; have L8 := Aside0.mk (show w.heap.size ≤ g8 from hg8_ ▸ Nat.le_refl _); clear hg8_; have X8 := Aside0.mk hbox8; have B8 := Aside0.mk hb8; clear hbox8 hb8))
        refine wp_scope_ghost_k 0 rfl (fun _ _ _ => False) (fun _ _ _ h_ => h_.elim) (fun K_ hR_ => ?_)
        clear hR_
        go_wp2_with (first | ((with_reducible refine gate_store (t := 26) (p := 8) rfl ?_); refine wpList_store_row rfl 26 _ _ rfl g8 #[.bool false, .int .i64 0, .slice none 0 0] rfl rfl 26 _ X8.out sz26 rfl (by simp [Value.oneCell']) ?_))
        (try simp only [Exit.jump])
        have hX := setRow_heap _ g8 _ #[.bool false, .int .i64 0, .slice none 0 0] _ _ (X8.out)
        refine bodyPost_ret (results_cell_row_tmp2 rfl _ _ g8 26 _ _ _ rfl hX Try.underlying26 rfl sz26) rfl ?_
        exact ⟨rfl, below_setRow (B8.out) L8.out _⟩
      · have d3 : decide (most < 0) = false := decide_eq_false h3
        have d4 : decide ((8 : Int) < most) = true := decide_eq_true (by omega)
        clear h1 h2 h3 h
        go_wp2_with (first | ((with_reducible refine gate_dst (N := 8) rfl ?_); refine box_event ?hg (N := 8) ?hd (cs := #[.bool false, .int .i64 0, .slice none 0 0]) (t := 26) ?hr ?_; (case hd => rfl); (case hg => rfl); (case hr => go_loud (first | (go_simp; done) | (go_simp; rfl))); intro g8 hg8_ w8 hbox8 hb8; have L8 := Aside0.mk (show w.heap.size ≤ g8 from hg8_ ▸ Nat.le_refl _); clear hg8_; have X8 := Aside0.mk hbox8; have B8 := Aside0.mk hb8; clear hbox8 hb8))
        refine wp_scope_ghost_k 0 rfl (fun _ _ _ => False) (fun _ _ _ h_ => h_.elim) (fun K_ hR_ => ?_)
        clear hR_
        go_wp2_with (first | ((with_reducible refine gate_store (t := 26) (p := 8) rfl ?_); refine wpList_store_row rfl 26 _ _ rfl g8 #[.bool false, .int .i64 0, .slice none 0 0] rfl rfl 26 _ X8.out sz26 rfl (by simp [Value.oneCell']) ?_))
        (try simp only [Exit.jump])
        have hX := setRow_heap _ g8 _ #[.bool false, .int .i64 0, .slice none 0 0] _ _ (X8.out)
        refine bodyPost_ret (results_cell_row_tmp2 rfl _ _ g8 26 _ _ _ rfl hX Try.underlying26 rfl sz26) rfl ?_
        exact ⟨rfl, below_setRow (B8.out) L8.out _⟩
set_option maxHeartbeats 8000000 in
set_option maxRecDepth 100000 in
theorem parts_Best.short (A : Option Addr) (c : Nat) (order most : Int) (wide : Bool) (w : World) (h1 : 0 ≤ order) (h2 : order ≤ 32) (h3 : 0 ≤ most) (h4 : most ≤ 8) :
    Calls Try.prog 9 #[.slice A 0 c, .int .i64 order, .int .i64 most, .bool wide] w fun e w' => e = .returned (.tuple #[.agg #[.bool false, .int .i64 0, .slice none 0 0], .int .i64 0, .int .i64 2]) ∧ Below w.heap.size w w' := by
  have d1 : decide (order < 0) = false := decide_eq_false (by omega)
  have d2 : decide ((32 : Int) < order) = false := decide_eq_false (by omega)
  have d3 : decide (most < 0) = false := decide_eq_false (by omega)
  have d4 : decide ((8 : Int) < most) = false := decide_eq_false (by omega)
  clear h1 h2 h3 h4
  go_enter Try.func9, Try.ntmps9
  go_wp2_with (first | ((with_reducible refine gate_dst (N := 8) rfl ?_); refine box_event ?hg (N := 8) ?hd (cs := #[.bool false, .int .i64 0, .slice none 0 0]) (t := 26) ?hr ?_; (case hd => rfl); (case hg => rfl); (case hr => go_loud (first | (go_simp; done) | (go_simp; rfl))); intro g8 hg8_ w8 hbox8 hb8; have L8 := Aside0.mk (show w.heap.size ≤ g8 from hg8_ ▸ Nat.le_refl _); clear hg8_; have X8 := Aside0.mk hbox8; have B8 := Aside0.mk hb8; clear hbox8 hb8))
  refine wp_scope_ghost_k 0 rfl (fun _ _ _ => False) (fun _ _ _ h_ => h_.elim) (fun K_ hR_ => ?_)
  clear hR_
  go_wp2_with (first | ((with_reducible refine gate_store (t := 26) (p := 8) rfl ?_); refine wpList_store_row rfl 26 _ _ rfl g8 #[.bool false, .int .i64 0, .slice none 0 0] rfl rfl 26 _ X8.out sz26 rfl (by simp [Value.oneCell']) ?_))
  (try simp only [Exit.jump])
  have hX := setRow_heap _ g8 _ #[.bool false, .int .i64 0, .slice none 0 0] _ _ (X8.out)
  refine bodyPost_ret (results_cell_row_tmp2 rfl _ _ g8 26 _ _ _ rfl hX Try.underlying26 rfl sz26) rfl ?_
  exact ⟨rfl, below_setRow (B8.out) L8.out _⟩
set_option maxHeartbeats 8000000 in
set_option maxRecDepth 100000 in
theorem parts_Best.range (k : Nat) (A : Option Addr) (c : Nat) (l : List Int) (order most : Int) (wide : Bool) (w : World) (hr : Kd.C (Kd.int .i64) w A l.length l) (hc : l.length ≤ c) (h1 : 0 ≤ order) (h2 : order ≤ 32) (h3 : 0 ≤ most) (h4 : most ≤ 8) (h5 : l.length ≠ 0) (wd : Int) (hW : cost_Width.f k l = some wd) (hw : wd < 0) :
    Calls Try.prog 9 #[.slice A l.length c, .int .i64 order, .int .i64 most, .bool wide] w fun e w' => e = .returned (.tuple #[.agg #[.bool false, .int .i64 0, .slice none 0 0], .int .i64 0, .int .i64 6]) ∧ Below w.heap.size w w' := by
  have d1 : decide (order < 0) = false := decide_eq_false (by omega)
  have d2 : decide ((32 : Int) < order) = false := decide_eq_false (by omega)
  have d3 : decide (most < 0) = false := decide_eq_false (by omega)
  have d4 : decide ((8 : Int) < most) = false := decide_eq_false (by omega)
  have d5 : ((l.length : Int) == 0) = false := beq_eq_false_iff_ne.2 (by omega)
  have d5' : decide ((l.length : Int) = 0) = false := decide_eq_false (by omega)
  have d6 : decide (wd < 0) = true := decide_eq_true hw
  have HR := Aside0.mk hr
  have HCc := Aside0.mk hc
  have HWf := Aside0.mk hW
  clear h1 h2 h3 h4 h5 hr hc hW hw
  go_enter Try.func9, Try.ntmps9
  go_wp2_with (first | ((with_reducible refine gate_dst (N := 8) rfl ?_); refine box_event ?hg (N := 8) ?hd (cs := #[.bool false, .int .i64 0, .slice none 0 0]) (t := 26) ?hr ?_; (case hd => rfl); (case hg => rfl); (case hr => go_loud (first | (go_simp; done) | (go_simp; rfl))); intro g8 hg8_ w8 hbox8 hb8; have L8 := Aside0.mk (show w.heap.size ≤ g8 from hg8_ ▸ Nat.le_refl _); clear hg8_; have X8 := Aside0.mk hbox8; have B8 := Aside0.mk hb8; clear hbox8 hb8))
  refine wp_scope_ghost_k 0 rfl (fun _ _ _ => False) (fun _ _ _ h_ => h_.elim) (fun K_ hR_ => ?_)
  clear hR_
  go_wp2_with (first | (go_at_call 16; (refine (cost_Width.calls k A c l wd _ (Kd.C_below HR.out B8.out) HCc.out HWf.out).mono ?_); rintro e w5 ⟨rfl, ⟨nd, rfl⟩⟩; have n_ := Aside0.mk (blk_drewN X8.out nd); have m_ := Aside0.mk (pw_below_drewN B8.out nd); clear X8 B8; have X8 := n_; have B8 := m_; clear n_ m_) | ((with_reducible refine gate_store (t := 26) (p := 8) rfl ?_); refine wpList_store_row rfl 26 _ _ rfl g8 #[.bool false, .int .i64 0, .slice none 0 0] rfl rfl 26 _ X8.out sz26 rfl (by simp [Value.oneCell']) ?_))
  (try simp only [Exit.jump])
  have hX := setRow_heap _ g8 _ #[.bool false, .int .i64 0, .slice none 0 0] _ _ (X8.out)
  refine bodyPost_ret (results_cell_row_tmp2 rfl _ _ g8 26 _ _ _ rfl hX Try.underlying26 rfl sz26) rfl ?_
  exact ⟨rfl, below_setRow (B8.out) L8.out _⟩
set_option linter.unusedSimpArgs false
set_option linter.unusedVariables false
/-- The greatest number of cuts that can be, up to m. -/
def topO (n order : Int) : Nat → Nat
  | 0 => 0
  | m + 1 => if PL.cutsP n order (m + 1) ≠ [] then m + 1 else topO n order m
theorem topO_le (n order : Int) : ∀ m, topO n order m ≤ m
  | 0 => Nat.le_refl _
  | m + 1 => by have := topO_le n order m; simp only [topO]; split <;> omega
theorem topO_ne {n order : Int} (h : 0 < n) : ∀ m, PL.cutsP n order (topO n order m) ≠ []
  | 0 => by rw [topO, PL.cutsP_0 h]; simp
  | m + 1 => by
    simp only [topO]
    split
    · assumption
    · exact topO_ne h m
theorem topO_max (n order : Int) : ∀ m j, topO n order m < j → j ≤ m → PL.cutsP n order j = []
  | 0, j, h1, h2 => by simp only [topO] at h1; omega
  | m + 1, j, h1, h2 => by
    simp only [topO] at h1
    split at h1
    · omega
    · rename_i hc
      rcases Nat.lt_or_ge m j with h3 | h3
      · obtain rfl : j = m + 1 := by omega
        exact Classical.byContradiction hc
      · exact topO_max n order m j h1 h3
def widF (l : List Int) : Int := (PL.wid l : Int)
def bestOf (l : List Int) (order : Int) (most : Nat) (wide : Bool) : Cur :=
  bestCur wide (topO (l.length : Int) order most) (sumsOf widF (PL.cutsP (l.length : Int) order (topO (l.length : Int) order most)) l)
def partsBest.f (l0 : List Int) (a1 a2 : Int) (a3 : Bool) : Option (Bool × Int × List S39 × Int × Int) :=
  if a1 < 0 ∨ 32 < a1 ∨ a2 < 0 ∨ 8 < a2 then some (false, 0, [], 0, 1)
  else if l0.length = 0 then some (false, 0, [], 0, 2)
  else if 1000 < l0.length then none
  else if PL.NearAll l0 then some ((bestOf l0 a1 a2.toNat a3).f, (bestOf l0 a1 a2.toNat a3).o, (bestOf l0 a1 a2.toNat a3).ps, (bestOf l0 a1 a2.toNat a3).n, 0)
  else some (false, 0, [], 0, 6)
theorem fits_rep (s : Int) (h : 0 ≤ s) : ∀ (m r : Nat), s * m ≤ (r : Int) → Fits (List.replicate m s) r
  | 0, r, _ => trivial
  | m + 1, r, hr => by
    have e : s * ((m + 1 : Nat) : Int) = s * m + s := by rw [Int.natCast_succ, Int.mul_add, Int.mul_one]
    have h0 : 0 ≤ s * (m : Int) := Int.mul_nonneg h (by omega)
    refine ⟨h, by omega, fits_rep s h m _ ?_⟩
    omega
theorem fits_cuts (n : Nat) (order : Int) (ho : 0 ≤ order) (o : Nat) : Fits (PL.cutsP (n : Int) order o) n := by
  unfold PL.cutsP
  split
  · rename_i h
    have hp : (0 : Int) < 2 ^ o := Int.pow_pos (by decide)
    have h3 : ((2 ^ o : Nat) : Int) = (2 : Int) ^ o := by simp
    have hme := Int.mul_ediv_add_emod ((n : Int) + order) (2 ^ o)
    have hp2 : 0 < 2 ^ o := Nat.pow_pos (by decide)
    have e : ((n : Int) + order) / 2 ^ o * ((2 ^ o - 1 : Nat) : Int) = 2 ^ o * (((n : Int) + order) / 2 ^ o) - ((n : Int) + order) / 2 ^ o := by
      rw [show ((2 ^ o - 1 : Nat) : Int) = 2 ^ o - 1 by omega, Int.mul_sub, Int.mul_one, Int.mul_comm]
    have h0 : 0 ≤ ((n : Int) + order) / 2 ^ o * ((2 ^ o - 1 : Nat) : Int) := Int.mul_nonneg (by omega) (by omega)
    exact ⟨by omega, by omega, fits_rep _ (by omega) _ _ (by omega)⟩
  · trivial
theorem ev_upto {α : Type} (g : Nat → Nat → Option α) (r : Nat → α) : ∀ m, (∀ j, j ≤ m → Ev (fun k => g k j) (r j)) → ∃ K, ∀ k, K ≤ k → ∀ j, j ≤ m → g k j = some (r j)
  | 0, h => by
    obtain ⟨K, hK⟩ := h 0 (Nat.le_refl _)
    exact ⟨K, fun k hk j hj => by obtain rfl : j = 0 := by omega
                                  exact hK k hk⟩
  | m + 1, h => by
    obtain ⟨K1, h1⟩ := ev_upto g r m (fun j hj => h j (by omega))
    obtain ⟨K2, h2⟩ := h (m + 1) (Nat.le_refl _)
    refine ⟨max K1 K2, fun k hk j hj => ?_⟩
    rcases Nat.lt_or_ge m j with h3 | h3
    · obtain rfl : j = m + 1 := by omega
      exact h2 k (by omega)
    · exact h1 k (by omega) j h3
theorem wfits_ev : ∀ (cs l : List Int), PL.NearAll l → l.length ≤ 1000 → ∃ K, ∀ k, K ≤ k → WFits k widF cs l
  | [], _, _, _ => ⟨0, fun _ _ => trivial⟩
  | n :: cs, l, hn, hl => by
    have hnt : PL.NearAll (l.take n.toNat) := fun x hx => hn x (List.mem_of_mem_take hx)
    have hnd : PL.NearAll (l.drop n.toNat) := fun x hx => hn x (List.mem_of_mem_drop hx)
    obtain ⟨K1, h1⟩ := PL.width_ev (l.take n.toNat) (by rw [List.length_take]; omega)
    rw [if_pos hnt] at h1
    obtain ⟨K2, h2⟩ := wfits_ev cs (l.drop n.toNat) hnd (by rw [List.length_drop]; omega)
    exact ⟨max K1 K2, fun k hk => ⟨h1 k (by omega), h2 k (by omega)⟩⟩
theorem partsBest.calls (A0 : Option Addr) (c0 : Nat) (l0 : List Int) (a1 : Int) (a2 : Int) (a3 : Bool) (r1 : Bool) (r2 : Int) (r3 : List (S39)) (r4 : Int) (r5 : Int) (w : World) (hr0 : Kd.C (Kd.int .i64) w A0 l0.length l0) (hc0 : l0.length ≤ c0) (h : partsBest.f l0 a1 a2 a3 = some (r1, r2, r3, r4, r5)) :
    Calls Try.prog 9 #[.slice A0 l0.length c0, .int .i64 a1, .int .i64 a2, .bool a3] w fun e w' => ∃ v2_ : Value, e = .returned (.tuple #[.agg #[.bool r1, .int .i64 r2, v2_], .int .i64 r4, .int .i64 r5]) ∧ Kd.R k39 39 w' w.heap.size (fun _ => True) v2_ r3 ∧ Below w.heap.size w w' := by
  unfold partsBest.f at h
  split at h
  · rename_i h1
    simp only [Option.some.injEq, Prod.mk.injEq] at h
    obtain ⟨rfl, rfl, rfl, rfl, rfl⟩ := h
    refine (parts_Best.arg A0 c0 l0.length a1 a2 a3 w h1).mono ?_
    rintro e w' ⟨rfl, hb⟩
    exact ⟨_, rfl, Kd.R_nil k39 39 w' w.heap.size (fun _ => True), hb⟩
  rename_i h1
  obtain ⟨m, rfl⟩ : ∃ m : Nat, a2 = (m : Int) := ⟨a2.toNat, by omega⟩
  split at h
  · rename_i h2
    simp only [Option.some.injEq, Prod.mk.injEq] at h
    obtain ⟨rfl, rfl, rfl, rfl, rfl⟩ := h
    rw [h2]
    refine (parts_Best.short A0 c0 a1 (m : Int) a3 w (by omega) (by omega) (by omega) (by omega)).mono ?_
    rintro e w' ⟨rfl, hb⟩
    exact ⟨_, rfl, Kd.R_nil k39 39 w' w.heap.size (fun _ => True), hb⟩
  rename_i h2
  split at h
  · cases h
  rename_i h3
  obtain ⟨K1, hK1⟩ := PL.width_ev l0 (by omega)
  split at h
  · rename_i hn
    rw [if_pos hn] at hK1
    rw [Int.toNat_natCast] at h
    simp only [Option.some.injEq, Prod.mk.injEq] at h
    obtain ⟨rfl, rfl, rfl, rfl, rfl⟩ := h
    have hlp : (0 : Int) < (l0.length : Int) := by omega
    obtain ⟨K2, hK2⟩ := ev_upto (fun k j => parts_Cuts.f k (l0.length : Int) a1 (j : Int)) (fun j => PL.cutsP (l0.length : Int) a1 j) m (fun j hj => PL.cuts_ev (l0.length : Int) a1 j (by omega) (by omega) (by omega) (by omega) (by omega))
    obtain ⟨K3, hK3⟩ := wfits_ev (PL.cutsP (l0.length : Int) a1 (topO (l0.length : Int) a1 m)) l0 hn (by omega)
    have hne := topO_ne (order := a1) hlp m
    exact parts_Best.goes (max K1 (max K2 K3)) A0 c0 l0 a1 m (topO (l0.length : Int) a1 m) a3 (fun j => PL.cutsP (l0.length : Int) a1 j) widF w hr0 hc0 (hK1 _ (by omega)) (hK3 _ (by omega)) (by omega) (by omega) h2 (by unfold widF; omega) (by omega) (fun j hj => hK2 _ (by omega) j hj) (topO_le _ _ _) hne (fun j h4 h5 => topO_max _ _ m j h4 h5) (fits_cuts l0.length a1 (by omega) _) (PL.cutsP_len hne)
  · rename_i hn
    rw [if_neg hn] at hK1
    simp only [Option.some.injEq, Prod.mk.injEq] at h
    obtain ⟨rfl, rfl, rfl, rfl, rfl⟩ := h
    refine (parts_Best.range K1 A0 c0 l0 a1 (m : Int) a3 w hr0 hc0 (by omega) (by omega) (by omega) (by omega) h2 (-1) (hK1 K1 (Nat.le_refl _)) (by decide)).mono ?_
    rintro e w' ⟨rfl, hb⟩
    exact ⟨_, rfl, Kd.R_nil k39 39 w' w.heap.size (fun _ => True), hb⟩
end Go.Proofs.Ytpoigjkkcehpdaa.PA
