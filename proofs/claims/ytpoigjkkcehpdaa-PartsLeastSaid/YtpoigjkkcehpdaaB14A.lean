/- parts.of, (sum).with, (sum).best, parts.plan, by hand. Conditions: as each theorem says. -/
import Derived.Laws.Tables
import Derived.Laws.Rows
import Derived.Laws.CopyOwn
import Derived.Deep.RegionWith
import Derived.Test.YtpoigjkkcehpdaaPAx3
import Derived.Test.YtpoigjkkcehpdaaPAx5
import Derived.Test.YtpoigjkkcehpdaaPAx5
import Derived.Deep.MidRow
namespace Go.Proofs.Ytpoigjkkcehpdaa.PA
open Go Go.RowKit Go.Proofs.YtpoigjkkcehpdaaW.PrintWords Go.Proofs.YtpoigjkkcehpdaaW.PrintLast Go.Proofs.YtpoigjkkcehpdaaW.PrintMore
attribute [local go_sem] max2_int min2_int max_two min_two max_three min_three max_four min_four
set_option maxHeartbeats 8000000 in
set_option maxRecDepth 100000 in
theorem rice_Near_same (a0 : Int) (r : Bool) (w : World) (h : rice_Near.f a0 = some r) :
    Calls Try.prog 38 #[.int .i64 a0] w fun e w' => e = .returned (.bool r) ∧ w' = w := by
  have H : (if a0 ≥ (-8589934592) then (some (decide (a0 < 8589934592))) else (some false)) = some r := h
  clear h
  by_cases c2 : a0 ≥ (-8589934592)
  · rw [if_pos c2] at H
    have c2b0 : decide ((-8589934592) ≤ a0) = true := decide_eq_true c2
    clear c2
    obtain rfl := Option.some.inj H
    go_enter Try.func38, Try.ntmps38
    go_wp2
    go_ret
    exact ⟨by first | rfl | (simp; done) | (simp [*]; done), rfl⟩
  · rw [if_neg c2] at H
    have c2b0 : decide ((-8589934592) ≤ a0) = false := decide_eq_false c2
    clear c2
    obtain rfl := Option.some.inj H
    go_enter Try.func38, Try.ntmps38
    go_wp2
    go_ret
    exact ⟨by first | rfl | (simp; done) | (simp [*]; done), rfl⟩

set_option maxHeartbeats 8000000 in
set_option maxRecDepth 100000 in
theorem rice_held_same (a0 : Int) (r : Int) (w : World) (h : rice_held.f a0 = some r) :
    Calls Try.prog 43 #[.int .i64 a0] w fun e w' => e = .returned (.int .i64 r) ∧ w' = w := by
  have H : (some (mx 0 (mn a0 30))) = some r := h
  clear h
  obtain ⟨ji2, hji2⟩ : ∃ j_ : Int, (mn a0 30) = j_ := ⟨_, rfl⟩
  replace H : (some (mx 0 (ji2))) = some r := by first | (rw [hji2] at H; exact H) | (simp only [hji2] at H ⊢; exact H)
  (try (have hji2h : ji2 ≤ 30 := by (rw [← hji2]; unfold mn; (repeat' split) <;> omega)))
  (try (have hji2g : ji2 ≤ 64 := by omega))
  have hji2_ : (if 30 < a0 then 30 else a0) = ji2 := hji2
  obtain ⟨ji3, hji3⟩ : ∃ j_ : Int, (mx 0 (ji2)) = j_ := ⟨_, rfl⟩
  replace H : (some ji3) = some r := by first | (rw [hji3] at H; exact H) | (simp only [hji3] at H ⊢; exact H)
  have hji3_ : (if 0 < (ji2) then (ji2) else 0) = ji3 := hji3
  obtain rfl := Option.some.inj H
  go_enter Try.func43, Try.ntmps43
  go_wp2
  go_ret
  exact ⟨by first | rfl | (simp [errW_none, errW_some] <;> rfl) | (simp only [← hji2, ← hji3]; first | rfl | (simp [errW_none, errW_some] <;> rfl)) | (simp [*, errW_none, errW_some] <;> rfl), rfl⟩

set_option maxHeartbeats 8000000 in
set_option maxRecDepth 100000 in
theorem rice_Fold_same (a0 : Int) (r : Int) (w : World) (h : rice_Fold.f a0 = some r) :
    Calls Try.prog 44 #[.int .i64 a0] w fun e w' => e = .returned (.int .u64 r) ∧ w' = w := by
  have H : (some (Go.bits .xor .u64 (IntKind.u64.wrap ((IntKind.u64.wrap (a0)) * 2)) (IntKind.u64.wrap (a0 / 9223372036854775808)))) = some r := h
  clear h
  obtain rfl := Option.some.inj H
  go_enter Try.func44, Try.ntmps44
  go_wp2
  go_ret
  exact ⟨by first | rfl | (simp; done) | (simp [*]; done), rfl⟩

set_option maxHeartbeats 8000000 in
set_option maxRecDepth 100000 in
theorem rice_Size_same (a0 : Int) (a1 : Int) (r : Int) (w : World) (h : rice_Size.f a0 a1 = some r) :
    Calls Try.prog 36 #[.int .i64 a0, .int .i64 a1] w fun e w' => e = .returned (.int .i64 r) ∧ w' = w := by
  have H : ((rice_Near.f a0).bind fun t113 => (if t113 = true then ((rice_held.f a1).bind fun t114 => ((rice_Fold.f a0).bind fun t115 => (if 0 ≤ t114 then (some (wrap64 ((wrap64 ((wrap64 (shr .u64 t115 t114)) + 1)) + t114))) else (none)))) else (some (-1)))) = some r := h
  clear h
  replace H := Option.bind_eq_some_iff.mp H
  obtain ⟨t113, A30, H⟩ := H
  replace H : (if t113 = true then ((rice_held.f a1).bind fun t114 => ((rice_Fold.f a0).bind fun t115 => (if 0 ≤ t114 then (some (wrap64 ((wrap64 ((wrap64 (shr .u64 t115 t114)) + 1)) + t114))) else (none)))) else (some (-1))) = some r := H
  have A3 := Aside0.mk A30
  clear A30
  by_cases c4 : t113 = true
  · subst c4
    have H1 : ((rice_held.f a1).bind fun t114 => ((rice_Fold.f a0).bind fun t115 => (if 0 ≤ t114 then (some (wrap64 ((wrap64 ((wrap64 (shr .u64 t115 t114)) + 1)) + t114))) else (none)))) = some r := by rw [if_pos rfl] at H; exact H
    clear H
    have H := H1
    clear H1
    replace H := Option.bind_eq_some_iff.mp H
    obtain ⟨t114, A50, H⟩ := H
    replace H : ((rice_Fold.f a0).bind fun t115 => (if 0 ≤ t114 then (some (wrap64 ((wrap64 ((wrap64 (shr .u64 t115 t114)) + 1)) + t114))) else (none))) = some r := H
    have A5 := Aside0.mk A50
    clear A50
    replace H := Option.bind_eq_some_iff.mp H
    obtain ⟨t115, A60, H⟩ := H
    replace H : (if 0 ≤ t114 then (some (wrap64 ((wrap64 ((wrap64 (shr .u64 t115 t114)) + 1)) + t114))) else (none)) = some r := H
    have A6 := Aside0.mk A60
    clear A60
    by_cases c7 : 0 ≤ t114
    · rw [if_pos c7] at H
      have c7b0 := eq_true c7
      have c7b1 : decide (0 ≤ t114) = true := decide_eq_true c7
      clear c7
      obtain ⟨ji8, hji8⟩ : ∃ j_ : Int, (shr .u64 t115 t114) = j_ := ⟨_, rfl⟩
      replace H : (some (wrap64 ((wrap64 ((wrap64 (ji8)) + 1)) + t114))) = some r := by first | (rw [hji8] at H; exact H) | (simp only [hji8] at H ⊢; exact H)
      (try rw [hji8] at A3)
      (try rw [hji8] at A5)
      (try rw [hji8] at A6)
      have hji8_ : (t115 / 2 ^ min t114.toNat 64) = ji8 := hji8
      have hji8z : t114 ≤ 64 → (t115 / 2 ^ t114.toNat) = ji8 := shr_small hji8
      obtain rfl := Option.some.inj H
      go_enter Try.func36, Try.ntmps36
      go_wp2_with (first | (go_at_call 38; (with_reducible refine (rice_Near_same a0 true _ A3.out).mono ?_); rintro e w9 ⟨rfl, rfl⟩) | (go_at_call 43; (with_reducible refine (rice_held_same a1 t114 _ A5.out).mono ?_); rintro e w9 ⟨rfl, rfl⟩) | (go_at_call 44; (with_reducible refine (rice_Fold_same a0 t115 _ A6.out).mono ?_); rintro e w9 ⟨rfl, rfl⟩))
      go_ret
      exact ⟨by first | rfl | (simp [errW_none, errW_some] <;> rfl) | (simp only [← hji8]; first | rfl | (simp [errW_none, errW_some] <;> rfl)) | (simp [*, errW_none, errW_some] <;> rfl), rfl⟩
    · rw [if_neg c7] at H
      exact absurd H (by simp)
  · replace c4 := Bool.eq_false_iff.mpr c4
    subst c4
    have H1 : (some (-1)) = some r := by rw [if_neg (show ¬ (false = true) by decide)] at H; exact H
    clear H
    have H := H1
    clear H1
    obtain rfl := Option.some.inj H
    go_enter Try.func36, Try.ntmps36
    go_wp2_with (first | (go_at_call 38; (with_reducible refine (rice_Near_same a0 false _ A3.out).mono ?_); rintro e w9 ⟨rfl, rfl⟩))
    go_ret
    exact ⟨by first | rfl | (simp [errW_none, errW_some] <;> rfl) | (simp [*, errW_none, errW_some] <;> rfl), rfl⟩

/-- Whole numbers as cells. -/
def iA (xs : List Int) : Array Value := (xs.map (Value.int .i64)).toArray
/-- What is known of a part: how many numbers, by each k the bits, the width. -/
def sumL (n : Int) (by_ : List Int) (wd : Int) : List Int := n :: (by_ ++ [wd])
def zs31 : List Int := List.replicate 31 0
theorem zero55 : (.agg (iA (sumL 0 zs31 0)) : Value) = .agg #[.int .i64 0, .int .i64 0, .int .i64 0, .int .i64 0, .int .i64 0, .int .i64 0, .int .i64 0, .int .i64 0, .int .i64 0, .int .i64 0, .int .i64 0, .int .i64 0, .int .i64 0, .int .i64 0, .int .i64 0, .int .i64 0, .int .i64 0, .int .i64 0, .int .i64 0, .int .i64 0, .int .i64 0, .int .i64 0, .int .i64 0, .int .i64 0, .int .i64 0, .int .i64 0, .int .i64 0, .int .i64 0, .int .i64 0, .int .i64 0, .int .i64 0, .int .i64 0, .int .i64 0] := rfl
theorem iA_size (xs : List Int) : (iA xs).size = xs.length := by simp [iA]
theorem iA_one (xs : List Int) : (iA xs).all (·.oneCell') = true := by
  unfold iA
  simp [Value.oneCell']
theorem bsome_ {α β : Type} (a : α) (f : α → Option β) : (some a).bind f = f a := by
  have h := Option.bind_some a f
  exact h
def sizeV (n k : Int) : Int := (rice_Size.f n k).getD 0
theorem rice_Size_some (n k : Int) : rice_Size.f n k = some (sizeV n k) := by
  have : ∃ b, rice_Size.f n k = some b := by
    unfold rice_Size.f
    have h1 : ∃ t, rice_Near.f n = some t := by unfold rice_Near.f; split <;> exact ⟨_, rfl⟩
    obtain ⟨t, ht⟩ := h1
    rw [ht, bsome_]
    cases t with
    | false => exact ⟨_, rfl⟩
    | true =>
      have h2 : rice_held.f k = some (mx 0 (mn k 30)) := rfl
      have h3 : ∃ u, rice_Fold.f n = some u := ⟨_, rfl⟩
      obtain ⟨u, hu⟩ := h3
      have h4 : 0 ≤ mx 0 (mn k 30) := by unfold mx; split <;> omega
      rw [if_pos rfl, h2, bsome_, hu, bsome_, if_pos h4]
      exact ⟨_, rfl⟩
  obtain ⟨b, hb⟩ := this
  unfold sizeV
  rw [hb]
  rfl
/-- The bits of some numbers by a k. -/
def sumBy (l : List Int) (k : Int) : Int := l.foldl (fun s n => wrap64 (s + sizeV n k)) 0
theorem sumBy_take (l : List Int) (k : Int) {q : Nat} (hq : q < l.length) : sumBy (l.take (q + 1)) k = wrap64 (sumBy (l.take q) k + sizeV (rd l (q : Int)) k) := by
  have e : rd l (q : Int) = l[q] := by simp [rd, List.getD_eq_getElem?_getD, List.getElem?_eq_getElem hq]
  unfold sumBy
  rw [List.take_succ_eq_append_getElem hq, List.foldl_append, e]
  rfl
/-- The bits by the first i k's. -/
def ysAt (l : List Int) (i : Nat) : List Int := (List.range 31).map fun j => if j < i then sumBy l (j : Int) else 0
theorem ysAt_len (l : List Int) (i : Nat) : (ysAt l i).length = 31 := by simp [ysAt]
theorem ysAt_0 (l : List Int) : ysAt l 0 = zs31 := by
  unfold ysAt zs31
  refine List.ext_getElem (by simp) fun j h1 h2 => ?_
  rw [List.getElem_replicate]
  simp
theorem ysAt_same (l : List Int) {i : Nat} : (ysAt l i).set i 0 = ysAt l i := by
  refine List.ext_getElem (by simp) fun j h1 h2 => ?_
  rw [List.getElem_set]
  split
  · rename_i h; subst h; simp [ysAt]
  · rfl
theorem ysAt_succ (l : List Int) {i : Nat} : (ysAt l i).set i (sumBy l (i : Int)) = ysAt l (i + 1) := by
  refine List.ext_getElem (by simp [ysAt]) fun j h1 h2 => ?_
  rw [List.getElem_set]
  split
  · rename_i h; subst h; simp [ysAt]
  · rename_i h
    simp only [ysAt, List.getElem_map, List.getElem_range]
    have : (j < i) ↔ (j < i + 1) := by omega
    simp [this]
theorem sz55 : (Try.prog.info? 55).map (·.size) = some 33 := by kernel_rfl
theorem iA_sum_size {n wd : Int} {ys : List Int} (h : ys.length = 31) : (Try.prog.info? 55).map (·.size) = some (iA (sumL n ys wd)).size := by
  rw [sz55, iA_size]; simp [sumL, h]
theorem sum_cell {W : World} {g : Nat} {n wd : Int} {ys : List Int} (hb : W.heap[g]? = some (.cells (iA (sumL n ys wd)) 55 (0, 0))) {i : Nat} (hi : i < ys.length) : W.cell? ⟨g, 1 + i, none⟩ = some (.int .i64 (ys.getD i 0)) := by
  refine (blk_cell hb (1 + i)).trans ?_
  unfold iA sumL
  rw [Nat.add_comm]
  simp [List.getElem?_append_left, hi, List.getD_eq_getElem?_getD]
theorem sum_set {W : World} {g : Nat} {n wd : Int} {ys : List Int} (hb : W.heap[g]? = some (.cells (iA (sumL n ys wd)) 55 (0, 0))) {i : Nat} (hi : i < ys.length) (x : Int) : (W.setCell ⟨g, 1 + i, none⟩ (.int .i64 x)).heap[g]? = some (.cells (iA (sumL n (ys.set i x) wd)) 55 (0, 0)) := by
  have h := blk_set hb (1 + i) (.int .i64 x)
  refine h.trans ?_
  congr 2
  unfold iA sumL
  rw [Nat.add_comm]
  simp [List.set_append_left, hi, List.map_set]
set_option maxHeartbeats 8000000 in
set_option maxRecDepth 100000 in
theorem parts_of.calls (k : Nat) (A0 : Option Addr) (c0 : Nat) (l0 : List Int) (wd : Int) (w : World) (hr0 : Kd.C (Kd.int .i64) w A0 l0.length l0) (hc0 : l0.length ≤ c0) (h : cost_Width.f k l0 = some wd) :
    Calls Try.prog 30 #[.slice A0 l0.length c0] w fun e w' => e = .returned (.agg (iA (sumL (l0.length : Int) (ysAt l0 31) wd))) ∧ Below w.heap.size w w' := by
  have HR0 := Aside0.mk hr0
  have HC0 := Aside0.mk hc0
  have HW := Aside0.mk h
  have HL : l0.length ≤ 9223372036854775807 := hr0.2.1
  clear hr0 hc0 h
  go_enter Try.func30, Try.ntmps30
  go_upto_region 2 with (first
    | ((with_reducible refine gate_dst (N := 2) rfl ?_); refine box_event ?hg (N := 2) ?hd (cs := iA (sumL 0 zs31 0)) (t := 55) ?hr ?_; (case hd => rfl); (case hg => rfl); (case hr => go_simp; rfl); intro g2 hg2 w1 hbox2 hb1)
    | (go_at_call 16; (with_reducible refine (cost_Width.calls k _ _ l0 wd _ ?side1 HC0.out HW.out).mono ?_); (case side1 => exact Kd.C_below HR0.out hb1); rintro e w2 ⟨rfl, ⟨nd, rfl⟩⟩)
    | ((with_reducible refine gate_dst (N := 11) rfl ?_); refine event_run (v := .agg (iA (sumL (l0.length : Int) zs31 wd))) ?hg ?hr ?_; (case hg => rfl); (case hr => go_simp; rfl))
    | ((with_reducible refine gate_dst (N := 3) rfl ?_); refine box_event ?hg (N := 3) ?hd (cs := iA (sumL 0 zs31 0)) (t := 55) ?hr ?_; (case hd => rfl); (case hg => rfl); (case hr => go_simp; rfl); intro g3 hg3 w3 hbox3 hb3)
    | ((with_reducible refine gate_store (t := 55) (p := 3) rfl ?_); refine wpList_store_row rfl 55 _ _ rfl g3 (iA (sumL (l0.length : Int) zs31 wd)) rfl rfl 55 _ hbox3 (by kernel_rfl) rfl (iA_one _) ?_))
  subst hg2
  have hs2 := blk_lt hbox2
  have hb2 : (w1.drewN nd).heap.size = w1.heap.size := rfl
  have hne : w.heap.size ≠ g3 := by rw [hg3, hb2]; omega
  have hle3 : w.heap.size ≤ g3 := by rw [hg3, hb2]; omega
  obtain ⟨W0, hW0⟩ : ∃ W0, w3.setRow g3 (iA (sumL (l0.length : Int) zs31 wd)) = W0 := ⟨_, rfl⟩
  have hX : W0.heap[g3]? = some (.cells (iA (sumL (l0.length : Int) zs31 wd)) 55 (0, 0)) := by rw [← hW0]; exact setRow_heap _ _ _ _ _ _ hbox3
  have hX2 : W0.heap[w.heap.size]? = some (.cells (iA (sumL 0 zs31 0)) 55 (0, 0)) := by rw [← hW0, setRow_other _ _ _ _ hne]; exact blk_below (g := w.heap.size) (blk_drewN hbox2 nd) hb3
  have hBB : Below w.heap.size w W0 := by rw [← hW0]; exact below_setRow (below_step (pw_below_drewN hb1 nd) hb3) hle3 _
  rw [hW0]
  rw [← ysAt_0 l0] at hX
  have HX := Aside0.mk hX
  have HX2 := Aside0.mk hX2
  have HB := Aside0.mk hBB
  have HNE := Aside0.mk hne
  have HLE := Aside0.mk hle3
  clear hX hX2 hBB hW0 hg3 hbox2 hbox3 hb1 hb3 hs2 hb2 hne hle3
  go_wp2
  go_loopg [12] 31 (fun kq v12 w' => ∃ (i : Nat), v12 = .int .i64 (i : Int) ∧ Aside0 (i + kq = 31) ∧ Aside0 (w'.heap[g3]? = some (.cells (iA (sumL (l0.length : Int) (ysAt l0 i) wd)) 55 (0, 0))) ∧ Aside0 (w'.heap[w.heap.size]? = some (.cells (iA (sumL 0 zs31 0)) 55 (0, 0))) ∧ Aside0 (Below w.heap.size w w'))
  case atStart => exact ⟨0, rfl, ⟨by omega⟩, HX, HX2, HB⟩
  case round =>
    clear HX HX2 HB
    obtain ⟨i, rfl, HK, HX, HX2, HB⟩ := hrel
    by_cases hi : i < 31
    · have hq : decide ((i : Int) < 31) = true := decide_eq_true (by omega)
      go_wp2
      clear hq
      go_loopg [17] l0.length (fun kq v17 w' => ∃ (q : Nat), v17 = .int .i64 (q : Int) ∧ Aside0 (q + kq = l0.length) ∧ Aside0 (w'.heap[g3]? = some (.cells (iA (sumL (l0.length : Int) ((ysAt l0 i).set i (sumBy (l0.take q) (i : Int))) wd)) 55 (0, 0))) ∧ Aside0 (w'.heap[w.heap.size]? = some (.cells (iA (sumL 0 zs31 0)) 55 (0, 0))) ∧ Aside0 (Below w.heap.size w w'))
      case atStart => exact ⟨0, rfl, ⟨by omega⟩, ⟨by rw [List.take_zero]; show _ = some (Obj.cells (iA (sumL (l0.length : Int) ((ysAt l0 i).set i 0) wd)) 55 (0, 0)); rw [ysAt_same]; exact HX.out⟩, HX2, HB⟩
      case round =>
        clear HX HX2 HB
        obtain ⟨q, rfl, HK2, HX, HX2, HB⟩ := hrel
        by_cases hql : q < l0.length
        · have hq : decide ((q : Int) < (l0.length : Int)) = true := decide_eq_true (by omega)
          have p1 : 0 ≤ (q : Int) := by omega
          have q1 : (q : Int) < (l0.length : Int) := by omega
          obtain ⟨ad1, e1, hx1⟩ := Kd.at_int HR0.out (q : Int) p1 q1
          cases e1
          replace hx1 := (HB.out.cell (World.block_lt_of_cell? w _ hx1)).trans hx1
          simp only [Int.toNat_natCast] at hx1
          replace q1 := eq_true q1
          replace p1 := eq_true p1
          have hcell := sum_cell HX.out (i := i) (by rw [List.length_set, ysAt_len]; exact hi)
          have hget : ((ysAt l0 i).set i (sumBy (l0.take q) (i : Int))).getD i 0 = sumBy (l0.take q) (i : Int) := by simp [List.getD_eq_getElem?_getD, ysAt_len, hi]
          rw [hget] at hcell
          have hfz := blk_frozen HX.out (1 + i)
          have hi31 : decide ((i : Int) < 31) = true := decide_eq_true (by omega)
          have hiN : i < 31 := hi
          clear hget
          have hw1 : wrap64 ((q : Int) + 1) = ((q + 1 : Nat) : Int) := by unfold wrap64; omega
          have HW1 := Aside0.mk hw1
          clear hw1
          go_wp2
          go_region_with (go_at_call 36; refine (rice_Size_same (rd l0 (q : Int)) (i : Int) _ _ (rice_Size_some _ _)).mono ?_; rintro e w9 ⟨rfl, rfl⟩)
          all_goals
            go_wp2
            go_roundg (l0.length - (q + 1))
            case measure => have := HK2.out; omega
            case rel =>
              have hv : IntKind.i64.wrap (sumBy (l0.take q) (i : Int) + sizeV (rd l0 (q : Int)) (i : Int)) = sumBy (l0.take (q + 1)) (i : Int) := (i64_w _).trans (sumBy_take l0 (i : Int) hql).symm
              have h3 := sum_set HX.out (i := i) (by rw [List.length_set, ysAt_len]; exact hiN) (sumBy (l0.take (q + 1)) (i : Int))
              rw [List.set_set] at h3
              first | rw [hv] | rw [← sumBy_take l0 (i : Int) hql]
              exact ⟨q + 1, by first | rfl | (simp; done) | (simp [HW1.out]; done) | go_num, ⟨by omega⟩, ⟨blk_drew h3⟩, ⟨blk_drew (blk_far HX2.out HNE.out _)⟩, ⟨below_drew1 (below_set HB.out HLE.out)⟩⟩
        · have hq : decide ((q : Int) < (l0.length : Int)) = false := decide_eq_false (by omega)
          obtain rfl : q = l0.length := by have := HK2.out; omega
          go_wp2
          go_roundg (31 - (i + 1))
          case measure => have := HK.out; omega
          case rel =>
            have h3 := HX.out
            rw [List.take_length, ysAt_succ] at h3
            exact ⟨i + 1, by first | rfl | (simp; done) | go_num, ⟨by omega⟩, ⟨h3⟩, HX2, HB⟩
    · have hq : decide ((i : Int) < 31) = false := decide_eq_false (by omega)
      obtain rfl : i = 31 := by have := HK.out; omega
      go_wp2_with (first
        | ((with_reducible refine gate_dst (N := 33) rfl ?_); refine wpList_load_row rfl 55 _ rfl g3 rfl 55 _ _ _ HX.out Try.underlying55 rfl (iA_sum_size (ysAt_len _ _)) ?_)
        | ((with_reducible refine gate_store (t := 55) (p := 2) rfl ?_); refine wpList_store_row rfl 55 _ _ rfl w.heap.size (iA (sumL (l0.length : Int) (ysAt l0 31) wd)) rfl rfl 55 _ HX2.out (iA_sum_size (ysAt_len _ _)) (by rw [iA_size, iA_size]; simp [sumL, zs31, ysAt_len]) (iA_one _) ?_))
      have hX5 := setRow_heap wr w.heap.size _ (iA (sumL (l0.length : Int) (ysAt l0 31) wd)) _ _ HX2.out
      refine bodyPost_ret (results_cell_row rfl _ _ w.heap.size 55 _ _ _ rfl hX5 Try.underlying55 rfl (iA_sum_size (ysAt_len _ _))) rfl ?_
      exact ⟨rfl, below_setRow HB.out (Nat.le_refl _) _⟩
set_option linter.unusedSimpArgs false
set_option linter.unusedVariables false
theorem sum_cell0 {W : World} {g : Nat} {n wd : Int} {ys : List Int} (hb : W.heap[g]? = some (.cells (iA (sumL n ys wd)) 55 (0, 0))) : W.cell? ⟨g, 0, none⟩ = some (.int .i64 n) := by
  refine (blk_cell hb 0).trans ?_
  simp [iA, sumL]
theorem sum_cellw {W : World} {g : Nat} {n wd : Int} {ys : List Int} (hb : W.heap[g]? = some (.cells (iA (sumL n ys wd)) 55 (0, 0))) (hl : ys.length = 31) : W.cell? ⟨g, 32, none⟩ = some (.int .i64 wd) := by
  refine (blk_cell hb 32).trans ?_
  unfold iA sumL
  simp [List.getElem?_append_right, hl]
theorem sum_set0 {W : World} {g : Nat} {n wd : Int} {ys : List Int} (hb : W.heap[g]? = some (.cells (iA (sumL n ys wd)) 55 (0, 0))) (x : Int) : (W.setCell ⟨g, 0, none⟩ (.int .i64 x)).heap[g]? = some (.cells (iA (sumL x ys wd)) 55 (0, 0)) := by
  refine (blk_set hb 0 (.int .i64 x)).trans ?_
  first | rfl | (congr 2; simp [iA, sumL])
theorem sum_setw {W : World} {g : Nat} {n wd : Int} {ys : List Int} (hb : W.heap[g]? = some (.cells (iA (sumL n ys wd)) 55 (0, 0))) (hl : ys.length = 31) (x : Int) : (W.setCell ⟨g, 32, none⟩ (.int .i64 x)).heap[g]? = some (.cells (iA (sumL n ys x)) 55 (0, 0)) := by
  refine (blk_set hb 32 (.int .i64 x)).trans ?_
  congr 2
  unfold iA sumL
  simp [List.set_append_right, hl]
/-- Bits of two parts, by the first i k's added. -/
def zAt (xs ys : List Int) (i : Nat) : List Int := (List.range 31).map fun j => if j < i then wrap64 (xs.getD j 0 + ys.getD j 0) else xs.getD j 0
theorem zAt_len (xs ys : List Int) (i : Nat) : (zAt xs ys i).length = 31 := by simp [zAt]
theorem zAt_0 (xs ys : List Int) (h : xs.length = 31) : zAt xs ys 0 = xs := by
  refine List.ext_getElem (by simp [zAt, h]) fun j h1 h2 => ?_
  simp [zAt, List.getD_eq_getElem?_getD, h2]
theorem zAt_get (xs ys : List Int) {i : Nat} (hi : i < 31) : (zAt xs ys i).getD i 0 = xs.getD i 0 := by
  simp [zAt, List.getD_eq_getElem?_getD, hi]
theorem zAt_succ (xs ys : List Int) {i : Nat} : (zAt xs ys i).set i (wrap64 (xs.getD i 0 + ys.getD i 0)) = zAt xs ys (i + 1) := by
  refine List.ext_getElem (by simp [zAt]) fun j h1 h2 => ?_
  rw [List.getElem_set]
  split
  · rename_i h; subst h; simp [zAt]
  · rename_i h
    simp only [zAt, List.getElem_map, List.getElem_range]
    have : (j < i) ↔ (j < i + 1) := by omega
    simp [this]
set_option maxHeartbeats 8000000 in
set_option maxRecDepth 100000 in
theorem parts_with.calls (n1 w1_ n2 w2_ : Int) (xs ys : List Int) (hx : xs.length = 31) (hy : ys.length = 31) (w : World) :
    Calls Try.prog 19 #[.agg (iA (sumL n1 xs w1_)), .agg (iA (sumL n2 ys w2_))] w fun e w' => e = .returned (.agg (iA (sumL (wrap64 (n1 + n2)) (zAt xs ys 31) (mx w1_ w2_)))) ∧ Below w.heap.size w w' := by
  have HLX := Aside0.mk hx
  have HLY := Aside0.mk hy
  clear hx hy
  go_enter Try.func19, Try.ntmps19
  go_upto_region 1 with (first
    | ((with_reducible refine gate_dst (N := 2) rfl ?_); refine box_event ?hg (N := 2) ?hd (cs := iA (sumL n1 xs w1_)) (t := 55) ?hr ?_; (case hd => rfl); (case hg => rfl); (case hr => go_loud (first | (go_simp; done) | (go_simp; rfl))); intro g2 hg2 w1 hbox2 hb1)
    | ((with_reducible refine gate_dst (N := 3) rfl ?_); refine box_event ?hg (N := 3) ?hd (cs := iA (sumL n2 ys w2_)) (t := 55) ?hr ?_; (case hd => rfl); (case hg => rfl); (case hr => go_loud (first | (go_simp; done) | (go_simp; rfl))); intro g3 hg3 w2 hbox3 hb2)
    | ((with_reducible refine gate_dst (N := 4) rfl ?_); refine box_event ?hg (N := 4) ?hd (cs := iA (sumL 0 zs31 0)) (t := 55) ?hr ?_; (case hd => rfl); (case hg => rfl); (case hr => go_loud (go_simp; rfl)); intro g4 hg4 w3 hbox4 hb3))
  have s2 := blk_lt hbox2
  have s3 := blk_lt hbox3
  have s4 := blk_lt hbox4
  have hB : Below w.heap.size w w3 := below_step (below_step hb1 hb2) hb3
  have hX2 := blk_below (g := g2) (blk_below (g := g2) hbox2 hb2) hb3
  have hX3 := blk_below (g := g3) hbox3 hb3
  have z1 := hb1.size
  have z2 := hb2.size
  have n23 : g2 ≠ g3 := by omega
  have n24 : g2 ≠ g4 := by omega
  have n34 : g3 ≠ g4 := by omega
  have l2 : w.heap.size ≤ g2 := by omega
  have l4 : w.heap.size ≤ g4 := by omega
  have HX2 := Aside0.mk hX2
  have HX3 := Aside0.mk hX3
  have HX4 := Aside0.mk hbox4
  have HB := Aside0.mk hB
  have N23 := Aside0.mk n23
  have N24 := Aside0.mk n24
  have N34 := Aside0.mk n34
  have L2 := Aside0.mk l2
  have L4 := Aside0.mk l4
  clear hX2 hX3 hbox2 hbox3 hbox4 hB n23 n24 n34 l2 l4 z1 z2 s2 s3 s4 hb1 hb2 hb3 hg2 hg3 hg4
  go_wp2
  go_loopg [6] 31 (fun kq v6 w' => ∃ (i : Nat), v6 = .int .i64 (i : Int) ∧ Aside0 (i + kq = 31) ∧ Aside0 (w'.heap[g2]? = some (.cells (iA (sumL n1 (zAt xs ys i) w1_)) 55 (0, 0))) ∧ Aside0 (w'.heap[g3]? = some (.cells (iA (sumL n2 ys w2_)) 55 (0, 0))) ∧ Aside0 (w'.heap[g4]? = some (.cells (iA (sumL 0 zs31 0)) 55 (0, 0))) ∧ Aside0 (Below w.heap.size w w'))
  case atStart => exact ⟨0, rfl, ⟨by omega⟩, ⟨by rw [zAt_0 xs ys HLX.out]; exact HX2.out⟩, HX3, HX4, HB⟩
  case round =>
    clear HX2 HX3 HX4 HB
    obtain ⟨i, rfl, HK, HX2, HX3, HX4, HB⟩ := hrel
    by_cases hi : i < 31
    · have hq : decide ((i : Int) < 31) = true := decide_eq_true (by omega)
      have hc2 := sum_cell HX2.out (i := i) (by rw [zAt_len]; exact hi)
      rw [zAt_get xs ys hi] at hc2
      have hc3 := sum_cell HX3.out (i := i) (by rw [HLY.out]; exact hi)
      have hfz := blk_frozen HX2.out (1 + i)
      have hiN : i < 31 := hi
      go_wp2
      go_region
      all_goals
        go_wp2
        go_roundg (31 - (i + 1))
        case measure => have := HK.out; omega
        case rel =>
          have h3 := sum_set HX2.out (i := i) (by rw [zAt_len]; exact hiN) (wrap64 (xs.getD i 0 + ys.getD i 0))
          rw [zAt_succ] at h3
          simp only [List.getD_eq_getElem?_getD] at h3
          exact ⟨i + 1, by first | rfl | (simp; done) | go_num, ⟨by omega⟩, ⟨blk_drew h3⟩, ⟨blk_drew (blk_far HX3.out N23.out.symm _)⟩, ⟨blk_drew (blk_far HX4.out N24.out.symm _)⟩, ⟨below_drew1 (below_set HB.out L2.out)⟩⟩
    · have hq : decide ((i : Int) < 31) = false := decide_eq_false (by omega)
      obtain rfl : i = 31 := by have := HK.out; omega
      have c20 := sum_cell0 HX2.out
      have c30 := sum_cell0 HX3.out
      have f20 := blk_frozen HX2.out 0
      have c2w := sum_cellw HX2.out (zAt_len _ _ _)
      have c3w := sum_cellw HX3.out HLY.out
      have f2w := blk_frozen HX2.out 32
      go_upto_region 8 with (fail)
      obtain ⟨M, hM⟩ : ∃ M, (if w1_ < w2_ then w2_ else w1_) = M := ⟨_, rfl⟩
      rw [hM]
      have HM := Aside0.mk (show mx w1_ w2_ = M from hM)
      clear hM
      have h0 := sum_set0 HX2.out (wrap64 (n1 + n2))
      have hw := sum_setw h0 (zAt_len _ _ _) M
      obtain ⟨W5, hW5⟩ : ∃ W5, (wr.setCell ⟨g2, 0, none⟩ (.int .i64 (wrap64 (n1 + n2)))).setCell ⟨g2, 32, none⟩ (.int .i64 M) = W5 := ⟨_, rfl⟩
      have hX4 : W5.heap[g4]? = some (.cells (iA (sumL 0 zs31 0)) 55 (0, 0)) := by rw [← hW5]; exact blk_far (blk_far HX4.out N24.out.symm _) N24.out.symm _
      have hB5 : Below w.heap.size w W5 := by rw [← hW5]; exact below_set (below_set HB.out L2.out) L2.out
      rw [hW5] at hw ⊢
      have HW := Aside0.mk hw
      have HX5 := Aside0.mk hX4
      have HB5 := Aside0.mk hB5
      clear hw hX4 hB5 hW5 h0 c20 c30 f20 c2w c3w f2w
      go_wp2_with (first
        | ((with_reducible refine gate_dst (N := 33) rfl ?_); refine wpList_load_row rfl 55 _ rfl g2 rfl 55 _ _ _ HW.out Try.underlying55 rfl (iA_sum_size (zAt_len _ _ _)) ?_)
        | ((with_reducible refine gate_store (t := 55) (p := 4) rfl ?_); refine wpList_store_row rfl 55 _ _ rfl g4 (iA (sumL (wrap64 (n1 + n2)) (zAt xs ys 31) M)) rfl rfl 55 _ HX5.out (iA_sum_size (zAt_len _ _ _)) (by rw [iA_size, iA_size]; simp [sumL, zs31, zAt_len]) (iA_one _) ?_))
      have hX6 := setRow_heap W5 g4 _ (iA (sumL (wrap64 (n1 + n2)) (zAt xs ys 31) M)) _ _ HX5.out
      refine bodyPost_ret (results_cell_row rfl _ _ g4 55 _ _ _ rfl hX6 Try.underlying55 rfl (iA_sum_size (zAt_len _ _ _))) rfl ?_
      rw [HM.out]
      exact ⟨rfl, below_setRow HB5.out L4.out _⟩
set_option linter.unusedSimpArgs false
set_option linter.unusedVariables false
theorem results_cell_row_tmp {P : Program} {fn : Func} {p u : Tmp} {ty : TypeId} (h : fn.results = #[.cell p ty, .tmp u]) (tmps : Array Value) (w : World) (g : Nat) (t : TypeId) (cs : Array Value) (fr : Nat × Nat) (d : TypeDesc)
    (hp : tmps.getD p undef = .pointer (some ⟨g, 0, none⟩)) (hg : w.heap[g]? = some (.cells cs t fr))
    (hu : P.underlying ty = some d) (hd : (match d with | .struct _ | .array _ _ => true | _ => false) = true) (hi : (P.info? ty).map (·.size) = some cs.size) :
    (results fn tmps).run P w = .ok (.tuple #[.agg cs, tmps.getD u undef]) w := by
  have hp' : tmps[p]?.getD undef = .pointer (some ⟨g, 0, none⟩) := by simpa using hp
  simp [results, h, hp', asAddr, run_loadVar_row w g t ty cs fr d hg hu hd hi]
theorem results_cell_row_tmp2 {P : Program} {fn : Func} {p u v : Tmp} {ty : TypeId} (h : fn.results = #[.cell p ty, .tmp u, .tmp v]) (tmps : Array Value) (w : World) (g : Nat) (t : TypeId) (cs : Array Value) (fr : Nat × Nat) (d : TypeDesc)
    (hp : tmps.getD p undef = .pointer (some ⟨g, 0, none⟩)) (hg : w.heap[g]? = some (.cells cs t fr))
    (hu : P.underlying ty = some d) (hd : (match d with | .struct _ | .array _ _ => true | _ => false) = true) (hi : (P.info? ty).map (·.size) = some cs.size) :
    (results fn tmps).run P w = .ok (.tuple #[.agg cs, tmps.getD u undef, tmps.getD v undef]) w := by
  have hp' : tmps[p]?.getD undef = .pointer (some ⟨g, 0, none⟩) := by simpa using hp
  simp [results, h, hp', asAddr, run_loadVar_row w g t ty cs fr d hg hu hd hi]
/-- The best k of the first ones, and its bits. -/
def bestK (ys : List Int) : Nat → Int × Int
  | 0 => (0, ys.getD 0 0)
  | k + 1 => if ys.getD (k + 1) 0 < (bestK ys k).2 then (((k + 1 : Nat) : Int), ys.getD (k + 1) 0) else bestK ys k
def bestRaw (n wd : Int) : Int := wrap64 (5 + wrap64 (n * wd))
/-- A part's best way, and its bits. -/
def bestP (n : Int) (ys : List Int) (wd : Int) (m : Nat) : (Int × Bool) × Int :=
  if wd ≤ 31 ∧ bestRaw n wd < (bestK ys m).2 then ((wd, true), bestRaw n wd) else (((bestK ys m).1, false), (bestK ys m).2)
set_option maxHeartbeats 8000000 in
set_option maxRecDepth 100000 in
theorem parts_best.calls (n wd : Int) (ys : List Int) (hy : ys.length = 31) (m : Nat) (hm : m ≤ 30) (w : World) :
    Calls Try.prog 31 #[.agg (iA (sumL n ys wd)), .int .i64 (m : Int)] w fun e w' => e = .returned (.tuple #[.agg #[.int .i64 (bestP n ys wd m).1.1, .bool (bestP n ys wd m).1.2], .int .i64 (bestP n ys wd m).2]) ∧ Below w.heap.size w w' := by
  have HLY := Aside0.mk hy
  clear hy
  go_enter Try.func31, Try.ntmps31
  go_upto_region 1 with (first
    | ((with_reducible refine gate_dst (N := 2) rfl ?_); refine box_event ?hg (N := 2) ?hd (cs := iA (sumL n ys wd)) (t := 55) ?hr ?_; (case hd => rfl); (case hg => rfl); (case hr => go_loud (first | (go_simp; done) | (go_simp; rfl))); intro g2 hg2_ w1 hbox2 hb1; have G2 := Aside0.mk hg2_; clear hg2_)
    | ((with_reducible refine gate_dst (N := 4) rfl ?_); refine box_event ?hg (N := 4) ?hd (cs := #[.int .i64 0, .bool false]) (t := 39) ?hr ?_; (case hd => rfl); (case hg => rfl); (case hr => go_loud (first | (go_simp; done) | (go_simp; rfl))); intro g4 hg4_ w2 hbox4 hb2; have G4 := Aside0.mk hg4_; clear hg4_))
  have hg2 := G2.out
  have hg4 := G4.out
  clear G2 G4
  have s2 := blk_lt hbox2
  have s4 := blk_lt hbox4
  have hB : Below w.heap.size w w2 := below_step hb1 hb2
  have hX2 := blk_below (g := g2) hbox2 hb2
  have z1 := hb1.size
  have l4 : w.heap.size ≤ g4 := by omega
  have HX2 := Aside0.mk hX2
  have HX4 := Aside0.mk hbox4
  have HB := Aside0.mk hB
  have L4 := Aside0.mk l4
  clear hX2 hbox2 hbox4 hB l4 z1 s2 s4 hb1 hb2 hg2 hg4
  have hc2 := sum_cell HX2.out (i := 0) (by rw [HLY.out]; decide)
  simp only [Nat.add_zero] at hc2
  have hc2a : ∀ o : Obj, (w2.alloc o).cell? ⟨g2, 1, none⟩ = some (.int .i64 (ys.getD 0 0)) := fun o => by
    have h := sum_cell (blk_alloc HX2.out o) (i := 0) (by rw [HLY.out]; decide)
    simpa only [Nat.add_zero] using h
  simp only [List.getD_eq_getElem?_getD] at hc2 hc2a
  go_region
  have hle := HB.out.size
  obtain ⟨g6, hg6⟩ : ∃ g6, w2.heap.size = g6 := ⟨_, rfl⟩
  obtain ⟨W0, hW0⟩ : ∃ W0, (w2.alloc (Obj.cells #[Value.int .i64 0, Value.bool false] 39)).drew = W0 := ⟨_, rfl⟩
  have x2 := blk_drew (blk_alloc HX2.out (Obj.cells #[Value.int .i64 0, Value.bool false] 39))
  have x4 := blk_drew (blk_alloc HX4.out (Obj.cells #[Value.int .i64 0, Value.bool false] 39))
  have x6 := blk_drew (blk_new w2 (Obj.cells #[Value.int .i64 0, Value.bool false] 39))
  have hBw := below_drew1 (below_alloc HB.out (Obj.cells #[Value.int .i64 0, Value.bool false] 39))
  have t2 := blk_lt HX2.out
  have t4 := blk_lt HX4.out
  rw [hW0] at x2 x4 x6 hBw ⊢
  rw [hg6] at x6 ⊢
  have n26 : g2 ≠ g6 := by omega
  have n46 : g4 ≠ g6 := by omega
  have l6 : w.heap.size ≤ g6 := by omega
  clear HX2 HX4 HB hc2 hc2a
  have HX2 := Aside0.mk x2
  have HX4 := Aside0.mk x4
  have HX6 := Aside0.mk x6
  have HB := Aside0.mk hBw
  have N26 := Aside0.mk n26
  have N46 := Aside0.mk n46
  have L6 := Aside0.mk l6
  clear x2 x4 x6 hBw n26 n46 l6 t2 t4 hW0 hg6 hle
  go_wp2
  go_loopg [7, 8] m (fun kq v7 v8 w' => ∃ (i : Nat), v7 = .int .i64 (bestK ys i).2 ∧ v8 = .int .i64 ((i + 1 : Nat) : Int) ∧ Aside0 (i + kq = m) ∧ Aside0 (w'.heap[g2]? = some (.cells (iA (sumL n ys wd)) 55 (0, 0))) ∧ Aside0 (w'.heap[g4]? = some (.cells #[.int .i64 0, .bool false] 39 (0, 0))) ∧ Aside0 (w'.heap[g6]? = some (.cells #[.int .i64 (bestK ys i).1, .bool false] 39 (0, 0))) ∧ Aside0 (Below w.heap.size w w'))
  case atStart => exact ⟨0, by first | rfl | simp [bestK, List.getD_eq_getElem?_getD], rfl, ⟨by omega⟩, HX2, HX4, HX6, HB⟩
  case round =>
    clear HX2 HX4 HX6 HB
    obtain ⟨i, rfl, rfl, HK, HX2, HX4, HX6, HB⟩ := hrel
    have hKm := HK.out
    by_cases hi : i < m
    · have hq : decide (((i + 1 : Nat) : Int) ≤ (m : Int)) = true := decide_eq_true (by omega)
      have h31 : i + 1 < 31 := by omega
      have hc2 := sum_cell HX2.out (i := i + 1) (by rw [HLY.out]; exact h31)
      have hc60 : wr.cell? ⟨g6, 0, none⟩ = some (.int .i64 (bestK ys i).1) := (blk_cell HX6.out 0).trans rfl
      have hc61 : wr.cell? ⟨g6, 1, none⟩ = some (.bool false) := (blk_cell HX6.out 1).trans rfl
      have hf60 := blk_frozen HX6.out 0
      have hf61 := blk_frozen HX6.out 1
      have n26 := N26.out
      by_cases hb : ys.getD (i + 1) 0 < (bestK ys i).2
      · have hbd : decide (ys.getD (i + 1) 0 < (bestK ys i).2) = true := decide_eq_true hb
        have hbk : bestK ys (i + 1) = (((i + 1 : Nat) : Int), ys.getD (i + 1) 0) := by rw [bestK, if_pos hb]
        have HBK := Aside0.mk hbk
        clear hbk hb
        obtain ⟨Y, hY⟩ : ∃ Y, ys.getD (i + 1) 0 = Y := ⟨_, rfl⟩
        rw [hY] at hc2 hbd
        have HY := Aside0.mk hY
        clear hY
        go_wp2
        go_region
        go_wp2
        go_roundg (m - (i + 1))
        case measure => omega
        case rel =>
          have x6 : ((wr.setCell ⟨g6, 0, none⟩ (.int .i64 ((i : Int) + 1))).setCell ⟨g6, 1, none⟩ (.bool false)).heap[g6]? = some (.cells #[.int .i64 ((i : Int) + 1), .bool false] 39 (0, 0)) := (blk_set (blk_set HX6.out 0 (.int .i64 ((i : Int) + 1))) 1 (.bool false)).trans (by simp)
          have hbk := HBK.out
          rw [HY.out] at hbk
          refine ⟨i + 1, by rw [hbk], by first | rfl | (simp; done) | go_num, ⟨by omega⟩, ⟨blk_drew (blk_far (blk_far HX2.out N26.out _) N26.out _)⟩, ⟨blk_drew (blk_far (blk_far HX4.out N46.out _) N46.out _)⟩, ⟨blk_drew (x6.trans ?_)⟩, ⟨below_drew1 (below_set (below_set HB.out L6.out) L6.out)⟩⟩
          rw [hbk]
          rfl
      · have hbd : decide (ys.getD (i + 1) 0 < (bestK ys i).2) = false := decide_eq_false hb
        have hbk : bestK ys (i + 1) = bestK ys i := by rw [bestK, if_neg hb]
        have HBK := Aside0.mk hbk
        clear hbk hb
        obtain ⟨Y, hY⟩ : ∃ Y, ys.getD (i + 1) 0 = Y := ⟨_, rfl⟩
        rw [hY] at hc2 hbd
        clear hY
        go_wp2
        go_roundg (m - (i + 1))
        case measure => omega
        case rel => exact ⟨i + 1, by rw [HBK.out], by first | rfl | (simp; done) | go_num, ⟨by omega⟩, HX2, HX4, ⟨by rw [HBK.out]; exact HX6.out⟩, HB⟩
    · have hq : decide (((i + 1 : Nat) : Int) ≤ (m : Int)) = false := decide_eq_false (by omega)
      obtain rfl : i = m := by omega
      clear hKm
      have hc20 := sum_cell0 HX2.out
      have hc2w := sum_cellw HX2.out HLY.out
      have hc60 : wr.cell? ⟨g6, 0, none⟩ = some (.int .i64 (bestK ys i).1) := (blk_cell HX6.out 0).trans rfl
      have hc61 : wr.cell? ⟨g6, 1, none⟩ = some (.bool false) := (blk_cell HX6.out 1).trans rfl
      have hf60 := blk_frozen HX6.out 0
      have hf61 := blk_frozen HX6.out 1
      have hc40 : wr.cell? ⟨g4, 0, none⟩ = some (.int .i64 0) := (blk_cell HX4.out 0).trans rfl
      have hc41 : wr.cell? ⟨g4, 1, none⟩ = some (.bool false) := (blk_cell HX4.out 1).trans rfl
      have hf40 := blk_frozen HX4.out 0
      have hf41 := blk_frozen HX4.out 1
      have n46 := N46.out
      have n64 := N46.out.symm
      obtain ⟨R, hR⟩ : ∃ R, wrap64 (5 + wrap64 (n * wd)) = R := ⟨_, rfl⟩
      by_cases h1 : wd ≤ 31 ∧ R < (bestK ys i).2
      · have d1 : decide (wd ≤ 31) = true := decide_eq_true h1.1
        have d2 : decide (R < (bestK ys i).2) = true := decide_eq_true h1.2
        have hbp : bestP n ys wd i = ((wd, true), R) := by unfold bestP bestRaw; rw [hR, if_pos h1]
        have HBP := Aside0.mk hbp
        clear h1 hbp
        go_wp2
        have x4 : ((((wr.setCell ⟨g6, 0, none⟩ (.int .i64 wd)).setCell ⟨g6, 1, none⟩ (.bool true)).setCell ⟨g4, 0, none⟩ (.int .i64 wd)).setCell ⟨g4, 1, none⟩ (.bool true)).heap[g4]? = some (.cells #[.int .i64 wd, .bool true] 39 (0, 0)) := (blk_set (blk_set (blk_far (blk_far HX4.out N46.out _) N46.out _) 0 (.int .i64 wd)) 1 (.bool true)).trans (by simp)
        have hb4 : Below w.heap.size w ((((wr.setCell ⟨g6, 0, none⟩ (.int .i64 wd)).setCell ⟨g6, 1, none⟩ (.bool true)).setCell ⟨g4, 0, none⟩ (.int .i64 wd)).setCell ⟨g4, 1, none⟩ (.bool true)) := below_set (below_set (below_set (below_set HB.out L6.out) L6.out) L4.out) L4.out
        refine bodyPost_ret (results_cell_row_tmp rfl _ _ g4 39 _ _ _ rfl x4 Try.underlying39 rfl rfl) rfl ?_
        rw [HBP.out]
        refine ⟨?_, hb4⟩
        simp [hR]
      · have hbp : bestP n ys wd i = (((bestK ys i).1, false), (bestK ys i).2) := by unfold bestP bestRaw; rw [hR, if_neg h1]
        have HBP := Aside0.mk hbp
        by_cases h2 : wd ≤ 31
        · have h3 : ¬ R < (bestK ys i).2 := fun h => h1 ⟨h2, h⟩
          have d1 : decide (wd ≤ 31) = true := decide_eq_true h2
          have d2 : decide (R < (bestK ys i).2) = false := decide_eq_false h3
          clear h1 h2 h3 hbp
          go_wp2
          have x4 : ((wr.setCell ⟨g4, 0, none⟩ (.int .i64 (bestK ys i).1)).setCell ⟨g4, 1, none⟩ (.bool false)).heap[g4]? = some (.cells #[.int .i64 (bestK ys i).1, .bool false] 39 (0, 0)) := (blk_set (blk_set HX4.out 0 (.int .i64 (bestK ys i).1)) 1 (.bool false)).trans (by simp)
          have hb4 : Below w.heap.size w ((wr.setCell ⟨g4, 0, none⟩ (.int .i64 (bestK ys i).1)).setCell ⟨g4, 1, none⟩ (.bool false)) := below_set (below_set HB.out L4.out) L4.out
          refine bodyPost_ret (results_cell_row_tmp rfl _ _ g4 39 _ _ _ rfl x4 Try.underlying39 rfl rfl) rfl ?_
          rw [HBP.out]
          refine ⟨?_, hb4⟩
          simp
        · have d1 : decide (wd ≤ 31) = false := decide_eq_false h2
          clear h1 h2 hbp
          go_wp2
          have x4 : ((wr.setCell ⟨g4, 0, none⟩ (.int .i64 (bestK ys i).1)).setCell ⟨g4, 1, none⟩ (.bool false)).heap[g4]? = some (.cells #[.int .i64 (bestK ys i).1, .bool false] 39 (0, 0)) := (blk_set (blk_set HX4.out 0 (.int .i64 (bestK ys i).1)) 1 (.bool false)).trans (by simp)
          have hb4 : Below w.heap.size w ((wr.setCell ⟨g4, 0, none⟩ (.int .i64 (bestK ys i).1)).setCell ⟨g4, 1, none⟩ (.bool false)) := below_set (below_set HB.out L4.out) L4.out
          refine bodyPost_ret (results_cell_row_tmp rfl _ _ g4 39 _ _ _ rfl x4 Try.underlying39 rfl rfl) rfl ?_
          rw [HBP.out]
          refine ⟨?_, hb4⟩
          simp
set_option linter.unusedSimpArgs false
set_option linter.unusedVariables false
theorem wpList_load_at {P : Program} {ops : Array Oper} {rest : List Oper} {op : Oper} {a : Act} {w : World} {Q : Exit → Act → World → Prop} (hgd : op.guard = none) (ty : TypeId) (x : Operand) (ho : op.op = .load ty x)
    (ad : Addr) (hx : a.eval x = .pointer (some ad)) (cs : List Value) (C : Array Value) (hC : cs.toArray = C) (d : TypeDesc) (hc : ∀ j v, cs[j]? = some v → w.cell? (ad.add j) = some v)
    (hu : P.underlying ty = some d) (hd : d.isRow = true) (hi : (P.info? ty).map (·.size) = some cs.length)
    (h : wpList P ops Q rest (a.put op.dst (.agg C)) w) : wpList P ops Q (op :: rest) a w := by
  subst hC
  refine wpList_plain hgd fun _ hK => ?_
  have hl : (loadCells ad cs.length).run P w = .ok cs.toArray w := run_loadCells_list (P := P) w ad cs hc
  have hv : (loadVar ty ad).run P w = .ok (.agg cs.toArray) w := by
    cases hq : P.info? ty with
    | none => simp [hq] at hi
    | some i =>
      have hs : i.size = cs.length := by simpa [hq] using hi
      have hagg : (isAgg ty).run P w = .ok true w := by
        unfold isAgg
        rw [Sem.run_bind, run_underlying hu w]
        cases d <;> simp_all
      simp [loadVar, Sem.run_bind, hagg, sizeOf, typeInfo, hq, hs, hl]
  unfold Oper.wp execOp
  simp only [ho, hx, Instr.loadAt, Instr.sureAddr, Sem.run_bind, Sem.run_pure, Result.andThen_ok, hv]
  exact hK _ _ h
theorem sz26 : (Try.prog.info? 26).map (·.size) = some 3 := by kernel_rfl
theorem sz39 : (Try.prog.info? 39).map (·.size) = some 2 := by kernel_rfl
/-- What is known of a part. -/
structure Sm where
  n : Int
  ys : List Int
  wd : Int
def Sm.c (s : Sm) : List Value := (sumL s.n s.ys s.wd).map (Value.int .i64)
theorem Sm.c_len {s : Sm} (h : s.ys.length = 31) : s.c.length = 33 := by simp [Sm.c, sumL, h]
theorem Sm.c_arr (s : Sm) : s.c.toArray = iA (sumL s.n s.ys s.wd) := rfl
def kS : Kd Sm where
  sz := 33
  E := []
  K := fun _ x cs => cs = x.c ∧ x.ys.length = 31
  M := fun _ _ _ x cs => cs = x.c ∧ x.ys.length = 31
  K_len := fun h => by rw [h.1]; exact Sm.c_len h.2
  K_one := fun h u hu => by
    rw [h.1] at hu
    obtain ⟨v, _, rfl⟩ := List.mem_map.1 hu
    rfl
  K_below := fun _ h => h
  K_of_M := fun h => h
  M_mono := fun _ h => h
  M_bound := fun h => h
  M_move := fun _ h => h
  M_lower := fun _ h => h
def zSm : Sm := ⟨0, zs31, 0⟩
theorem kS_at {w : World} {A : Option Addr} {n : Nat} {xs : List Sm} (h : Kd.C kS w A n xs) (i : Nat) (hi : i < n) : ∃ ad, A = some ad ∧ (xs.getD i zSm).ys.length = 31 ∧ ∀ j u, (xs.getD i zSm).c[j]? = some u → w.cell? (ad.add (i * 33 + j)) = some u := by
  obtain ⟨ad, c, hA, _, hk, hc⟩ := Kd.C_get h zSm (i : Int) (by omega) (by omega)
  simp only [Int.toNat_natCast] at hk hc
  obtain ⟨rfl, h31⟩ := hk
  exact ⟨ad, hA, h31, hc⟩
/-- A part's best way, by the greatest k. -/
def partOf (s : Sm) (m : Nat) : S39 := ⟨(bestP s.n s.ys s.wd m).1.1, (bestP s.n s.ys s.wd m).1.2⟩
def bitsOf (s : Sm) (m : Nat) : Int := (bestP s.n s.ys s.wd m).2
def mostOf (wide : Bool) : Nat := if wide then 30 else 14
def sizeOf_ (wide : Bool) : Int := if wide then 5 else 4
def planParts (l : List Sm) (wide : Bool) : List S39 := l.map (fun s => partOf s (mostOf wide))
def planAdd (wide : Bool) (n : Int) (s : Sm) : Int := wrap64 (n + wrap64 (sizeOf_ wide + bitsOf s (mostOf wide)))
def planBits (l : List Sm) (wide : Bool) : Int := l.foldl (planAdd wide) 6
theorem take_succ_s {l : List Sm} {i : Nat} (h : i < l.length) : l.take (i + 1) = l.take i ++ [l.getD i zSm] := by
  rw [List.take_add_one, List.getD_eq_getElem?_getD, List.getElem?_eq_getElem h]
  rfl
theorem planBits_succ {l : List Sm} {i : Nat} (h : i < l.length) (wide : Bool) : planBits (l.take (i + 1)) wide = planAdd wide (planBits (l.take i) wide) (l.getD i zSm) := by
  rw [take_succ_s h]; unfold planBits; rw [List.foldl_append]; rfl
theorem planParts_succ {l : List Sm} {i : Nat} (h : i < l.length) (wide : Bool) : planParts (l.take (i + 1)) wide = planParts (l.take i) wide ++ [partOf (l.getD i zSm) (mostOf wide)] := by
  rw [take_succ_s h]; unfold planParts; rw [List.map_append]; rfl
theorem wrapn {i : Nat} (h : i < 8796093022208) : wrap64 ((i : Int) + 1) = (i : Int) + 1 := by unfold wrap64; omega
set_option maxHeartbeats 8000000 in
set_option maxRecDepth 100000 in
theorem parts_plan.calls (A : Option Addr) (c : Nat) (l : List Sm) (o : Int) (wide : Bool) (w : World) (hr : Kd.C kS w A l.length l) (hc : l.length ≤ c) (hl : l.length < 8796093022208) :
    Calls Try.prog 18 #[.slice A l.length c, .int .i64 o, .bool wide] w fun e w' => ∃ v : Value, e = .returned (.tuple #[.agg #[.bool wide, .int .i64 o, v], .int .i64 (planBits l wide)]) ∧ Kd.R k39 39 w' w.heap.size (fun _ => True) v (planParts l wide) ∧ Below w.heap.size w w' := by
  have HR := Aside0.mk hr
  have HL := Aside0.mk hl
  clear hr hl
  go_enter Try.func18, Try.ntmps18
  have htop : parts_top.f wide = some ((mostOf wide : Int), sizeOf_ wide) := by cases wide <;> rfl
  have HT := Aside0.mk htop
  have HM := Aside0.mk (show mostOf wide ≤ 30 by cases wide <;> decide)
  clear htop
  obtain ⟨m, hm⟩ : ∃ m, mostOf wide = m := ⟨_, rfl⟩
  rw [hm] at HT HM
  have HMM := Aside0.mk hm
  clear hm
  go_upto_region 2 with (first
    | ((with_reducible refine gate_dst (N := 6) rfl ?_); refine box_event ?hg (N := 6) ?hd (cs := #[.bool false, .int .i64 0, .slice none 0 0]) (t := 26) ?hr ?_; (case hd => rfl); (case hg => rfl); (case hr => go_loud (first | (go_simp; done) | (go_simp; rfl))); intro g6 hg6_ w1 hbox6 hb1; have G6 := Aside0.mk hg6_; clear hg6_; have X6 := Aside0.mk hbox6; have B1 := Aside0.mk hb1; clear hbox6 hb1)
    | (go_at_call 23; (refine (parts_top.calls wide (m : Int) (sizeOf_ wide) _ HT.out).mono ?_); rintro e w9 ⟨rfl, ⟨nd, rfl⟩⟩))
  go_wp2_with (first
    | ((with_reducible refine gate_dst (N := 10) rfl ?_); refine box_event ?hg (N := 10) ?hd (cs := #[.bool false, .int .i64 0, .slice none 0 0]) (t := 26) ?hr ?_; (case hd => rfl); (case hg => rfl); (case hr => go_loud (first | (go_simp; done) | (go_simp; rfl))); intro g10 hg10_ w2 hbox10 hb2; have G10 := Aside0.mk hg10_; clear hg10_; have X10 := Aside0.mk hbox10; have B2 := Aside0.mk hb2; clear hbox10 hb2)
    | ((with_reducible refine gate_store (t := 26) (p := 10) rfl ?_); refine wpList_store_row rfl 26 _ _ rfl g10 #[.bool wide, .int .i64 o, .slice none 0 0] rfl rfl 26 _ X10.out sz26 rfl (by simp [Value.oneCell']) ?_))
  have z1 := blk_lt X6.out
  have hg6 := G6.out
  have hg10 : g10 = w1.heap.size := G10.out
  have zz := B1.out.size
  have n610 : g6 ≠ g10 := by omega
  have l6 : w.heap.size ≤ g6 := by omega
  have l10 : w.heap.size ≤ g10 := by omega
  have hX6 : (w2.setRow g10 #[Value.bool wide, Value.int IntKind.i64 o, Value.slice none 0 0]).heap[g6]? = some (.cells #[.bool false, .int .i64 0, .slice none 0 0] 26 (0, 0)) := (setRow_other w2 g10 g6 _ n610).trans (blk_below (blk_drewN X6.out nd) B2.out)
  have hX10 := setRow_heap w2 g10 _ #[Value.bool wide, Value.int IntKind.i64 o, Value.slice none 0 0] _ _ X10.out
  have hB : Below w.heap.size w (w2.setRow g10 #[Value.bool wide, Value.int IntKind.i64 o, Value.slice none 0 0]) := below_setRow (below_step (pw_below_drewN B1.out nd) B2.out) l10 _
  obtain ⟨W3, hW3⟩ : ∃ W3, w2.setRow g10 #[Value.bool wide, Value.int IntKind.i64 o, Value.slice none 0 0] = W3 := ⟨_, rfl⟩
  rw [hW3] at hX6 hX10 hB ⊢
  have hO := Kd.R_nil k39 39 W3 w.heap.size (fun _ => True)
  clear X6 X10 B1 B2 G6 G10 hg6 hg10 zz z1 hW3
  have HX6 := Aside0.mk hX6
  have HX10 := Aside0.mk hX10
  have HB := Aside0.mk hB
  have HO := Aside0.mk hO
  have N610 := Aside0.mk n610
  have L6 := Aside0.mk l6
  have L10 := Aside0.mk l10
  clear hX6 hX10 hB hO n610 l6 l10
  go_loopg [11, 26] l.length (fun kq v11 v26 w' => ∃ (i : Nat) (v : Value), v11 = .int .i64 (planBits (l.take i) wide) ∧ v26 = .int .i64 (i : Int) ∧ Aside0 (i + kq = l.length) ∧ Aside0 (w'.heap[g6]? = some (.cells #[.bool false, .int .i64 0, .slice none 0 0] 26 (0, 0))) ∧ Aside0 (w'.heap[g10]? = some (.cells #[.bool wide, .int .i64 o, v] 26 (0, 0))) ∧ Aside0 (Kd.R k39 39 w' w.heap.size (fun _ => True) v (planParts (l.take i) wide)) ∧ Aside0 (Below w.heap.size w w'))
  case atStart => exact ⟨0, _, rfl, rfl, ⟨by omega⟩, HX6, HX10, HO, HB⟩
  case round =>
    clear HX6 HX10 HO HB
    obtain ⟨i, v, rfl, rfl, HK, HX6, HX10, HO, HB⟩ := hrel
    by_cases hi : i < l.length
    · have hq : decide ((i : Int) < (l.length : Int)) = true := decide_eq_true (by omega)
      obtain ⟨ad, rfl, h31, hcell⟩ := kS_at (Kd.C_below HR.out HB.out) i hi
      obtain ⟨s, hs⟩ : ∃ s, l.getD i zSm = s := ⟨_, rfl⟩
      rw [hs] at h31 hcell
      have HS := Aside0.mk hs
      have H31 := Aside0.mk h31
      have HC := Aside0.mk hcell
      have HI := Aside0.mk hi
      clear hs h31 hcell
      go_upto_region 5 with (fail)
      go_upto_region 6 with (first
        | ((with_reducible refine gate_dst (N := 29) rfl ?_); refine wpList_load_at rfl 55 _ rfl (ad.add (i * 33)) rfl s.c (iA (sumL s.n s.ys s.wd)) rfl _ (fun j u hj => by rw [Addr.add_add]; exact HC.out j u hj) Try.underlying55 rfl (by rw [Sm.c_len H31.out]; exact sz55) ?_)
        | ((with_reducible refine gate_dst (N := 13) rfl ?_); refine box_event ?hg (N := 13) ?hd (cs := iA (sumL 0 zs31 0)) (t := 55) ?hr ?_; (case hd => rfl); (case hg => rfl); (case hr => go_loud (first | (go_simp; done) | (go_simp; rfl))); intro g13 hg13_ w4 hbox13 hb4; have G13 := Aside0.mk hg13_; clear hg13_; have X13 := Aside0.mk hbox13; have B4 := Aside0.mk hb4; clear hbox13 hb4)
        | ((with_reducible refine gate_store (t := 55) (p := 13) rfl ?_); refine wpList_store_row rfl 55 _ _ rfl g13 (iA (sumL s.n s.ys s.wd)) rfl rfl 55 _ X13.out (iA_sum_size H31.out) (by rw [iA_size, iA_size]; simp [sumL, zs31, H31.out]) (iA_one _) ?_))
      have hX13 := setRow_heap w4 g13 _ (iA (sumL s.n s.ys s.wd)) _ _ X13.out
      have hg13 := G13.out
      have zb := HB.out.size
      have l13 : w.heap.size ≤ g13 := by omega
      have zi6 := blk_lt HX6.out
      have zi10 := blk_lt HX10.out
      have n6 : g6 ≠ g13 := by omega
      have n10 : g10 ≠ g13 := by omega
      have hX6 := (setRow_other w4 g13 g6 (iA (sumL s.n s.ys s.wd)) n6).trans (blk_below HX6.out B4.out)
      have hX10 := (setRow_other w4 g13 g10 (iA (sumL s.n s.ys s.wd)) n10).trans (blk_below HX10.out B4.out)
      have hB4 : Below wr.heap.size wr (w4.setRow g13 (iA (sumL s.n s.ys s.wd))) := below_setRow B4.out (by omega) _
      have hO := Kd.R_below HO.out hB4
      have hB := below_step HB.out hB4
      obtain ⟨W5, hW5⟩ : ∃ W5, w4.setRow g13 (iA (sumL s.n s.ys s.wd)) = W5 := ⟨_, rfl⟩
      rw [hW5] at hX13 hX6 hX10 hB4 hO hB ⊢
      clear X13 B4 G13 hW5 hB4 HX6 HX10 HO HB zb zi6 zi10 hg13
      have HX13 := Aside0.mk hX13
      have HX6 := Aside0.mk hX6
      have HX10 := Aside0.mk hX10
      have HO := Aside0.mk hO
      have HB := Aside0.mk hB
      clear hX13 hX6 hX10 hO hB
      go_upto_region 7 with (first
        | ((with_reducible refine gate_dst (N := 31) rfl ?_); refine wpList_load_row rfl 55 _ rfl g13 rfl 55 _ _ _ HX13.out Try.underlying55 rfl (iA_sum_size H31.out) ?_)
        | (go_at_call 31; (refine (parts_best.calls s.n s.wd s.ys H31.out m HM.out _).mono ?_); rintro e w6 ⟨rfl, hb6⟩; have B6 := Aside0.mk hb6; clear hb6)
        | ((with_reducible refine gate_dst (N := 14) rfl ?_); refine box_event ?hg (N := 14) ?hd (cs := #[.int .i64 0, .bool false]) (t := 39) ?hr ?_; (case hd => rfl); (case hg => rfl); (case hr => go_loud (first | (go_simp; done) | (go_simp; rfl))); intro g14 hg14_ w7 hbox14 hb7; have G14 := Aside0.mk hg14_; clear hg14_; have X14 := Aside0.mk hbox14; have B7 := Aside0.mk hb7; clear hbox14 hb7)
        | ((with_reducible refine gate_store (t := 39) (p := 14) rfl ?_); refine wpList_store_row rfl 39 _ _ rfl g14 #[.int .i64 (bestP s.n s.ys s.wd m).1.1, .bool (bestP s.n s.ys s.wd m).1.2] rfl rfl 39 _ X14.out sz39 rfl (by simp [Value.oneCell']) ?_))
      have hg14 := G14.out
      have zb := HB.out.size
      have zb6 := B6.out.size
      have zi6 := blk_lt HX6.out
      have zi10 := blk_lt HX10.out
      have l14 : w.heap.size ≤ g14 := by omega
      have n6 : g6 ≠ g14 := by omega
      have n10 : g10 ≠ g14 := by omega
      have hb8 := below_setRow (below_step B6.out B7.out) (by omega : W5.heap.size ≤ g14) #[.int .i64 (bestP s.n s.ys s.wd m).1.1, .bool (bestP s.n s.ys s.wd m).1.2]
      have hX6 := blk_below HX6.out hb8
      have hX10 := blk_below HX10.out hb8
      have hX14 := setRow_heap w7 g14 _ #[.int .i64 (bestP s.n s.ys s.wd m).1.1, .bool (bestP s.n s.ys s.wd m).1.2] _ _ X14.out
      have hO := Kd.R_below HO.out hb8
      have hB := below_step HB.out hb8
      obtain ⟨W8, hW8⟩ : ∃ W8, w7.setRow g14 #[.int .i64 (bestP s.n s.ys s.wd m).1.1, .bool (bestP s.n s.ys s.wd m).1.2] = W8 := ⟨_, rfl⟩
      rw [hW8] at hX14 hX6 hX10 hb8 hO hB ⊢
      have hc10 : W8.cell? ⟨g10, 2, none⟩ = some v := (blk_cell hX10 2).trans rfl
      have hc140 : W8.cell? ⟨g14, 0, none⟩ = some (.int .i64 (bestP s.n s.ys s.wd m).1.1) := (blk_cell hX14 0).trans rfl
      have hc141 : W8.cell? ⟨g14, 1, none⟩ = some (.bool (bestP s.n s.ys s.wd m).1.2) := (blk_cell hX14 1).trans rfl
      clear X14 B7 G14 hW8 hb8 HX6 HX10 HX13 HO HB zb zb6 zi6 zi10 hg14 B6 n6 n10 l14
      have HX6 := Aside0.mk hX6
      have HX10 := Aside0.mk hX10
      have HO := Aside0.mk hO
      have HB := Aside0.mk hB
      clear hX14 hX6 hX10 hO hB
      go_wp2_with (first
        | ((with_reducible refine gate_builtin (b := .append) (xs := #[.tmp 37, .tmp 39]) rfl ?_); at_builtin; refine Kd.R_append k39 (w0 := w) w.heap.size rfl (.tmp 37) (.tmp 39) 24 39 (.agg #[(.int .i64 0), (.bool false)]) 16 rfl Try.underlying24 info39 rfl (by decide) (by omega) v (planParts (l.take i) wide) (partOf s m) [.int .i64 (bestP s.n s.ys s.wd m).1.1, .bool (bestP s.n s.ys s.wd m).1.2] (fun _ => True) (fun _ => False) rfl rfl ?aP (fun _ hk => hk.elim) (fun _ _ => trivial) ?aO ?aB ?aS ?aL ?_; (case aP => exact k39_mkM _ _ _ (partOf s m)); (case aB => exact HB.out); (case aO => exact HO.out); (case aS => exact below_size HB.out); (case aL => (have := HI.out; have := HL.out; simp only [planParts, List.length_map, List.length_take]; omega)); intro v9 w9 ho hb hg hat; obtain ⟨A9, c9, rfl⟩ := Kd.R_slice ho; have hX10n := blk_grown HX10.out hg (Kd.R_ne HO.out HX10.out (by decide)); have hX6n := blk_grown HX6.out hg (Kd.R_ne HO.out HX6.out (by decide)); have hc10n : w9.cell? ⟨g10, 2, none⟩ = some v := (blk_cell hX10n 2).trans rfl; have hf10n := blk_frozen hX10n 2; clear HX10 HX6 HB HO hc10 hc140 hc141; have HX10 := Aside0.mk hX10n; have HX6 := Aside0.mk hX6n; have HO := Aside0.mk ho; have HB := Aside0.mk hb; clear ho hb hg hat hX10n hX6n))
      have hl := HL.out
      go_wp2
      go_roundg (l.length - (i + 1))
      case measure => have := HK.out; omega
      case rel =>
        have hn : planBits (l.take (i + 1)) wide = wrap64 (planBits (l.take i) wide + wrap64 (sizeOf_ wide + (bestP s.n s.ys s.wd m).2)) := by rw [planBits_succ HI.out, HS.out, planAdd, bitsOf, HMM.out]
        have hp : planParts (l.take (i + 1)) wide = planParts (l.take i) wide ++ [partOf s m] := by rw [planParts_succ HI.out, HS.out, HMM.out]
        have hO := HO.out
        rw [List.length_append, List.length_singleton, ← hp] at hO
        refine ⟨i + 1, .slice A9 ((planParts (l.take i) wide).length + 1) c9, by rw [hn], by rw [wrapn (by omega)]; rfl, ⟨by have := HK.out; omega⟩, ⟨?_⟩, ⟨?_⟩, ⟨?_⟩, ⟨?_⟩⟩
        · exact blk_far HX6.out N610.out _
        · exact (blk_set HX10.out 2 _).trans (by simp)
        · exact Kd.R_set hO HX10.out (by decide) 2 _
        · exact below_set HB.out L10.out
    · have hq : decide ((i : Int) < (l.length : Int)) = false := decide_eq_false (by omega)
      obtain rfl : i = l.length := by have := HK.out; omega
      have hO := HO.out
      rw [List.take_length] at hO
      obtain ⟨Av, cv, rfl⟩ := Kd.R_slice hO
      have hc100 : wr.cell? ⟨g10, 0, none⟩ = some (.bool wide) := (blk_cell HX10.out 0).trans rfl
      have hc101 : wr.cell? ⟨g10, 1, none⟩ = some (.int .i64 o) := (blk_cell HX10.out 1).trans rfl
      have hc102 : wr.cell? ⟨g10, 2, none⟩ = some (.slice Av (planParts l wide).length cv) := (blk_cell HX10.out 2).trans rfl
      go_wp2_with ((with_reducible refine gate_store (t := 26) (p := 6) rfl ?_); refine wpList_store_row rfl 26 _ _ rfl g6 _ rfl rfl 26 _ HX6.out sz26 rfl ?one ?_; (case one => simp [Value.oneCell']))
      have hX6 := setRow_heap wr g6 _ #[.bool wide, .int .i64 o, .slice Av (planParts l wide).length cv] _ _ HX6.out
      refine bodyPost_ret (results_cell_row_tmp rfl _ _ g6 26 _ _ _ rfl hX6 Try.underlying26 rfl sz26) rfl ?_
      exact ⟨_, rfl, Kd.R_mono (Kd.R_step (Kd.R_types hO HX6.out (by decide)) (fun k hk _ => setRow_other wr g6 k _ hk.2)) (fun _ _ => trivial), below_setRow HB.out L6.out _⟩
end Go.Proofs.Ytpoigjkkcehpdaa.PA
