/- What the law SectionBest needs, part 6: texts of this claim, merged; the row itself stands in the last part. Conditions: as each theorem says. -/
import Derived.Laws.Tables
import Derived.Laws.Rows
import Derived.Laws.CopyOwn
import Derived.Deep.RegionWith
import Derived.Deep.MidRow
import Derived.ScopeJumps
import Derived.WalkMore
import Derived.Deep.LoopGhost
import Derived.Test.YtokdjeoecnnckaaMBestE
section
namespace Go.Proofs.Ytokdjeoecnnckaa.PA
open Go Go.RowKit Go.Proofs.YtokdjeoecnnckaaW.PrintWords Go.Proofs.YtokdjeoecnnckaaW.PrintLast Go.Proofs.YtokdjeoecnnckaaW.PrintMore
attribute [local go_sem] max2_int min2_int max_two min_two max_three min_three max_four min_four
set_option maxHeartbeats 8000000 in
set_option maxRecDepth 100000 in
theorem rice_Near_same (a0 : Int) (r : Bool) (w : World) (h : rice_Near.f a0 = some r) :
    Calls Try.prog 47 #[.int .i64 a0] w fun e w' => e = .returned (.bool r) ∧ w' = w := by
  have H : (if a0 ≥ (-8589934592) then (some (decide (a0 < 8589934592))) else (some false)) = some r := h
  clear h
  by_cases c2 : a0 ≥ (-8589934592)
  · rw [if_pos c2] at H
    have c2b0 : decide ((-8589934592) ≤ a0) = true := decide_eq_true c2
    clear c2
    obtain rfl := Option.some.inj H
    go_enter Try.func47, Try.ntmps47
    go_wp2
    go_ret
    exact ⟨by first | rfl | (simp; done) | (simp [*]; done), rfl⟩
  · rw [if_neg c2] at H
    have c2b0 : decide ((-8589934592) ≤ a0) = false := decide_eq_false c2
    clear c2
    obtain rfl := Option.some.inj H
    go_enter Try.func47, Try.ntmps47
    go_wp2
    go_ret
    exact ⟨by first | rfl | (simp; done) | (simp [*]; done), rfl⟩
set_option maxHeartbeats 8000000 in
set_option maxRecDepth 100000 in
theorem rice_held_same (a0 : Int) (r : Int) (w : World) (h : rice_held.f a0 = some r) :
    Calls Try.prog 46 #[.int .i64 a0] w fun e w' => e = .returned (.int .i64 r) ∧ w' = w := by
  have H : (some (mx 0 (mn a0 30))) = some r := h
  clear h
  obtain ⟨ji2, hji2⟩ : ∃ j_ : Int, (mn a0 30) = j_ := ⟨_, rfl⟩
  replace H : (some (mx 0 (ji2))) = some r := by first | (rw [hji2] at H; exact H) | (simp only [hji2] at H ⊢; exact H)
  (try (have hji2h : ji2 ≤ 30 := by (rw [← hji2]; unfold mn; (repeat' split) <;> omega)))
  (try (have hji2g : ji2 ≤ 64 := by omega))
  have hji2_ : (if 30 < a0 then 30 else a0) = ji2 := hji2
  obtain ⟨ji3, hji3⟩ : ∃ j_ : Int, (mx 0 (ji2)) = j_ := ⟨_, rfl⟩
  replace H : (some ji3) = some r := by first | (rw [hji3] at H; exact H) | (simp only [hji3] at H ⊢; exact H)
  have hji3_ : (if 0 < (ji2) then (ji2) else 0) = ji3 := hji3
  obtain rfl := Option.some.inj H
  go_enter Try.func46, Try.ntmps46
  go_wp2
  go_ret
  exact ⟨by first | rfl | (simp [errW_none, errW_some] <;> rfl) | (simp only [← hji2, ← hji3]; first | rfl | (simp [errW_none, errW_some] <;> rfl)) | (simp [*, errW_none, errW_some] <;> rfl), rfl⟩
set_option maxHeartbeats 8000000 in
set_option maxRecDepth 100000 in
theorem rice_Fold_same (a0 : Int) (r : Int) (w : World) (h : rice_Fold.f a0 = some r) :
    Calls Try.prog 44 #[.int .i64 a0] w fun e w' => e = .returned (.int .u64 r) ∧ w' = w := by
  have H : (some (Go.bits .xor .u64 (IntKind.u64.wrap ((IntKind.u64.wrap (a0)) * 2)) (IntKind.u64.wrap (a0 / 9223372036854775808)))) = some r := h
  clear h
  obtain rfl := Option.some.inj H
  go_enter Try.func44, Try.ntmps44
  go_wp2
  go_ret
  exact ⟨by first | rfl | (simp; done) | (simp [*]; done), rfl⟩
set_option maxHeartbeats 8000000 in
set_option maxRecDepth 100000 in
theorem rice_Size_same (a0 : Int) (a1 : Int) (r : Int) (w : World) (h : rice_Size.f a0 a1 = some r) :
    Calls Try.prog 58 #[.int .i64 a0, .int .i64 a1] w fun e w' => e = .returned (.int .i64 r) ∧ w' = w := by
  have H : ((rice_Near.f a0).bind fun t113 => (if t113 = true then ((rice_held.f a1).bind fun t114 => ((rice_Fold.f a0).bind fun t115 => (if 0 ≤ t114 then (some (wrap64 ((wrap64 ((wrap64 (shr .u64 t115 t114)) + 1)) + t114))) else (none)))) else (some (-1)))) = some r := h
  clear h
  replace H := Option.bind_eq_some_iff.mp H
  obtain ⟨t113, A30, H⟩ := H
  replace H : (if t113 = true then ((rice_held.f a1).bind fun t114 => ((rice_Fold.f a0).bind fun t115 => (if 0 ≤ t114 then (some (wrap64 ((wrap64 ((wrap64 (shr .u64 t115 t114)) + 1)) + t114))) else (none)))) else (some (-1))) = some r := H
  have A3 := zG.mk A30
  clear A30
  by_cases c4 : t113 = true
  · subst c4
    have H1 : ((rice_held.f a1).bind fun t114 => ((rice_Fold.f a0).bind fun t115 => (if 0 ≤ t114 then (some (wrap64 ((wrap64 ((wrap64 (shr .u64 t115 t114)) + 1)) + t114))) else (none)))) = some r := by rw [if_pos rfl] at H; exact H
    clear H
    have H := H1
    clear H1
    replace H := Option.bind_eq_some_iff.mp H
    obtain ⟨t114, A50, H⟩ := H
    replace H : ((rice_Fold.f a0).bind fun t115 => (if 0 ≤ t114 then (some (wrap64 ((wrap64 ((wrap64 (shr .u64 t115 t114)) + 1)) + t114))) else (none))) = some r := H
    have A5 := zG.mk A50
    clear A50
    replace H := Option.bind_eq_some_iff.mp H
    obtain ⟨t115, A60, H⟩ := H
    replace H : (if 0 ≤ t114 then (some (wrap64 ((wrap64 ((wrap64 (shr .u64 t115 t114)) + 1)) + t114))) else (none)) = some r := H
    have A6 := zG.mk A60
    clear A60
    by_cases c7 : 0 ≤ t114
    · rw [if_pos c7] at H
      have c7b0 := eq_true c7
      have c7b1 : decide (0 ≤ t114) = true := decide_eq_true c7
      clear c7
      obtain ⟨ji8, hji8⟩ : ∃ j_ : Int, (shr .u64 t115 t114) = j_ := ⟨_, rfl⟩
      replace H : (some (wrap64 ((wrap64 ((wrap64 (ji8)) + 1)) + t114))) = some r := by first | (rw [hji8] at H; exact H) | (simp only [hji8] at H ⊢; exact H)
      (try rw [hji8] at A3)
      (try rw [hji8] at A5)
      (try rw [hji8] at A6)
      have hji8_ : (t115 / 2 ^ min t114.toNat 64) = ji8 := hji8
      have hji8z : t114 ≤ 64 → (t115 / 2 ^ t114.toNat) = ji8 := shr_small hji8
      obtain rfl := Option.some.inj H
      go_enter Try.func58, Try.ntmps58
      go_wp2_with (first | (go_at_call 47; (with_reducible refine (rice_Near_same a0 true _ A3.out).mono ?_); rintro e w9 ⟨rfl, rfl⟩) | (go_at_call 46; (with_reducible refine (rice_held_same a1 t114 _ A5.out).mono ?_); rintro e w9 ⟨rfl, rfl⟩) | (go_at_call 44; (with_reducible refine (rice_Fold_same a0 t115 _ A6.out).mono ?_); rintro e w9 ⟨rfl, rfl⟩))
      go_ret
      exact ⟨by first | rfl | (simp [errW_none, errW_some] <;> rfl) | (simp only [← hji8]; first | rfl | (simp [errW_none, errW_some] <;> rfl)) | (simp [*, errW_none, errW_some] <;> rfl), rfl⟩
    · rw [if_neg c7] at H
      exact absurd H (by simp)
  · replace c4 := Bool.eq_false_iff.mpr c4
    subst c4
    have H1 : (some (-1)) = some r := by rw [if_neg (show ¬ (false = true) by decide)] at H; exact H
    clear H
    have H := H1
    clear H1
    obtain rfl := Option.some.inj H
    go_enter Try.func58, Try.ntmps58
    go_wp2_with (first | (go_at_call 47; (with_reducible refine (rice_Near_same a0 false _ A3.out).mono ?_); rintro e w9 ⟨rfl, rfl⟩))
    go_ret
    exact ⟨by first | rfl | (simp [errW_none, errW_some] <;> rfl) | (simp [*, errW_none, errW_some] <;> rfl), rfl⟩
def iA (xs : List Int) : Array Value := (xs.map (Value.int .i64)).toArray
def sumL (n : Int) (by_ : List Int) (wd : Int) : List Int := n :: (by_ ++ [wd])
def zs31 : List Int := List.replicate 31 0
theorem iA_size (xs : List Int) : (iA xs).size = xs.length := by simp [iA]
theorem iA_one (xs : List Int) : (iA xs).all (·.oneCell') = true := by
  unfold iA
  simp [Value.oneCell']
theorem bsome_ {α β : Type} (a : α) (f : α → Option β) : (some a).bind f = f a := by
  have h := Option.bind_some a f
  exact h
def sizeV (n k : Int) : Int := (rice_Size.f n k).getD 0
theorem rice_Size_some (n k : Int) : rice_Size.f n k = some (sizeV n k) := by
  have : ∃ b, rice_Size.f n k = some b := by
    unfold rice_Size.f
    have h1 : ∃ t, rice_Near.f n = some t := by unfold rice_Near.f; split <;> exact ⟨_, rfl⟩
    obtain ⟨t, ht⟩ := h1
    rw [ht, bsome_]
    cases t with
    | false => exact ⟨_, rfl⟩
    | true =>
      have h2 : rice_held.f k = some (mx 0 (mn k 30)) := rfl
      have h3 : ∃ u, rice_Fold.f n = some u := ⟨_, rfl⟩
      obtain ⟨u, hu⟩ := h3
      have h4 : 0 ≤ mx 0 (mn k 30) := by unfold mx; split <;> omega
      rw [if_pos rfl, h2, bsome_, hu, bsome_, if_pos h4]
      exact ⟨_, rfl⟩
  obtain ⟨b, hb⟩ := this
  unfold sizeV
  rw [hb]
  rfl
def sumBy (l : List Int) (k : Int) : Int := l.foldl (fun s n => wrap64 (s + sizeV n k)) 0
theorem sumBy_take (l : List Int) (k : Int) {q : Nat} (hq : q < l.length) : sumBy (l.take (q + 1)) k = wrap64 (sumBy (l.take q) k + sizeV (rd l (q : Int)) k) := by
  have e : rd l (q : Int) = l[q] := by simp [rd, List.getD_eq_getElem?_getD, List.getElem?_eq_getElem hq]
  unfold sumBy
  rw [List.take_succ_eq_append_getElem hq, List.foldl_append, e]
  rfl
def ysAt (l : List Int) (i : Nat) : List Int := (List.range 31).map fun j => if j < i then sumBy l (j : Int) else 0
theorem ysAt_len (l : List Int) (i : Nat) : (ysAt l i).length = 31 := by simp [ysAt]
theorem ysAt_0 (l : List Int) : ysAt l 0 = zs31 := by
  unfold ysAt zs31
  refine List.ext_getElem (by simp) fun j h1 h2 => ?_
  rw [List.getElem_replicate]
  simp
theorem ysAt_same (l : List Int) {i : Nat} : (ysAt l i).set i 0 = ysAt l i := by
  refine List.ext_getElem (by simp) fun j h1 h2 => ?_
  rw [List.getElem_set]
  split
  · rename_i h; subst h; simp [ysAt]
  · rfl
theorem ysAt_succ (l : List Int) {i : Nat} : (ysAt l i).set i (sumBy l (i : Int)) = ysAt l (i + 1) := by
  refine List.ext_getElem (by simp [ysAt]) fun j h1 h2 => ?_
  rw [List.getElem_set]
  split
  · rename_i h; subst h; simp [ysAt]
  · rename_i h
    simp only [ysAt, List.getElem_map, List.getElem_range]
    have : (j < i) ↔ (j < i + 1) := by omega
    simp [this]
theorem sz55 : (Try.prog.info? 87).map (·.size) = some 33 := by kernel_rfl
theorem iA_sum_size {n wd : Int} {ys : List Int} (h : ys.length = 31) : (Try.prog.info? 87).map (·.size) = some (iA (sumL n ys wd)).size := by
  rw [sz55, iA_size]; simp [sumL, h]
theorem sum_cell {W : World} {g : Nat} {n wd : Int} {ys : List Int} (hb : W.heap[g]? = some (.cells (iA (sumL n ys wd)) 87 (0, 0))) {i : Nat} (hi : i < ys.length) : W.cell? ⟨g, 1 + i, none⟩ = some (.int .i64 (ys.getD i 0)) := by
  refine (zN hb (1 + i)).trans ?_
  unfold iA sumL
  rw [Nat.add_comm]
  simp [List.getElem?_append_left, hi, List.getD_eq_getElem?_getD]
theorem sum_set {W : World} {g : Nat} {n wd : Int} {ys : List Int} (hb : W.heap[g]? = some (.cells (iA (sumL n ys wd)) 87 (0, 0))) {i : Nat} (hi : i < ys.length) (x : Int) : (W.setCell ⟨g, 1 + i, none⟩ (.int .i64 x)).heap[g]? = some (.cells (iA (sumL n (ys.set i x) wd)) 87 (0, 0)) := by
  have h := blk_set hb (1 + i) (.int .i64 x)
  refine h.trans ?_
  congr 2
  unfold iA sumL
  rw [Nat.add_comm]
  simp [List.set_append_left, hi, List.map_set]
set_option maxHeartbeats 8000000 in
set_option maxRecDepth 100000 in
theorem parts_of.calls (k : Nat) (A0 : Option Addr) (c0 : Nat) (l0 : List Int) (wd : Int) (w : World) (hr0 : Kd.C (Kd.int .i64) w A0 l0.length l0) (hc0 : l0.length ≤ c0) (h : cost_Width.f k l0 = some wd) :
    Calls Try.prog 56 #[.slice A0 l0.length c0] w fun e w' => e = .returned (.agg (iA (sumL (l0.length : Int) (ysAt l0 31) wd))) ∧ Below w.heap.size w w' := by
  have HR0 := zG.mk hr0
  have HC0 := zG.mk hc0
  have HW := zG.mk h
  have HL : l0.length ≤ 9223372036854775807 := hr0.2.1
  clear hr0 hc0 h
  go_enter Try.func56, Try.ntmps56
  go_upto_region 2 with (first
    | ((with_reducible refine gate_dst (N := 2) rfl ?_); refine box_event ?hg (N := 2) ?hd (cs := iA (sumL 0 zs31 0)) (t := 87) ?hr ?_; (case hd => rfl); (case hg => rfl); (case hr => go_simp; rfl); intro g2 hg2 w1 hbox2 hb1)
    | (go_at_call 36; (with_reducible refine (cost_Width.calls k _ _ l0 wd _ ?side1 HC0.out HW.out).mono ?_); (case side1 => exact Kd.C_below HR0.out hb1); rintro e w2 ⟨rfl, ⟨nd, rfl⟩⟩)
    | ((with_reducible refine gate_dst (N := 11) rfl ?_); refine event_run (v := .agg (iA (sumL (l0.length : Int) zs31 wd))) ?hg ?hr ?_; (case hg => rfl); (case hr => go_simp; rfl))
    | ((with_reducible refine gate_dst (N := 3) rfl ?_); refine box_event ?hg (N := 3) ?hd (cs := iA (sumL 0 zs31 0)) (t := 87) ?hr ?_; (case hd => rfl); (case hg => rfl); (case hr => go_simp; rfl); intro g3 hg3 w3 hbox3 hb3)
    | ((with_reducible refine gate_store (t := 87) (p := 3) rfl ?_); refine wpList_store_row rfl 87 _ _ rfl g3 (iA (sumL (l0.length : Int) zs31 wd)) rfl rfl 87 _ hbox3 (by kernel_rfl) rfl (iA_one _) ?_))
  subst hg2
  have hs2 := blk_lt hbox2
  have hb2 : (w1.drewN nd).heap.size = w1.heap.size := rfl
  have hne : w.heap.size ≠ g3 := by rw [hg3, hb2]; omega
  have hle3 : w.heap.size ≤ g3 := by rw [hg3, hb2]; omega
  obtain ⟨W0, hW0⟩ : ∃ W0, w3.setRow g3 (iA (sumL (l0.length : Int) zs31 wd)) = W0 := ⟨_, rfl⟩
  have hX : W0.heap[g3]? = some (.cells (iA (sumL (l0.length : Int) zs31 wd)) 87 (0, 0)) := by rw [← hW0]; exact setRow_heap _ _ _ _ _ _ hbox3
  have hX2 : W0.heap[w.heap.size]? = some (.cells (iA (sumL 0 zs31 0)) 87 (0, 0)) := by rw [← hW0, setRow_other _ _ _ _ hne]; exact blk_below (g := w.heap.size) (zL hbox2 nd) hb3
  have hBB : Below w.heap.size w W0 := by rw [← hW0]; exact below_setRow (below_step (zC hb1 nd) hb3) hle3 _
  rw [hW0]
  rw [← ysAt_0 l0] at hX
  have HX := zG.mk hX
  have HX2 := zG.mk hX2
  have HB := zG.mk hBB
  have HNE := zG.mk hne
  have HLE := zG.mk hle3
  clear hX hX2 hBB hW0 hg3 hbox2 hbox3 hb1 hb3 hs2 hb2 hne hle3
  go_wp2
  go_loopg [12] 31 (fun kq v12 w' => ∃ (i : Nat), v12 = .int .i64 (i : Int) ∧ zG (i + kq = 31) ∧ zG (w'.heap[g3]? = some (.cells (iA (sumL (l0.length : Int) (ysAt l0 i) wd)) 87 (0, 0))) ∧ zG (w'.heap[w.heap.size]? = some (.cells (iA (sumL 0 zs31 0)) 87 (0, 0))) ∧ zG (Below w.heap.size w w'))
  case atStart => exact ⟨0, rfl, ⟨by omega⟩, HX, HX2, HB⟩
  case round =>
    clear HX HX2 HB
    obtain ⟨i, rfl, HK, HX, HX2, HB⟩ := hrel
    by_cases hi : i < 31
    · have hq : decide ((i : Int) < 31) = true := decide_eq_true (by omega)
      go_wp2
      clear hq
      go_loopg [17] l0.length (fun kq v17 w' => ∃ (q : Nat), v17 = .int .i64 (q : Int) ∧ zG (q + kq = l0.length) ∧ zG (w'.heap[g3]? = some (.cells (iA (sumL (l0.length : Int) ((ysAt l0 i).set i (sumBy (l0.take q) (i : Int))) wd)) 87 (0, 0))) ∧ zG (w'.heap[w.heap.size]? = some (.cells (iA (sumL 0 zs31 0)) 87 (0, 0))) ∧ zG (Below w.heap.size w w'))
      case atStart => exact ⟨0, rfl, ⟨by omega⟩, ⟨by rw [List.take_zero]; show _ = some (Obj.cells (iA (sumL (l0.length : Int) ((ysAt l0 i).set i 0) wd)) 87 (0, 0)); rw [ysAt_same]; exact HX.out⟩, HX2, HB⟩
      case round =>
        clear HX HX2 HB
        obtain ⟨q, rfl, HK2, HX, HX2, HB⟩ := hrel
        by_cases hql : q < l0.length
        · have hq : decide ((q : Int) < (l0.length : Int)) = true := decide_eq_true (by omega)
          have p1 : 0 ≤ (q : Int) := by omega
          have q1 : (q : Int) < (l0.length : Int) := by omega
          obtain ⟨ad1, e1, hx1⟩ := Kd.at_int HR0.out (q : Int) p1 q1
          cases e1
          replace hx1 := (HB.out.cell (World.block_lt_of_cell? w _ hx1)).trans hx1
          simp only [Int.toNat_natCast] at hx1
          replace q1 := eq_true q1
          replace p1 := eq_true p1
          have hcell := sum_cell HX.out (i := i) (by rw [List.length_set, ysAt_len]; exact hi)
          have hget : ((ysAt l0 i).set i (sumBy (l0.take q) (i : Int))).getD i 0 = sumBy (l0.take q) (i : Int) := by simp [List.getD_eq_getElem?_getD, ysAt_len, hi]
          rw [hget] at hcell
          have hfz := zO HX.out (1 + i)
          have hi31 : decide ((i : Int) < 31) = true := decide_eq_true (by omega)
          have hiN : i < 31 := hi
          clear hget
          have hw1 : wrap64 ((q : Int) + 1) = ((q + 1 : Nat) : Int) := by unfold wrap64; omega
          have HW1 := zG.mk hw1
          clear hw1
          go_wp2
          go_region_with (go_at_call 58; refine (rice_Size_same (rd l0 (q : Int)) (i : Int) _ _ (rice_Size_some _ _)).mono ?_; rintro e w9 ⟨rfl, rfl⟩)
          all_goals
            go_wp2
            go_roundg (l0.length - (q + 1))
            case measure => have := HK2.out; omega
            case rel =>
              have hv : IntKind.i64.wrap (sumBy (l0.take q) (i : Int) + sizeV (rd l0 (q : Int)) (i : Int)) = sumBy (l0.take (q + 1)) (i : Int) := (i64_w _).trans (sumBy_take l0 (i : Int) hql).symm
              have h3 := sum_set HX.out (i := i) (by rw [List.length_set, ysAt_len]; exact hiN) (sumBy (l0.take (q + 1)) (i : Int))
              rw [List.set_set] at h3
              first | rw [hv] | rw [← sumBy_take l0 (i : Int) hql]
              exact ⟨q + 1, by first | rfl | (simp; done) | (simp [HW1.out]; done) | go_num, ⟨by omega⟩, ⟨zM h3⟩, ⟨zM (zP HX2.out HNE.out _)⟩, ⟨zD (zE HB.out HLE.out)⟩⟩
        · have hq : decide ((q : Int) < (l0.length : Int)) = false := decide_eq_false (by omega)
          obtain rfl : q = l0.length := by have := HK2.out; omega
          go_wp2
          go_roundg (31 - (i + 1))
          case measure => have := HK.out; omega
          case rel =>
            have h3 := HX.out
            rw [List.take_length, ysAt_succ] at h3
            exact ⟨i + 1, by first | rfl | (simp; done) | go_num, ⟨by omega⟩, ⟨h3⟩, HX2, HB⟩
    · have hq : decide ((i : Int) < 31) = false := decide_eq_false (by omega)
      obtain rfl : i = 31 := by have := HK.out; omega
      go_wp2_with (first
        | ((with_reducible refine gate_dst (N := 33) rfl ?_); refine wpList_load_row rfl 87 _ rfl g3 rfl 87 _ _ _ HX.out Try.underlying87 rfl (iA_sum_size (ysAt_len _ _)) ?_)
        | ((with_reducible refine gate_store (t := 87) (p := 2) rfl ?_); refine wpList_store_row rfl 87 _ _ rfl w.heap.size (iA (sumL (l0.length : Int) (ysAt l0 31) wd)) rfl rfl 87 _ HX2.out (iA_sum_size (ysAt_len _ _)) (by rw [iA_size, iA_size]; simp [sumL, zs31, ysAt_len]) (iA_one _) ?_))
      have hX5 := setRow_heap wr w.heap.size _ (iA (sumL (l0.length : Int) (ysAt l0 31) wd)) _ _ HX2.out
      refine bodyPost_ret (results_cell_row rfl _ _ w.heap.size 87 _ _ _ rfl hX5 Try.underlying87 rfl (iA_sum_size (ysAt_len _ _))) rfl ?_
      exact ⟨rfl, below_setRow HB.out (Nat.le_refl _) _⟩
set_option linter.unusedSimpArgs false
set_option linter.unusedVariables false
theorem sum_cell0 {W : World} {g : Nat} {n wd : Int} {ys : List Int} (hb : W.heap[g]? = some (.cells (iA (sumL n ys wd)) 87 (0, 0))) : W.cell? ⟨g, 0, none⟩ = some (.int .i64 n) := by
  refine (zN hb 0).trans ?_
  simp [iA, sumL]
theorem sum_cellw {W : World} {g : Nat} {n wd : Int} {ys : List Int} (hb : W.heap[g]? = some (.cells (iA (sumL n ys wd)) 87 (0, 0))) (hl : ys.length = 31) : W.cell? ⟨g, 32, none⟩ = some (.int .i64 wd) := by
  refine (zN hb 32).trans ?_
  unfold iA sumL
  simp [List.getElem?_append_right, hl]
theorem sum_set0 {W : World} {g : Nat} {n wd : Int} {ys : List Int} (hb : W.heap[g]? = some (.cells (iA (sumL n ys wd)) 87 (0, 0))) (x : Int) : (W.setCell ⟨g, 0, none⟩ (.int .i64 x)).heap[g]? = some (.cells (iA (sumL x ys wd)) 87 (0, 0)) := by
  refine (blk_set hb 0 (.int .i64 x)).trans ?_
  first | rfl | (congr 2; simp [iA, sumL])
theorem sum_setw {W : World} {g : Nat} {n wd : Int} {ys : List Int} (hb : W.heap[g]? = some (.cells (iA (sumL n ys wd)) 87 (0, 0))) (hl : ys.length = 31) (x : Int) : (W.setCell ⟨g, 32, none⟩ (.int .i64 x)).heap[g]? = some (.cells (iA (sumL n ys x)) 87 (0, 0)) := by
  refine (blk_set hb 32 (.int .i64 x)).trans ?_
  congr 2
  unfold iA sumL
  simp [List.set_append_right, hl]
def zAt (xs ys : List Int) (i : Nat) : List Int := (List.range 31).map fun j => if j < i then wrap64 (xs.getD j 0 + ys.getD j 0) else xs.getD j 0
theorem zAt_len (xs ys : List Int) (i : Nat) : (zAt xs ys i).length = 31 := by simp [zAt]
theorem zAt_0 (xs ys : List Int) (h : xs.length = 31) : zAt xs ys 0 = xs := by
  refine List.ext_getElem (by simp [zAt, h]) fun j h1 h2 => ?_
  simp [zAt, List.getD_eq_getElem?_getD, h2]
theorem zAt_get (xs ys : List Int) {i : Nat} (hi : i < 31) : (zAt xs ys i).getD i 0 = xs.getD i 0 := by
  simp [zAt, List.getD_eq_getElem?_getD, hi]
theorem zAt_succ (xs ys : List Int) {i : Nat} : (zAt xs ys i).set i (wrap64 (xs.getD i 0 + ys.getD i 0)) = zAt xs ys (i + 1) := by
  refine List.ext_getElem (by simp [zAt]) fun j h1 h2 => ?_
  rw [List.getElem_set]
  split
  · rename_i h; subst h; simp [zAt]
  · rename_i h
    simp only [zAt, List.getElem_map, List.getElem_range]
    have : (j < i) ↔ (j < i + 1) := by omega
    simp [this]
set_option maxHeartbeats 8000000 in
set_option maxRecDepth 100000 in
theorem parts_with.calls (n1 w1_ n2 w2_ : Int) (xs ys : List Int) (hx : xs.length = 31) (hy : ys.length = 31) (w : World) :
    Calls Try.prog 39 #[.agg (iA (sumL n1 xs w1_)), .agg (iA (sumL n2 ys w2_))] w fun e w' => e = .returned (.agg (iA (sumL (wrap64 (n1 + n2)) (zAt xs ys 31) (mx w1_ w2_)))) ∧ Below w.heap.size w w' := by
  have HLX := zG.mk hx
  have HLY := zG.mk hy
  clear hx hy
  go_enter Try.func39, Try.ntmps39
  go_upto_region 1 with (first
    | ((with_reducible refine gate_dst (N := 2) rfl ?_); refine box_event ?hg (N := 2) ?hd (cs := iA (sumL n1 xs w1_)) (t := 87) ?hr ?_; (case hd => rfl); (case hg => rfl); (case hr => go_loud (first | (go_simp; done) | (go_simp; rfl))); intro g2 hg2 w1 hbox2 hb1)
    | ((with_reducible refine gate_dst (N := 3) rfl ?_); refine box_event ?hg (N := 3) ?hd (cs := iA (sumL n2 ys w2_)) (t := 87) ?hr ?_; (case hd => rfl); (case hg => rfl); (case hr => go_loud (first | (go_simp; done) | (go_simp; rfl))); intro g3 hg3 w2 hbox3 hb2)
    | ((with_reducible refine gate_dst (N := 4) rfl ?_); refine box_event ?hg (N := 4) ?hd (cs := iA (sumL 0 zs31 0)) (t := 87) ?hr ?_; (case hd => rfl); (case hg => rfl); (case hr => go_loud (go_simp; rfl)); intro g4 hg4 w3 hbox4 hb3))
  have s2 := blk_lt hbox2
  have s3 := blk_lt hbox3
  have s4 := blk_lt hbox4
  have hB : Below w.heap.size w w3 := below_step (below_step hb1 hb2) hb3
  have hX2 := blk_below (g := g2) (blk_below (g := g2) hbox2 hb2) hb3
  have hX3 := blk_below (g := g3) hbox3 hb3
  have z1 := hb1.size
  have z2 := hb2.size
  have n23 : g2 ≠ g3 := by omega
  have n24 : g2 ≠ g4 := by omega
  have n34 : g3 ≠ g4 := by omega
  have l2 : w.heap.size ≤ g2 := by omega
  have l4 : w.heap.size ≤ g4 := by omega
  have HX2 := zG.mk hX2
  have HX3 := zG.mk hX3
  have HX4 := zG.mk hbox4
  have HB := zG.mk hB
  have N23 := zG.mk n23
  have N24 := zG.mk n24
  have N34 := zG.mk n34
  have L2 := zG.mk l2
  have L4 := zG.mk l4
  clear hX2 hX3 hbox2 hbox3 hbox4 hB n23 n24 n34 l2 l4 z1 z2 s2 s3 s4 hb1 hb2 hb3 hg2 hg3 hg4
  go_wp2
  go_loopg [6] 31 (fun kq v6 w' => ∃ (i : Nat), v6 = .int .i64 (i : Int) ∧ zG (i + kq = 31) ∧ zG (w'.heap[g2]? = some (.cells (iA (sumL n1 (zAt xs ys i) w1_)) 87 (0, 0))) ∧ zG (w'.heap[g3]? = some (.cells (iA (sumL n2 ys w2_)) 87 (0, 0))) ∧ zG (w'.heap[g4]? = some (.cells (iA (sumL 0 zs31 0)) 87 (0, 0))) ∧ zG (Below w.heap.size w w'))
  case atStart => exact ⟨0, rfl, ⟨by omega⟩, ⟨by rw [zAt_0 xs ys HLX.out]; exact HX2.out⟩, HX3, HX4, HB⟩
  case round =>
    clear HX2 HX3 HX4 HB
    obtain ⟨i, rfl, HK, HX2, HX3, HX4, HB⟩ := hrel
    by_cases hi : i < 31
    · have hq : decide ((i : Int) < 31) = true := decide_eq_true (by omega)
      have hc2 := sum_cell HX2.out (i := i) (by rw [zAt_len]; exact hi)
      rw [zAt_get xs ys hi] at hc2
      have hc3 := sum_cell HX3.out (i := i) (by rw [HLY.out]; exact hi)
      have hfz := zO HX2.out (1 + i)
      have hiN : i < 31 := hi
      go_wp2
      go_region
      all_goals
        go_wp2
        go_roundg (31 - (i + 1))
        case measure => have := HK.out; omega
        case rel =>
          have h3 := sum_set HX2.out (i := i) (by rw [zAt_len]; exact hiN) (wrap64 (xs.getD i 0 + ys.getD i 0))
          rw [zAt_succ] at h3
          simp only [List.getD_eq_getElem?_getD] at h3
          exact ⟨i + 1, by first | rfl | (simp; done) | go_num, ⟨by omega⟩, ⟨zM h3⟩, ⟨zM (zP HX3.out N23.out.symm _)⟩, ⟨zM (zP HX4.out N24.out.symm _)⟩, ⟨zD (zE HB.out L2.out)⟩⟩
    · have hq : decide ((i : Int) < 31) = false := decide_eq_false (by omega)
      obtain rfl : i = 31 := by have := HK.out; omega
      have c20 := sum_cell0 HX2.out
      have c30 := sum_cell0 HX3.out
      have f20 := zO HX2.out 0
      have c2w := sum_cellw HX2.out (zAt_len _ _ _)
      have c3w := sum_cellw HX3.out HLY.out
      have f2w := zO HX2.out 32
      go_upto_region 8 with (fail)
      obtain ⟨M, hM⟩ : ∃ M, (if w1_ < w2_ then w2_ else w1_) = M := ⟨_, rfl⟩
      rw [hM]
      have HM := zG.mk (show mx w1_ w2_ = M from hM)
      clear hM
      have h0 := sum_set0 HX2.out (wrap64 (n1 + n2))
      have hw := sum_setw h0 (zAt_len _ _ _) M
      obtain ⟨W5, hW5⟩ : ∃ W5, (wr.setCell ⟨g2, 0, none⟩ (.int .i64 (wrap64 (n1 + n2)))).setCell ⟨g2, 32, none⟩ (.int .i64 M) = W5 := ⟨_, rfl⟩
      have hX4 : W5.heap[g4]? = some (.cells (iA (sumL 0 zs31 0)) 87 (0, 0)) := by rw [← hW5]; exact zP (zP HX4.out N24.out.symm _) N24.out.symm _
      have hB5 : Below w.heap.size w W5 := by rw [← hW5]; exact zE (zE HB.out L2.out) L2.out
      rw [hW5] at hw ⊢
      have HW := zG.mk hw
      have HX5 := zG.mk hX4
      have HB5 := zG.mk hB5
      clear hw hX4 hB5 hW5 h0 c20 c30 f20 c2w c3w f2w
      go_wp2_with (first
        | ((with_reducible refine gate_dst (N := 33) rfl ?_); refine wpList_load_row rfl 87 _ rfl g2 rfl 87 _ _ _ HW.out Try.underlying87 rfl (iA_sum_size (zAt_len _ _ _)) ?_)
        | ((with_reducible refine gate_store (t := 87) (p := 4) rfl ?_); refine wpList_store_row rfl 87 _ _ rfl g4 (iA (sumL (wrap64 (n1 + n2)) (zAt xs ys 31) M)) rfl rfl 87 _ HX5.out (iA_sum_size (zAt_len _ _ _)) (by rw [iA_size, iA_size]; simp [sumL, zs31, zAt_len]) (iA_one _) ?_))
      have hX6 := setRow_heap W5 g4 _ (iA (sumL (wrap64 (n1 + n2)) (zAt xs ys 31) M)) _ _ HX5.out
      refine bodyPost_ret (results_cell_row rfl _ _ g4 87 _ _ _ rfl hX6 Try.underlying87 rfl (iA_sum_size (zAt_len _ _ _))) rfl ?_
      rw [HM.out]
      exact ⟨rfl, below_setRow HB5.out L4.out _⟩
set_option linter.unusedSimpArgs false
set_option linter.unusedVariables false
theorem results_cell_row_tmp {P : Program} {fn : Func} {p u : Tmp} {ty : TypeId} (h : fn.results = #[.cell p ty, .tmp u]) (tmps : Array Value) (w : World) (g : Nat) (t : TypeId) (cs : Array Value) (fr : Nat × Nat) (d : TypeDesc)
    (hp : tmps.getD p undef = .pointer (some ⟨g, 0, none⟩)) (hg : w.heap[g]? = some (.cells cs t fr))
    (hu : P.underlying ty = some d) (hd : (match d with | .struct _ | .array _ _ => true | _ => false) = true) (hi : (P.info? ty).map (·.size) = some cs.size) :
    (results fn tmps).run P w = .ok (.tuple #[.agg cs, tmps.getD u undef]) w := by
  have hp' : tmps[p]?.getD undef = .pointer (some ⟨g, 0, none⟩) := by simpa using hp
  simp [results, h, hp', asAddr, run_loadVar_row w g t ty cs fr d hg hu hd hi]
theorem results_cell_row_tmp2 {P : Program} {fn : Func} {p u v : Tmp} {ty : TypeId} (h : fn.results = #[.cell p ty, .tmp u, .tmp v]) (tmps : Array Value) (w : World) (g : Nat) (t : TypeId) (cs : Array Value) (fr : Nat × Nat) (d : TypeDesc)
    (hp : tmps.getD p undef = .pointer (some ⟨g, 0, none⟩)) (hg : w.heap[g]? = some (.cells cs t fr))
    (hu : P.underlying ty = some d) (hd : (match d with | .struct _ | .array _ _ => true | _ => false) = true) (hi : (P.info? ty).map (·.size) = some cs.size) :
    (results fn tmps).run P w = .ok (.tuple #[.agg cs, tmps.getD u undef, tmps.getD v undef]) w := by
  have hp' : tmps[p]?.getD undef = .pointer (some ⟨g, 0, none⟩) := by simpa using hp
  simp [results, h, hp', asAddr, run_loadVar_row w g t ty cs fr d hg hu hd hi]
def bestK (ys : List Int) : Nat → Int × Int
  | 0 => (0, ys.getD 0 0)
  | k + 1 => if ys.getD (k + 1) 0 < (bestK ys k).2 then (((k + 1 : Nat) : Int), ys.getD (k + 1) 0) else bestK ys k
def bestRaw (n wd : Int) : Int := wrap64 (5 + wrap64 (n * wd))
def bestP (n : Int) (ys : List Int) (wd : Int) (m : Nat) : (Int × Bool) × Int :=
  if wd ≤ 31 ∧ bestRaw n wd < (bestK ys m).2 then ((wd, true), bestRaw n wd) else (((bestK ys m).1, false), (bestK ys m).2)
set_option maxHeartbeats 8000000 in
set_option maxRecDepth 100000 in
theorem parts_best.calls (n wd : Int) (ys : List Int) (hy : ys.length = 31) (m : Nat) (hm : m ≤ 30) (w : World) :
    Calls Try.prog 57 #[.agg (iA (sumL n ys wd)), .int .i64 (m : Int)] w fun e w' => e = .returned (.tuple #[.agg #[.int .i64 (bestP n ys wd m).1.1, .bool (bestP n ys wd m).1.2], .int .i64 (bestP n ys wd m).2]) ∧ Below w.heap.size w w' := by
  have HLY := zG.mk hy
  clear hy
  go_enter Try.func57, Try.ntmps57
  go_upto_region 1 with (first
    | ((with_reducible refine gate_dst (N := 2) rfl ?_); refine box_event ?hg (N := 2) ?hd (cs := iA (sumL n ys wd)) (t := 87) ?hr ?_; (case hd => rfl); (case hg => rfl); (case hr => go_loud (first | (go_simp; done) | (go_simp; rfl))); intro g2 hg2_ w1 hbox2 hb1; have G2 := zG.mk hg2_; clear hg2_)
    | ((with_reducible refine gate_dst (N := 4) rfl ?_); refine box_event ?hg (N := 4) ?hd (cs := #[.int .i64 0, .bool false]) (t := 50) ?hr ?_; (case hd => rfl); (case hg => rfl); (case hr => go_loud (first | (go_simp; done) | (go_simp; rfl))); intro g4 hg4_ w2 hbox4 hb2; have G4 := zG.mk hg4_; clear hg4_))
  have hg2 := G2.out
  have hg4 := G4.out
  clear G2 G4
  have s2 := blk_lt hbox2
  have s4 := blk_lt hbox4
  have hB : Below w.heap.size w w2 := below_step hb1 hb2
  have hX2 := blk_below (g := g2) hbox2 hb2
  have z1 := hb1.size
  have l4 : w.heap.size ≤ g4 := by omega
  have HX2 := zG.mk hX2
  have HX4 := zG.mk hbox4
  have HB := zG.mk hB
  have L4 := zG.mk l4
  clear hX2 hbox2 hbox4 hB l4 z1 s2 s4 hb1 hb2 hg2 hg4
  have hc2 := sum_cell HX2.out (i := 0) (by rw [HLY.out]; decide)
  simp only [Nat.add_zero] at hc2
  have hc2a : ∀ o : Obj, (w2.alloc o).cell? ⟨g2, 1, none⟩ = some (.int .i64 (ys.getD 0 0)) := fun o => by
    have h := sum_cell (zK HX2.out o) (i := 0) (by rw [HLY.out]; decide)
    simpa only [Nat.add_zero] using h
  simp only [List.getD_eq_getElem?_getD] at hc2 hc2a
  go_region
  have hle := HB.out.size
  obtain ⟨g6, hg6⟩ : ∃ g6, w2.heap.size = g6 := ⟨_, rfl⟩
  obtain ⟨W0, hW0⟩ : ∃ W0, (w2.alloc (Obj.cells #[Value.int .i64 0, Value.bool false] 50)).drew = W0 := ⟨_, rfl⟩
  have x2 := zM (zK HX2.out (Obj.cells #[Value.int .i64 0, Value.bool false] 50))
  have x4 := zM (zK HX4.out (Obj.cells #[Value.int .i64 0, Value.bool false] 50))
  have x6 := zM (blk_new w2 (Obj.cells #[Value.int .i64 0, Value.bool false] 50))
  have hBw := zD (zF HB.out (Obj.cells #[Value.int .i64 0, Value.bool false] 50))
  have t2 := blk_lt HX2.out
  have t4 := blk_lt HX4.out
  rw [hW0] at x2 x4 x6 hBw ⊢
  rw [hg6] at x6 ⊢
  have n26 : g2 ≠ g6 := by omega
  have n46 : g4 ≠ g6 := by omega
  have l6 : w.heap.size ≤ g6 := by omega
  clear HX2 HX4 HB hc2 hc2a
  have HX2 := zG.mk x2
  have HX4 := zG.mk x4
  have HX6 := zG.mk x6
  have HB := zG.mk hBw
  have N26 := zG.mk n26
  have N46 := zG.mk n46
  have L6 := zG.mk l6
  clear x2 x4 x6 hBw n26 n46 l6 t2 t4 hW0 hg6 hle
  go_wp2
  go_loopg [7, 8] m (fun kq v7 v8 w' => ∃ (i : Nat), v7 = .int .i64 (bestK ys i).2 ∧ v8 = .int .i64 ((i + 1 : Nat) : Int) ∧ zG (i + kq = m) ∧ zG (w'.heap[g2]? = some (.cells (iA (sumL n ys wd)) 87 (0, 0))) ∧ zG (w'.heap[g4]? = some (.cells #[.int .i64 0, .bool false] 50 (0, 0))) ∧ zG (w'.heap[g6]? = some (.cells #[.int .i64 (bestK ys i).1, .bool false] 50 (0, 0))) ∧ zG (Below w.heap.size w w'))
  case atStart => exact ⟨0, by first | rfl | simp [bestK, List.getD_eq_getElem?_getD], rfl, ⟨by omega⟩, HX2, HX4, HX6, HB⟩
  case round =>
    clear HX2 HX4 HX6 HB
    obtain ⟨i, rfl, rfl, HK, HX2, HX4, HX6, HB⟩ := hrel
    have hKm := HK.out
    by_cases hi : i < m
    · have hq : decide (((i + 1 : Nat) : Int) ≤ (m : Int)) = true := decide_eq_true (by omega)
      have h31 : i + 1 < 31 := by omega
      have hc2 := sum_cell HX2.out (i := i + 1) (by rw [HLY.out]; exact h31)
      have hc60 : wr.cell? ⟨g6, 0, none⟩ = some (.int .i64 (bestK ys i).1) := (zN HX6.out 0).trans rfl
      have hc61 : wr.cell? ⟨g6, 1, none⟩ = some (.bool false) := (zN HX6.out 1).trans rfl
      have hf60 := zO HX6.out 0
      have hf61 := zO HX6.out 1
      have n26 := N26.out
      by_cases hb : ys.getD (i + 1) 0 < (bestK ys i).2
      · have hbd : decide (ys.getD (i + 1) 0 < (bestK ys i).2) = true := decide_eq_true hb
        have hbk : bestK ys (i + 1) = (((i + 1 : Nat) : Int), ys.getD (i + 1) 0) := by rw [bestK, if_pos hb]
        have HBK := zG.mk hbk
        clear hbk hb
        obtain ⟨Y, hY⟩ : ∃ Y, ys.getD (i + 1) 0 = Y := ⟨_, rfl⟩
        rw [hY] at hc2 hbd
        have HY := zG.mk hY
        clear hY
        go_wp2
        go_region
        go_wp2
        go_roundg (m - (i + 1))
        case measure => omega
        case rel =>
          have x6 : ((wr.setCell ⟨g6, 0, none⟩ (.int .i64 ((i : Int) + 1))).setCell ⟨g6, 1, none⟩ (.bool false)).heap[g6]? = some (.cells #[.int .i64 ((i : Int) + 1), .bool false] 50 (0, 0)) := (blk_set (blk_set HX6.out 0 (.int .i64 ((i : Int) + 1))) 1 (.bool false)).trans (by simp)
          have hbk := HBK.out
          rw [HY.out] at hbk
          refine ⟨i + 1, by rw [hbk], by first | rfl | (simp; done) | go_num, ⟨by omega⟩, ⟨zM (zP (zP HX2.out N26.out _) N26.out _)⟩, ⟨zM (zP (zP HX4.out N46.out _) N46.out _)⟩, ⟨zM (x6.trans ?_)⟩, ⟨zD (zE (zE HB.out L6.out) L6.out)⟩⟩
          rw [hbk]
          rfl
      · have hbd : decide (ys.getD (i + 1) 0 < (bestK ys i).2) = false := decide_eq_false hb
        have hbk : bestK ys (i + 1) = bestK ys i := by rw [bestK, if_neg hb]
        have HBK := zG.mk hbk
        clear hbk hb
        obtain ⟨Y, hY⟩ : ∃ Y, ys.getD (i + 1) 0 = Y := ⟨_, rfl⟩
        rw [hY] at hc2 hbd
        clear hY
        go_wp2
        go_roundg (m - (i + 1))
        case measure => omega
        case rel => exact ⟨i + 1, by rw [HBK.out], by first | rfl | (simp; done) | go_num, ⟨by omega⟩, HX2, HX4, ⟨by rw [HBK.out]; exact HX6.out⟩, HB⟩
    · have hq : decide (((i + 1 : Nat) : Int) ≤ (m : Int)) = false := decide_eq_false (by omega)
      obtain rfl : i = m := by omega
      clear hKm
      have hc20 := sum_cell0 HX2.out
      have hc2w := sum_cellw HX2.out HLY.out
      have hc60 : wr.cell? ⟨g6, 0, none⟩ = some (.int .i64 (bestK ys i).1) := (zN HX6.out 0).trans rfl
      have hc61 : wr.cell? ⟨g6, 1, none⟩ = some (.bool false) := (zN HX6.out 1).trans rfl
      have hf60 := zO HX6.out 0
      have hf61 := zO HX6.out 1
      have hc40 : wr.cell? ⟨g4, 0, none⟩ = some (.int .i64 0) := (zN HX4.out 0).trans rfl
      have hc41 : wr.cell? ⟨g4, 1, none⟩ = some (.bool false) := (zN HX4.out 1).trans rfl
      have hf40 := zO HX4.out 0
      have hf41 := zO HX4.out 1
      have n46 := N46.out
      have n64 := N46.out.symm
      obtain ⟨R, hR⟩ : ∃ R, wrap64 (5 + wrap64 (n * wd)) = R := ⟨_, rfl⟩
      by_cases h1 : wd ≤ 31 ∧ R < (bestK ys i).2
      · have d1 : decide (wd ≤ 31) = true := decide_eq_true h1.1
        have d2 : decide (R < (bestK ys i).2) = true := decide_eq_true h1.2
        have hbp : bestP n ys wd i = ((wd, true), R) := by unfold bestP bestRaw; rw [hR, if_pos h1]
        have HBP := zG.mk hbp
        clear h1 hbp
        go_wp2
        have x4 : ((((wr.setCell ⟨g6, 0, none⟩ (.int .i64 wd)).setCell ⟨g6, 1, none⟩ (.bool true)).setCell ⟨g4, 0, none⟩ (.int .i64 wd)).setCell ⟨g4, 1, none⟩ (.bool true)).heap[g4]? = some (.cells #[.int .i64 wd, .bool true] 50 (0, 0)) := (blk_set (blk_set (zP (zP HX4.out N46.out _) N46.out _) 0 (.int .i64 wd)) 1 (.bool true)).trans (by simp)
        have hb4 : Below w.heap.size w ((((wr.setCell ⟨g6, 0, none⟩ (.int .i64 wd)).setCell ⟨g6, 1, none⟩ (.bool true)).setCell ⟨g4, 0, none⟩ (.int .i64 wd)).setCell ⟨g4, 1, none⟩ (.bool true)) := zE (zE (zE (zE HB.out L6.out) L6.out) L4.out) L4.out
        refine bodyPost_ret (results_cell_row_tmp rfl _ _ g4 50 _ _ _ rfl x4 Try.underlying50 rfl rfl) rfl ?_
        rw [HBP.out]
        refine ⟨?_, hb4⟩
        simp [hR]
      · have hbp : bestP n ys wd i = (((bestK ys i).1, false), (bestK ys i).2) := by unfold bestP bestRaw; rw [hR, if_neg h1]
        have HBP := zG.mk hbp
        by_cases h2 : wd ≤ 31
        · have h3 : ¬ R < (bestK ys i).2 := fun h => h1 ⟨h2, h⟩
          have d1 : decide (wd ≤ 31) = true := decide_eq_true h2
          have d2 : decide (R < (bestK ys i).2) = false := decide_eq_false h3
          clear h1 h2 h3 hbp
          go_wp2
          have x4 : ((wr.setCell ⟨g4, 0, none⟩ (.int .i64 (bestK ys i).1)).setCell ⟨g4, 1, none⟩ (.bool false)).heap[g4]? = some (.cells #[.int .i64 (bestK ys i).1, .bool false] 50 (0, 0)) := (blk_set (blk_set HX4.out 0 (.int .i64 (bestK ys i).1)) 1 (.bool false)).trans (by simp)
          have hb4 : Below w.heap.size w ((wr.setCell ⟨g4, 0, none⟩ (.int .i64 (bestK ys i).1)).setCell ⟨g4, 1, none⟩ (.bool false)) := zE (zE HB.out L4.out) L4.out
          refine bodyPost_ret (results_cell_row_tmp rfl _ _ g4 50 _ _ _ rfl x4 Try.underlying50 rfl rfl) rfl ?_
          rw [HBP.out]
          refine ⟨?_, hb4⟩
          simp
        · have d1 : decide (wd ≤ 31) = false := decide_eq_false h2
          clear h1 h2 hbp
          go_wp2
          have x4 : ((wr.setCell ⟨g4, 0, none⟩ (.int .i64 (bestK ys i).1)).setCell ⟨g4, 1, none⟩ (.bool false)).heap[g4]? = some (.cells #[.int .i64 (bestK ys i).1, .bool false] 50 (0, 0)) := (blk_set (blk_set HX4.out 0 (.int .i64 (bestK ys i).1)) 1 (.bool false)).trans (by simp)
          have hb4 : Below w.heap.size w ((wr.setCell ⟨g4, 0, none⟩ (.int .i64 (bestK ys i).1)).setCell ⟨g4, 1, none⟩ (.bool false)) := zE (zE HB.out L4.out) L4.out
          refine bodyPost_ret (results_cell_row_tmp rfl _ _ g4 50 _ _ _ rfl x4 Try.underlying50 rfl rfl) rfl ?_
          rw [HBP.out]
          refine ⟨?_, hb4⟩
          simp
set_option linter.unusedSimpArgs false
set_option linter.unusedVariables false
theorem wpList_load_at {P : Program} {ops : Array Oper} {rest : List Oper} {op : Oper} {a : Act} {w : World} {Q : Exit → Act → World → Prop} (hgd : op.guard = none) (ty : TypeId) (x : Operand) (ho : op.op = .load ty x)
    (ad : Addr) (hx : a.eval x = .pointer (some ad)) (cs : List Value) (C : Array Value) (hC : cs.toArray = C) (d : TypeDesc) (hc : ∀ j v, cs[j]? = some v → w.cell? (ad.add j) = some v)
    (hu : P.underlying ty = some d) (hd : d.isRow = true) (hi : (P.info? ty).map (·.size) = some cs.length)
    (h : wpList P ops Q rest (a.put op.dst (.agg C)) w) : wpList P ops Q (op :: rest) a w := by
  subst hC
  refine wpList_plain hgd fun _ hK => ?_
  have hl : (loadCells ad cs.length).run P w = .ok cs.toArray w := run_loadCells_list (P := P) w ad cs hc
  have hv : (loadVar ty ad).run P w = .ok (.agg cs.toArray) w := by
    cases hq : P.info? ty with
    | none => simp [hq] at hi
    | some i =>
      have hs : i.size = cs.length := by simpa [hq] using hi
      have hagg : (isAgg ty).run P w = .ok true w := by
        unfold isAgg
        rw [Sem.run_bind, run_underlying hu w]
        cases d <;> simp_all
      simp [loadVar, Sem.run_bind, hagg, sizeOf, typeInfo, hq, hs, hl]
  unfold Oper.wp execOp
  simp only [ho, hx, Instr.loadAt, Instr.sureAddr, Sem.run_bind, Sem.run_pure, Result.andThen_ok, hv]
  exact hK _ _ h
theorem sz26 : (Try.prog.info? 25).map (·.size) = some 3 := by kernel_rfl
theorem sz39 : (Try.prog.info? 50).map (·.size) = some 2 := by kernel_rfl
structure Sm where
  n : Int
  ys : List Int
  wd : Int
def Sm.c (s : Sm) : List Value := (sumL s.n s.ys s.wd).map (Value.int .i64)
theorem Sm.c_len {s : Sm} (h : s.ys.length = 31) : s.c.length = 33 := by simp [Sm.c, sumL, h]
def kS : Kd Sm where
  sz := 33
  E := []
  K := fun _ x cs => cs = x.c ∧ x.ys.length = 31
  M := fun _ _ _ x cs => cs = x.c ∧ x.ys.length = 31
  K_len := fun h => by rw [h.1]; exact Sm.c_len h.2
  K_one := fun h u hu => by
    rw [h.1] at hu
    obtain ⟨v, _, rfl⟩ := List.mem_map.1 hu
    rfl
  K_below := fun _ h => h
  K_of_M := fun h => h
  M_mono := fun _ h => h
  M_bound := fun h => h
  M_move := fun _ h => h
  M_lower := fun _ h => h
def zSm : Sm := ⟨0, zs31, 0⟩
theorem kS_at {w : World} {A : Option Addr} {n : Nat} {xs : List Sm} (h : Kd.C kS w A n xs) (i : Nat) (hi : i < n) : ∃ ad, A = some ad ∧ (xs.getD i zSm).ys.length = 31 ∧ ∀ j u, (xs.getD i zSm).c[j]? = some u → w.cell? (ad.add (i * 33 + j)) = some u := by
  obtain ⟨ad, c, hA, _, hk, hc⟩ := Kd.C_get h zSm (i : Int) (by omega) (by omega)
  simp only [Int.toNat_natCast] at hk hc
  obtain ⟨rfl, h31⟩ := hk
  exact ⟨ad, hA, h31, hc⟩
def partOf (s : Sm) (m : Nat) : S50 := ⟨(bestP s.n s.ys s.wd m).1.1, (bestP s.n s.ys s.wd m).1.2⟩
def bitsOf (s : Sm) (m : Nat) : Int := (bestP s.n s.ys s.wd m).2
def mostOf (wide : Bool) : Nat := if wide then 30 else 14
def sizeOf_ (wide : Bool) : Int := if wide then 5 else 4
def planParts (l : List Sm) (wide : Bool) : List S50 := l.map (fun s => partOf s (mostOf wide))
def planAdd (wide : Bool) (n : Int) (s : Sm) : Int := wrap64 (n + wrap64 (sizeOf_ wide + bitsOf s (mostOf wide)))
def planBits (l : List Sm) (wide : Bool) : Int := l.foldl (planAdd wide) 6
theorem take_succ_s {l : List Sm} {i : Nat} (h : i < l.length) : l.take (i + 1) = l.take i ++ [l.getD i zSm] := by
  rw [List.take_add_one, List.getD_eq_getElem?_getD, List.getElem?_eq_getElem h]
  rfl
theorem planBits_succ {l : List Sm} {i : Nat} (h : i < l.length) (wide : Bool) : planBits (l.take (i + 1)) wide = planAdd wide (planBits (l.take i) wide) (l.getD i zSm) := by
  rw [take_succ_s h]; unfold planBits; rw [List.foldl_append]; rfl
theorem planParts_succ {l : List Sm} {i : Nat} (h : i < l.length) (wide : Bool) : planParts (l.take (i + 1)) wide = planParts (l.take i) wide ++ [partOf (l.getD i zSm) (mostOf wide)] := by
  rw [take_succ_s h]; unfold planParts; rw [List.map_append]; rfl
theorem wrapn {i : Nat} (h : i < 8796093022208) : wrap64 ((i : Int) + 1) = (i : Int) + 1 := by unfold wrap64; omega
set_option maxHeartbeats 8000000 in
set_option maxRecDepth 100000 in
theorem parts_plan.calls (A : Option Addr) (c : Nat) (l : List Sm) (o : Int) (wide : Bool) (w : World) (hr : Kd.C kS w A l.length l) (hc : l.length ≤ c) (hl : l.length < 8796093022208) :
    Calls Try.prog 38 #[.slice A l.length c, .int .i64 o, .bool wide] w fun e w' => ∃ v : Value, e = .returned (.tuple #[.agg #[.bool wide, .int .i64 o, v], .int .i64 (planBits l wide)]) ∧ Kd.R k50 50 w' w.heap.size (fun _ => True) v (planParts l wide) ∧ Below w.heap.size w w' := by
  have HR := zG.mk hr
  have HL := zG.mk hl
  clear hr hl
  go_enter Try.func38, Try.ntmps38
  have htop : parts_top.f wide = some ((mostOf wide : Int), sizeOf_ wide) := by cases wide <;> rfl
  have HT := zG.mk htop
  have HM := zG.mk (show mostOf wide ≤ 30 by cases wide <;> decide)
  clear htop
  obtain ⟨m, hm⟩ : ∃ m, mostOf wide = m := ⟨_, rfl⟩
  rw [hm] at HT HM
  have HMM := zG.mk hm
  clear hm
  go_upto_region 2 with (first
    | ((with_reducible refine gate_dst (N := 6) rfl ?_); refine box_event ?hg (N := 6) ?hd (cs := #[.bool false, .int .i64 0, .slice none 0 0]) (t := 25) ?hr ?_; (case hd => rfl); (case hg => rfl); (case hr => go_loud (first | (go_simp; done) | (go_simp; rfl))); intro g6 hg6_ w1 hbox6 hb1; have G6 := zG.mk hg6_; clear hg6_; have X6 := zG.mk hbox6; have B1 := zG.mk hb1; clear hbox6 hb1)
    | (go_at_call 29; (refine (parts_top.calls wide (m : Int) (sizeOf_ wide) _ HT.out).mono ?_); rintro e w9 ⟨rfl, ⟨nd, rfl⟩⟩))
  go_wp2_with (first
    | ((with_reducible refine gate_dst (N := 10) rfl ?_); refine box_event ?hg (N := 10) ?hd (cs := #[.bool false, .int .i64 0, .slice none 0 0]) (t := 25) ?hr ?_; (case hd => rfl); (case hg => rfl); (case hr => go_loud (first | (go_simp; done) | (go_simp; rfl))); intro g10 hg10_ w2 hbox10 hb2; have G10 := zG.mk hg10_; clear hg10_; have X10 := zG.mk hbox10; have B2 := zG.mk hb2; clear hbox10 hb2)
    | ((with_reducible refine gate_store (t := 25) (p := 10) rfl ?_); refine wpList_store_row rfl 25 _ _ rfl g10 #[.bool wide, .int .i64 o, .slice none 0 0] rfl rfl 25 _ X10.out sz26 rfl (by simp [Value.oneCell']) ?_))
  have z1 := blk_lt X6.out
  have hg6 := G6.out
  have hg10 : g10 = w1.heap.size := G10.out
  have zz := B1.out.size
  have n610 : g6 ≠ g10 := by omega
  have l6 : w.heap.size ≤ g6 := by omega
  have l10 : w.heap.size ≤ g10 := by omega
  have hX6 : (w2.setRow g10 #[Value.bool wide, Value.int IntKind.i64 o, Value.slice none 0 0]).heap[g6]? = some (.cells #[.bool false, .int .i64 0, .slice none 0 0] 25 (0, 0)) := (setRow_other w2 g10 g6 _ n610).trans (blk_below (zL X6.out nd) B2.out)
  have hX10 := setRow_heap w2 g10 _ #[Value.bool wide, Value.int IntKind.i64 o, Value.slice none 0 0] _ _ X10.out
  have hB : Below w.heap.size w (w2.setRow g10 #[Value.bool wide, Value.int IntKind.i64 o, Value.slice none 0 0]) := below_setRow (below_step (zC B1.out nd) B2.out) l10 _
  obtain ⟨W3, hW3⟩ : ∃ W3, w2.setRow g10 #[Value.bool wide, Value.int IntKind.i64 o, Value.slice none 0 0] = W3 := ⟨_, rfl⟩
  rw [hW3] at hX6 hX10 hB ⊢
  have hO := Kd.R_nil k50 50 W3 w.heap.size (fun _ => True)
  clear X6 X10 B1 B2 G6 G10 hg6 hg10 zz z1 hW3
  have HX6 := zG.mk hX6
  have HX10 := zG.mk hX10
  have HB := zG.mk hB
  have HO := zG.mk hO
  have N610 := zG.mk n610
  have L6 := zG.mk l6
  have L10 := zG.mk l10
  clear hX6 hX10 hB hO n610 l6 l10
  go_loopg [11, 26] l.length (fun kq v11 v26 w' => ∃ (i : Nat) (v : Value), v11 = .int .i64 (planBits (l.take i) wide) ∧ v26 = .int .i64 (i : Int) ∧ zG (i + kq = l.length) ∧ zG (w'.heap[g6]? = some (.cells #[.bool false, .int .i64 0, .slice none 0 0] 25 (0, 0))) ∧ zG (w'.heap[g10]? = some (.cells #[.bool wide, .int .i64 o, v] 25 (0, 0))) ∧ zG (Kd.R k50 50 w' w.heap.size (fun _ => True) v (planParts (l.take i) wide)) ∧ zG (Below w.heap.size w w'))
  case atStart => exact ⟨0, _, rfl, rfl, ⟨by omega⟩, HX6, HX10, HO, HB⟩
  case round =>
    clear HX6 HX10 HO HB
    obtain ⟨i, v, rfl, rfl, HK, HX6, HX10, HO, HB⟩ := hrel
    by_cases hi : i < l.length
    · have hq : decide ((i : Int) < (l.length : Int)) = true := decide_eq_true (by omega)
      obtain ⟨ad, rfl, h31, hcell⟩ := kS_at (Kd.C_below HR.out HB.out) i hi
      obtain ⟨s, hs⟩ : ∃ s, l.getD i zSm = s := ⟨_, rfl⟩
      rw [hs] at h31 hcell
      have HS := zG.mk hs
      have H31 := zG.mk h31
      have HC := zG.mk hcell
      have HI := zG.mk hi
      clear hs h31 hcell
      go_upto_region 5 with (fail)
      go_upto_region 6 with (first
        | ((with_reducible refine gate_dst (N := 29) rfl ?_); refine wpList_load_at rfl 87 _ rfl (ad.add (i * 33)) rfl s.c (iA (sumL s.n s.ys s.wd)) rfl _ (fun j u hj => by rw [Addr.add_add]; exact HC.out j u hj) Try.underlying87 rfl (by rw [Sm.c_len H31.out]; exact sz55) ?_)
        | ((with_reducible refine gate_dst (N := 13) rfl ?_); refine box_event ?hg (N := 13) ?hd (cs := iA (sumL 0 zs31 0)) (t := 87) ?hr ?_; (case hd => rfl); (case hg => rfl); (case hr => go_loud (first | (go_simp; done) | (go_simp; rfl))); intro g13 hg13_ w4 hbox13 hb4; have G13 := zG.mk hg13_; clear hg13_; have X13 := zG.mk hbox13; have B4 := zG.mk hb4; clear hbox13 hb4)
        | ((with_reducible refine gate_store (t := 87) (p := 13) rfl ?_); refine wpList_store_row rfl 87 _ _ rfl g13 (iA (sumL s.n s.ys s.wd)) rfl rfl 87 _ X13.out (iA_sum_size H31.out) (by rw [iA_size, iA_size]; simp [sumL, zs31, H31.out]) (iA_one _) ?_))
      have hX13 := setRow_heap w4 g13 _ (iA (sumL s.n s.ys s.wd)) _ _ X13.out
      have hg13 := G13.out
      have zb := HB.out.size
      have l13 : w.heap.size ≤ g13 := by omega
      have zi6 := blk_lt HX6.out
      have zi10 := blk_lt HX10.out
      have n6 : g6 ≠ g13 := by omega
      have n10 : g10 ≠ g13 := by omega
      have hX6 := (setRow_other w4 g13 g6 (iA (sumL s.n s.ys s.wd)) n6).trans (blk_below HX6.out B4.out)
      have hX10 := (setRow_other w4 g13 g10 (iA (sumL s.n s.ys s.wd)) n10).trans (blk_below HX10.out B4.out)
      have hB4 : Below wr.heap.size wr (w4.setRow g13 (iA (sumL s.n s.ys s.wd))) := below_setRow B4.out (by omega) _
      have hO := Kd.R_below HO.out hB4
      have hB := below_step HB.out hB4
      obtain ⟨W5, hW5⟩ : ∃ W5, w4.setRow g13 (iA (sumL s.n s.ys s.wd)) = W5 := ⟨_, rfl⟩
      rw [hW5] at hX13 hX6 hX10 hB4 hO hB ⊢
      clear X13 B4 G13 hW5 hB4 HX6 HX10 HO HB zb zi6 zi10 hg13
      have HX13 := zG.mk hX13
      have HX6 := zG.mk hX6
      have HX10 := zG.mk hX10
      have HO := zG.mk hO
      have HB := zG.mk hB
      clear hX13 hX6 hX10 hO hB
      go_upto_region 7 with (first
        | ((with_reducible refine gate_dst (N := 31) rfl ?_); refine wpList_load_row rfl 87 _ rfl g13 rfl 87 _ _ _ HX13.out Try.underlying87 rfl (iA_sum_size H31.out) ?_)
        | (go_at_call 57; (refine (parts_best.calls s.n s.wd s.ys H31.out m HM.out _).mono ?_); rintro e w6 ⟨rfl, hb6⟩; have B6 := zG.mk hb6; clear hb6)
        | ((with_reducible refine gate_dst (N := 14) rfl ?_); refine box_event ?hg (N := 14) ?hd (cs := #[.int .i64 0, .bool false]) (t := 50) ?hr ?_; (case hd => rfl); (case hg => rfl); (case hr => go_loud (first | (go_simp; done) | (go_simp; rfl))); intro g14 hg14_ w7 hbox14 hb7; have G14 := zG.mk hg14_; clear hg14_; have X14 := zG.mk hbox14; have B7 := zG.mk hb7; clear hbox14 hb7)
        | ((with_reducible refine gate_store (t := 50) (p := 14) rfl ?_); refine wpList_store_row rfl 50 _ _ rfl g14 #[.int .i64 (bestP s.n s.ys s.wd m).1.1, .bool (bestP s.n s.ys s.wd m).1.2] rfl rfl 50 _ X14.out sz39 rfl (by simp [Value.oneCell']) ?_))
      have hg14 := G14.out
      have zb := HB.out.size
      have zb6 := B6.out.size
      have zi6 := blk_lt HX6.out
      have zi10 := blk_lt HX10.out
      have l14 : w.heap.size ≤ g14 := by omega
      have n6 : g6 ≠ g14 := by omega
      have n10 : g10 ≠ g14 := by omega
      have hb8 := below_setRow (below_step B6.out B7.out) (by omega : W5.heap.size ≤ g14) #[.int .i64 (bestP s.n s.ys s.wd m).1.1, .bool (bestP s.n s.ys s.wd m).1.2]
      have hX6 := blk_below HX6.out hb8
      have hX10 := blk_below HX10.out hb8
      have hX14 := setRow_heap w7 g14 _ #[.int .i64 (bestP s.n s.ys s.wd m).1.1, .bool (bestP s.n s.ys s.wd m).1.2] _ _ X14.out
      have hO := Kd.R_below HO.out hb8
      have hB := below_step HB.out hb8
      obtain ⟨W8, hW8⟩ : ∃ W8, w7.setRow g14 #[.int .i64 (bestP s.n s.ys s.wd m).1.1, .bool (bestP s.n s.ys s.wd m).1.2] = W8 := ⟨_, rfl⟩
      rw [hW8] at hX14 hX6 hX10 hb8 hO hB ⊢
      have hc10 : W8.cell? ⟨g10, 2, none⟩ = some v := (zN hX10 2).trans rfl
      have hc140 : W8.cell? ⟨g14, 0, none⟩ = some (.int .i64 (bestP s.n s.ys s.wd m).1.1) := (zN hX14 0).trans rfl
      have hc141 : W8.cell? ⟨g14, 1, none⟩ = some (.bool (bestP s.n s.ys s.wd m).1.2) := (zN hX14 1).trans rfl
      clear X14 B7 G14 hW8 hb8 HX6 HX10 HX13 HO HB zb zb6 zi6 zi10 hg14 B6 n6 n10 l14
      have HX6 := zG.mk hX6
      have HX10 := zG.mk hX10
      have HO := zG.mk hO
      have HB := zG.mk hB
      clear hX14 hX6 hX10 hO hB
      go_wp2_with (first
        | ((with_reducible refine gate_builtin (b := .append) (xs := #[.tmp 37, .tmp 39]) rfl ?_); at_builtin; refine Kd.R_append k50 (w0 := w) w.heap.size rfl (.tmp 37) (.tmp 39) 23 50 (.agg #[(.int .i64 0), (.bool false)]) 16 rfl Try.underlying23 info50 rfl (by decide) (by omega) v (planParts (l.take i) wide) (partOf s m) [.int .i64 (bestP s.n s.ys s.wd m).1.1, .bool (bestP s.n s.ys s.wd m).1.2] (fun _ => True) (fun _ => False) rfl rfl ?aP (fun _ hk => hk.elim) (fun _ _ => trivial) ?aO ?aB ?aS ?aL ?_; (case aP => exact k50_mkM _ _ _ (partOf s m)); (case aB => exact HB.out); (case aO => exact HO.out); (case aS => exact below_size HB.out); (case aL => (have := HI.out; have := HL.out; simp only [planParts, List.length_map, List.length_take]; omega)); intro v9 w9 ho hb hg hat; obtain ⟨A9, c9, rfl⟩ := Kd.R_slice ho; have hX10n := blk_grown HX10.out hg (Kd.R_ne HO.out HX10.out (by decide)); have hX6n := blk_grown HX6.out hg (Kd.R_ne HO.out HX6.out (by decide)); have hc10n : w9.cell? ⟨g10, 2, none⟩ = some v := (zN hX10n 2).trans rfl; have hf10n := zO hX10n 2; clear HX10 HX6 HB HO hc10 hc140 hc141; have HX10 := zG.mk hX10n; have HX6 := zG.mk hX6n; have HO := zG.mk ho; have HB := zG.mk hb; clear ho hb hg hat hX10n hX6n))
      have hl := HL.out
      go_wp2
      go_roundg (l.length - (i + 1))
      case measure => have := HK.out; omega
      case rel =>
        have hn : planBits (l.take (i + 1)) wide = wrap64 (planBits (l.take i) wide + wrap64 (sizeOf_ wide + (bestP s.n s.ys s.wd m).2)) := by rw [planBits_succ HI.out, HS.out, planAdd, bitsOf, HMM.out]
        have hp : planParts (l.take (i + 1)) wide = planParts (l.take i) wide ++ [partOf s m] := by rw [planParts_succ HI.out, HS.out, HMM.out]
        have hO := HO.out
        rw [List.length_append, List.length_singleton, ← hp] at hO
        refine ⟨i + 1, .slice A9 ((planParts (l.take i) wide).length + 1) c9, by rw [hn], by rw [wrapn (by omega)]; rfl, ⟨by have := HK.out; omega⟩, ⟨?_⟩, ⟨?_⟩, ⟨?_⟩, ⟨?_⟩⟩
        · exact zP HX6.out N610.out _
        · exact (blk_set HX10.out 2 _).trans (by simp)
        · exact Kd.R_set hO HX10.out (by decide) 2 _
        · exact zE HB.out L10.out
    · have hq : decide ((i : Int) < (l.length : Int)) = false := decide_eq_false (by omega)
      obtain rfl : i = l.length := by have := HK.out; omega
      have hO := HO.out
      rw [List.take_length] at hO
      obtain ⟨Av, cv, rfl⟩ := Kd.R_slice hO
      have hc100 : wr.cell? ⟨g10, 0, none⟩ = some (.bool wide) := (zN HX10.out 0).trans rfl
      have hc101 : wr.cell? ⟨g10, 1, none⟩ = some (.int .i64 o) := (zN HX10.out 1).trans rfl
      have hc102 : wr.cell? ⟨g10, 2, none⟩ = some (.slice Av (planParts l wide).length cv) := (zN HX10.out 2).trans rfl
      go_wp2_with ((with_reducible refine gate_store (t := 25) (p := 6) rfl ?_); refine wpList_store_row rfl 25 _ _ rfl g6 _ rfl rfl 25 _ HX6.out sz26 rfl ?one ?_; (case one => simp [Value.oneCell']))
      have hX6 := setRow_heap wr g6 _ #[.bool wide, .int .i64 o, .slice Av (planParts l wide).length cv] _ _ HX6.out
      refine bodyPost_ret (results_cell_row_tmp rfl _ _ g6 25 _ _ _ rfl hX6 Try.underlying25 rfl sz26) rfl ?_
      exact ⟨_, rfl, Kd.R_mono (Kd.R_step (Kd.R_types hO HX6.out (by decide)) (fun k hk _ => setRow_other wr g6 k _ hk.2)) (fun _ _ => trivial), below_setRow HB.out L6.out _⟩
end Go.Proofs.Ytokdjeoecnnckaa.PA
end
section
namespace Go.Proofs.Ytokdjeoecnnckaa.PL
open Go.RowKit Go.Proofs.Ytokdjeoecnnckaa.PA Go.Proofs.YtokdjeoecnnckaaW.PrintWords Go.Proofs.YtokdjeoecnnckaaW.PrintMore
set_option linter.unusedVariables false
set_option linter.unusedSimpArgs false
def NearAll (l : List Int) : Prop := ∀ n ∈ l, IsNear n
instance (l : List Int) : Decidable (NearAll l) := by unfold NearAll; infer_instance
theorem nearAll_cons {x : Int} {t : List Int} : NearAll (x :: t) ↔ IsNear x ∧ NearAll t := by simp [NearAll]
theorem nearAll_append {a b : List Int} : NearAll (a ++ b) ↔ NearAll a ∧ NearAll b := by
  simp only [NearAll, List.mem_append]
  exact ⟨fun h => ⟨fun n hn => h n (.inl hn), fun n hn => h n (.inr hn)⟩, fun h n hn => hn.elim (h.1 n) (h.2 n)⟩
theorem anyFar_ev (l : List Int) (hl : l.length ≤ 1000) : Ev (fun k => serinetteshadow_AnyFarCost.f k l) (!decide (NearAll l)) := by
  have key : ∀ (t p : List Int), l = p ++ t → Ev (fun k => serinetteshadow_AnyFarCost.l0 k l (l.length : Int) (p.length : Int)) (!decide (NearAll t)) := by
    intro t
    induction t with
    | nil =>
      intro p hp
      refine succ ?_
      simp only [serinetteshadow_AnyFarCost.l0]
      exact neg (by rw [hp]; simp) (cst (by simp [NearAll]))
    | cons x t ih =>
      intro p hp
      have l1 := congrArg List.length hp
      simp only [List.length_append, List.length_cons] at l1
      refine succ ?_
      simp only [serinetteshadow_AnyFarCost.l0]
      have ra : rd l (p.length : Int) = x := by rw [hp]; exact rd_at _ _ _
      rw [ra, w64 (by omega) (by omega)]
      refine pos (by omega) (pos (by omega) (pos (by omega) ?_))
      by_cases h1 : x < -8589934592
      · exact pos h1 (cst (by rw [decide_eq_false (fun h => by have := (nearAll_cons.1 h).1; unfold IsNear at this; omega)]; rfl))
      · refine neg h1 ?_
        by_cases h2 : x ≥ 8589934592
        · exact pos h2 (cst (by rw [decide_eq_false (fun h => by have := (nearAll_cons.1 h).1; unfold IsNear at this; omega)]; rfl))
        · refine neg h2 ?_
          have e : decide (NearAll (x :: t)) = decide (NearAll t) := decide_eq_decide.2 (nearAll_cons.trans ⟨fun h => h.2, fun h => ⟨by unfold IsNear; omega, h⟩⟩)
          rw [e]
          have := ih (p ++ [x]) (by simp [hp])
          simpa using this
  exact key l [] rfl
def bitsL (k : Nat) : List Int → Int
  | [] => 0
  | n :: t => sz n k + bitsL k t
theorem bitsL_append (k : Nat) : ∀ (a b : List Int), bitsL k (a ++ b) = bitsL k a + bitsL k b
  | [], b => by simp [bitsL]
  | n :: t, b => by simp only [List.cons_append, bitsL, bitsL_append k t b]; omega
theorem bitsL_bd (k : Nat) (hk : k ≤ 30) : ∀ (l : List Int), NearAll l → (1 + k) * l.length ≤ bitsL k l ∧ bitsL k l ≤ 17179869300 * l.length
  | [], _ => by simp [bitsL]
  | n :: t, h => by
    have h1 := sz_bd (nearAll_cons.1 h).1 hk
    have h2 := bitsL_bd k hk t (nearAll_cons.1 h).2
    simp only [bitsL, List.length_cons]
    have e1 : (1 + (k : Int)) * ((t.length + 1 : Nat) : Int) = (1 + (k : Int)) * t.length + (1 + k) := by rw [Int.natCast_succ, Int.mul_add, Int.mul_one]
    omega
def inn (n : Int) (w : Nat) : Prop := 1 ≤ w ∧ -(2 ^ (w - 1)) ≤ n ∧ n < 2 ^ (w - 1)
instance (n : Int) (w : Nat) : Decidable (inn n w) := by unfold inn; infer_instance
theorem inn_eq (n : Int) (w : Nat) (hw : w ≤ 62) (h : -9223372036854775808 ≤ n ∧ n < 9223372036854775808) : pcm_In.f n (w : Int) = some (decide (inn n w)) := by
  unfold pcm_In.f
  by_cases h1 : (w : Int) < 1
  · rw [if_pos h1]; congr 1; exact (decide_eq_false (fun h => by have := h.1; omega)).symm
  · have e : (w : Int) - 1 = ((w - 1 : Nat) : Int) := by omega
    rw [if_neg h1, if_neg (by omega), e, w64 (by omega) (by omega), if_pos (by omega), shr_eq' n (by omega)]
    have hp : (0 : Int) < 2 ^ (w - 1) := Int.pow_pos (by decide)
    have iff0 : n / 2 ^ (w - 1) = 0 ↔ 0 ≤ n ∧ n < 2 ^ (w - 1) := by
      constructor
      · intro h0
        have := Int.mul_ediv_add_emod n (2 ^ (w - 1))
        rw [h0, Int.mul_zero, Int.zero_add] at this
        have h2 := Int.emod_nonneg n (Int.ne_of_gt hp); have h3 := Int.emod_lt_of_pos n hp
        omega
      · intro h0; exact Int.ediv_eq_zero_of_lt h0.1 h0.2
    have iff1 : n / 2 ^ (w - 1) = -1 ↔ -(2 ^ (w - 1)) ≤ n ∧ n < 0 := by
      constructor
      · intro h0
        have := Int.mul_ediv_add_emod n (2 ^ (w - 1))
        rw [h0] at this
        have h2 := Int.emod_nonneg n (Int.ne_of_gt hp); have h3 := Int.emod_lt_of_pos n hp
        omega
      · intro h0
        refine ((Int.ediv_emod_unique (r := n + 2 ^ (w - 1)) (q := -1) hp).2 ⟨by omega, by omega, by omega⟩).1
    by_cases h0 : n / 2 ^ (w - 1) = 0
    · rw [if_pos h0]
      congr 1
      exact (decide_eq_true (by have := iff0.1 h0; exact ⟨by omega, by omega, by omega⟩)).symm
    · rw [if_neg h0]
      congr 1
      by_cases h2 : n / 2 ^ (w - 1) = -1
      · rw [h2]
        exact (decide_eq_true (by have := iff1.1 h2; exact ⟨by omega, by omega, by omega⟩)).symm
      · rw [beq_eq_false_iff_ne.2 h2]
        refine (decide_eq_false (fun hi => ?_)).symm
        rcases Int.lt_or_le n 0 with h3 | h3
        · exact h2 (iff1.2 ⟨hi.2.1, h3⟩)
        · exact h0 (iff0.2 ⟨h3, hi.2.2⟩)
theorem inn_succ {n : Int} {w : Nat} (h : inn n w) : inn n (w + 1) := by
  obtain ⟨h1, h2, h3⟩ := h
  have e : (2 : Int) ^ (w + 1 - 1) = 2 ^ (w - 1) * 2 := by rw [show w + 1 - 1 = (w - 1) + 1 by omega, Int.pow_succ]
  have hp : (0 : Int) < 2 ^ (w - 1) := Int.pow_pos (by decide)
  exact ⟨by omega, by rw [e]; omega, by rw [e]; omega⟩
def fitsW (l : List Int) (w : Nat) : Prop := ∀ n ∈ l, n = 0 ∨ inn n w
instance (l : List Int) (w : Nat) : Decidable (fitsW l w) := by unfold fitsW; infer_instance
theorem fitsW_succ {l : List Int} {w : Nat} (h : fitsW l w) : fitsW l (w + 1) := fun n hn => (h n hn).imp id inn_succ
theorem fitsW_mono {l : List Int} {v w : Nat} (h : fitsW l v) (hvw : v ≤ w) : fitsW l w := by
  obtain ⟨d, rfl⟩ : ∃ d, w = v + d := ⟨w - v, by omega⟩
  clear hvw
  induction d with
  | zero => exact h
  | succ d ih => exact fitsW_succ ih
theorem fitsW_34 {l : List Int} (h : NearAll l) : fitsW l 34 := fun n hn => by
  have := h n hn
  unfold IsNear at this
  exact .inr ⟨by omega, by simpa using this.1, by simpa using this.2⟩
def widGo (l : List Int) : Nat → Nat → Nat
  | 0, w => w
  | d + 1, w => if fitsW l w then w else widGo l d (w + 1)
def wid (l : List Int) : Nat := widGo l 34 0
theorem widGo_spec {l : List Int} (h : fitsW l 34) : ∀ d w, w + d = 34 → fitsW l (widGo l d w) ∧ widGo l d w ≤ 34 ∧ ∀ v, w ≤ v → v < widGo l d w → ¬ fitsW l v
  | 0, w, e => by
    obtain rfl : w = 34 := by omega
    exact ⟨h, Nat.le_refl _, fun v h1 h2 => by simp only [widGo] at h2; omega⟩
  | d + 1, w, e => by
    simp only [widGo]
    split
    · rename_i hf
      exact ⟨hf, by omega, fun v h1 h2 => by omega⟩
    · rename_i hf
      obtain ⟨h1, h2, h3⟩ := widGo_spec h d (w + 1) (by omega)
      refine ⟨h1, h2, fun v hv1 hv2 => ?_⟩
      rcases Nat.lt_or_ge w v with h5 | h5
      · exact h3 v h5 hv2
      · obtain rfl : v = w := by omega
        exact hf
theorem wid_spec {l : List Int} (h : NearAll l) : fitsW l (wid l) ∧ wid l ≤ 34 ∧ ∀ v, v < wid l → ¬ fitsW l v := by
  obtain ⟨h1, h2, h3⟩ := widGo_spec (fitsW_34 h) 34 0 rfl
  exact ⟨h1, h2, fun v hv => h3 v (Nat.zero_le _) hv⟩
theorem wid_eq {l : List Int} (h : NearAll l) {w : Nat} (h1 : fitsW l w) (h2 : ∀ v, v < w → ¬ fitsW l v) : wid l = w := by
  obtain ⟨g1, _, g2⟩ := wid_spec h
  rcases Nat.lt_trichotomy (wid l) w with h3 | h3 | h3
  · exact absurd g1 (h2 _ h3)
  · exact h3
  · exact absurd h1 (g2 _ h3)
theorem fitsW_append {a b : List Int} {w : Nat} : fitsW (a ++ b) w ↔ fitsW a w ∧ fitsW b w := by
  simp only [fitsW, List.mem_append]
  exact ⟨fun h => ⟨fun n hn => h n (.inl hn), fun n hn => h n (.inr hn)⟩, fun h n hn => hn.elim (h.1 n) (h.2 n)⟩
theorem width_ev (l : List Int) (hl : l.length ≤ 1000) : Ev (fun q => cost_Width.f q l) (if NearAll l then (wid l : Int) else -1) := by
  unfold cost_Width.f
  refine bnd (anyFar_ev l hl) ?_
  by_cases hn : NearAll l
  · rw [if_pos hn]
    refine neg (by simp [hn]) ?_
    have key : ∀ (t p : List Int) (W : Nat), l = p ++ t → W ≤ 34 → fitsW p W → (∀ v, v < W → ¬ fitsW p v) → Ev (fun q => cost_Width.l0 q (W : Int) l (l.length : Int) (p.length : Int)) (wid l : Int) := by
      intro t
      induction t with
      | nil =>
        intro p W hp hW h1 h2
        rw [List.append_nil] at hp
        subst hp
        refine succ ?_
        simp only [cost_Width.l0]
        exact neg (by omega) (cst (by rw [wid_eq hn h1 h2]))
      | cons x t ih =>
        intro p W hp hW h1 h2
        have l1 := congrArg List.length hp
        simp only [List.length_append, List.length_cons] at l1
        refine succ ?_
        simp only [cost_Width.l0]
        have ra : rd l (p.length : Int) = x := by rw [hp]; exact rd_at _ _ _
        have hx : IsNear x := hn x (by rw [hp]; simp)
        rw [ra]
        refine pos (by omega) (pos (by omega) (pos (by omega) ?_))
        have nxt : ∀ W : Nat, W ≤ 34 → fitsW (p ++ [x]) W → (∀ v, v < W → ¬ fitsW (p ++ [x]) v) → Ev (fun q => cost_Width.l0 q (W : Int) l (l.length : Int) (wrap64 ((p.length : Int) + 1))) (wid l : Int) := fun W hW g1 g2 => by
          rw [w64 (by omega) (by omega)]
          have := ih (p ++ [x]) W (by simp [hp]) hW g1 g2
          simpa using this
        have inner : ∀ (d W : Nat), W + d = 34 → fitsW p W → (∀ v, v < W → ¬ fitsW (p ++ [x]) v) → Ev (fun q => cost_Width.l1 q (W : Int) x l (l.length : Int) (p.length : Int)) (wid l : Int) := by
          intro d
          induction d with
          | zero =>
            intro W hWd g1 g2
            obtain rfl : W = 34 := by omega
            have hi : fitsW (p ++ [x]) 34 := fitsW_34 (nearAll_append.2 ⟨fun n h => hn n (by rw [hp]; simp [h]), fun n h => by simp at h; rw [h]; exact hx⟩)
            refine succ ?_
            simp only [cost_Width.l1]
            by_cases h0 : x = 0
            · exact pos h0 (nxt 34 (by omega) hi g2)
            · refine neg h0 ?_
              rw [inn_eq x 34 (by omega) (near_64 hx)]
              simp only [Option.bind_some]
              have := (hi x (by simp)).resolve_left h0
              exact pos (by simpa using this) (nxt 34 (by omega) hi g2)
          | succ d ihd =>
            intro W hWd g1 g2
            refine succ ?_
            simp only [cost_Width.l1]
            by_cases h0 : x = 0
            · exact pos h0 (nxt W (by omega) (fitsW_append.2 ⟨g1, fun n h => by simp at h; exact .inl (h.trans h0)⟩) g2)
            · refine neg h0 ?_
              rw [inn_eq x W (by omega) (near_64 hx)]
              simp only [Option.bind_some]
              by_cases hi : inn x W
              · exact pos (by simpa using hi) (nxt W (by omega) (fitsW_append.2 ⟨g1, fun n h => by simp at h; rw [h]; exact .inr hi⟩) g2)
              · refine neg (by simpa using hi) ?_
                rw [w64 (x := (W : Int) + 1) (by omega) (by omega)]
                refine ihd (W + 1) (by omega) (fitsW_succ g1) (fun v hv => ?_)
                rcases Nat.lt_or_ge v W with h5 | h5
                · exact g2 v h5
                · obtain rfl : v = W := by omega
                  exact fun hf => ((fitsW_append.1 hf).2 x (by simp)).elim h0 hi
        exact inner (34 - W) W (by omega) h1 (fun v hv hf => h2 v hv (fitsW_append.1 hf).1)
    exact key l [] 0 rfl (by omega) (fun n h => by simp at h) (fun v hv => by omega)
  · rw [if_neg hn]
    exact pos (by simp [hn]) (cst rfl)
def amin (f : Nat → Int) : Nat → Nat
  | 0 => 0
  | m + 1 => if f (m + 1) < f (amin f m) then m + 1 else amin f m
theorem amin_le (f : Nat → Int) : ∀ m, amin f m ≤ m
  | 0 => Nat.le_refl _
  | m + 1 => by have := amin_le f m; simp only [amin]; split <;> omega
theorem amin_min (f : Nat → Int) : ∀ m j, j ≤ m → f (amin f m) ≤ f j
  | 0, j, h => by obtain rfl : j = 0 := by omega
                  exact Int.le_refl _
  | m + 1, j, h => by
    simp only [amin]
    rcases Nat.lt_or_ge m j with h1 | h1
    · obtain rfl : j = m + 1 := by omega
      split <;> omega
    · have := amin_min f m j h1
      split <;> omega
def rawL (l : List Int) : Int := 5 + (wid l : Int) * l.length
def bestL (l : List Int) (m : Nat) : Int × Bool × Int × Int :=
  if wid l ≤ 31 ∧ rawL l < bitsL (amin (fun k => bitsL k l) m) l then ((wid l : Int), true, rawL l, 0) else ((amin (fun k => bitsL k l) m : Int), false, bitsL (amin (fun k => bitsL k l) m) l, 0)
theorem raw_bd (l : List Int) (hl : l.length ≤ 1000) (h : wid l ≤ 34) : 0 ≤ (wid l : Int) * l.length ∧ (wid l : Int) * l.length ≤ 34000 := by
  refine ⟨Int.mul_nonneg (by omega) (by omega), ?_⟩
  have : (wid l : Int) * l.length ≤ 34 * 1000 := Int.mul_le_mul (by omega) (by omega) (by omega) (by omega)
  omega
end Go.Proofs.Ytokdjeoecnnckaa.PL
end
section
namespace Go.Proofs.Ytokdjeoecnnckaa.PL
open Go.RowKit Go.Proofs.Ytokdjeoecnnckaa.PA Go.Proofs.YtokdjeoecnnckaaW.PrintWords Go.Proofs.YtokdjeoecnnckaaW.PrintLast Go.Proofs.YtokdjeoecnnckaaW.PrintMore
set_option linter.unusedVariables false
set_option linter.unusedSimpArgs false
def cutsP (n order : Int) (o : Nat) : List Int :=
  if (n + order) % 2 ^ o = 0 ∧ order < (n + order) / 2 ^ o then ((n + order) / 2 ^ o - order) :: List.replicate (2 ^ o - 1) ((n + order) / 2 ^ o) else []
theorem shl_i64' {x : Int} {s : Nat} (h : s ≤ 64) (h0 : -9223372036854775808 ≤ x * 2 ^ s) (h1 : x * 2 ^ s < 9223372036854775808) : shl .i64 x (s : Int) = x * 2 ^ s := by
  unfold shl
  rw [Int.toNat_natCast, show min s IntKind.i64.bits = s by simp [IntKind.bits]; omega]
  exact (i64_w _).trans (w64 h0 h1)
theorem pow15 {o : Nat} (ho : o ≤ 15) : (1 : Int) ≤ 2 ^ o ∧ (2 : Int) ^ o ≤ 32768 := by
  have h1 : (2 : Nat) ^ o ≤ 2 ^ 15 := Nat.pow_le_pow_right (by decide) ho
  have h2 : 0 < (2 : Nat) ^ o := Nat.pow_pos (by decide)
  have h3 : ((2 ^ o : Nat) : Int) = (2 : Int) ^ o := by simp
  have h4 : (2 : Nat) ^ 15 = 32768 := by decide
  omega
theorem cuts_l0 (order share : Int) (N : Nat) (hN : 0 < N) (hN2 : N ≤ 40000) (hs : 0 ≤ share - order) (hs2 : share - order < 9223372036854775808) :
    ∀ (d i : Nat), i + d = N → Ev (fun k => parts_Cuts.l0 k order share (List.replicate i share ++ List.replicate d 0) (N : Int) (i : Int)) ((share - order) :: List.replicate (N - 1) share) := by
  intro d
  induction d with
  | zero =>
    intro i hi
    obtain rfl : i = N := by omega
    refine succ ?_
    simp only [parts_Cuts.l0]
    refine neg (by omega) (pos (by simp; omega) (cst ?_))
    obtain ⟨m, rfl⟩ : ∃ m, i = m + 1 := ⟨i - 1, by omega⟩
    have e1 : List.replicate (m + 1) share ++ List.replicate 0 0 = share :: List.replicate m share := by simp [List.replicate_succ]
    rw [e1]
    have e2 : rd (share :: List.replicate m share) 0 = share := by simp [rd]
    rw [e2, w64 (by omega) (by omega)]
    simp
  | succ d ih =>
    intro i hi
    refine succ ?_
    simp only [parts_Cuts.l0]
    refine pos (by omega) (pos (by omega) (pos (by simp; omega) ?_))
    rw [w64 (by omega) (by omega)]
    have e1 : (List.replicate i share ++ List.replicate (d + 1) 0).set ((i : Int)).toNat share = List.replicate (i + 1) share ++ List.replicate d 0 := by
      rw [Int.toNat_natCast, List.replicate_succ, List.set_append_right _ _ (by simp)]
      simp [List.replicate_succ', List.append_assoc]
    rw [e1]
    have := ih (i + 1) (by omega)
    simpa using this
theorem cuts_ev (n order : Int) (o : Nat) (hn0 : 0 ≤ n) (hn : n ≤ 100000) (ho0 : 0 ≤ order) (ho1 : order ≤ 100000) (ho : o ≤ 15) : Ev (fun k => parts_Cuts.f k n order (o : Int)) (cutsP n order o) := by
  obtain ⟨p1, p2⟩ := pow15 ho
  have hd0 : 0 ≤ (n + order) / 2 ^ o := Int.ediv_nonneg (by omega) (by omega)
  have hd1 : (n + order) / 2 ^ o ≤ n + order := Int.ediv_le_self _ (by omega)
  have hme := Int.mul_ediv_add_emod (n + order) (2 ^ o)
  have hm0 := Int.emod_nonneg (n + order) (show (2 : Int) ^ o ≠ 0 by omega)
  have hm1 := Int.emod_lt_of_pos (n + order) (show (0 : Int) < 2 ^ o by omega)
  unfold parts_Cuts.f
  refine neg (by omega) (neg (by omega) (neg (by omega) ?_))
  rw [decide_eq_false (by omega)]
  refine succ ?_
  simp only [parts_Cuts.j0]
  rw [w64 (x := n + order) (by omega) (by omega), shr_eq' _ (by omega)]
  have esh : shl .i64 ((n + order) / 2 ^ o) (o : Int) = 2 ^ o * ((n + order) / 2 ^ o) := by
    rw [Int.mul_comm] at hme
    rw [shl_i64' (by omega) (by omega) (by omega), Int.mul_comm]
  rw [esh]
  refine neg (by decide) (pos (by omega) ?_)
  have j1 : ∀ b : Bool, ((n + order) % 2 ^ o = 0) → b = decide ((n + order) / 2 ^ o ≤ order) → Ev (fun k => parts_Cuts.j1 k order (o : Int) ((n + order) / 2 ^ o) b) (cutsP n order o) := by
    intro b h0 hb
    refine succ ?_
    simp only [parts_Cuts.j1]
    by_cases hs : (n + order) / 2 ^ o ≤ order
    · refine pos (by rw [hb]; exact decide_eq_true hs) (cst ?_)
      rw [cutsP, if_neg (fun h => by omega)]
    · refine neg (by rw [hb]; simpa using hs) (pos (by omega) ?_)
      have es1 : shl .i64 1 (o : Int) = 2 ^ o := by rw [shl_i64' (by omega) (by omega) (by omega)]; omega
      rw [es1]
      have et : ((2 : Int) ^ o).toNat = 2 ^ o := by
        have h3 : ((2 ^ o : Nat) : Int) = (2 : Int) ^ o := by simp
        rw [← h3, Int.toNat_natCast]
      rw [et]
      have h3 : ((2 ^ o : Nat) : Int) = (2 : Int) ^ o := by simp
      refine pos (by omega) (pos (by omega) ?_)
      simp only [Option.bind_some]
      rw [cutsP, if_pos ⟨h0, by omega⟩]
      have := cuts_l0 order ((n + order) / 2 ^ o) (2 ^ o) (by omega) (by omega) (by omega) (by omega) (2 ^ o) 0 (by omega)
      simpa using this
  by_cases h0 : (n + order) % 2 ^ o = 0
  · exact pos (by omega) (j1 _ h0 rfl)
  · refine neg (by omega) ?_
    refine succ ?_
    simp only [parts_Cuts.j1]
    refine pos trivial (cst ?_)
    rw [cutsP, if_neg (fun h => h0 h.1)]
theorem cutsP_len {n order : Int} {o : Nat} (h : cutsP n order o ≠ []) : (cutsP n order o).length = 2 ^ o := by
  unfold cutsP at h ⊢
  split at h
  · rename_i hc
    rw [if_pos hc]
    have : 0 < 2 ^ o := Nat.pow_pos (by decide)
    rw [List.length_cons, List.length_replicate]
    omega
  · exact absurd rfl h
theorem cutsP_0 {n order : Int} (h : 0 < n) : cutsP n order 0 = [n] := by
  unfold cutsP
  rw [if_pos ⟨by simp, by simp; omega⟩]
  simp
end Go.Proofs.Ytokdjeoecnnckaa.PL
end
section
namespace Go.Proofs.Ytokdjeoecnnckaa.PA
open Go Go.RowKit Go.Proofs.YtokdjeoecnnckaaW.PrintWords Go.Proofs.YtokdjeoecnnckaaW.PrintLast Go.Proofs.YtokdjeoecnnckaaW.PrintMore
attribute [local go_sem] max2_int min2_int max_two min_two max_three min_three max_four min_four
set_option linter.unusedSimpArgs false
set_option linter.unusedVariables false
def smOf (wf : List Int → Int) (l : List Int) : Sm := ⟨(l.length : Int), ysAt l 31, wf l⟩
def sumsOf (wf : List Int → Int) : List Int → List Int → List Sm
  | [], _ => []
  | n :: cs, l => smOf wf (l.take n.toNat) :: sumsOf wf cs (l.drop n.toNat)
def Fits : List Int → Nat → Prop
  | [], _ => True
  | n :: cs, r => 0 ≤ n ∧ n ≤ (r : Int) ∧ Fits cs (r - n.toNat)
def WFits (k : Nat) (wf : List Int → Int) : List Int → List Int → Prop
  | [], _ => True
  | n :: cs, l => cost_Width.f k (l.take n.toNat) = some (wf (l.take n.toNat)) ∧ WFits k wf cs (l.drop n.toNat)
theorem info55 : (Try.prog.info? 87).map (fun i => (i.zero, i.size, i.bytes)) = some (some (.agg (iA (sumL 0 zs31 0))), 33, 264) := by kernel_rfl
theorem fold_zipL : ∀ (xs : List Value) (k : Nat) (Z : Array Value), k + xs.length = Z.size → (xs.zipIdx k).foldl (fun (cs : Array Value) (x : Value × Nat) => cs.setIfInBounds x.2 x.1) Z = (Z.toList.take k ++ xs).toArray
  | [], k, Z, h => by
    have : Z.toList.take k = Z.toList := List.take_of_length_le (by simp at h ⊢; omega)
    simp [this]
  | x :: xs, k, Z, h => by
    rw [List.zipIdx_cons, List.foldl_cons, fold_zipL xs (k + 1) (Z.setIfInBounds k x) (by simp at h ⊢; omega)]
    have hk : k < Z.toList.length := by simp at h ⊢; omega
    congr 1
    have h2 : (Z.setIfInBounds k x).toList = Z.toList.set k x := by simp
    rw [h2, List.take_add_one, List.getElem?_set_self hk, List.take_set_of_le (Nat.le_refl k)]
    simp
theorem fold_zip (X Z : Array Value) (n : Nat) (h : Z.size = X.size) (hn : n = X.size) : Array.foldl (fun (cs : Array Value) (x : Value × Nat) => cs.setIfInBounds x.2 x.1) Z X.zipIdx 0 n = X := by
  subst hn
  have h1 : X.size = X.zipIdx.size := by simp
  conv => lhs; rw [h1]
  rw [← Array.foldl_toList, Array.toList_zipIdx, fold_zipL _ 0 Z (by simp [h])]
  simp
set_option maxHeartbeats 8000000 in
set_option maxRecDepth 100000 in
theorem parts_finest.calls (k : Nat) (A : Option Addr) (c : Nat) (l : List Int) (order : Int) (most o : Nat) (cutsF : Nat → List Int) (wf : List Int → Int) (w : World)
    (hr : Kd.C (Kd.int .i64) w A l.length l) (hc : l.length ≤ c) (hW : WFits k wf (cutsF o) l)
    (hm : most < 100) (hC : ∀ j, j ≤ most → parts_Cuts.f k (l.length : Int) order (j : Int) = some (cutsF j)) (ho : o ≤ most) (hne : cutsF o ≠ []) (hmax : ∀ j, o < j → j ≤ most → cutsF j = []) (hfit : Fits (cutsF o) l.length) (hlen : (cutsF o).length < 400000) :
    Calls Try.prog 37 #[.slice A l.length c, .int .i64 order, .int .i64 (most : Int)] w fun e w' => ∃ v : Value, e = .returned (.tuple #[v, .int .i64 (o : Int)]) ∧ Kd.R kS 87 w' w.heap.size (fun _ => True) v (sumsOf wf (cutsF o) l) ∧ Below w.heap.size w w' := by
  have HR := zG.mk hr
  have HCc := zG.mk hc
  have HW := zG.mk hW
  have HM := zG.mk hm
  have HCu := zG.mk hC
  have HO_ := zG.mk ho
  have HNE := zG.mk hne
  have HMX := zG.mk hmax
  have HF := zG.mk hfit
  have HLEN := zG.mk hlen
  have HB := zG.mk (Below.refl w.heap.size w)
  clear hr hc hW hm hC ho hne hmax hfit hlen
  go_enter Try.func37, Try.ntmps37
  go_upto_region 1 with (fail)
  go_loopg [2] (most - o) (fun kq v2 w' => ∃ (j : Nat), v2 = .int .i64 (j : Int) ∧ zG (o + kq = j) ∧ zG (j ≤ most) ∧ zG (Below w.heap.size w w'))
  case atStart => exact ⟨most, rfl, ⟨by have := HO_.out; omega⟩, ⟨Nat.le_refl _⟩, HB⟩
  case round =>
    clear HB
    obtain ⟨j, rfl, HK, HJ, HB⟩ := hrel
    by_cases hj : j = o
    · subst hj
      obtain ⟨cs, hcs⟩ : ∃ cs, cutsF j = cs := ⟨_, rfl⟩
      have HCS := zG.mk (show parts_Cuts.f k (l.length : Int) order (j : Int) = some cs by rw [HCu.out j HJ.out, hcs])
      have hne := HNE.out
      have hq0 : ¬ (cs.length : Int) = 0 := by rw [hcs] at hne; have := List.length_pos_iff.2 hne; omega
      have hq : decide ((cs.length : Int) = 0) = false := decide_eq_false hq0
      have hq2 : ((cs.length : Int) == 0) = false := beq_eq_false_iff_ne.2 hq0
      clear hq0
      have HCS0 := zG.mk hcs
      clear hne hcs
      go_upto_region 3 with (go_at_call 28; (refine (parts_Cuts.calls k _ _ _ cs _ HCS.out).mono ?_); rintro e w9 ⟨v0_, rfl, hR, hb⟩; obtain ⟨A1, c1, rfl⟩ := Kd.R_slice hR; clear hR; have n_ := zG.mk (below_step HB.out hb); clear HB hb; have HB := n_; clear n_)
      clear hq hq2
      have hlo := HB.out.size
      go_upto_region 5 with (go_at_call 28; (refine (parts_Cuts.calls k _ _ _ cs _ HCS.out).mono ?_); rintro e w4 ⟨v0_, rfl, hR, hb⟩; obtain ⟨A2, c2, hv2, hc2, hCr⟩ := Kd.R_reads hR; subst hv2; have n_ := zG.mk (below_step HB.out hb); clear HB hb hR; have HB := n_; clear n_; have HC2 := zG.mk hc2; clear hc2)
      have hs4 := HB.out.size
      have HL := zG.mk (Kd.C_below HR.out HB.out)
      have HCR := zG.mk hCr
      have hFt := HF.out
      rw [HCS0.out] at hFt
      have HFt := zG.mk hFt
      have hWt := HW.out
      rw [HCS0.out] at hWt
      have HWt := zG.mk hWt
      clear hWt
      have hLN := HLEN.out
      rw [HCS0.out] at hLN
      have HLN := zG.mk hLN
      clear hCr hFt HF hLN
      have hO := Kd.R_nil kS 87 w4 w4.heap.size (fun _ => True)
      have HO := zG.mk hO
      have HB4 := zG.mk (Below.refl w4.heap.size w4)
      clear hO
      go_loopg [0, 8, 26] cs.length (fun kq v0 v8 v26 w' => ∃ (i : Nat) (A' : Option Addr) (c' : Nat) (l' : List Int) (acc : List Sm), v0 = .slice A' l'.length c' ∧ v26 = .int .i64 (i : Int) ∧ zG (i + kq = cs.length) ∧ zG (Kd.C (Kd.int .i64) w4 A' l'.length l') ∧ zG (l'.length ≤ c') ∧ zG (l'.length ≤ l.length) ∧ zG (Fits (cs.drop i) l'.length) ∧ zG (WFits k wf (cs.drop i) l') ∧ zG (acc ++ sumsOf wf (cs.drop i) l' = sumsOf wf cs l) ∧ zG (acc.length = i) ∧ zG (Kd.R kS 87 w' w4.heap.size (fun _ => True) v8 acc) ∧ zG (Below w4.heap.size w4 w'))
      case atStart => exact ⟨0, A, c, l, [], rfl, rfl, ⟨by omega⟩, HL, HCc, ⟨Nat.le_refl _⟩, HFt, HWt, ⟨rfl⟩, ⟨rfl⟩, HO, HB4⟩
      case round =>
        clear HO HB4 HL HFt HWt
        obtain ⟨i, A', c', l', acc, rfl, rfl, HK, HL, HLc, HLl, HFt, HWt, HAcc, HAl, HO, HB4⟩ := hrel
        by_cases hi : i < cs.length
        · have hq : decide ((i : Int) < (cs.length : Int)) = true := decide_eq_true (by omega)
          obtain ⟨ad, rfl, hcell⟩ := Kd.at_int (Kd.C_below HCR.out HB4.out) (i : Int) (by omega) (by omega)
          have hrd : rd cs (i : Int) = cs.getD i 0 := by unfold rd; simp
          rw [hrd] at hcell
          have hdr : cs.drop i = cs.getD i 0 :: cs.drop (i + 1) := by rw [List.drop_eq_getElem_cons hi, List.getD_eq_getElem?_getD, List.getElem?_eq_getElem hi]; rfl
          have hft := HFt.out
          have hacc := HAcc.out
          have hwt := HWt.out
          rw [hdr] at hft hacc hwt
          obtain ⟨n, hn⟩ : ∃ n, cs.getD i 0 = n := ⟨_, rfl⟩
          rw [hn] at hcell hft hacc hwt
          obtain ⟨hn0, hn1, hft⟩ := hft
          obtain ⟨hwt0, hwt1⟩ := hwt
          obtain ⟨m, rfl⟩ : ∃ m : Nat, n = (m : Int) := ⟨n.toNat, by omega⟩
          simp only [Int.toNat_natCast] at hft hcell hacc hwt0 hwt1
          have HWn0 := zG.mk hwt0
          have HWn1 := zG.mk hwt1
          clear hwt0 hwt1
          have HFn := zG.mk hft
          have HAn := zG.mk hacc
          have hmc : m ≤ c' := by have := HLc.out; omega
          have hml : m ≤ l'.length := by omega
          have hk1 : decide ((m : Int) ≤ (c' : Int)) = true := decide_eq_true (by omega)
          have hk2 : decide ((m : Int) ≤ (l'.length : Int)) = true := decide_eq_true (by omega)
          have hlc := HLc.out
          clear hft hacc hdr hrd HFt HAcc hn hn0 HWt
          go_upto_region 7 with (fail)
          have hlt : (l'.take m).length = m := by rw [List.length_take]; omega
          have hcall := parts_of.calls k A' c' (l'.take m) (wf (l'.take m)) wr (Kd.C_take (Kd.C_below HL.out HB4.out) hml) (by omega) HWn0.out
          rw [hlt] at hcall
          have HCALL := zG.mk hcall
          obtain ⟨s, hs⟩ : ∃ s, smOf wf (l'.take m) = s := ⟨_, rfl⟩
          have hsum : sumL (m : Int) (ysAt (l'.take m) 31) (wf (l'.take m)) = sumL s.n s.ys s.wd := by rw [← hs]; simp only [smOf, hlt]
          have HSUM := zG.mk hsum
          have H31 := zG.mk (show s.ys.length = 31 by rw [← hs]; exact ysAt_len _ _)
          have HS := zG.mk hs
          have HI := zG.mk hi
          have HHL := zG.mk hlt
          have hsz : (iA (sumL s.n s.ys s.wd)).size = 33 := by rw [iA_size]; simp [sumL, H31.out]
          clear hcall hs hsum hlt
          go_wp2_with (first
            | (go_at_call 56; (refine (HCALL.out).mono ?_); rintro e w5 ⟨rfl, hb5⟩; rw [HSUM.out]; have n_ := zG.mk (below_step HB4.out hb5); have m_ := zG.mk (Kd.R_below HO.out hb5); clear HB4 HO hb5; have HB4 := n_; have HO := m_; clear n_ m_)
            | ((with_reducible refine gate_builtin (b := .append) (xs := #[.tmp 30, .tmp 35]) rfl ?_); at_builtin; rw [fold_zip (iA (sumL s.n s.ys s.wd)) _ _ ?hz ?hn]; rotate_left; (case hz => rw [iA_size]; simp [sumL, H31.out]); (case hn => first | rfl | exact hsz.symm); refine Kd.R_append kS (w0 := w4) w4.heap.size rfl (.tmp 30) (.tmp 35) 77 87 (.agg (iA (sumL 0 zs31 0))) 264 rfl Try.underlying77 info55 rfl (by decide) (by omega) u8 acc s s.c (fun _ => True) (fun _ => False) rfl rfl ⟨rfl, H31.out⟩ (fun _ hk => hk.elim) (fun _ _ => trivial) HO.out HB4.out (below_size HB4.out) ?aL ?_; (case aL => (have := HI.out; have := HLN.out; have := HAl.out; omega)); intro v9 w9 ho hb hg hat; obtain ⟨A9, c9, rfl⟩ := Kd.R_slice ho; clear HB4 HO; have HB4 := zG.mk hb; have HO := zG.mk ho; clear hb ho hg hat; skip))
          all_goals
            go_roundg (cs.length - (i + 1))
            case measure => have := HK.out; omega
            case rel =>
              have hd := Kd.C_drop (c := c') HL.out hml hlc
              have ha : (acc ++ [s]) ++ sumsOf wf (cs.drop (i + 1)) (l'.drop m) = sumsOf wf cs l := by rw [← HAn.out, ← HS.out]; simp [sumsOf]
              have hlx := HLN.out
              have hO := HO.out
              rw [List.length_append, List.length_singleton] at hO
              first
                | (rw [if_pos h] at hd; refine ⟨i + 1, A', 0, l'.drop m, acc ++ [s], by rw [List.length_drop], by rw [wrapn (by omega)]; rfl, ⟨by omega⟩, ⟨hd⟩, ⟨by rw [List.length_drop]; omega⟩, ⟨by rw [List.length_drop]; have := HLl.out; omega⟩, ⟨by rw [List.length_drop]; exact HFn.out⟩, HWn1, ⟨ha⟩, ⟨by simp [HAl.out]⟩, ⟨hO⟩, HB4⟩)
                | (rw [if_neg h] at hd; refine ⟨i + 1, A'.map (·.add m), c' - m, l'.drop m, acc ++ [s], by rw [List.length_drop], by rw [wrapn (by omega)]; rfl, ⟨by omega⟩, ⟨by simpa [show (Kd.int IntKind.i64).sz = 1 from rfl] using hd⟩, ⟨by rw [List.length_drop]; omega⟩, ⟨by rw [List.length_drop]; have := HLl.out; omega⟩, ⟨by rw [List.length_drop]; exact HFn.out⟩, HWn1, ⟨ha⟩, ⟨by simp [HAl.out]⟩, ⟨hO⟩, HB4⟩)
        · have hq : decide ((i : Int) < (cs.length : Int)) = false := decide_eq_false (by omega)
          obtain rfl : i = cs.length := by have := HK.out; omega
          have ha : acc = sumsOf wf cs l := by have h_ := HAcc.out; rw [List.drop_length] at h_; simpa [sumsOf] using h_
          obtain ⟨Av, cv, rfl⟩ := Kd.R_slice HO.out
          go_wp2
          go_ret2
          rw [HCS0.out, ← ha]
          exact ⟨_, rfl, Kd.R_lower HO.out hs4, below_step HB.out HB4.out⟩
    · have hjo : o < j := by have := HK.out; omega
      have HCS := zG.mk (show parts_Cuts.f k (l.length : Int) order (j : Int) = some [] by rw [HCu.out j HJ.out, HMX.out j hjo HJ.out])
      have hq : decide ((([] : List Int).length : Int) = 0) = true := by decide
      have hm := HM.out
      have hj2 := HJ.out
      have hw1 : wrap64 ((j : Int) - 1) = ((j - 1 : Nat) : Int) := by unfold wrap64; omega
      go_wp2_with (go_at_call 28; (refine (parts_Cuts.calls k _ _ _ [] _ HCS.out).mono ?_); rintro e w9 ⟨v0_, rfl, hR, hb⟩; obtain ⟨A1, c1, rfl⟩ := Kd.R_slice hR; clear hR; have n_ := zG.mk (below_step HB.out hb); clear HB hb; have HB := n_; clear n_)
      go_roundg (j - 1 - o)
      case measure => have := HK.out; omega
      case rel => exact ⟨j - 1, by first | rfl | rw [hw1] | (congr 1; omega), ⟨by omega⟩, ⟨by omega⟩, HB⟩
set_option linter.unusedSimpArgs false
set_option linter.unusedVariables false
theorem wp_scope_ghost_k {P : Program} {Q : Exit → Act → World → Prop} {a : Act} {w : World} {c B : Code} (l : Nat) (hf : findLabel c l = some (Code.seq .skip B)) (I : Nat → Act → World → Prop)
    (round : ∀ n a w, I n a w → ∀ (J : Nat → Act → World → Prop) (K : Act → World → Prop), (∀ k a' w', I k a' w' → J k a' w') → (∀ a' w', Handed J n a' w' → K a' w') → B.wp P (Exit.jump l K Q) a w)
    (first : ∀ K : Act → World → Prop, (∀ n a w, I n a w → B.wp P (Exit.jump l K Q) a w) → c.wp P (Exit.jump l K Q) a w) : (Code.scope c).wp P Q a w := by
  have key : ∀ n a w, I n a w → B.wp P (Exit.jump l (fun a' w' => (∃ n, I n a' w') ∧ leastOf (fun n => I n a' w') < leastOf (fun n => I n a w)) Q) a w := by
    intro n a w hI
    refine wp_mono (round _ a w (leastOf_spec (p := fun n => I n a w) ⟨n, hI⟩).1 I (fun a' w' => Handed I (leastOf fun n => I n a w) a' w') (fun _ _ _ q => q) (fun _ _ q => q)) ?_
    intro e a' w' hq
    cases e with
    | goto l' =>
      obtain ⟨rfl, n', hlt, hI'⟩ := hq
      exact ⟨rfl, ⟨n', hI'⟩, Nat.lt_of_le_of_lt ((leastOf_spec (p := fun n => I n a' w') ⟨n', hI'⟩).2 n' hI') hlt⟩
    | normal => exact hq
    | exit id => exact hq
    | ret => exact hq
    | panic ch => exact hq
    | outgrown => exact hq
  refine wp_scope_jumps (rest := Code.seq .skip B) l (fun a w => ∃ n, I n a w) (fun a w => leastOf (fun n => I n a w)) hf ?_ ?_
  · refine first _ fun n a w hI => wp_mono (key n a w hI) ?_
    intro e a' w' hq
    cases e with
    | goto l' => exact ⟨hq.1, hq.2.1⟩
    | normal => exact hq
    | exit id => exact hq
    | ret => exact hq
    | panic ch => exact hq
    | outgrown => exact hq
  · rintro a w ⟨n, hI⟩
    exact wp_seq (wp_skip (key n a w hI))
def withS (a b : Sm) : Sm := ⟨wrap64 (a.n + b.n), zAt a.ys b.ys 31, mx a.wd b.wd⟩
def pairUp : List Sm → List Sm
  | a :: b :: r => withS a b :: pairUp r
  | _ => []
structure Cur where
  f : Bool
  o : Int
  ps : List S50
  n : Int
def zCur : Cur := ⟨false, 0, [], 0⟩
def mkCur (w : Bool) (o : Int) (s : List Sm) : Cur := ⟨w, o, planParts s w, planBits s w⟩
def stepCur (first w : Bool) (c : Cur) (x : Nat × List Sm) : Cur := if first = true ∨ planBits x.2 w ≤ c.n then mkCur w (x.1 : Int) x.2 else c
def levels : Nat → List Sm → List (Nat × List Sm)
  | 0, s => [(0, s)]
  | o + 1, s => (o + 1, s) :: levels o (pairUp s)
def finCur (first w : Bool) (c : Cur) : List (Nat × List Sm) → Cur
  | [] => c
  | x :: xs => finCur false w (stepCur first w c x) xs
def bestCur (wide : Bool) (o : Nat) (s : List Sm) : Cur :=
  if wide = true ∧ (finCur true true zCur (levels o s)).n < (finCur true false zCur (levels o s)).n then finCur true true zCur (levels o s) else finCur true false zCur (levels o s)
def Evens : Nat → List Sm → Prop
  | 0, _ => True
  | o + 1, s => s.length % 2 = 0 ∧ Evens o (pairUp s)
theorem kS_reads {W : World} {b A n c} {s : List Sm} (h : Kd.R kS 87 W b (fun _ => True) (.slice A n c) s) : n = s.length ∧ n ≤ c ∧ Kd.C kS W A s.length s := Kd.R_reads' h
theorem R_put4 {W : World} {b : Nat} {α : Type} {d : Kd α} {e : TypeId} {v : Value} {xs : List α} {g13 g14 : Nat} {c13 c14 : Array Value} (h : Kd.R d e W b (fun _ => True) v xs)
    (h13 : W.heap[g13]? = some (.cells c13 80 (0, 0))) (h14 : W.heap[g14]? = some (.cells c14 81 (0, 0))) (hn : g14 ≠ g13) (hd1 : ∀ q, q ∈ e :: d.E → q ≠ 80) (hd2 : ∀ q, q ∈ e :: d.E → q ≠ 81) (i j k m : Nat) (u1 u2 u3 u4 : Value) :
    Kd.R d e ((((W.setCell ⟨g13, i, none⟩ u1).setCell ⟨g13, j, none⟩ u2).setCell ⟨g13, k, none⟩ u3).setCell ⟨g14, m, none⟩ u4) b (fun _ => True) v xs :=
  Kd.R_set (Kd.R_set (Kd.R_set (Kd.R_set h h13 hd1 i u1) (blk_set h13 i u1) hd1 j u2) (blk_set (blk_set h13 i u1) j u2) hd1 k u3) (zP (zP (zP h14 hn u1) hn u2) hn u3) hd2 m u4
theorem sumsOf_len (wf : List Int → Int) : ∀ (cs l : List Int), (sumsOf wf cs l).length = cs.length
  | [], _ => rfl
  | _ :: cs, l => by simp [sumsOf, sumsOf_len wf cs]
theorem pairUp_len : ∀ (n : Nat) (s : List Sm), s.length = 2 * n → (pairUp s).length = n
  | 0, [], _ => rfl
  | 0, _ :: _, h => by simp at h
  | n + 1, [], h => by simp at h
  | n + 1, [_], h => by simp at h; omega
  | n + 1, a :: b :: r, h => by simp [pairUp]; exact pairUp_len n r (by simp at h; omega)
theorem Evens_pow : ∀ (o : Nat) (s : List Sm), s.length = 2 ^ o → Evens o s
  | 0, _, _ => trivial
  | o + 1, s, h => ⟨by rw [h, Nat.pow_succ]; omega, Evens_pow o _ (pairUp_len (2 ^ o) s (by rw [h, Nat.pow_succ]; omega))⟩
theorem below_put4 {W w : World} {b g13 g14 : Nat} (h : Below b w W) (h13 : b ≤ g13) (h14 : b ≤ g14) (i j k m : Nat) (u1 u2 u3 u4 : Value) :
    Below b w ((((W.setCell ⟨g13, i, none⟩ u1).setCell ⟨g13, j, none⟩ u2).setCell ⟨g13, k, none⟩ u3).setCell ⟨g14, m, none⟩ u4) := by
  exact (((h.setCell h13 _).setCell h13 _).setCell h13 _).setCell h14 _
theorem pairUp_drop {s : List Sm} {j : Nat} (h : 2 * j + 1 < s.length) : pairUp (s.drop (2 * j)) = withS (s.getD (2 * j) zSm) (s.getD (2 * j + 1) zSm) :: pairUp (s.drop (2 * (j + 1))) := by
  have h1 : s.drop (2 * j) = s.getD (2 * j) zSm :: s.getD (2 * j + 1) zSm :: s.drop (2 * (j + 1)) := by
    rw [List.drop_eq_getElem_cons (by omega), List.drop_eq_getElem_cons h, List.getD_eq_getElem?_getD, List.getD_eq_getElem?_getD, List.getElem?_eq_getElem (by omega), List.getElem?_eq_getElem h]
    rfl
  rw [h1]
  rfl
theorem load_at_yields {P : Program} {op : Oper} {a : Act} {w : World} (ty : TypeId) (x : Operand) (N : Option Tmp) (ho : op.op = .load ty x) (ad : Addr) (hx : a.eval x = .pointer (some ad)) (cs : List Value) (C : Array Value) (hC : cs.toArray = C) (d : TypeDesc) (hc : ∀ j v, cs[j]? = some v → w.cell? (ad.add j) = some v)
    (hu : P.underlying ty = some d) (hd : d.isRow = true) (hi : (P.info? ty).map (·.size) = some cs.length) : (execOp a.eval op).run P w = .ok (.value (.agg C)) w := by
  subst hC
  have hl : (loadCells ad cs.length).run P w = .ok cs.toArray w := run_loadCells_list (P := P) w ad cs hc
  have hv : (loadVar ty ad).run P w = .ok (.agg cs.toArray) w := by
    cases hq : P.info? ty with
    | none => simp [hq] at hi
    | some i =>
      have hs : i.size = cs.length := by simpa [hq] using hi
      have hagg : (isAgg ty).run P w = .ok true w := by
        unfold isAgg
        rw [Sem.run_bind, run_underlying hu w]
        cases d <;> simp_all
      simp [loadVar, Sem.run_bind, hagg, sizeOf, typeInfo, hq, hs, hl]
  unfold execOp
  simp only [ho, hx, Instr.loadAt, Instr.sureAddr, Sem.run_bind, Sem.run_pure, Result.andThen_ok, hv]
set_option maxHeartbeats 8000000 in
set_option maxRecDepth 100000 in
theorem parts_Best.goes (k : Nat) (A : Option Addr) (c : Nat) (l : List Int) (order : Int) (most o : Nat) (wide : Bool) (cutsF : Nat → List Int) (wf : List Int → Int) (w : World)
    (hr : Kd.C (Kd.int .i64) w A l.length l) (hc : l.length ≤ c) (hW0 : cost_Width.f k l = some (wf l)) (hW : WFits k wf (cutsF o) l)
    (ho1 : 0 ≤ order) (ho2 : order ≤ 32) (hl0 : l.length ≠ 0) (hw0 : 0 ≤ wf l) (hm : most ≤ 8) (hC : ∀ j, j ≤ most → parts_Cuts.f k (l.length : Int) order (j : Int) = some (cutsF j)) (ho : o ≤ most) (hne : cutsF o ≠ []) (hmax : ∀ j, o < j → j ≤ most → cutsF j = []) (hfit : Fits (cutsF o) l.length) (hlen : (cutsF o).length = 2 ^ o) :
    Calls Try.prog 18 #[.slice A l.length c, .int .i64 order, .int .i64 (most : Int), .bool wide] w fun e w' => ∃ v : Value, e = .returned (.tuple #[.agg #[.bool (bestCur wide o (sumsOf wf (cutsF o) l)).f, .int .i64 (bestCur wide o (sumsOf wf (cutsF o) l)).o, v], .int .i64 (bestCur wide o (sumsOf wf (cutsF o) l)).n, .int .i64 0]) ∧ Kd.R k50 50 w' w.heap.size (fun _ => True) v (bestCur wide o (sumsOf wf (cutsF o) l)).ps ∧ Below w.heap.size w w' := by
  have hlen4 : (cutsF o).length < 400000 := by
    rw [hlen]
    have : 2 ^ o ≤ 2 ^ 8 := Nat.pow_le_pow_right (by decide) (by omega)
    have : (2 : Nat) ^ 8 = 256 := by decide
    omega
  have hEv := Evens_pow o (sumsOf wf (cutsF o) l) (by rw [sumsOf_len, hlen])
  have hsl : (sumsOf wf (cutsF o) l).length ≤ 400000 := by rw [sumsOf_len]; omega
  have d1 : decide (order < 0) = false := decide_eq_false (by omega)
  have d2 : decide ((32 : Int) < order) = false := decide_eq_false (by omega)
  have d3 : decide ((most : Int) < 0) = false := decide_eq_false (by omega)
  have d4 : decide ((8 : Int) < (most : Int)) = false := decide_eq_false (by omega)
  have d5 : ((l.length : Int) == 0) = false := beq_eq_false_iff_ne.2 (by omega)
  have d5' : decide ((l.length : Int) = 0) = false := decide_eq_false (by omega)
  have d6 : decide (wf l < 0) = false := decide_eq_false (by omega)
  obtain ⟨bc, hbc_⟩ : ∃ bc, bestCur wide o (sumsOf wf (cutsF o) l) = bc := ⟨_, rfl⟩
  rw [hbc_]
  have HBC := zG.mk hbc_
  clear hbc_
  have HR := zG.mk hr
  have HCc := zG.mk hc
  have HWf := zG.mk hW0
  have HFIN := zG.mk (fun (W : World) (hr' : Kd.C (Kd.int .i64) W A l.length l) => parts_finest.calls k A c l order most o cutsF wf W hr' hc hW (by omega) hC ho hne hmax hfit hlen4)
  have HEV := zG.mk hEv
  have HSL := zG.mk hsl
  have HO8 := zG.mk (show o ≤ 8 by omega)
  clear hr hc hW hW0 hm hC ho hne hmax hfit hlen hlen4 hEv hsl ho1 ho2 hl0 hw0
  go_enter Try.func18, Try.ntmps18
  go_wp2_with (first | ((with_reducible refine gate_dst (N := 8) rfl ?_); refine box_event ?hg (N := 8) ?hd (cs := #[.bool false, .int .i64 0, .slice none 0 0]) (t := 25) ?hr ?_; (case hd => rfl); (case hg => rfl); (case hr => go_loud (first | (go_simp; done) | (go_simp; rfl))); intro g8 hg8_ w8 hbox8 hb8; have G8 := zG.mk hg8_; clear hg8_; have X8 := zG.mk hbox8; have B8 := zG.mk hb8; clear hbox8 hb8))
  have L8 := zG.mk (show w.heap.size ≤ g8 from G8.out ▸ Nat.le_refl _)
  refine wp_scope_ghost_k 0 rfl (fun kq a_ w' => ∃ (g13 g14 : Nat) (v11 : Value) (fst_ : Bool) (u4 u5 u6 u7 u16 u17 u18 u19 u20 u21 u22 u23 u24 u25 u26 u27 u28 u29 u30 u31 u32 u33 u34 u35 u36 u37 u38 u39 u40 u41 u42 u43 u44 u45 u46 u47 u48 u49 u50 u51 u52 u53 u54 u55 u56 u57 u58 u59 u60 u61 u62 u63 u64 u65 u66 u67 u68 u69 u70 u71 u72 u73 u74 u75 u76 u77 u78 u79 u80 u81 u82 u83 u84 u85 u86 u87 u88 u89 u90 u91 u92 u93 u94 u95 u96 u97 u98 u99 u100 u101 u102 u103 u104 u105 u106 u107 u108 u109 u110 u111 u112 u113 u114 u115 u116 u117 u118 u119 u120 u121 u122 u123 : Value), (∃ s c0 c1 v0 v1, zG (finCur fst_ false c0 (levels kq s) = finCur true false zCur (levels o (sumsOf wf (cutsF o) l))) ∧ zG (finCur fst_ true c1 (levels kq s) = finCur true true zCur (levels o (sumsOf wf (cutsF o) l))) ∧ zG (Evens kq s) ∧ zG (s.length ≤ 400000) ∧ zG (kq ≤ 8) ∧ zG (Kd.R kS 87 w' w.heap.size (fun _ => True) v11 s)
      ∧ zG (w'.heap[g8]? = some (.cells #[.bool false, .int .i64 0, .slice none 0 0] 25 (0, 0))) ∧ zG (w'.heap[g13]? = some (.cells #[.bool c0.f, .int .i64 c0.o, v0, .bool c1.f, .int .i64 c1.o, v1] 80 (0, 0))) ∧ zG (w'.heap[g14]? = some (.cells #[.int .i64 c0.n, .int .i64 c1.n] 81 (0, 0)))
      ∧ zG (Kd.R k50 50 w' w.heap.size (fun _ => True) v0 c0.ps) ∧ zG (Kd.R k50 50 w' w.heap.size (fun _ => True) v1 c1.ps) ∧ zG (Below w.heap.size w w') ∧ zG (g13 ≠ g14) ∧ zG (g8 ≠ g13) ∧ zG (g8 ≠ g14) ∧ zG (w.heap.size ≤ g13) ∧ zG (w.heap.size ≤ g14)) ∧ a_ = { tmps := #[.slice A l.length c, .int .i64 order, .int .i64 (most : Int), .bool wide, u4, u5, u6, u7, .pointer (some ⟨g8, 0, none⟩), .int .i64 0, .int .i64 0, v11, .int .i64 (kq : Int), .pointer (some ⟨g13, 0, none⟩), .pointer (some ⟨g14, 0, none⟩), .bool fst_, u16, u17, u18, u19, u20, u21, u22, u23, u24, u25, u26, u27, u28, u29, u30, u31, u32, u33, u34, u35, u36, u37, u38, u39, u40, u41, u42, u43, u44, u45, u46, u47, u48, u49, u50, u51, u52, u53, u54, u55, u56, u57, u58, u59, u60, u61, u62, u63, u64, u65, u66, u67, u68, u69, u70, u71, u72, u73, u74, u75, u76, u77, u78, u79, u80, u81, u82, u83, u84, u85, u86, u87, u88, u89, u90, u91, u92, u93, u94, u95, u96, u97, u98, u99, u100, u101, u102, u103, u104, u105, u106, u107, u108, u109, u110, u111, u112, u113, u114, u115, u116, u117, u118, u119, u120, u121, u122, u123], defers := [] }) ?round ?first
  case first =>
    intro K_ hR_
    go_wp2_with (first
      | (go_at_call 36; (refine (cost_Width.calls k A c l (wf l) _ (Kd.C_below HR.out B8.out) HCc.out HWf.out).mono ?_); rintro e w5 ⟨rfl, ⟨nd, rfl⟩⟩)
      | (go_at_call 37; (refine (HFIN.out _ (Kd.C_below HR.out (zC B8.out nd))).mono ?_); rintro e w6 ⟨v17, rfl, hO17, hB17⟩; have O17 := zG.mk hO17; have B17 := zG.mk hB17; clear hO17 hB17)
      | ((with_reducible refine gate_dst (N := 13) rfl ?_); refine box_event ?hg (N := 13) ?hd (cs := #[.bool false, .int .i64 0, .slice none 0 0, .bool false, .int .i64 0, .slice none 0 0]) (t := 80) ?hr ?_; (case hd => rfl); (case hg => rfl); (case hr => go_loud (first | (go_simp; done) | (go_simp; rfl))); intro g13 hg13_ w13 hbox13 hb13; have G13 := zG.mk hg13_; clear hg13_; have X13 := zG.mk hbox13; have B13 := zG.mk hb13; clear hbox13 hb13)
      | ((with_reducible refine gate_dst (N := 14) rfl ?_); refine box_event ?hg (N := 14) ?hd (cs := #[.int .i64 0, .int .i64 0]) (t := 81) ?hr ?_; (case hd => rfl); (case hg => rfl); (case hr => go_loud (first | (go_simp; done) | (go_simp; rfl))); intro g14 hg14_ w14 hbox14 hb14; have G14 := zG.mk hg14_; clear hg14_; have X14 := zG.mk hbox14; have B14 := zG.mk hb14; clear hbox14 hb14))
    have hB6 : Below w.heap.size w w6 := below_step (zC B8.out nd) B17.out
    have hB13 : Below w.heap.size w w13 := below_step hB6 B13.out
    have hB14 : Below w.heap.size w w14 := below_step hB13 B14.out
    have hO14 := Kd.R_below (Kd.R_below O17.out B13.out) B14.out
    have hX8 := blk_below (blk_below (blk_below (zL X8.out nd) B17.out) B13.out) B14.out
    have hX13 := blk_below X13.out B14.out
    have z0 := (zC B8.out nd).size
    have z6 := hB6.size
    have z13 := hB13.size
    have e8 := blk_lt (blk_below (zL X8.out nd) B17.out)
    have g13e := G13.out
    have g14e := G14.out
    have z613 := B13.out.size
    have e13 := blk_lt X13.out
    have hO14 := Kd.R_lower hO14 z0
    go_step3
    go_step
    go_step
    refine hR_ o _ _ ?_
    refine ⟨g13, g14, v17, true, ?_⟩
    repeat apply Exists.intro
    refine ⟨?_, rfl⟩
    exact ⟨sumsOf wf (cutsF o) l, zCur, zCur, _, _, ⟨rfl⟩, ⟨rfl⟩, HEV, HSL, HO8, ⟨hO14⟩, ⟨hX8⟩, ⟨hX13⟩, X14, ⟨Kd.R_nil k50 50 w14 w.heap.size (fun _ => True)⟩, ⟨Kd.R_nil k50 50 w14 w.heap.size (fun _ => True)⟩, ⟨hB14⟩, ⟨by omega⟩, ⟨by omega⟩, ⟨by omega⟩, ⟨by omega⟩, ⟨by omega⟩⟩
  case round =>
    intro lv a_ wr h_ J_ K_ hJ_ hK_
    obtain ⟨g13, g14, v11, fst_, h_⟩ := h_
    iterate 112 (obtain ⟨_, h_⟩ := h_)
    obtain ⟨⟨s, c0, c1, v0, v1, HF0, HF1, HEVs, HSl, HLV, HS, HX8, HX13, HX14, HR0, HR1, HB, N1314, N813, N814, L13, L14⟩, ha_⟩ := h_
    subst ha_
    clear HFIN HEV HSL HO8 G8 X8 B8 HWf d1 d2 d3 d4 d5 d5' d6
    obtain ⟨A11, c11, rfl⟩ := Kd.R_slice HS.out
    have hSC := kS_reads HS.out
    have HSc := zG.mk hSC.2.1
    clear hSC
    go_wp2
    have hX8 := zK HX8.out (Obj.cells #[Value.bool false, Value.bool true] 4)
    have hX13 := zK HX13.out (Obj.cells #[Value.bool false, Value.bool true] 4)
    have hX14 := zK HX14.out (Obj.cells #[Value.bool false, Value.bool true] 4)
    have hXB := blk_new wr (Obj.cells #[Value.bool false, Value.bool true] 4)
    have hB1 := zF (Below.refl wr.heap.size wr) (Obj.cells #[Value.bool false, Value.bool true] 4)
    have hB := below_step HB.out hB1
    have hS := Kd.R_below HS.out hB1
    have hR0 := Kd.R_below HR0.out hB1
    have hR1 := Kd.R_below HR1.out hB1
    have hzB := HB.out.size
    have e8 := blk_lt HX8.out
    have e13 := blk_lt HX13.out
    have e14 := blk_lt HX14.out
    obtain ⟨W1, hW1⟩ : ∃ W1, wr.alloc (Obj.cells #[Value.bool false, Value.bool true] 4) = W1 := ⟨_, rfl⟩
    obtain ⟨gB, hgB⟩ : ∃ gB, wr.heap.size = gB := ⟨_, rfl⟩
    rw [hW1] at hX8 hX13 hX14 hXB hB hS hR0 hR1 ⊢
    rw [hgB] at hXB hzB e8 e13 e14 ⊢
    clear HX8 HX13 HX14 HB HS HR0 HR1 hB1 hW1 hgB
    have HX8 := zG.mk hX8
    have HX13 := zG.mk hX13
    have HX14 := zG.mk hX14
    have HXB := zG.mk hXB
    have HB := zG.mk hB
    have HS := zG.mk hS
    have HR0 := zG.mk hR0
    have HR1 := zG.mk hR1
    have NB8 := zG.mk (show gB ≠ g8 by omega)
    have NB13 := zG.mk (show gB ≠ g13 by omega)
    have NB14 := zG.mk (show gB ≠ g14 by omega)
    clear hX8 hX13 hX14 hXB hB hS hR0 hR1 hzB e8 e13 e14
    go_loopg [57] 2 (fun kq v57 w' => ∃ (i : Nat) (c0_ c1_ : Cur) (v0_ v1_ : Value), v57 = .int .i64 (i : Int) ∧ zG (i + kq = 2) ∧ zG (c0_ = if i = 0 then c0 else stepCur fst_ false c0 (lv, s)) ∧ zG (c1_ = if i ≤ 1 then c1 else stepCur fst_ true c1 (lv, s)) ∧ zG (w'.heap[g8]? = some (.cells #[.bool false, .int .i64 0, .slice none 0 0] 25 (0, 0))) ∧ zG (w'.heap[g13]? = some (.cells #[.bool c0_.f, .int .i64 c0_.o, v0_, .bool c1_.f, .int .i64 c1_.o, v1_] 80 (0, 0))) ∧ zG (w'.heap[g14]? = some (.cells #[.int .i64 c0_.n, .int .i64 c1_.n] 81 (0, 0))) ∧ zG (w'.heap[gB]? = some (.cells #[.bool false, .bool true] 4 (0, 0))) ∧ zG (Kd.R kS 87 w' w.heap.size (fun _ => True) (.slice A11 s.length c11) s) ∧ zG (Kd.R k50 50 w' w.heap.size (fun _ => True) v0_ c0_.ps) ∧ zG (Kd.R k50 50 w' w.heap.size (fun _ => True) v1_ c1_.ps) ∧ zG (Below w.heap.size w w'))
    case atStart => exact ⟨0, c0, c1, v0, v1, rfl, ⟨rfl⟩, ⟨rfl⟩, ⟨rfl⟩, HX8, HX13, HX14, HXB, HS, HR0, HR1, HB⟩
    case round =>
      clear HX8 HX13 HX14 HXB HB HS HR0 HR1
      obtain ⟨i, c0_, c1_, v0_, v1_, rfl, HK, HD0, HD1, HX8, HX13, HX14, HXB, HS, HR0, HR1, HB⟩ := hrel
      have hi : i = 0 ∨ i = 1 ∨ i = 2 := by have := HK.out; omega
      rcases hi with rfl | rfl | rfl
      case inl =>
        have hSR := kS_reads HS.out
        have hcB : wr.cell? ⟨gB, 0, none⟩ = some (.bool false) := (zN HXB.out 0).trans rfl
        have hcall := parts_plan.calls A11 c11 s (lv : Int) false wr hSR.2.2 hSR.2.1 (by have := HSl.out; omega)
        obtain ⟨nP, hnP⟩ : ∃ nP, planBits s false = nP := ⟨_, rfl⟩
        rw [hnP] at hcall
        have HCALL := zG.mk hcall
        have HNP := zG.mk hnP
        clear hcall hSR hnP
        go_upto_region 15 with (first | (go_at_call 38; (refine (HCALL.out).mono ?_); rintro e w2 ⟨vQ_, rfl, hP, hb2⟩; obtain ⟨Ap, cp, rfl⟩ := Kd.R_slice hP; have HP := zG.mk hP; have B2 := zG.mk hb2; clear hP hb2) | ((with_reducible refine gate_dst (N := 18) rfl ?_); refine box_event ?hg (N := 18) ?hd (cs := #[.bool false, .int .i64 0, .slice none 0 0]) (t := 25) ?hr ?_; (case hd => rfl); (case hg => rfl); (case hr => go_loud (first | (go_simp; done) | (go_simp; rfl))); intro g18 hg18_ w3 hbox18 hb3; have G18 := zG.mk hg18_; clear hg18_; have X18 := zG.mk hbox18; have B3 := zG.mk hb3; clear hbox18 hb3) | ((with_reducible refine gate_store (t := 25) (p := 18) rfl ?_); refine wpList_store_row rfl 25 _ _ rfl g18 #[.bool false, .int .i64 (lv : Int), (.slice Ap (planParts s false).length cp)] rfl rfl 25 _ X18.out sz26 rfl (by simp [Value.oneCell']) ?_))
        have hX18 := setRow_heap w3 g18 _ #[.bool false, .int .i64 (lv : Int), (.slice Ap (planParts s false).length cp)] _ _ X18.out
        have hg18 := G18.out
        have zb := HB.out.size
        have zb2 := B2.out.size
        have z8 := blk_lt HX8.out
        have z13 := blk_lt HX13.out
        have z14 := blk_lt HX14.out
        have zB := blk_lt HXB.out
        have l18 : w.heap.size ≤ g18 := by omega
        have hb4 := below_setRow (below_step B2.out B3.out) (by omega : wr.heap.size ≤ g18) #[.bool false, .int .i64 (lv : Int), (.slice Ap (planParts s false).length cp)]
        have hP := Kd.R_mono (Kd.R_step (Kd.R_types (Kd.R_below HP.out B3.out) X18.out (by decide)) (fun k hk _ => setRow_other w3 g18 k #[.bool false, .int .i64 (lv : Int), (.slice Ap (planParts s false).length cp)] hk.2)) (ok' := fun _ => True) (fun _ _ => trivial)
        have hP := Kd.R_lower hP zb
        have hX8 := blk_below HX8.out hb4
        have hX13 := blk_below HX13.out hb4
        have hX14 := blk_below HX14.out hb4
        have hXB := blk_below HXB.out hb4
        have hS := Kd.R_below HS.out hb4
        have hR0 := Kd.R_below HR0.out hb4
        have hR1 := Kd.R_below HR1.out hb4
        have hB := below_step HB.out hb4
        obtain ⟨W4, hW4⟩ : ∃ W4, w3.setRow g18 #[.bool false, .int .i64 (lv : Int), (.slice Ap (planParts s false).length cp)] = W4 := ⟨_, rfl⟩
        rw [hW4] at hX18 hP hX8 hX13 hX14 hXB hS hR0 hR1 hB ⊢
        have n1 := N1314.out
        have n2 := NB13.out
        have n3 := NB14.out
        have n4 := N813.out
        have n5 := N814.out
        have hc130 : W4.cell? ⟨g13, 0, none⟩ = some (.bool c0_.f) := (zN hX13 0).trans rfl
        have hf130 := zO hX13 0
        have hc131 : W4.cell? ⟨g13, 1, none⟩ = some (.int .i64 c0_.o) := (zN hX13 1).trans rfl
        have hf131 := zO hX13 1
        have hc132 : W4.cell? ⟨g13, 2, none⟩ = some (v0_) := (zN hX13 2).trans rfl
        have hf132 := zO hX13 2
        have hc14 : W4.cell? ⟨g14, 0, none⟩ = some (.int .i64 c0_.n) := (zN hX14 0).trans rfl
        have hf14 := zO hX14 0
        have hc180 : W4.cell? ⟨g18, 0, none⟩ = some (.bool false) := (zN hX18 0).trans rfl
        have hc181 : W4.cell? ⟨g18, 1, none⟩ = some (.int .i64 (lv : Int)) := (zN hX18 1).trans rfl
        have hc182 : W4.cell? ⟨g18, 2, none⟩ = some (.slice Ap (planParts s false).length cp) := (zN hX18 2).trans rfl
        clear X18 HP G18 HCALL B2 B3 HX8 HX13 HX14 HXB HS HR0 HR1 HB hW4 hb4 zb zb2 hg18 z8 z13 z14 zB l18
        have HX18 := zG.mk hX18
        have HP := zG.mk hP
        have HX8 := zG.mk hX8
        have HX13 := zG.mk hX13
        have HX14 := zG.mk hX14
        have HXB := zG.mk hXB
        have HS := zG.mk hS
        have HR0 := zG.mk hR0
        have HR1 := zG.mk hR1
        have HB := zG.mk hB
        clear hX18 hP hX8 hX13 hX14 hXB hS hR0 hR1 hB
        have hdec : (fst_ = true ∨ nP ≤ c0_.n) ∨ (fst_ = false ∧ ¬ nP ≤ c0_.n) := by
          cases fst_ with
          | true => exact Or.inl (Or.inl rfl)
          | false => by_cases hq : nP ≤ c0_.n; exact Or.inl (Or.inr hq); exact Or.inr ⟨rfl, hq⟩
        rcases hdec with hT | ⟨rfl, hT⟩
        · have HT_ := zG.mk hT
          have hTT : fst_ = true ∨ (fst_ = false ∧ nP ≤ c0_.n) := by
            cases fst_ with
            | true => exact Or.inl rfl
            | false => exact Or.inr ⟨rfl, hT.resolve_left (by decide)⟩
          clear hT
          rcases hTT with rfl | ⟨rfl, hle⟩
          · go_wp2
            go_roundg 1
            case measure => have := HK.out; omega
            case rel =>
              have hT := HT_.out
              clear hc180 hc181 hc182
              have tX8 := zP (zP (zP (zP HX8.out N813.out (p := ⟨g13, 0, none⟩) (.bool false)) N813.out (p := ⟨g13, 1, none⟩) (.int .i64 (lv : Int))) N813.out (p := ⟨g13, 2, none⟩) (.slice Ap (planParts s false).length cp)) N814.out (p := ⟨g14, 0, none⟩) (.int .i64 nP)
              have tXB := zP (zP (zP (zP HXB.out NB13.out (p := ⟨g13, 0, none⟩) (.bool false)) NB13.out (p := ⟨g13, 1, none⟩) (.int .i64 (lv : Int))) NB13.out (p := ⟨g13, 2, none⟩) (.slice Ap (planParts s false).length cp)) NB14.out (p := ⟨g14, 0, none⟩) (.int .i64 nP)
              have tX13 := zP (blk_set (blk_set (blk_set HX13.out 0 (.bool false)) 1 (.int .i64 (lv : Int))) 2 (.slice Ap (planParts s false).length cp)) N1314.out (p := ⟨g14, 0, none⟩) (.int .i64 nP)
              have tX14 := blk_set (zP (zP (zP HX14.out (Ne.symm N1314.out) (p := ⟨g13, 0, none⟩) (.bool false)) (Ne.symm N1314.out) (p := ⟨g13, 1, none⟩) (.int .i64 (lv : Int))) (Ne.symm N1314.out) (p := ⟨g13, 2, none⟩) (.slice Ap (planParts s false).length cp)) 0 (.int .i64 nP)
              have tS := R_put4 HS.out HX13.out HX14.out (Ne.symm N1314.out) (by decide) (by decide) 0 1 2 0 (.bool false) (.int .i64 (lv : Int)) (.slice Ap (planParts s false).length cp) (.int .i64 nP)
              have tP := R_put4 HP.out HX13.out HX14.out (Ne.symm N1314.out) (by decide) (by decide) 0 1 2 0 (.bool false) (.int .i64 (lv : Int)) (.slice Ap (planParts s false).length cp) (.int .i64 nP)
              have tR := R_put4 HR1.out HX13.out HX14.out (Ne.symm N1314.out) (by decide) (by decide) 0 1 2 0 (.bool false) (.int .i64 (lv : Int)) (.slice Ap (planParts s false).length cp) (.int .i64 nP)
              have tB := below_put4 HB.out L13.out L14.out 0 1 2 0 (.bool false) (.int .i64 (lv : Int)) (.slice Ap (planParts s false).length cp) (.int .i64 nP)
              have hst : stepCur true false c0 (lv, s) = ⟨false, (lv : Int), planParts s false, nP⟩ := by
                have hcc : c0_ = c0 := HD0.out
                rw [← hcc, stepCur, if_pos (by first | exact Or.inl rfl | (rw [← HNP.out] at hT; exact hT)), mkCur, HNP.out]
              exact ⟨1, ⟨false, (lv : Int), planParts s false, nP⟩, c1_, (.slice Ap (planParts s false).length cp), v1_, rfl, ⟨rfl⟩, ⟨hst.symm⟩, ⟨HD1.out⟩, ⟨tX8⟩, ⟨tX13⟩, ⟨tX14⟩, ⟨tXB⟩, ⟨tS⟩, ⟨tP⟩, ⟨tR⟩, ⟨tB⟩⟩
          · have hdd : decide (nP ≤ c0_.n) = true := decide_eq_true hle
            clear hle
            go_wp2
            go_roundg 1
            case measure => have := HK.out; omega
            case rel =>
              have hT := HT_.out
              clear hc180 hc181 hc182
              have tX8 := zP (zP (zP (zP HX8.out N813.out (p := ⟨g13, 0, none⟩) (.bool false)) N813.out (p := ⟨g13, 1, none⟩) (.int .i64 (lv : Int))) N813.out (p := ⟨g13, 2, none⟩) (.slice Ap (planParts s false).length cp)) N814.out (p := ⟨g14, 0, none⟩) (.int .i64 nP)
              have tXB := zP (zP (zP (zP HXB.out NB13.out (p := ⟨g13, 0, none⟩) (.bool false)) NB13.out (p := ⟨g13, 1, none⟩) (.int .i64 (lv : Int))) NB13.out (p := ⟨g13, 2, none⟩) (.slice Ap (planParts s false).length cp)) NB14.out (p := ⟨g14, 0, none⟩) (.int .i64 nP)
              have tX13 := zP (blk_set (blk_set (blk_set HX13.out 0 (.bool false)) 1 (.int .i64 (lv : Int))) 2 (.slice Ap (planParts s false).length cp)) N1314.out (p := ⟨g14, 0, none⟩) (.int .i64 nP)
              have tX14 := blk_set (zP (zP (zP HX14.out (Ne.symm N1314.out) (p := ⟨g13, 0, none⟩) (.bool false)) (Ne.symm N1314.out) (p := ⟨g13, 1, none⟩) (.int .i64 (lv : Int))) (Ne.symm N1314.out) (p := ⟨g13, 2, none⟩) (.slice Ap (planParts s false).length cp)) 0 (.int .i64 nP)
              have tS := R_put4 HS.out HX13.out HX14.out (Ne.symm N1314.out) (by decide) (by decide) 0 1 2 0 (.bool false) (.int .i64 (lv : Int)) (.slice Ap (planParts s false).length cp) (.int .i64 nP)
              have tP := R_put4 HP.out HX13.out HX14.out (Ne.symm N1314.out) (by decide) (by decide) 0 1 2 0 (.bool false) (.int .i64 (lv : Int)) (.slice Ap (planParts s false).length cp) (.int .i64 nP)
              have tR := R_put4 HR1.out HX13.out HX14.out (Ne.symm N1314.out) (by decide) (by decide) 0 1 2 0 (.bool false) (.int .i64 (lv : Int)) (.slice Ap (planParts s false).length cp) (.int .i64 nP)
              have tB := below_put4 HB.out L13.out L14.out 0 1 2 0 (.bool false) (.int .i64 (lv : Int)) (.slice Ap (planParts s false).length cp) (.int .i64 nP)
              have hst : stepCur false false c0 (lv, s) = ⟨false, (lv : Int), planParts s false, nP⟩ := by
                have hcc : c0_ = c0 := HD0.out
                rw [← hcc, stepCur, if_pos (by first | exact Or.inl rfl | (rw [← HNP.out] at hT; exact hT)), mkCur, HNP.out]
              exact ⟨1, ⟨false, (lv : Int), planParts s false, nP⟩, c1_, (.slice Ap (planParts s false).length cp), v1_, rfl, ⟨rfl⟩, ⟨hst.symm⟩, ⟨HD1.out⟩, ⟨tX8⟩, ⟨tX13⟩, ⟨tX14⟩, ⟨tXB⟩, ⟨tS⟩, ⟨tP⟩, ⟨tR⟩, ⟨tB⟩⟩
        · have hdd : decide (nP ≤ c0_.n) = false := decide_eq_false hT
          have HT_ := zG.mk hT
          clear hT
          go_wp2
          go_roundg 1
          case measure => have := HK.out; omega
          case rel =>
            have hT := HT_.out
            have hst : stepCur false false c0 (lv, s) = c0_ := by
              have hcc : c0_ = c0 := HD0.out
              rw [← hcc, stepCur, if_neg (by rw [HNP.out]; rintro (h_ | h_); exact absurd h_ (by decide); first | exact hT h_ | exact absurd h_ (Int.not_le.2 hT))]
            exact ⟨1, c0_, c1_, v0_, v1_, rfl, ⟨rfl⟩, ⟨hst.symm⟩, ⟨HD1.out⟩, HX8, HX13, HX14, HXB, HS, HR0, HR1, HB⟩
      case inr.inl =>
        have hSR := kS_reads HS.out
        have hcB : wr.cell? ⟨gB, 1, none⟩ = some (.bool true) := (zN HXB.out 1).trans rfl
        have hcall := parts_plan.calls A11 c11 s (lv : Int) true wr hSR.2.2 hSR.2.1 (by have := HSl.out; omega)
        obtain ⟨nP, hnP⟩ : ∃ nP, planBits s true = nP := ⟨_, rfl⟩
        rw [hnP] at hcall
        have HCALL := zG.mk hcall
        have HNP := zG.mk hnP
        clear hcall hSR hnP
        go_upto_region 15 with (first | (go_at_call 38; (refine (HCALL.out).mono ?_); rintro e w2 ⟨vQ_, rfl, hP, hb2⟩; obtain ⟨Ap, cp, rfl⟩ := Kd.R_slice hP; have HP := zG.mk hP; have B2 := zG.mk hb2; clear hP hb2) | ((with_reducible refine gate_dst (N := 18) rfl ?_); refine box_event ?hg (N := 18) ?hd (cs := #[.bool false, .int .i64 0, .slice none 0 0]) (t := 25) ?hr ?_; (case hd => rfl); (case hg => rfl); (case hr => go_loud (first | (go_simp; done) | (go_simp; rfl))); intro g18 hg18_ w3 hbox18 hb3; have G18 := zG.mk hg18_; clear hg18_; have X18 := zG.mk hbox18; have B3 := zG.mk hb3; clear hbox18 hb3) | ((with_reducible refine gate_store (t := 25) (p := 18) rfl ?_); refine wpList_store_row rfl 25 _ _ rfl g18 #[.bool true, .int .i64 (lv : Int), (.slice Ap (planParts s true).length cp)] rfl rfl 25 _ X18.out sz26 rfl (by simp [Value.oneCell']) ?_))
        have hX18 := setRow_heap w3 g18 _ #[.bool true, .int .i64 (lv : Int), (.slice Ap (planParts s true).length cp)] _ _ X18.out
        have hg18 := G18.out
        have zb := HB.out.size
        have zb2 := B2.out.size
        have z8 := blk_lt HX8.out
        have z13 := blk_lt HX13.out
        have z14 := blk_lt HX14.out
        have zB := blk_lt HXB.out
        have l18 : w.heap.size ≤ g18 := by omega
        have hb4 := below_setRow (below_step B2.out B3.out) (by omega : wr.heap.size ≤ g18) #[.bool true, .int .i64 (lv : Int), (.slice Ap (planParts s true).length cp)]
        have hP := Kd.R_mono (Kd.R_step (Kd.R_types (Kd.R_below HP.out B3.out) X18.out (by decide)) (fun k hk _ => setRow_other w3 g18 k #[.bool true, .int .i64 (lv : Int), (.slice Ap (planParts s true).length cp)] hk.2)) (ok' := fun _ => True) (fun _ _ => trivial)
        have hP := Kd.R_lower hP zb
        have hX8 := blk_below HX8.out hb4
        have hX13 := blk_below HX13.out hb4
        have hX14 := blk_below HX14.out hb4
        have hXB := blk_below HXB.out hb4
        have hS := Kd.R_below HS.out hb4
        have hR0 := Kd.R_below HR0.out hb4
        have hR1 := Kd.R_below HR1.out hb4
        have hB := below_step HB.out hb4
        obtain ⟨W4, hW4⟩ : ∃ W4, w3.setRow g18 #[.bool true, .int .i64 (lv : Int), (.slice Ap (planParts s true).length cp)] = W4 := ⟨_, rfl⟩
        rw [hW4] at hX18 hP hX8 hX13 hX14 hXB hS hR0 hR1 hB ⊢
        have n1 := N1314.out
        have n2 := NB13.out
        have n3 := NB14.out
        have n4 := N813.out
        have n5 := N814.out
        have hc133 : W4.cell? ⟨g13, 3, none⟩ = some (.bool c1_.f) := (zN hX13 3).trans rfl
        have hf133 := zO hX13 3
        have hc134 : W4.cell? ⟨g13, 4, none⟩ = some (.int .i64 c1_.o) := (zN hX13 4).trans rfl
        have hf134 := zO hX13 4
        have hc135 : W4.cell? ⟨g13, 5, none⟩ = some (v1_) := (zN hX13 5).trans rfl
        have hf135 := zO hX13 5
        have hc14 : W4.cell? ⟨g14, 1, none⟩ = some (.int .i64 c1_.n) := (zN hX14 1).trans rfl
        have hf14 := zO hX14 1
        have hc180 : W4.cell? ⟨g18, 0, none⟩ = some (.bool true) := (zN hX18 0).trans rfl
        have hc181 : W4.cell? ⟨g18, 1, none⟩ = some (.int .i64 (lv : Int)) := (zN hX18 1).trans rfl
        have hc182 : W4.cell? ⟨g18, 2, none⟩ = some (.slice Ap (planParts s true).length cp) := (zN hX18 2).trans rfl
        clear X18 HP G18 HCALL B2 B3 HX8 HX13 HX14 HXB HS HR0 HR1 HB hW4 hb4 zb zb2 hg18 z8 z13 z14 zB l18
        have HX18 := zG.mk hX18
        have HP := zG.mk hP
        have HX8 := zG.mk hX8
        have HX13 := zG.mk hX13
        have HX14 := zG.mk hX14
        have HXB := zG.mk hXB
        have HS := zG.mk hS
        have HR0 := zG.mk hR0
        have HR1 := zG.mk hR1
        have HB := zG.mk hB
        clear hX18 hP hX8 hX13 hX14 hXB hS hR0 hR1 hB
        have hdec : (fst_ = true ∨ nP ≤ c1_.n) ∨ (fst_ = false ∧ ¬ nP ≤ c1_.n) := by
          cases fst_ with
          | true => exact Or.inl (Or.inl rfl)
          | false => by_cases hq : nP ≤ c1_.n; exact Or.inl (Or.inr hq); exact Or.inr ⟨rfl, hq⟩
        rcases hdec with hT | ⟨rfl, hT⟩
        · have HT_ := zG.mk hT
          have hTT : fst_ = true ∨ (fst_ = false ∧ nP ≤ c1_.n) := by
            cases fst_ with
            | true => exact Or.inl rfl
            | false => exact Or.inr ⟨rfl, hT.resolve_left (by decide)⟩
          clear hT
          rcases hTT with rfl | ⟨rfl, hle⟩
          · go_wp2
            go_roundg 0
            case measure => have := HK.out; omega
            case rel =>
              have hT := HT_.out
              clear hc180 hc181 hc182
              have tX8 := zP (zP (zP (zP HX8.out N813.out (p := ⟨g13, 3, none⟩) (.bool true)) N813.out (p := ⟨g13, 4, none⟩) (.int .i64 (lv : Int))) N813.out (p := ⟨g13, 5, none⟩) (.slice Ap (planParts s true).length cp)) N814.out (p := ⟨g14, 1, none⟩) (.int .i64 nP)
              have tXB := zP (zP (zP (zP HXB.out NB13.out (p := ⟨g13, 3, none⟩) (.bool true)) NB13.out (p := ⟨g13, 4, none⟩) (.int .i64 (lv : Int))) NB13.out (p := ⟨g13, 5, none⟩) (.slice Ap (planParts s true).length cp)) NB14.out (p := ⟨g14, 1, none⟩) (.int .i64 nP)
              have tX13 := zP (blk_set (blk_set (blk_set HX13.out 3 (.bool true)) 4 (.int .i64 (lv : Int))) 5 (.slice Ap (planParts s true).length cp)) N1314.out (p := ⟨g14, 1, none⟩) (.int .i64 nP)
              have tX14 := blk_set (zP (zP (zP HX14.out (Ne.symm N1314.out) (p := ⟨g13, 3, none⟩) (.bool true)) (Ne.symm N1314.out) (p := ⟨g13, 4, none⟩) (.int .i64 (lv : Int))) (Ne.symm N1314.out) (p := ⟨g13, 5, none⟩) (.slice Ap (planParts s true).length cp)) 1 (.int .i64 nP)
              have tS := R_put4 HS.out HX13.out HX14.out (Ne.symm N1314.out) (by decide) (by decide) 3 4 5 1 (.bool true) (.int .i64 (lv : Int)) (.slice Ap (planParts s true).length cp) (.int .i64 nP)
              have tP := R_put4 HP.out HX13.out HX14.out (Ne.symm N1314.out) (by decide) (by decide) 3 4 5 1 (.bool true) (.int .i64 (lv : Int)) (.slice Ap (planParts s true).length cp) (.int .i64 nP)
              have tR := R_put4 HR0.out HX13.out HX14.out (Ne.symm N1314.out) (by decide) (by decide) 3 4 5 1 (.bool true) (.int .i64 (lv : Int)) (.slice Ap (planParts s true).length cp) (.int .i64 nP)
              have tB := below_put4 HB.out L13.out L14.out 3 4 5 1 (.bool true) (.int .i64 (lv : Int)) (.slice Ap (planParts s true).length cp) (.int .i64 nP)
              have hst : stepCur true true c1 (lv, s) = ⟨true, (lv : Int), planParts s true, nP⟩ := by
                have hcc : c1_ = c1 := HD1.out
                rw [← hcc, stepCur, if_pos (by first | exact Or.inl rfl | (rw [← HNP.out] at hT; exact hT)), mkCur, HNP.out]
              exact ⟨2, c0_, ⟨true, (lv : Int), planParts s true, nP⟩, v0_, (.slice Ap (planParts s true).length cp), rfl, ⟨rfl⟩, ⟨HD0.out⟩, ⟨hst.symm⟩, ⟨tX8⟩, ⟨tX13⟩, ⟨tX14⟩, ⟨tXB⟩, ⟨tS⟩, ⟨tR⟩, ⟨tP⟩, ⟨tB⟩⟩
          · have hdd : decide (nP ≤ c1_.n) = true := decide_eq_true hle
            clear hle
            go_wp2
            go_roundg 0
            case measure => have := HK.out; omega
            case rel =>
              have hT := HT_.out
              clear hc180 hc181 hc182
              have tX8 := zP (zP (zP (zP HX8.out N813.out (p := ⟨g13, 3, none⟩) (.bool true)) N813.out (p := ⟨g13, 4, none⟩) (.int .i64 (lv : Int))) N813.out (p := ⟨g13, 5, none⟩) (.slice Ap (planParts s true).length cp)) N814.out (p := ⟨g14, 1, none⟩) (.int .i64 nP)
              have tXB := zP (zP (zP (zP HXB.out NB13.out (p := ⟨g13, 3, none⟩) (.bool true)) NB13.out (p := ⟨g13, 4, none⟩) (.int .i64 (lv : Int))) NB13.out (p := ⟨g13, 5, none⟩) (.slice Ap (planParts s true).length cp)) NB14.out (p := ⟨g14, 1, none⟩) (.int .i64 nP)
              have tX13 := zP (blk_set (blk_set (blk_set HX13.out 3 (.bool true)) 4 (.int .i64 (lv : Int))) 5 (.slice Ap (planParts s true).length cp)) N1314.out (p := ⟨g14, 1, none⟩) (.int .i64 nP)
              have tX14 := blk_set (zP (zP (zP HX14.out (Ne.symm N1314.out) (p := ⟨g13, 3, none⟩) (.bool true)) (Ne.symm N1314.out) (p := ⟨g13, 4, none⟩) (.int .i64 (lv : Int))) (Ne.symm N1314.out) (p := ⟨g13, 5, none⟩) (.slice Ap (planParts s true).length cp)) 1 (.int .i64 nP)
              have tS := R_put4 HS.out HX13.out HX14.out (Ne.symm N1314.out) (by decide) (by decide) 3 4 5 1 (.bool true) (.int .i64 (lv : Int)) (.slice Ap (planParts s true).length cp) (.int .i64 nP)
              have tP := R_put4 HP.out HX13.out HX14.out (Ne.symm N1314.out) (by decide) (by decide) 3 4 5 1 (.bool true) (.int .i64 (lv : Int)) (.slice Ap (planParts s true).length cp) (.int .i64 nP)
              have tR := R_put4 HR0.out HX13.out HX14.out (Ne.symm N1314.out) (by decide) (by decide) 3 4 5 1 (.bool true) (.int .i64 (lv : Int)) (.slice Ap (planParts s true).length cp) (.int .i64 nP)
              have tB := below_put4 HB.out L13.out L14.out 3 4 5 1 (.bool true) (.int .i64 (lv : Int)) (.slice Ap (planParts s true).length cp) (.int .i64 nP)
              have hst : stepCur false true c1 (lv, s) = ⟨true, (lv : Int), planParts s true, nP⟩ := by
                have hcc : c1_ = c1 := HD1.out
                rw [← hcc, stepCur, if_pos (by first | exact Or.inl rfl | (rw [← HNP.out] at hT; exact hT)), mkCur, HNP.out]
              exact ⟨2, c0_, ⟨true, (lv : Int), planParts s true, nP⟩, v0_, (.slice Ap (planParts s true).length cp), rfl, ⟨rfl⟩, ⟨HD0.out⟩, ⟨hst.symm⟩, ⟨tX8⟩, ⟨tX13⟩, ⟨tX14⟩, ⟨tXB⟩, ⟨tS⟩, ⟨tR⟩, ⟨tP⟩, ⟨tB⟩⟩
        · have hdd : decide (nP ≤ c1_.n) = false := decide_eq_false hT
          have HT_ := zG.mk hT
          clear hT
          go_wp2
          go_roundg 0
          case measure => have := HK.out; omega
          case rel =>
            have hT := HT_.out
            have hst : stepCur false true c1 (lv, s) = c1_ := by
              have hcc : c1_ = c1 := HD1.out
              rw [← hcc, stepCur, if_neg (by rw [HNP.out]; rintro (h_ | h_); exact absurd h_ (by decide); first | exact hT h_ | exact absurd h_ (Int.not_le.2 hT))]
            exact ⟨2, c0_, c1_, v0_, v1_, rfl, ⟨rfl⟩, ⟨HD0.out⟩, ⟨hst.symm⟩, HX8, HX13, HX14, HXB, HS, HR0, HR1, HB⟩
      case inr.inr =>
        have hf0 : finCur fst_ false c0 (levels lv s) = finCur false false c0_ (levels lv s).tail := by
          rw [HD0.out]; cases lv <;> rfl
        have hf1 : finCur fst_ true c1 (levels lv s) = finCur false true c1_ (levels lv s).tail := by
          rw [HD1.out]; cases lv <;> rfl
        have HF0 := zG.mk (hf0.symm.trans HF0.out)
        have HF1 := zG.mk (hf1.symm.trans HF1.out)
        clear hf0 hf1 HD0 HD1
        have hc130 : wr.cell? ⟨g13, 0, none⟩ = some (.bool c0_.f) := (zN HX13.out 0).trans rfl
        have hc131 : wr.cell? ⟨g13, 1, none⟩ = some (.int .i64 c0_.o) := (zN HX13.out 1).trans rfl
        have hc132 : wr.cell? ⟨g13, 2, none⟩ = some v0_ := (zN HX13.out 2).trans rfl
        have hc133 : wr.cell? ⟨g13, 3, none⟩ = some (.bool c1_.f) := (zN HX13.out 3).trans rfl
        have hc134 : wr.cell? ⟨g13, 4, none⟩ = some (.int .i64 c1_.o) := (zN HX13.out 4).trans rfl
        have hc135 : wr.cell? ⟨g13, 5, none⟩ = some v1_ := (zN HX13.out 5).trans rfl
        have hc140 : wr.cell? ⟨g14, 0, none⟩ = some (.int .i64 c0_.n) := (zN HX14.out 0).trans rfl
        have hc141 : wr.cell? ⟨g14, 1, none⟩ = some (.int .i64 c1_.n) := (zN HX14.out 1).trans rfl
        obtain ⟨Aa, ca, rfl⟩ := Kd.R_slice HR0.out
        obtain ⟨Ab, cb, rfl⟩ := Kd.R_slice HR1.out
        clear HXB NB8 NB13 NB14
        cases lv with
        | zero =>
          have hz : decide ((0 : Int) < ((0 : Nat) : Int)) = false := by decide
          have hz2 : ((0 : Nat) : Int) = 0 := rfl
          have hE0 : c0_ = finCur true false zCur (levels o (sumsOf wf (cutsF o) l)) := HF0.out
          have hE1 : c1_ = finCur true true zCur (levels o (sumsOf wf (cutsF o) l)) := HF1.out
          have hbc : bestCur wide o (sumsOf wf (cutsF o) l) = if wide = true ∧ c1_.n < c0_.n then c1_ else c0_ := by rw [bestCur, ← hE0, ← hE1]
          rw [HBC.out] at hbc
          clear HBC
          have HBC := zG.mk hbc
          have hc80 : wr.cell? ⟨g8, 0, none⟩ = some (.bool false) := (zN HX8.out 0).trans rfl
          have hc81 : wr.cell? ⟨g8, 1, none⟩ = some (.int .i64 0) := (zN HX8.out 1).trans rfl
          have hc82 : wr.cell? ⟨g8, 2, none⟩ = some (.slice none 0 0) := (zN HX8.out 2).trans rfl
          have n4 := N813.out
          have n5 := N814.out
          have n4s := n4.symm
          have n5s := n5.symm
          have hf80 := zO HX8.out 0
          have hf81 := zO HX8.out 1
          have hf82 := zO HX8.out 2
          clear hE0 hE1 hbc HF0 HF1 HEVs HLV HSl HR HCc hJ_ hK_
          go_upto_region 27 with (fail)
          have hdec : (wide = true ∧ c1_.n < c0_.n) ∨ (wide = true ∧ ¬ c1_.n < c0_.n) ∨ wide = false := by
            cases wide with
            | false => exact Or.inr (Or.inr rfl)
            | true => by_cases hq : c1_.n < c0_.n; exact Or.inl ⟨rfl, hq⟩; exact Or.inr (Or.inl ⟨rfl, hq⟩)
          rcases hdec with ⟨rfl, hq⟩ | ⟨rfl, hq⟩ | rfl
          · have hdd : decide (c1_.n < c0_.n) = true := decide_eq_true hq
            have hE : bc = c1_ := by rw [HBC.out, if_pos ⟨rfl, hq⟩]
            subst hE
            clear hq HBC
            have hB9 : Below w.heap.size w ((((wr.setCell ⟨g8, 0, none⟩ (.bool bc.f)).setCell ⟨g8, 1, none⟩ (.int .i64 bc.o)).setCell ⟨g8, 2, none⟩ (.slice Ab bc.ps.length cb)).drew) := zD (((HB.out.setCell L8.out _).setCell L8.out _).setCell L8.out _)
            have hX9 : (((wr.setCell ⟨g8, 0, none⟩ (.bool bc.f)).setCell ⟨g8, 1, none⟩ (.int .i64 bc.o)).setCell ⟨g8, 2, none⟩ (.slice Ab bc.ps.length cb)).drew.heap[g8]? = some (.cells #[.bool bc.f, .int .i64 bc.o, .slice Ab bc.ps.length cb] 25 (0, 0)) := zM (blk_set (blk_set (blk_set HX8.out 0 (.bool bc.f)) 1 (.int .i64 bc.o)) 2 (.slice Ab bc.ps.length cb))
            have hR9 := Kd.R_set (Kd.R_set (Kd.R_set HR1.out HX8.out (by decide) 0 (.bool bc.f)) (blk_set HX8.out 0 (.bool bc.f)) (by decide) 1 (.int .i64 bc.o)) (blk_set (blk_set HX8.out 0 (.bool bc.f)) 1 (.int .i64 bc.o)) (by decide) 2 (.slice Ab bc.ps.length cb)
            have HB9 := zG.mk hB9
            have HX9 := zG.mk hX9
            have HR9 := zG.mk hR9
            clear hB9 hX9 hR9
            go_wp2
            go_region
            go_wp2
            (try simp only [Exit.jump])
            refine bodyPost_ret (results_cell_row_tmp2 rfl _ _ g8 25 _ _ _ rfl HX9.out Try.underlying25 rfl sz26) rfl ?_
            exact ⟨_, rfl, Kd.zR HR9.out, HB9.out⟩
          · have hdd : decide (c1_.n < c0_.n) = false := decide_eq_false hq
            have hE : bc = c0_ := by rw [HBC.out, if_neg (fun h_ => hq h_.2)]
            subst hE
            clear hq HBC
            have hB9 : Below w.heap.size w ((((wr.setCell ⟨g8, 0, none⟩ (.bool bc.f)).setCell ⟨g8, 1, none⟩ (.int .i64 bc.o)).setCell ⟨g8, 2, none⟩ (.slice Aa bc.ps.length ca)).drew) := zD (((HB.out.setCell L8.out _).setCell L8.out _).setCell L8.out _)
            have hX9 : (((wr.setCell ⟨g8, 0, none⟩ (.bool bc.f)).setCell ⟨g8, 1, none⟩ (.int .i64 bc.o)).setCell ⟨g8, 2, none⟩ (.slice Aa bc.ps.length ca)).drew.heap[g8]? = some (.cells #[.bool bc.f, .int .i64 bc.o, .slice Aa bc.ps.length ca] 25 (0, 0)) := zM (blk_set (blk_set (blk_set HX8.out 0 (.bool bc.f)) 1 (.int .i64 bc.o)) 2 (.slice Aa bc.ps.length ca))
            have hR9 := Kd.R_set (Kd.R_set (Kd.R_set HR0.out HX8.out (by decide) 0 (.bool bc.f)) (blk_set HX8.out 0 (.bool bc.f)) (by decide) 1 (.int .i64 bc.o)) (blk_set (blk_set HX8.out 0 (.bool bc.f)) 1 (.int .i64 bc.o)) (by decide) 2 (.slice Aa bc.ps.length ca)
            have HB9 := zG.mk hB9
            have HX9 := zG.mk hX9
            have HR9 := zG.mk hR9
            clear hB9 hX9 hR9
            go_wp2
            go_region
            go_wp2
            (try simp only [Exit.jump])
            refine bodyPost_ret (results_cell_row_tmp2 rfl _ _ g8 25 _ _ _ rfl HX9.out Try.underlying25 rfl sz26) rfl ?_
            exact ⟨_, rfl, Kd.zR HR9.out, HB9.out⟩
          · have hE : bc = c0_ := by rw [HBC.out, if_neg (fun h_ => absurd h_.1 (by decide))]
            subst hE
            clear HBC
            have hB9 : Below w.heap.size w ((((wr.setCell ⟨g8, 0, none⟩ (.bool bc.f)).setCell ⟨g8, 1, none⟩ (.int .i64 bc.o)).setCell ⟨g8, 2, none⟩ (.slice Aa bc.ps.length ca)).drew) := zD (((HB.out.setCell L8.out _).setCell L8.out _).setCell L8.out _)
            have hX9 : (((wr.setCell ⟨g8, 0, none⟩ (.bool bc.f)).setCell ⟨g8, 1, none⟩ (.int .i64 bc.o)).setCell ⟨g8, 2, none⟩ (.slice Aa bc.ps.length ca)).drew.heap[g8]? = some (.cells #[.bool bc.f, .int .i64 bc.o, .slice Aa bc.ps.length ca] 25 (0, 0)) := zM (blk_set (blk_set (blk_set HX8.out 0 (.bool bc.f)) 1 (.int .i64 bc.o)) 2 (.slice Aa bc.ps.length ca))
            have hR9 := Kd.R_set (Kd.R_set (Kd.R_set HR0.out HX8.out (by decide) 0 (.bool bc.f)) (blk_set HX8.out 0 (.bool bc.f)) (by decide) 1 (.int .i64 bc.o)) (blk_set (blk_set HX8.out 0 (.bool bc.f)) 1 (.int .i64 bc.o)) (by decide) 2 (.slice Aa bc.ps.length ca)
            have HB9 := zG.mk hB9
            have HX9 := zG.mk hX9
            have HR9 := zG.mk hR9
            clear hB9 hX9 hR9
            go_wp2
            go_region
            go_wp2
            (try simp only [Exit.jump])
            refine bodyPost_ret (results_cell_row_tmp2 rfl _ _ g8 25 _ _ _ rfl HX9.out Try.underlying25 rfl sz26) rfl ?_
            exact ⟨_, rfl, Kd.zR HR9.out, HB9.out⟩
        | succ lv =>
          have hz : decide ((0 : Int) < ((lv + 1 : Nat) : Int)) = true := decide_eq_true (by omega)
          have hev := HEVs.out
          obtain ⟨hev1, hev2⟩ := hev
          obtain ⟨n2, hn2⟩ : ∃ n2, s.length = 2 * n2 := ⟨s.length / 2, by omega⟩
          have HN2 := zG.mk hn2
          have HEV2 := zG.mk hev2
          have HSl2 := HSl.out
          obtain ⟨W2, hW2⟩ : ∃ W2, W2 = wr := ⟨wr, rfl⟩
          subst hW2
          have HO := zG.mk (Kd.R_nil kS 87 W2 W2.heap.size (fun _ => True))
          have HBW := zG.mk (Below.refl W2.heap.size W2)
          clear hev1 hev2 hn2 hc130 hc131 hc132 hc133 hc134 hc135 hc140 hc141 HBC HSl2
          go_upto_region 22 with (fail)
          go_loopg [20, 21] n2 (fun kq v20 v21 w' => ∃ (j : Nat) (acc : List Sm), v21 = .int .i64 (2 * (j : Int)) ∧ zG (j + kq = n2) ∧ zG (acc ++ pairUp (s.drop (2 * j)) = pairUp s) ∧ zG (acc.length = j) ∧ zG (Kd.R kS 87 w' W2.heap.size (fun _ => True) v20 acc) ∧ zG (Below W2.heap.size W2 w'))
          case atStart => exact ⟨0, [], rfl, ⟨by omega⟩, ⟨rfl⟩, ⟨rfl⟩, HO, HBW⟩
          case round =>
            clear HO HBW
            obtain ⟨j, acc, rfl, HK, HAcc, HAl, HO, HBW⟩ := hrel
            by_cases hj : j < n2
            · have hq : decide (2 * (j : Int) < (s.length : Int)) = true := decide_eq_true (by have := HN2.out; omega)
              have HJ := zG.mk hj
              clear hj
              have hn2_ := HN2.out
              have hj_ := HJ.out
              have hsl_ := HSl.out
              obtain ⟨ad, hA, h31a, hca⟩ := kS_at (Kd.C_below (kS_reads HS.out).2.2 HBW.out) (2 * j) (by omega)
              obtain ⟨ad2, hA2, h31b, hcb⟩ := kS_at (Kd.C_below (kS_reads HS.out).2.2 HBW.out) (2 * j + 1) (by omega)
              subst hA
              obtain rfl : ad = ad2 := Option.some.inj hA2
              clear hA2
              obtain ⟨sA, hsA⟩ : ∃ sA, s.getD (2 * j) zSm = sA := ⟨_, rfl⟩
              obtain ⟨sB, hsB⟩ : ∃ sB, s.getD (2 * j + 1) zSm = sB := ⟨_, rfl⟩
              rw [hsA] at h31a hca
              rw [hsB] at h31b hcb
              have HsA := zG.mk hsA
              have HsB := zG.mk hsB
              have H31a := zG.mk h31a
              have H31b := zG.mk h31b
              have HCa := zG.mk (show ∀ j_ u_, sA.c[j_]? = some u_ → wr.drew.cell? ((ad.add (2 * j * 33)).add j_) = some u_ from fun j_ u_ h_ => by rw [Addr.add_add]; exact hca j_ u_ h_)
              have HCb := zG.mk (show ∀ j_ u_, sB.c[j_]? = some u_ → wr.drew.cell? ((ad.add ((2 * j + 1) * 33)).add j_) = some u_ from fun j_ u_ h_ => by rw [Addr.add_add]; exact hcb j_ u_ h_)
              have hw1 : wrap64 (2 * (j : Int) + 1) = 2 * (j : Int) + 1 := by unfold wrap64; omega
              have hk0 : (2 * (j : Int) < (s.length : Int)) = True := eq_true (by omega)
              have hk1 : (0 ≤ 2 * (j : Int)) = True := eq_true (by omega)
              have hk2 : (0 ≤ 2 * (j : Int) + 1) = True := eq_true (by omega)
              have hk3 : (2 * (j : Int) + 1 < (s.length : Int)) = True := eq_true (by omega)
              have ht1 : (2 * (j : Int)).toNat = 2 * j := by omega
              have ht2 : (2 * (j : Int) + 1).toNat = 2 * j + 1 := by omega
              clear hsA hsB h31a h31b hca hcb hn2_ hj_ hsl_
              go_upto_region 24 with (fail)
              refine start_ (n := 14) (S := fun w' => (∀ j_ u_, sA.c[j_]? = some u_ → w'.cell? ((ad.add (2 * j * 33)).add j_) = some u_) ∧ (∀ j_ u_, sB.c[j_]? = some u_ → w'.cell? ((ad.add ((2 * j + 1) * 33)).add j_) = some u_)) (ds := [10, 11, 12]) #[false, false, false, false, false, false, false, false, false, false, false, false, false, false] (by kernel_rfl) rfl rfl ⟨HCa.out, HCb.out⟩ (fun hHeld => ?_)
              refine pure_ (i := 0) (N := some 92) (v := ?_) (a' := ?_) #[true, false, false, false, false, false, false, false, false, false, false, false, false, false] rfl rfl (by kernel_rfl) (fun _ _ _ h => h) (Or.inl ⟨by rfl, ?_⟩) ?_ ?_
              rotate_left
              · intro w'
                go_simp
                with_reducible rfl
              rotate_left
              · simp only [Act.put, List.setIfInBounds_toArray, List.set_cons_zero, List.set_cons_succ, i64_w, i32_w]
                rfl
              refine pure_ (i := 1) (N := some 93) (v := ?_) (a' := ?_) #[true, true, false, false, false, false, false, false, false, false, false, false, false, false] rfl rfl (by kernel_rfl) (fun _ _ _ h => h) (Or.inl ⟨by rfl, ?_⟩) ?_ ?_
              rotate_left
              · intro w'
                go_simp
                with_reducible rfl
              rotate_left
              · simp only [Act.put, List.setIfInBounds_toArray, List.set_cons_zero, List.set_cons_succ, i64_w, i32_w]
                rfl
              refine pure_ (i := 2) (N := some 94) (v := ?_) (a' := ?_) #[true, true, true, false, false, false, false, false, false, false, false, false, false, false] rfl rfl (by kernel_rfl) (fun _ _ _ h => h) (Or.inl ⟨by rfl, ?_⟩) ?_ ?_
              rotate_left
              · intro w'
                go_simp
                with_reducible rfl
              rotate_left
              · simp only [Act.put, List.setIfInBounds_toArray, List.set_cons_zero, List.set_cons_succ, i64_w, i32_w]
                rfl
              refine pure_ (i := 5) (N := some 97) (v := ?_) (a' := ?_) #[true, true, true, false, false, true, false, false, false, false, false, false, false, false] rfl rfl (by kernel_rfl) (fun _ _ _ h => h) (Or.inl ⟨by rfl, ?_⟩) ?_ ?_
              rotate_left
              · intro w'
                go_simp
                with_reducible rfl
              rotate_left
              · simp only [Act.put, List.setIfInBounds_toArray, List.set_cons_zero, List.set_cons_succ, i64_w, i32_w]
                rfl
              refine pure_ (i := 6) (N := some 98) (v := ?_) (a' := ?_) #[true, true, true, false, false, true, true, false, false, false, false, false, false, false] rfl rfl (by kernel_rfl) (fun _ _ _ h => h) (Or.inl ⟨by rfl, ?_⟩) ?_ ?_
              rotate_left
              · intro w'
                go_simp
                with_reducible rfl
              rotate_left
              · simp only [Act.put, List.setIfInBounds_toArray, List.set_cons_zero, List.set_cons_succ, i64_w, i32_w]
                rfl
              refine pure_ (i := 7) (N := some 99) (v := ?_) (a' := ?_) #[true, true, true, false, false, true, true, true, false, false, false, false, false, false] rfl rfl (by kernel_rfl) (fun _ _ _ h => h) (Or.inl ⟨by rfl, ?_⟩) ?_ ?_
              rotate_left
              · intro w'
                go_simp
                with_reducible rfl
              rotate_left
              · simp only [Act.put, List.setIfInBounds_toArray, List.set_cons_zero, List.set_cons_succ, i64_w, i32_w]
                rfl
              refine pure_ (i := 3) (N := some 95) (v := ?_) (a' := ?_) #[true, true, true, true, false, true, true, true, false, false, false, false, false, false] rfl rfl (by kernel_rfl) (fun _ _ _ h => h) (Or.inl ⟨by rfl, ?_⟩) ?_ ?_
              rotate_left
              · intro w'
                go_simp
                with_reducible rfl
              rotate_left
              · simp only [Act.put, List.setIfInBounds_toArray, List.set_cons_zero, List.set_cons_succ, i64_w, i32_w]
                rfl
              refine pure_ (i := 8) (N := some 100) (v := ?_) (a' := ?_) #[true, true, true, true, false, true, true, true, true, false, false, false, false, false] rfl rfl (by kernel_rfl) (fun _ _ _ h => h) (Or.inl ⟨by rfl, ?_⟩) ?_ ?_
              rotate_left
              · intro w'
                go_simp
                with_reducible rfl
              rotate_left
              · simp only [Act.put, List.setIfInBounds_toArray, List.set_cons_zero, List.set_cons_succ, i64_w, i32_w]
                rfl
              refine take_ (i := 4) (N := some 96) (v := .agg (iA (sumL sA.n sA.ys sA.wd))) (a' := ?aa4) #[true, true, true, true, true, true, true, true, true, false, false, false, false, false] rfl rfl (by kernel_rfl) (fun _ _ _ h => h) (Or.inl ⟨by rfl, ?yy4⟩) hHeld ?ha4 ?hh4
              case yy4 =>
                rintro w' ⟨s0, s1⟩
                apply load_at_yields (ty := 87) (N := none) (cs := sA.c) (C := iA (sumL sA.n sA.ys sA.wd)) (hC := rfl) (hc := s0) (hu := Try.underlying87)
                · rfl
                · rfl
                · rfl
                · rw [Sm.c_len H31a.out]; exact sz55
              case ha4 =>
                simp only [Act.put, List.setIfInBounds_toArray, List.set_cons_zero, List.set_cons_succ, i64_w, i32_w]
                rfl
              refine take_ (i := 9) (N := some 101) (v := .agg (iA (sumL sB.n sB.ys sB.wd))) (a' := ?aa9) #[true, true, true, true, true, true, true, true, true, true, false, false, false, false] rfl rfl (by kernel_rfl) (fun _ _ _ h => h) (Or.inl ⟨by rfl, ?yy9⟩) hHeld ?ha9 ?hh9
              case yy9 =>
                rintro w' ⟨s0, s1⟩
                apply load_at_yields (ty := 87) (N := none) (cs := sB.c) (C := iA (sumL sB.n sB.ys sB.wd)) (hC := rfl) (hc := s1) (hu := Try.underlying87)
                · rfl
                · rfl
                · rfl
                · rw [Sm.c_len H31b.out]; exact sz55
              case ha9 =>
                simp only [Act.put, List.setIfInBounds_toArray, List.set_cons_zero, List.set_cons_succ, i64_w, i32_w]
                rfl
              refine last_ (i := 10) (N := some 102) #[true, true, true, true, true, true, true, true, true, true, true, false, false, false] rfl rfl (by kernel_rfl) (by decide) (fun K hK => ?_)
              refine goes_ Try.func39 (by kernel_rfl) rfl #[.agg (iA (sumL sA.n sA.ys sA.wd)), .agg (iA (sumL sB.n sB.ys sB.wd))] (by rfl) rfl rfl (by first | rfl | ((try simp only [List.map_toArray, List.map_cons, List.map_nil]); rfl)) ?_
              refine (parts_with.calls sA.n sA.wd sB.n sB.wd sA.ys sB.ys H31a.out H31b.out _).mono ?_
              rintro e w5 ⟨rfl, hb5⟩
              refine ⟨_, rfl, ?_⟩
              have hBW5 := below_step (zD HBW.out) hb5
              have hO5 := Kd.R_below (Kd.zR HO.out) hb5
              have hsS : (.agg (iA (sumL (wrap64 (sA.n + sB.n)) (zAt sA.ys sB.ys 31) (mx sA.wd sB.wd))) : Value) = .agg (iA (sumL (withS sA sB).n (withS sA sB).ys (withS sA sB).wd)) := rfl
              rw [hsS]
              have hs31 : (withS sA sB).ys.length = 31 := zAt_len _ _ _
              obtain ⟨sC, hsC⟩ : ∃ sC, withS sA sB = sC := ⟨_, rfl⟩
              rw [hsC] at hs31 ⊢
              have H31c := zG.mk hs31
              have HSC := zG.mk hsC
              have HBW5 := zG.mk hBW5
              have HO5 := zG.mk hO5
              clear hBW5 hO5 hsS hs31 hsC hb5
              refine hK.out _ _ ?_
              clear hK K
              refine norm_ (a' := ?_) ?_ ?_
              rotate_left
              · show Act.put _ (some 102) _ = _
                simp only [Act.put, List.setIfInBounds_toArray, List.set_cons_zero, List.set_cons_succ, i64_w, i32_w]
                rfl
              refine last_ (i := 11) (N := some 103) #[true, true, true, true, true, true, true, true, true, true, true, true, false, false] rfl rfl (by kernel_rfl) (by decide) (fun K hK => ?_)
              refine event_step (v := .slice (some ⟨w5.heap.size, 0, none⟩) 1 1) (w1 := w5.alloc (.cells sC.c.toArray 87)) (by rfl) ?hrun ?_
              case hrun =>
                have hsz : (iA (sumL sC.n sC.ys sC.wd)).size = 33 := by rw [iA_size]; simp [sumL, H31c.out]
                go_simp
                rw [fold_zip (iA (sumL sC.n sC.ys sC.wd)) _ _ (by rw [hsz]; rfl) (by first | rfl | exact hsz.symm)]
                rfl
              refine hK.out _ _ ?_
              clear hK K
              refine norm_ (a' := ?_) ?_ ?_
              rotate_left
              · show Act.put _ (some 103) _ = _
                simp only [Act.put, List.setIfInBounds_toArray, List.set_cons_zero, List.set_cons_succ, i64_w, i32_w]
                rfl
              refine last_ (i := 12) (N := some 104) #[true, true, true, true, true, true, true, true, true, true, true, true, true, false] rfl rfl (by kernel_rfl) (by decide) (fun K hK => ?_)
              refine Kd.R_append_step kS (w0 := W2) W2.heap.size (by rfl) (.tmp 92) (.tmp 103) 77 87 (.agg (iA (sumL 0 zs31 0))) 264 rfl Try.underlying77 info55 rfl (by decide) (by omega) u20 acc sC sC.c (fun _ => True) (fun _ => False) rfl rfl ⟨rfl, H31c.out⟩ (fun _ hk => hk.elim) (fun _ _ => trivial) HO5.out HBW5.out (below_size HBW5.out) (by have := HJ.out; have := HAl.out; have := HN2.out; have := HSl.out; omega) ?_
              intro v9 w9 ho hb hg hat
              have HO9 := zG.mk ho
              have HB9 := zG.mk hb
              clear ho hb hg hat
              refine hK.out _ _ ?_
              clear hK K
              refine norm_ (a' := ?_) ?_ ?_
              rotate_left
              · show Act.put _ (some 104) _ = _
                simp only [Act.put, List.setIfInBounds_toArray, List.set_cons_zero, List.set_cons_succ, i64_w, i32_w]
                rfl
              refine pure_ (i := 13) (N := some 20) (v := ?_) (a' := ?_) #[true, true, true, true, true, true, true, true, true, true, true, true, true, true] rfl rfl (by kernel_rfl) (fun _ _ _ h => h) (Or.inl ⟨by rfl, ?_⟩) ?_ ?_
              rotate_left
              · intro w'
                go_simp
                with_reducible rfl
              rotate_left
              · simp only [Act.put, List.setIfInBounds_toArray, List.set_cons_zero, List.set_cons_succ, i64_w, i32_w]
                rfl
              refine done_ (by kernel_rfl) ?_
              have hj_ := HJ.out
              have hn_ := HN2.out
              have hs_ := HSl.out
              have hw2 : wrap64 (2 * (j : Int) + 2) = 2 * (j : Int) + 2 := by unfold wrap64; omega
              clear hj_ hn_ hs_
              go_wp2
              go_roundg (n2 - (j + 1))
              case measure => have := HK.out; have := HJ.out; omega
              case rel =>
                have hO := HO9.out
                have hd := pairUp_drop (s := s) (j := j) (by have := HJ.out; have := HN2.out; omega)
                rw [HsA.out, HsB.out, HSC.out] at hd
                have ha : (acc ++ [sC]) ++ pairUp (s.drop (2 * (j + 1))) = pairUp s := by rw [← HAcc.out, hd, List.append_assoc]; first | done | rfl
                exact ⟨j + 1, acc ++ [sC], by first | rfl | omega | (congr 1; try omega), ⟨by have := HK.out; have := HJ.out; omega⟩, ⟨ha⟩, ⟨by simp [HAl.out]⟩, ⟨hO⟩, HB9⟩
            · have hq : decide (2 * (j : Int) < (s.length : Int)) = false := decide_eq_false (by have := HN2.out; omega)
              have hwl : wrap64 (lv : Int) = (lv : Int) := by have := HLV.out; unfold wrap64; omega
              obtain rfl : j = n2 := by have := HK.out; omega
              have ha : acc = pairUp s := by have h_ := HAcc.out; rw [List.drop_of_length_le (by have := HN2.out; omega)] at h_; simpa [pairUp] using h_
              have hlen2 : (pairUp s).length = j := pairUp_len j s HN2.out
              have HA := zG.mk ha
              have HL2 := zG.mk hlen2
              clear ha hlen2
              go_wp2
              go_step3
              rw [hwl]
              refine ⟨rfl, hK_ _ _ ?_⟩
              go_roundg lv
              case measure => omega
              case rel =>
                have hO := HO.out
                rw [HA.out] at hO
                have hb := HBW.out
                have hlw := HB.out.size
                exact ⟨pairUp s, c0_, c1_, _, _, ⟨HF0.out⟩, ⟨HF1.out⟩, HEV2, ⟨by have := HL2.out; have := HN2.out; have := HSl.out; omega⟩, ⟨by have := HLV.out; omega⟩, ⟨Kd.R_lower hO hlw⟩, ⟨blk_below HX8.out hb⟩, ⟨blk_below HX13.out hb⟩, ⟨blk_below HX14.out hb⟩, ⟨Kd.R_below HR0.out hb⟩, ⟨Kd.R_below HR1.out hb⟩, ⟨below_step HB.out hb⟩, N1314, N813, N814, L13, L14⟩
set_option linter.unusedSimpArgs false
set_option linter.unusedVariables false
set_option maxHeartbeats 8000000 in
set_option maxRecDepth 100000 in
theorem parts_Best.arg (A : Option Addr) (c n : Nat) (order most : Int) (wide : Bool) (w : World) (h : order < 0 ∨ 32 < order ∨ most < 0 ∨ 8 < most) :
    Calls Try.prog 18 #[.slice A n c, .int .i64 order, .int .i64 most, .bool wide] w fun e w' => e = .returned (.tuple #[.agg #[.bool false, .int .i64 0, .slice none 0 0], .int .i64 0, .int .i64 1]) ∧ Below w.heap.size w w' := by
  go_enter Try.func18, Try.ntmps18
  by_cases h1 : order < 0
  · have d1 : decide (order < 0) = true := decide_eq_true h1
    clear h1 h
    go_wp2_with (first | ((with_reducible refine gate_dst (N := 8) rfl ?_); refine box_event ?hg (N := 8) ?hd (cs := #[.bool false, .int .i64 0, .slice none 0 0]) (t := 25) ?hr ?_; (case hd => rfl); (case hg => rfl); (case hr => go_loud (first | (go_simp; done) | (go_simp; rfl))); intro g8 hg8_ w8 hbox8 hb8; have L8 := zG.mk (show w.heap.size ≤ g8 from hg8_ ▸ Nat.le_refl _); clear hg8_; have X8 := zG.mk hbox8; have B8 := zG.mk hb8; clear hbox8 hb8))
    refine wp_scope_ghost_k 0 rfl (fun _ _ _ => False) (fun _ _ _ h_ => h_.elim) (fun K_ hR_ => ?_)
    clear hR_
    go_wp2_with (first | ((with_reducible refine gate_store (t := 25) (p := 8) rfl ?_); refine wpList_store_row rfl 25 _ _ rfl g8 #[.bool false, .int .i64 0, .slice none 0 0] rfl rfl 25 _ X8.out sz26 rfl (by simp [Value.oneCell']) ?_))
    (try simp only [Exit.jump])
    have hX := setRow_heap _ g8 _ #[.bool false, .int .i64 0, .slice none 0 0] _ _ (X8.out)
    refine bodyPost_ret (results_cell_row_tmp2 rfl _ _ g8 25 _ _ _ rfl hX Try.underlying25 rfl sz26) rfl ?_
    exact ⟨rfl, below_setRow (B8.out) L8.out _⟩
  · have d1 : decide (order < 0) = false := decide_eq_false h1
    by_cases h2 : 32 < order
    · have d2 : decide ((32 : Int) < order) = true := decide_eq_true h2
      clear h1 h2 h
      go_wp2_with (first | ((with_reducible refine gate_dst (N := 8) rfl ?_); refine box_event ?hg (N := 8) ?hd (cs := #[.bool false, .int .i64 0, .slice none 0 0]) (t := 25) ?hr ?_; (case hd => rfl); (case hg => rfl); (case hr => go_loud (first | (go_simp; done) | (go_simp; rfl))); intro g8 hg8_ w8 hbox8 hb8; have L8 := zG.mk (show w.heap.size ≤ g8 from hg8_ ▸ Nat.le_refl _); clear hg8_; have X8 := zG.mk hbox8; have B8 := zG.mk hb8; clear hbox8 hb8))
      refine wp_scope_ghost_k 0 rfl (fun _ _ _ => False) (fun _ _ _ h_ => h_.elim) (fun K_ hR_ => ?_)
      clear hR_
      go_wp2_with (first | ((with_reducible refine gate_store (t := 25) (p := 8) rfl ?_); refine wpList_store_row rfl 25 _ _ rfl g8 #[.bool false, .int .i64 0, .slice none 0 0] rfl rfl 25 _ X8.out sz26 rfl (by simp [Value.oneCell']) ?_))
      (try simp only [Exit.jump])
      have hX := setRow_heap _ g8 _ #[.bool false, .int .i64 0, .slice none 0 0] _ _ (X8.out)
      refine bodyPost_ret (results_cell_row_tmp2 rfl _ _ g8 25 _ _ _ rfl hX Try.underlying25 rfl sz26) rfl ?_
      exact ⟨rfl, below_setRow (B8.out) L8.out _⟩
    · have d2 : decide ((32 : Int) < order) = false := decide_eq_false h2
      by_cases h3 : most < 0
      · have d3 : decide (most < 0) = true := decide_eq_true h3
        clear h1 h2 h3 h
        go_wp2_with (first | ((with_reducible refine gate_dst (N := 8) rfl ?_); refine box_event ?hg (N := 8) ?hd (cs := #[.bool false, .int .i64 0, .slice none 0 0]) (t := 25) ?hr ?_; (case hd => rfl); (case hg => rfl); (case hr => go_loud (first | (go_simp; done) | (go_simp; rfl))); intro g8 hg8_ w8 hbox8 hb8; have L8 := zG.mk (show w.heap.size ≤ g8 from hg8_ ▸ Nat.le_refl _); clear hg8_; have X8 := zG.mk hbox8; have B8 := zG.mk hb8; clear hbox8 hb8))
        refine wp_scope_ghost_k 0 rfl (fun _ _ _ => False) (fun _ _ _ h_ => h_.elim) (fun K_ hR_ => ?_)
        clear hR_
        go_wp2_with (first | ((with_reducible refine gate_store (t := 25) (p := 8) rfl ?_); refine wpList_store_row rfl 25 _ _ rfl g8 #[.bool false, .int .i64 0, .slice none 0 0] rfl rfl 25 _ X8.out sz26 rfl (by simp [Value.oneCell']) ?_))
        (try simp only [Exit.jump])
        have hX := setRow_heap _ g8 _ #[.bool false, .int .i64 0, .slice none 0 0] _ _ (X8.out)
        refine bodyPost_ret (results_cell_row_tmp2 rfl _ _ g8 25 _ _ _ rfl hX Try.underlying25 rfl sz26) rfl ?_
        exact ⟨rfl, below_setRow (B8.out) L8.out _⟩
      · have d3 : decide (most < 0) = false := decide_eq_false h3
        have d4 : decide ((8 : Int) < most) = true := decide_eq_true (by omega)
        clear h1 h2 h3 h
        go_wp2_with (first | ((with_reducible refine gate_dst (N := 8) rfl ?_); refine box_event ?hg (N := 8) ?hd (cs := #[.bool false, .int .i64 0, .slice none 0 0]) (t := 25) ?hr ?_; (case hd => rfl); (case hg => rfl); (case hr => go_loud (first | (go_simp; done) | (go_simp; rfl))); intro g8 hg8_ w8 hbox8 hb8; have L8 := zG.mk (show w.heap.size ≤ g8 from hg8_ ▸ Nat.le_refl _); clear hg8_; have X8 := zG.mk hbox8; have B8 := zG.mk hb8; clear hbox8 hb8))
        refine wp_scope_ghost_k 0 rfl (fun _ _ _ => False) (fun _ _ _ h_ => h_.elim) (fun K_ hR_ => ?_)
        clear hR_
        go_wp2_with (first | ((with_reducible refine gate_store (t := 25) (p := 8) rfl ?_); refine wpList_store_row rfl 25 _ _ rfl g8 #[.bool false, .int .i64 0, .slice none 0 0] rfl rfl 25 _ X8.out sz26 rfl (by simp [Value.oneCell']) ?_))
        (try simp only [Exit.jump])
        have hX := setRow_heap _ g8 _ #[.bool false, .int .i64 0, .slice none 0 0] _ _ (X8.out)
        refine bodyPost_ret (results_cell_row_tmp2 rfl _ _ g8 25 _ _ _ rfl hX Try.underlying25 rfl sz26) rfl ?_
        exact ⟨rfl, below_setRow (B8.out) L8.out _⟩
set_option maxHeartbeats 8000000 in
set_option maxRecDepth 100000 in
theorem parts_Best.short (A : Option Addr) (c : Nat) (order most : Int) (wide : Bool) (w : World) (h1 : 0 ≤ order) (h2 : order ≤ 32) (h3 : 0 ≤ most) (h4 : most ≤ 8) :
    Calls Try.prog 18 #[.slice A 0 c, .int .i64 order, .int .i64 most, .bool wide] w fun e w' => e = .returned (.tuple #[.agg #[.bool false, .int .i64 0, .slice none 0 0], .int .i64 0, .int .i64 2]) ∧ Below w.heap.size w w' := by
  have d1 : decide (order < 0) = false := decide_eq_false (by omega)
  have d2 : decide ((32 : Int) < order) = false := decide_eq_false (by omega)
  have d3 : decide (most < 0) = false := decide_eq_false (by omega)
  have d4 : decide ((8 : Int) < most) = false := decide_eq_false (by omega)
  clear h1 h2 h3 h4
  go_enter Try.func18, Try.ntmps18
  go_wp2_with (first | ((with_reducible refine gate_dst (N := 8) rfl ?_); refine box_event ?hg (N := 8) ?hd (cs := #[.bool false, .int .i64 0, .slice none 0 0]) (t := 25) ?hr ?_; (case hd => rfl); (case hg => rfl); (case hr => go_loud (first | (go_simp; done) | (go_simp; rfl))); intro g8 hg8_ w8 hbox8 hb8; have L8 := zG.mk (show w.heap.size ≤ g8 from hg8_ ▸ Nat.le_refl _); clear hg8_; have X8 := zG.mk hbox8; have B8 := zG.mk hb8; clear hbox8 hb8))
  refine wp_scope_ghost_k 0 rfl (fun _ _ _ => False) (fun _ _ _ h_ => h_.elim) (fun K_ hR_ => ?_)
  clear hR_
  go_wp2_with (first | ((with_reducible refine gate_store (t := 25) (p := 8) rfl ?_); refine wpList_store_row rfl 25 _ _ rfl g8 #[.bool false, .int .i64 0, .slice none 0 0] rfl rfl 25 _ X8.out sz26 rfl (by simp [Value.oneCell']) ?_))
  (try simp only [Exit.jump])
  have hX := setRow_heap _ g8 _ #[.bool false, .int .i64 0, .slice none 0 0] _ _ (X8.out)
  refine bodyPost_ret (results_cell_row_tmp2 rfl _ _ g8 25 _ _ _ rfl hX Try.underlying25 rfl sz26) rfl ?_
  exact ⟨rfl, below_setRow (B8.out) L8.out _⟩
set_option maxHeartbeats 8000000 in
set_option maxRecDepth 100000 in
theorem parts_Best.range (k : Nat) (A : Option Addr) (c : Nat) (l : List Int) (order most : Int) (wide : Bool) (w : World) (hr : Kd.C (Kd.int .i64) w A l.length l) (hc : l.length ≤ c) (h1 : 0 ≤ order) (h2 : order ≤ 32) (h3 : 0 ≤ most) (h4 : most ≤ 8) (h5 : l.length ≠ 0) (wd : Int) (hW : cost_Width.f k l = some wd) (hw : wd < 0) :
    Calls Try.prog 18 #[.slice A l.length c, .int .i64 order, .int .i64 most, .bool wide] w fun e w' => e = .returned (.tuple #[.agg #[.bool false, .int .i64 0, .slice none 0 0], .int .i64 0, .int .i64 6]) ∧ Below w.heap.size w w' := by
  have d1 : decide (order < 0) = false := decide_eq_false (by omega)
  have d2 : decide ((32 : Int) < order) = false := decide_eq_false (by omega)
  have d3 : decide (most < 0) = false := decide_eq_false (by omega)
  have d4 : decide ((8 : Int) < most) = false := decide_eq_false (by omega)
  have d5 : ((l.length : Int) == 0) = false := beq_eq_false_iff_ne.2 (by omega)
  have d5' : decide ((l.length : Int) = 0) = false := decide_eq_false (by omega)
  have d6 : decide (wd < 0) = true := decide_eq_true hw
  have HR := zG.mk hr
  have HCc := zG.mk hc
  have HWf := zG.mk hW
  clear h1 h2 h3 h4 h5 hr hc hW hw
  go_enter Try.func18, Try.ntmps18
  go_wp2_with (first | ((with_reducible refine gate_dst (N := 8) rfl ?_); refine box_event ?hg (N := 8) ?hd (cs := #[.bool false, .int .i64 0, .slice none 0 0]) (t := 25) ?hr ?_; (case hd => rfl); (case hg => rfl); (case hr => go_loud (first | (go_simp; done) | (go_simp; rfl))); intro g8 hg8_ w8 hbox8 hb8; have L8 := zG.mk (show w.heap.size ≤ g8 from hg8_ ▸ Nat.le_refl _); clear hg8_; have X8 := zG.mk hbox8; have B8 := zG.mk hb8; clear hbox8 hb8))
  refine wp_scope_ghost_k 0 rfl (fun _ _ _ => False) (fun _ _ _ h_ => h_.elim) (fun K_ hR_ => ?_)
  clear hR_
  go_wp2_with (first | (go_at_call 36; (refine (cost_Width.calls k A c l wd _ (Kd.C_below HR.out B8.out) HCc.out HWf.out).mono ?_); rintro e w5 ⟨rfl, ⟨nd, rfl⟩⟩; have n_ := zG.mk (zL X8.out nd); have m_ := zG.mk (zC B8.out nd); clear X8 B8; have X8 := n_; have B8 := m_; clear n_ m_) | ((with_reducible refine gate_store (t := 25) (p := 8) rfl ?_); refine wpList_store_row rfl 25 _ _ rfl g8 #[.bool false, .int .i64 0, .slice none 0 0] rfl rfl 25 _ X8.out sz26 rfl (by simp [Value.oneCell']) ?_))
  (try simp only [Exit.jump])
  have hX := setRow_heap _ g8 _ #[.bool false, .int .i64 0, .slice none 0 0] _ _ (X8.out)
  refine bodyPost_ret (results_cell_row_tmp2 rfl _ _ g8 25 _ _ _ rfl hX Try.underlying25 rfl sz26) rfl ?_
  exact ⟨rfl, below_setRow (B8.out) L8.out _⟩
set_option linter.unusedSimpArgs false
set_option linter.unusedVariables false
def topO (n order : Int) : Nat → Nat
  | 0 => 0
  | m + 1 => if PL.cutsP n order (m + 1) ≠ [] then m + 1 else topO n order m
theorem topO_le (n order : Int) : ∀ m, topO n order m ≤ m
  | 0 => Nat.le_refl _
  | m + 1 => by have := topO_le n order m; simp only [topO]; split <;> omega
theorem topO_ne {n order : Int} (h : 0 < n) : ∀ m, PL.cutsP n order (topO n order m) ≠ []
  | 0 => by rw [topO, PL.cutsP_0 h]; simp
  | m + 1 => by
    simp only [topO]
    split
    · assumption
    · exact topO_ne h m
theorem topO_max (n order : Int) : ∀ m j, topO n order m < j → j ≤ m → PL.cutsP n order j = []
  | 0, j, h1, h2 => by simp only [topO] at h1; omega
  | m + 1, j, h1, h2 => by
    simp only [topO] at h1
    split at h1
    · omega
    · rename_i hc
      rcases Nat.lt_or_ge m j with h3 | h3
      · obtain rfl : j = m + 1 := by omega
        exact Classical.byContradiction hc
      · exact topO_max n order m j h1 h3
def widF (l : List Int) : Int := (PL.wid l : Int)
def bestOf (l : List Int) (order : Int) (most : Nat) (wide : Bool) : Cur :=
  bestCur wide (topO (l.length : Int) order most) (sumsOf widF (PL.cutsP (l.length : Int) order (topO (l.length : Int) order most)) l)
def partsBest.f (l0 : List Int) (a1 a2 : Int) (a3 : Bool) : Option (Bool × Int × List S50 × Int × Int) :=
  if a1 < 0 ∨ 32 < a1 ∨ a2 < 0 ∨ 8 < a2 then some (false, 0, [], 0, 1)
  else if l0.length = 0 then some (false, 0, [], 0, 2)
  else if 1000 < l0.length then none
  else if PL.NearAll l0 then some ((bestOf l0 a1 a2.toNat a3).f, (bestOf l0 a1 a2.toNat a3).o, (bestOf l0 a1 a2.toNat a3).ps, (bestOf l0 a1 a2.toNat a3).n, 0)
  else some (false, 0, [], 0, 6)
theorem fits_rep (s : Int) (h : 0 ≤ s) : ∀ (m r : Nat), s * m ≤ (r : Int) → Fits (List.replicate m s) r
  | 0, r, _ => trivial
  | m + 1, r, hr => by
    have e : s * ((m + 1 : Nat) : Int) = s * m + s := by rw [Int.natCast_succ, Int.mul_add, Int.mul_one]
    have h0 : 0 ≤ s * (m : Int) := Int.mul_nonneg h (by omega)
    refine ⟨h, by omega, fits_rep s h m _ ?_⟩
    omega
theorem fits_cuts (n : Nat) (order : Int) (ho : 0 ≤ order) (o : Nat) : Fits (PL.cutsP (n : Int) order o) n := by
  unfold PL.cutsP
  split
  · rename_i h
    have hp : (0 : Int) < 2 ^ o := Int.pow_pos (by decide)
    have h3 : ((2 ^ o : Nat) : Int) = (2 : Int) ^ o := by simp
    have hme := Int.mul_ediv_add_emod ((n : Int) + order) (2 ^ o)
    have hp2 : 0 < 2 ^ o := Nat.pow_pos (by decide)
    have e : ((n : Int) + order) / 2 ^ o * ((2 ^ o - 1 : Nat) : Int) = 2 ^ o * (((n : Int) + order) / 2 ^ o) - ((n : Int) + order) / 2 ^ o := by
      rw [show ((2 ^ o - 1 : Nat) : Int) = 2 ^ o - 1 by omega, Int.mul_sub, Int.mul_one, Int.mul_comm]
    have h0 : 0 ≤ ((n : Int) + order) / 2 ^ o * ((2 ^ o - 1 : Nat) : Int) := Int.mul_nonneg (by omega) (by omega)
    exact ⟨by omega, by omega, fits_rep _ (by omega) _ _ (by omega)⟩
  · trivial
theorem ev_upto {α : Type} (g : Nat → Nat → Option α) (r : Nat → α) : ∀ m, (∀ j, j ≤ m → Ev (fun k => g k j) (r j)) → ∃ K, ∀ k, K ≤ k → ∀ j, j ≤ m → g k j = some (r j)
  | 0, h => by
    obtain ⟨K, hK⟩ := h 0 (Nat.le_refl _)
    exact ⟨K, fun k hk j hj => by obtain rfl : j = 0 := by omega
                                  exact hK k hk⟩
  | m + 1, h => by
    obtain ⟨K1, h1⟩ := ev_upto g r m (fun j hj => h j (by omega))
    obtain ⟨K2, h2⟩ := h (m + 1) (Nat.le_refl _)
    refine ⟨max K1 K2, fun k hk j hj => ?_⟩
    rcases Nat.lt_or_ge m j with h3 | h3
    · obtain rfl : j = m + 1 := by omega
      exact h2 k (by omega)
    · exact h1 k (by omega) j h3
theorem wfits_ev : ∀ (cs l : List Int), PL.NearAll l → l.length ≤ 1000 → ∃ K, ∀ k, K ≤ k → WFits k widF cs l
  | [], _, _, _ => ⟨0, fun _ _ => trivial⟩
  | n :: cs, l, hn, hl => by
    have hnt : PL.NearAll (l.take n.toNat) := fun x hx => hn x (List.mem_of_mem_take hx)
    have hnd : PL.NearAll (l.drop n.toNat) := fun x hx => hn x (List.mem_of_mem_drop hx)
    obtain ⟨K1, h1⟩ := PL.width_ev (l.take n.toNat) (by rw [List.length_take]; omega)
    rw [if_pos hnt] at h1
    obtain ⟨K2, h2⟩ := wfits_ev cs (l.drop n.toNat) hnd (by rw [List.length_drop]; omega)
    exact ⟨max K1 K2, fun k hk => ⟨h1 k (by omega), h2 k (by omega)⟩⟩
theorem partsBest.calls (A0 : Option Addr) (c0 : Nat) (l0 : List Int) (a1 : Int) (a2 : Int) (a3 : Bool) (r1 : Bool) (r2 : Int) (r3 : List (S50)) (r4 : Int) (r5 : Int) (w : World) (hr0 : Kd.C (Kd.int .i64) w A0 l0.length l0) (hc0 : l0.length ≤ c0) (h : partsBest.f l0 a1 a2 a3 = some (r1, r2, r3, r4, r5)) :
    Calls Try.prog 18 #[.slice A0 l0.length c0, .int .i64 a1, .int .i64 a2, .bool a3] w fun e w' => ∃ v2_ : Value, e = .returned (.tuple #[.agg #[.bool r1, .int .i64 r2, v2_], .int .i64 r4, .int .i64 r5]) ∧ Kd.R k50 50 w' w.heap.size (fun _ => True) v2_ r3 ∧ Below w.heap.size w w' := by
  unfold partsBest.f at h
  split at h
  · rename_i h1
    simp only [Option.some.injEq, Prod.mk.injEq] at h
    obtain ⟨rfl, rfl, rfl, rfl, rfl⟩ := h
    refine (parts_Best.arg A0 c0 l0.length a1 a2 a3 w h1).mono ?_
    rintro e w' ⟨rfl, hb⟩
    exact ⟨_, rfl, Kd.R_nil k50 50 w' w.heap.size (fun _ => True), hb⟩
  rename_i h1
  obtain ⟨m, rfl⟩ : ∃ m : Nat, a2 = (m : Int) := ⟨a2.toNat, by omega⟩
  split at h
  · rename_i h2
    simp only [Option.some.injEq, Prod.mk.injEq] at h
    obtain ⟨rfl, rfl, rfl, rfl, rfl⟩ := h
    rw [h2]
    refine (parts_Best.short A0 c0 a1 (m : Int) a3 w (by omega) (by omega) (by omega) (by omega)).mono ?_
    rintro e w' ⟨rfl, hb⟩
    exact ⟨_, rfl, Kd.R_nil k50 50 w' w.heap.size (fun _ => True), hb⟩
  rename_i h2
  split at h
  · cases h
  rename_i h3
  obtain ⟨K1, hK1⟩ := PL.width_ev l0 (by omega)
  split at h
  · rename_i hn
    rw [if_pos hn] at hK1
    rw [Int.toNat_natCast] at h
    simp only [Option.some.injEq, Prod.mk.injEq] at h
    obtain ⟨rfl, rfl, rfl, rfl, rfl⟩ := h
    have hlp : (0 : Int) < (l0.length : Int) := by omega
    obtain ⟨K2, hK2⟩ := ev_upto (fun k j => parts_Cuts.f k (l0.length : Int) a1 (j : Int)) (fun j => PL.cutsP (l0.length : Int) a1 j) m (fun j hj => PL.cuts_ev (l0.length : Int) a1 j (by omega) (by omega) (by omega) (by omega) (by omega))
    obtain ⟨K3, hK3⟩ := wfits_ev (PL.cutsP (l0.length : Int) a1 (topO (l0.length : Int) a1 m)) l0 hn (by omega)
    have hne := topO_ne (order := a1) hlp m
    exact parts_Best.goes (max K1 (max K2 K3)) A0 c0 l0 a1 m (topO (l0.length : Int) a1 m) a3 (fun j => PL.cutsP (l0.length : Int) a1 j) widF w hr0 hc0 (hK1 _ (by omega)) (hK3 _ (by omega)) (by omega) (by omega) h2 (by unfold widF; omega) (by omega) (fun j hj => hK2 _ (by omega) j hj) (topO_le _ _ _) hne (fun j h4 h5 => topO_max _ _ m j h4 h5) (fits_cuts l0.length a1 (by omega) _) (PL.cutsP_len hne)
  · rename_i hn
    rw [if_neg hn] at hK1
    simp only [Option.some.injEq, Prod.mk.injEq] at h
    obtain ⟨rfl, rfl, rfl, rfl, rfl⟩ := h
    refine (parts_Best.range K1 A0 c0 l0 a1 (m : Int) a3 w hr0 hc0 (by omega) (by omega) (by omega) (by omega) h2 (-1) (hK1 K1 (Nat.le_refl _)) (by decide)).mono ?_
    rintro e w' ⟨rfl, hb⟩
    exact ⟨_, rfl, Kd.R_nil k50 50 w' w.heap.size (fun _ => True), hb⟩
end Go.Proofs.Ytokdjeoecnnckaa.PA
end
section
namespace Go.Proofs.Ytokdjeoecnnckaa.PA
open Go.RowKit Go.Proofs.YtokdjeoecnnckaaW.PrintWords Go.Proofs.YtokdjeoecnnckaaW.PrintLast Go.Proofs.YtokdjeoecnnckaaW.PrintMore
attribute [local go_sem] max2_int min2_int max_two min_two max_three min_three max_four min_four   -- for this text's walks alone
set_option linter.unusedVariables false
set_option linter.unusedSimpArgs false

def parts_Best.f (l0 : List Int) (a1 a2 : Int) (a3 : Bool) : Option (Bool × Int × List (S50) × Int × Int) := partsBest.f l0 a1 a2 a3
theorem parts_Best.calls (A0 : Option Addr) (c0 : Nat) (l0 : List Int) (a1 : Int) (a2 : Int) (a3 : Bool) (r1 : Bool) (r2 : Int) (r3 : List (S50)) (r4 : Int) (r5 : Int) (w : World) (hr0 : Kd.C (Kd.int .i64) w A0 l0.length l0) (hc0 : l0.length ≤ c0) (h : parts_Best.f l0 a1 a2 a3 = some (r1, r2, r3, r4, r5)) :
    Calls Try.prog 18 #[.slice A0 l0.length c0, .int .i64 a1, .int .i64 a2, .bool a3] w fun e w' => ∃ v2_ : Value, e = .returned (.tuple #[.agg #[.bool r1, .int .i64 r2, v2_], .int .i64 r4, .int .i64 r5]) ∧ Kd.R k50 50 w' w.heap.size (fun _ => True) v2_ r3 ∧ Below w.heap.size w w' := partsBest.calls A0 c0 l0 a1 a2 a3 r1 r2 r3 r4 r5 w hr0 hc0 h
end Go.Proofs.Ytokdjeoecnnckaa.PA
end
section
namespace Go.Proofs.Ytokdjeoecnnckaa.PA
open Go.RowKit Go.Proofs.YtokdjeoecnnckaaW.PrintWords Go.Proofs.YtokdjeoecnnckaaW.PrintLast Go.Proofs.YtokdjeoecnnckaaW.PrintMore
attribute [local go_sem] max2_int min2_int max_two min_two max_three min_three max_four min_four   -- for this text's walks alone
set_option linter.unusedVariables false
set_option linter.unusedSimpArgs false
theorem zI.farT {w0 W : World} {g b j : Nat} {f0 : ByteArray} {f1 : Int} {t : TypeId} (h : zI w0 W g f0 f1) (ht : t ≠ 5 ∧ t ≠ 58) (hb : zA W b t) (u : Value) : zI w0 (W.setCell ⟨b, j, none⟩ u) g f0 f1 := by
  obtain ⟨cs, hb⟩ := hb
  exact h.setOther hb ht j u
theorem zI.as {w0 W X : World} {g : Nat} {f0 : ByteArray} {f1 : Int} (_ : zI w0 W g f0 f1) (k : zI w0 X g f0 f1) : zI w0 X g f0 f1 := k

mutual
noncomputable def serinettelaw15_SectionBest.j0 : Nat → List Int → Int → Int → Bool → Bool → Bool → Option (Bool)
  | 0, _, _, _, _, _, _ => none
  | k + 1, x0, x1, x2, x3, x9, x30 => if x30 = true then (some x9) else (serinettelaw15_SectionBest.l0 k x0 x1 x2 x3 x9 ([] : List Int) 0)
noncomputable def serinettelaw15_SectionBest.l0 : Nat → List Int → Int → Int → Bool → Bool → List Int → Int → Option (Bool)
  | 0, _, _, _, _, _, _, _ => none
  | k + 1, x0, x1, x2, x3, x9, x10, x11 => if x11 < (x0.length : Int) then (if 0 ≤ x11 then (if x10.length < 17592186044416 then (serinettelaw15_SectionBest.l0 k x0 x1 x2 x3 x9 (x10 ++ [Int.tmod (wrap64 (rd x0 x11)) 1048577]) (wrap64 (x11 + 1))) else (none)) else (none)) else ((parts_Best.f x10 (wrap64 (Int.tmod x1 33)) (wrap64 (Int.tmod x2 9)) x3).bind fun bt361 => ((bits_New.f).bind fun bt369 => (if bt361.2.2.2.2 = 0 then ((section_Put.f bt369.1 bt369.2 x10 (wrap64 (Int.tmod x1 33)) bt361.1 bt361.2.1 bt361.2.2.1).bind fun bt372 => ((bits_Writer_Bytes.f bt372.2.1 bt372.2.2).bind fun bt375 => ((bits_Open.f bt375.1).bind fun bt380 => ((section_Take.f k bt380.1 bt380.2.1 bt380.2.2 (wrap64 ((x10.length : Int) + (wrap64 (Int.tmod x1 33)))) (wrap64 (Int.tmod x1 33))).bind fun bt384 => (if x9 = true then (if bt372.1 = 0 then ((bits_Writer_Len.f bt375.2.1 bt375.2.2).bind fun bt396 => (if bt396.1 = bt361.2.2.2.1 then (if bt384.2.2.2.2.1 = 0 then ((serinetteref01_Ints.f k x10 bt384.1).bind fun t399 => (if t399 = true then ((serinetteref14_Same.f k bt361.1 bt361.2.1 bt361.2.2.1 bt384.2.1 bt384.2.2.1 bt384.2.2.2.1).bind fun t400 => (some t400)) else (some false))) else (some false)) else (some false))) else (some false)) else (some false)))))) else (some false))))
end
noncomputable def serinettelaw15_SectionBest.f (k : Nat) (l0 : List Int) (a1 : Int) (a2 : Int) (a3 : Bool) : Option (Bool) := (serinettelaw15_awake.f k).bind fun t356 => (if (l0.length : Int) > 60 then (serinettelaw15_SectionBest.j0 k l0 a1 a2 a3 t356 true) else (serinettelaw15_SectionBest.j0 k l0 a1 a2 a3 t356 ((l0.length : Int) == 0)))
set_option maxHeartbeats 8000000 in
set_option maxRecDepth 100000 in
theorem serinettelaw15_SectionBest.calls (k : Nat) (A0 : Option Addr) (c0 : Nat) (l0 : List Int) (a1 : Int) (a2 : Int) (a3 : Bool) (r : Bool) (w : World) (hr0 : Kd.C (Kd.int .i32) w A0 l0.length l0) (hc0 : l0.length ≤ c0) (h : serinettelaw15_SectionBest.f k l0 a1 a2 a3 = some r) :
    Calls Try.prog 4 #[.slice A0 l0.length c0, .int .u8 a1, .int .u8 a2, .bool a3] w fun e w' => e = .returned (.bool r) ∧ Below w.heap.size w w' := by
  have hu25 := Try.underlying25
  have HR0 := zG.mk hr0
  have HC0 := zG.mk hc0
  clear hr0 hc0
  have HB := zG.mk (Below.refl w.heap.size w)
  have H : ((serinettelaw15_awake.f k).bind fun t356 => (if (l0.length : Int) > 60 then (serinettelaw15_SectionBest.j0 k l0 a1 a2 a3 t356 true) else (serinettelaw15_SectionBest.j0 k l0 a1 a2 a3 t356 ((l0.length : Int) == 0)))) = some r := h
  clear h
  replace H := Option.bind_eq_some_iff.mp H
  obtain ⟨t356, A50, H⟩ := H
  replace H : (if (l0.length : Int) > 60 then (serinettelaw15_SectionBest.j0 k l0 a1 a2 a3 t356 true) else (serinettelaw15_SectionBest.j0 k l0 a1 a2 a3 t356 ((l0.length : Int) == 0))) = some r := H
  have A5 := zG.mk A50
  clear A50
  have HC6 := zG.mk H
  clear H
  go_enter Try.func4, Try.ntmps4
  go_upto_region 2 with (first | ((with_reducible refine gate_callee (f := 6) rfl ?_); refine goesL_ (some 22) rfl rfl Try.func6 (by kernel_rfl) rfl #[] rfl (by (try simp only [List.map_toArray, List.map_cons, List.map_nil]); first | done | rfl | (simp only [List.length_drop, List.length_take]; rfl)) ?_; (with_reducible refine (serinettelaw15_awake.calls k  t356 _ A5.out).mono ?_); rintro e w7 ⟨rfl, hb⟩; refine ⟨_, rfl, ?_⟩; have n0_ := zG.mk (below_step (by repeat (first | (with_reducible first | exact HB.out | apply zF | apply zC | apply zD) | exact HB.out)) hb); clear HB; have HB := n0_; clear n0_; (try clear hb); (try clear hb2); (try clear hk); (try clear hi)))
  (try simp only [Act.put, List.setIfInBounds_toArray, List.set_cons_zero, List.set_cons_succ])
  go_cut [30] (fun v30 wc => ∃ (kq : Nat) (x30_5 : Bool), v30 = .bool x30_5 ∧ zG (serinettelaw15_SectionBest.j0 kq l0 a1 a2 a3 t356 x30_5 = some r) ∧ zG (kq ≤ k) ∧ zG (Below w.heap.size w wc))
  case first =>
    have H := HC6.out
    clear HC6
    by_cases c8 : (l0.length : Int) > 60
    · rw [if_pos c8] at H
      have c8b0 : decide (60 < (l0.length : Int)) = true := decide_eq_true c8
      have c8b1 : decide (60 < l0.length) = true := decide_eq_true (by omega)
      clear c8
      (first | rw [c8b0] | (simp only [i64_w, i32_w]; rw [c8b0]) | skip)
      have H' := zG.mk H
      clear H
      go_wp2
      go_meet
      case rel => exact ⟨_, (true), (by first | rfl | (simp; done) | (simp only [i64_w, i32_w]; done) | (simp [*]; done) | (simp only [i64_w, i32_w]; first | rfl | (simp; done) | (simp [*]; done))), H', ⟨by first | omega | exact Nat.le_refl _⟩, ⟨by repeat (first | (with_reducible first | exact HB.out | apply zF | apply zC | apply zD) | exact HB.out)⟩⟩
    · rw [if_neg c8] at H
      have c8b0 : decide (60 < (l0.length : Int)) = false := decide_eq_false c8
      have c8b1 : decide (60 < l0.length) = false := decide_eq_false (by omega)
      clear c8
      (first | rw [c8b0] | (simp only [i64_w, i32_w]; rw [c8b0]) | skip)
      have H' := zG.mk H
      clear H
      go_wp2
      go_meet
      case rel => exact ⟨_, (((l0.length : Int) == 0)), (by first | rfl | (simp; done) | (simp only [i64_w, i32_w]; done) | (simp [*]; done) | (simp only [i64_w, i32_w]; first | rfl | (simp; done) | (simp [*]; done))), H', ⟨by first | omega | exact Nat.le_refl _⟩, ⟨by repeat (first | (with_reducible first | exact HB.out | apply zF | apply zC | apply zD) | exact HB.out)⟩⟩
  case rest =>
    clear HC6
    try clear p2
    try clear c4
    try clear c6
    try clear c8
    try clear c8b0
    try clear c8b1
    obtain ⟨kq, x30_5, rfl, HA, HJ5, HB⟩ := hcut
    cases kq with
    | zero => exact absurd HA.out (by simp [serinettelaw15_SectionBest.j0])
    | succ kj5 =>
      have H := HA.out
      clear HA
      simp only [serinettelaw15_SectionBest.j0] at H
      by_cases c9 : x30_5 = true
      · subst c9
        have H1 : (some t356) = some r := by rw [if_pos rfl] at H; exact H
        clear H
        have H := H1
        clear H1
        obtain rfl := Option.some.inj H
        go_wp2
        go_ret
        exact ⟨by first | rfl | (simp [errW_none, errW_some] <;> rfl) | (simp [*, errW_none, errW_some] <;> rfl), by repeat (first | (with_reducible first | exact HB.out | apply zF | apply zC | apply zD) | exact HB.out)⟩
      · replace c9 := Bool.eq_false_iff.mpr c9
        subst c9
        have H1 : (serinettelaw15_SectionBest.l0 kj5 l0 a1 a2 a3 t356 ([] : List Int) 0) = some r := by rw [if_neg (show ¬ (false = true) by decide)] at H; exact H
        clear H
        have H := H1
        clear H1
        have H' := zG.mk H
        clear H
        go_wp2
        go_loopg [10, 11] kj5 (fun kq v10 v11 w' => ∃ (x10_2 : List Int) (x11_2 : Int), v11 = .int .i64 x11_2 ∧ zG (serinettelaw15_SectionBest.l0 kq l0 a1 a2 a3 t356 x10_2 x11_2 = some r) ∧ zG (kq ≤ kj5) ∧ zG (Kd.R (Kd.int .i64) 3 w' w.heap.size (fun _ => True) v10 x10_2) ∧ zG (Below w.heap.size w w'))
        case atStart => exact ⟨(([] : List Int)), (0), (by first | rfl | (simp; done) | (simp only [i64_w, i32_w]; done) | (simp [*]; done) | (simp only [i64_w, i32_w]; first | rfl | (simp; done) | (simp [*]; done))), H', ⟨Nat.le_refl _⟩, ⟨by first | exact Kd.R_nil _ _ _ _ _ | exact Kd.N_nil _ _ _ _ _ | exact Kd.V_nil _ _ _ _ _ | exact Kd.Q_nil _ _ _ _ _ | exact Kd.S_nil _ _ _ _ _⟩, ⟨by repeat (first | (with_reducible first | exact HB.out | apply zF | apply zC | apply zD) | exact HB.out)⟩⟩
        case round =>
          clear H'
          try clear p2
          try clear c4
          try clear c6
          try clear c8
          try clear c8b0
          try clear c8b1
          try clear c9
          try clear p2
          obtain ⟨x10_2, x11_2, rfl, HA, HK2, HO_10, HB⟩ := hrel
          cases gk with
          | zero => exact absurd HA.out (by simp [serinettelaw15_SectionBest.l0])
          | succ k2 =>
            have H := HA.out
            clear HA
            simp only [serinettelaw15_SectionBest.l0] at H
            by_cases c10 : x11_2 < (l0.length : Int)
            · rw [if_pos c10] at H
              have c10b0 : decide (x11_2 < (l0.length : Int)) = true := decide_eq_true c10
              clear c10
              by_cases c11 : 0 ≤ x11_2
              · rw [if_pos c11] at H
                have c11b0 : decide (0 ≤ x11_2) = true := decide_eq_true c11
                clear c11
                by_cases c12 : x10_2.length < 17592186044416
                · rw [if_pos c12] at H
                  have LMc12 := zG.mk c12
                  clear c12
                  obtain ⟨y358, hy358⟩ : ∃ y_ : List Int, y_ = (x10_2 ++ [Int.tmod (wrap64 (rd l0 x11_2)) 1048577]) := ⟨_, rfl⟩
                  replace H : (serinettelaw15_SectionBest.l0 k2 l0 a1 a2 a3 t356 y358 (wrap64 (x11_2 + 1))) = some r := by first | (rw [hy358]; with_reducible exact H) | (have H2_ := (Option.bind_some _ _).symm.trans H; rw [hy358]; with_reducible exact H2_) | (have H2_ := (Option.bind_some _ _).symm.trans H; with_reducible exact H2_) | with_reducible exact H | (rw [hy358]; exact H) | exact H
                  have Ny358 := zG.mk hy358
                  clear hy358
                  have H' := zG.mk H
                  clear H
                  have p357 : 0 ≤ (x11_2 : Int) := of_decide_eq_true (by first | (with_reducible assumption) | assumption)
                  have q357 : x11_2 < (l0.length : Int) := of_decide_eq_true (by first | (with_reducible assumption) | assumption)
                  obtain ⟨ad357, e357, hx357_0⟩ := Kd.at_int HR0.out x11_2 p357 q357
                  cases e357
                  replace hx357_0 := (HB.out.cell (World.block_lt_of_cell? w _ hx357_0)).trans hx357_0
                  replace p357 := eq_true p357
                  replace q357 := eq_true q357
                  go_wp2_with (first | ((with_reducible refine gate_builtin (b := .append) (xs := #[.tmp 38, .tmp 45]) rfl ?_); (try (refine gate_guard (by rfl) ?_; dsimp only)); at_builtin; refine Kd.R_append (Kd.int .i64) (w0 := w) w.heap.size rfl (.tmp 38) (.tmp 45) 22 3 (.int .i64 0) 8 rfl Try.underlying22 info3 rfl (by decide) (by omega) u10 x10_2 (Int.tmod (wrap64 (rd l0 x11_2)) 1048577) [.int .i64 (Int.tmod (wrap64 (rd l0 x11_2)) 1048577)] (fun _ => True) (fun _ => False) rfl rfl ?aP (fun _ hk => hk.elim) ?aF ?aO ?aB ?aS ?aL ?_; (case aP => exact rfl); (case aB => exact (by repeat (first | (with_reducible first | exact HB.out | apply zF | apply zC | apply zD) | exact HB.out))); (case aF => exact (fun _ _ => trivial)); (case aO => exact (by (with_reducible repeat (first | apply Kd.zS | apply Kd.zQ | apply Kd.zR)); exact HO_10.out)); (case aS => exact (below_size (by repeat (first | (with_reducible first | exact HB.out | apply zF | apply zC | apply zD) | exact HB.out)))); (case aL => have := LMc12.out; omega); intro v359 w13 ho hb hg hat; rw [← Ny358.out] at ho; have n0_ := zG.mk (hb); have n1_ := zG.mk (ho); clear HB; clear HO_10; have HB := n0_; have HO360 := n1_; clear n0_ n1_; clear ho hb hg hat))
                  go_roundg k2
                  case measure => have := HJ5.out; have := HK2.out; omega
                  case rel => exact ⟨(y358), (wrap64 (x11_2 + 1)), (by first | rfl | (simp; done) | (simp only [i64_w, i32_w]; done) | (simp [*]; done) | (simp only [i64_w, i32_w]; first | rfl | (simp; done) | (simp [*]; done))), H', ⟨by have := HJ5.out; have := HK2.out; omega⟩, ⟨by (with_reducible repeat (first | apply Kd.zS | apply Kd.zQ | apply Kd.zR)); exact HO360.out⟩, ⟨by repeat (first | (with_reducible first | exact HB.out | apply zF | apply zC | apply zD) | exact HB.out)⟩⟩
                · rw [if_neg c12] at H
                  exact absurd H (by simp)
              · rw [if_neg c11] at H
                exact absurd H (by simp)
            · rw [if_neg c10] at H
              have c10b0 : decide (x11_2 < (l0.length : Int)) = false := decide_eq_false c10
              clear c10
              replace H := Option.bind_eq_some_iff.mp H
              obtain ⟨⟨t361, t362, t363, t366, t367⟩, A140, H⟩ := H
              replace H : ((bits_New.f).bind fun bt369 => (if t367 = 0 then ((section_Put.f bt369.1 bt369.2 x10_2 (wrap64 (Int.tmod a1 33)) t361 t362 t363).bind fun bt372 => ((bits_Writer_Bytes.f bt372.2.1 bt372.2.2).bind fun bt375 => ((bits_Open.f bt375.1).bind fun bt380 => ((section_Take.f k2 bt380.1 bt380.2.1 bt380.2.2 (wrap64 ((x10_2.length : Int) + (wrap64 (Int.tmod a1 33)))) (wrap64 (Int.tmod a1 33))).bind fun bt384 => (if t356 = true then (if bt372.1 = 0 then ((bits_Writer_Len.f bt375.2.1 bt375.2.2).bind fun bt396 => (if bt396.1 = t366 then (if bt384.2.2.2.2.1 = 0 then ((serinetteref01_Ints.f k2 x10_2 bt384.1).bind fun t399 => (if t399 = true then ((serinetteref14_Same.f k2 t361 t362 t363 bt384.2.1 bt384.2.2.1 bt384.2.2.2.1).bind fun t400 => (some t400)) else (some false))) else (some false)) else (some false))) else (some false)) else (some false)))))) else (some false))) = some r := H
              have A14 := zG.mk A140
              clear A140
              replace H := Option.bind_eq_some_iff.mp H
              obtain ⟨⟨t369, t370⟩, A150, H⟩ := H
              replace H : (if t367 = 0 then ((section_Put.f t369 t370 x10_2 (wrap64 (Int.tmod a1 33)) t361 t362 t363).bind fun bt372 => ((bits_Writer_Bytes.f bt372.2.1 bt372.2.2).bind fun bt375 => ((bits_Open.f bt375.1).bind fun bt380 => ((section_Take.f k2 bt380.1 bt380.2.1 bt380.2.2 (wrap64 ((x10_2.length : Int) + (wrap64 (Int.tmod a1 33)))) (wrap64 (Int.tmod a1 33))).bind fun bt384 => (if t356 = true then (if bt372.1 = 0 then ((bits_Writer_Len.f bt375.2.1 bt375.2.2).bind fun bt396 => (if bt396.1 = t366 then (if bt384.2.2.2.2.1 = 0 then ((serinetteref01_Ints.f k2 x10_2 bt384.1).bind fun t399 => (if t399 = true then ((serinetteref14_Same.f k2 t361 t362 t363 bt384.2.1 bt384.2.2.1 bt384.2.2.2.1).bind fun t400 => (some t400)) else (some false))) else (some false)) else (some false))) else (some false)) else (some false)))))) else (some false)) = some r := H
              have A15 := zG.mk A150
              clear A150
              by_cases c16 : t367 = 0
              focus
                rw [if_pos c16] at H
                have c16b0 : (t367 == 0) = true := beq_iff_eq.mpr c16
                have c16b1 : (t367 != 0) = false := bne_eq_false_iff_eq.mpr c16
                clear c16
                replace H := Option.bind_eq_some_iff.mp H
                obtain ⟨⟨t372, t373, t374⟩, A170, H⟩ := H
                replace H : ((bits_Writer_Bytes.f t373 t374).bind fun bt375 => ((bits_Open.f bt375.1).bind fun bt380 => ((section_Take.f k2 bt380.1 bt380.2.1 bt380.2.2 (wrap64 ((x10_2.length : Int) + (wrap64 (Int.tmod a1 33)))) (wrap64 (Int.tmod a1 33))).bind fun bt384 => (if t356 = true then (if t372 = 0 then ((bits_Writer_Len.f bt375.2.1 bt375.2.2).bind fun bt396 => (if bt396.1 = t366 then (if bt384.2.2.2.2.1 = 0 then ((serinetteref01_Ints.f k2 x10_2 bt384.1).bind fun t399 => (if t399 = true then ((serinetteref14_Same.f k2 t361 t362 t363 bt384.2.1 bt384.2.2.1 bt384.2.2.2.1).bind fun t400 => (some t400)) else (some false))) else (some false)) else (some false))) else (some false)) else (some false))))) = some r := H
                have A17 := zG.mk A170
                clear A170
                replace H := Option.bind_eq_some_iff.mp H
                obtain ⟨⟨t375, t378, t379⟩, A180, H⟩ := H
                replace H : ((bits_Open.f t375).bind fun bt380 => ((section_Take.f k2 bt380.1 bt380.2.1 bt380.2.2 (wrap64 ((x10_2.length : Int) + (wrap64 (Int.tmod a1 33)))) (wrap64 (Int.tmod a1 33))).bind fun bt384 => (if t356 = true then (if t372 = 0 then ((bits_Writer_Len.f t378 t379).bind fun bt396 => (if bt396.1 = t366 then (if bt384.2.2.2.2.1 = 0 then ((serinetteref01_Ints.f k2 x10_2 bt384.1).bind fun t399 => (if t399 = true then ((serinetteref14_Same.f k2 t361 t362 t363 bt384.2.1 bt384.2.2.1 bt384.2.2.2.1).bind fun t400 => (some t400)) else (some false))) else (some false)) else (some false))) else (some false)) else (some false)))) = some r := H
                have A18 := zG.mk A180
                clear A180
                replace H := Option.bind_eq_some_iff.mp H
                obtain ⟨⟨t380, t381, t382⟩, A190, H⟩ := H
                replace H : ((section_Take.f k2 t380 t381 t382 (wrap64 ((x10_2.length : Int) + (wrap64 (Int.tmod a1 33)))) (wrap64 (Int.tmod a1 33))).bind fun bt384 => (if t356 = true then (if t372 = 0 then ((bits_Writer_Len.f t378 t379).bind fun bt396 => (if bt396.1 = t366 then (if bt384.2.2.2.2.1 = 0 then ((serinetteref01_Ints.f k2 x10_2 bt384.1).bind fun t399 => (if t399 = true then ((serinetteref14_Same.f k2 t361 t362 t363 bt384.2.1 bt384.2.2.1 bt384.2.2.2.1).bind fun t400 => (some t400)) else (some false))) else (some false)) else (some false))) else (some false)) else (some false))) = some r := H
                have A19 := zG.mk A190
                clear A190
                replace H := Option.bind_eq_some_iff.mp H
                obtain ⟨⟨t384, t387, t388, t389, t392, t393, t394⟩, A200, H⟩ := H
                replace H : (if t356 = true then (if t372 = 0 then ((bits_Writer_Len.f t378 t379).bind fun bt396 => (if bt396.1 = t366 then (if t392 = 0 then ((serinetteref01_Ints.f k2 x10_2 t384).bind fun t399 => (if t399 = true then ((serinetteref14_Same.f k2 t361 t362 t363 t387 t388 t389).bind fun t400 => (some t400)) else (some false))) else (some false)) else (some false))) else (some false)) else (some false)) = some r := H
                have A20 := zG.mk A200
                clear A200
                by_cases c21 : t356 = true
                focus
                  subst c21
                  have H1 : (if t372 = 0 then ((bits_Writer_Len.f t378 t379).bind fun bt396 => (if bt396.1 = t366 then (if t392 = 0 then ((serinetteref01_Ints.f k2 x10_2 t384).bind fun t399 => (if t399 = true then ((serinetteref14_Same.f k2 t361 t362 t363 t387 t388 t389).bind fun t400 => (some t400)) else (some false))) else (some false)) else (some false))) else (some false)) = some r := by rw [if_pos rfl] at H; exact H
                  clear H
                  have H := H1
                  clear H1
                  by_cases c22 : t372 = 0
                  focus
                    rw [if_pos c22] at H
                    have c22b0 : (t372 == 0) = true := beq_iff_eq.mpr c22
                    have c22b1 : (t372 != 0) = false := bne_eq_false_iff_eq.mpr c22
                    clear c22
                    replace H := Option.bind_eq_some_iff.mp H
                    obtain ⟨⟨t396, t397, t398⟩, A230, H⟩ := H
                    replace H : (if t396 = t366 then (if t392 = 0 then ((serinetteref01_Ints.f k2 x10_2 t384).bind fun t399 => (if t399 = true then ((serinetteref14_Same.f k2 t361 t362 t363 t387 t388 t389).bind fun t400 => (some t400)) else (some false))) else (some false)) else (some false)) = some r := H
                    have A23 := zG.mk A230
                    clear A230
                    by_cases c24 : t396 = t366
                    focus
                      rw [if_pos c24] at H
                      have c24b0 : (t396 == t366) = true := beq_iff_eq.mpr c24
                      have c24b1 : (t396 != t366) = false := bne_eq_false_iff_eq.mpr c24
                      clear c24
                      by_cases c25 : t392 = 0
                      focus
                        rw [if_pos c25] at H
                        have c25b0 : (t392 == 0) = true := beq_iff_eq.mpr c25
                        have c25b1 : (t392 != 0) = false := bne_eq_false_iff_eq.mpr c25
                        clear c25
                        replace H := Option.bind_eq_some_iff.mp H
                        obtain ⟨t399, A260, H⟩ := H
                        replace H : (if t399 = true then ((serinetteref14_Same.f k2 t361 t362 t363 t387 t388 t389).bind fun t400 => (some t400)) else (some false)) = some r := H
                        have A26 := zG.mk A260
                        clear A260
                        by_cases c27 : t399 = true
                        focus
                          subst c27
                          have H1 : ((serinetteref14_Same.f k2 t361 t362 t363 t387 t388 t389).bind fun t400 => (some t400)) = some r := by rw [if_pos rfl] at H; exact H
                          clear H
                          have H := H1
                          clear H1
                          replace H := Option.bind_eq_some_iff.mp H
                          obtain ⟨t400, A280, H⟩ := H
                          replace H : (some t400) = some r := H
                          have A28 := zG.mk A280
                          clear A280
                          obtain rfl := Option.some.inj H
                          obtain ⟨Ao29, co29, eo29⟩ := Kd.R_slice HO_10.out
                          subst eo29
                        rotate_left 1
                        focus
                          replace c27 := Bool.eq_false_iff.mpr c27
                          subst c27
                          have H1 : (some false) = some r := by rw [if_neg (show ¬ (false = true) by decide)] at H; exact H
                          clear H
                          have H := H1
                          clear H1
                          obtain rfl := Option.some.inj H
                          obtain ⟨Ao29, co29, eo54⟩ := Kd.R_slice HO_10.out
                          subst eo54
                      rotate_left 2
                      focus
                        rw [if_neg c25] at H
                        have c25b0 : (t392 == 0) = false := beq_eq_false_iff_ne.mpr c25
                        have c25b1 : (t392 != 0) = true := bne_iff_ne.mpr c25
                        obtain rfl := Option.some.inj H
                        obtain ⟨Ao29, co29, eo75⟩ := Kd.R_slice HO_10.out
                        subst eo75
                    rotate_left 3
                    focus
                      rw [if_neg c24] at H
                      have c24b0 : (t396 == t366) = false := beq_eq_false_iff_ne.mpr c24
                      have c24b1 : (t396 != t366) = true := bne_iff_ne.mpr c24
                      obtain rfl := Option.some.inj H
                      obtain ⟨Ao29, co29, eo95⟩ := Kd.R_slice HO_10.out
                      subst eo95
                  rotate_left 4
                  focus
                    rw [if_neg c22] at H
                    have c22b0 : (t372 == 0) = false := beq_eq_false_iff_ne.mpr c22
                    have c22b1 : (t372 != 0) = true := bne_iff_ne.mpr c22
                    obtain rfl := Option.some.inj H
                    obtain ⟨Ao29, co29, eo115⟩ := Kd.R_slice HO_10.out
                    subst eo115
                rotate_left 5
                focus
                  replace c21 := Bool.eq_false_iff.mpr c21
                  subst c21
                  have H1 : (some false) = some r := by rw [if_neg (show ¬ (false = true) by decide)] at H; exact H
                  clear H
                  have H := H1
                  clear H1
                  obtain rfl := Option.some.inj H
                  obtain ⟨Ao29, co29, eo134⟩ := Kd.R_slice HO_10.out
                  subst eo134
              rotate_left 6
              focus
                rw [if_neg c16] at H
                have c16b0 : (t367 == 0) = false := beq_eq_false_iff_ne.mpr c16
                have c16b1 : (t367 != 0) = true := bne_iff_ne.mpr c16
                obtain rfl := Option.some.inj H
                obtain ⟨Ao29, co29, eo153⟩ := Kd.R_slice HO_10.out
                subst eo153
              all_goals
                go_wp2_with (first | ((with_reducible refine gate_callee (f := 18) rfl ?_); refine goesL_ (some 57) rfl rfl Try.func18 (by kernel_rfl) rfl #[.slice Ao29 x10_2.length co29, .int .i64 (wrap64 (Int.tmod a1 33)), .int .i64 (wrap64 (Int.tmod a2 9)), .bool a3] rfl (by (try simp only [List.map_toArray, List.map_cons, List.map_nil]); first | done | rfl | (simp only [List.length_drop, List.length_take]; rfl)) ?_; (with_reducible refine (parts_Best.calls _ _ x10_2 (wrap64 (Int.tmod a1 33)) (wrap64 (Int.tmod a2 9)) a3 t361 t362 t363 t366 t367 _ ?side1 ?side2 A14.out).mono ?_); (case side1 => repeat (first | exact (Kd.R_reads' HO_10.out).2.2 | (with_reducible refine Kd.zV ?_ _) | (with_reducible refine Kd.zT ?_ _) | (with_reducible refine Kd.zU ?_))); (case side2 => exact (Kd.R_reads' HO_10.out).2.1); rintro e w30 ⟨v364, rfl, ho0, hb⟩; refine ⟨_, rfl, ?_⟩; have n0_ := zG.mk (Kd.R_below (by (with_reducible repeat (first | apply Kd.zS | apply Kd.zQ | apply Kd.zR)); exact HO_10.out) hb); have n1_ := zG.mk (Kd.R_lower ho0 (below_size (by repeat (first | (with_reducible first | exact HB.out | apply zF | apply zC | apply zD) | exact HB.out)))); have n2_ := zG.mk (below_step (by repeat (first | (with_reducible first | exact HB.out | apply zF | apply zC | apply zD) | exact HB.out)) hb); clear HO_10; clear HB; have HO_10 := n0_; have HO365 := n1_; have HB := n2_; clear n0_ n1_ n2_; (try clear hb); (try clear hb2); (try clear hk); (try clear hi); (try clear ho0)) | ((with_reducible refine gate_dst (N := 13) rfl ?_); (try (refine gate_guard (by rfl) ?_; dsimp only)); refine box_event ?hg (N := 13) ?hd (cs := #[.bool false, .int .i64 0, .slice none 0 0]) (t := 25) ?hr ?_; (case hd => rfl); (case hg => rfl); (case hr => first | (go_simp; done) | (go_simp; rfl)); intro gb368 hg w31 hbox hb; have n0_ := zG.mk (Kd.R_below (by (with_reducible repeat (first | apply Kd.zS | apply Kd.zQ | apply Kd.zR)); exact HO_10.out) hb); have n1_ := zG.mk (Kd.R_below (by (with_reducible repeat (first | apply Kd.zS | apply Kd.zQ | apply Kd.zR)); exact HO365.out) hb); have n2_ := zG.mk (below_step (by repeat (first | (with_reducible first | exact HB.out | apply zF | apply zC | apply zD) | exact HB.out)) hb); have n3_ := zG.mk (hbox); have n4_ := zG.mk ((by rw [hg]; exact (below_size (by repeat (first | (with_reducible first | exact HB.out | apply zF | apply zC | apply zD) | exact HB.out))) : w.heap.size ≤ gb368)); have n5_ := zG.mk ((by rw [hg]; exact (below_size (by repeat (first | (with_reducible first | exact HB.out | apply zF | apply zC | apply zD) | exact HB.out))) : w.heap.size ≤ gb368)); clear HO_10; clear HO365; clear HB; have HO_10 := n0_; have HO365 := n1_; have HB := n2_; have BK368 := n3_; have GW368 := n4_; have GE368 := n5_; clear n0_ n1_ n2_ n3_ n4_ n5_; clear hb hbox hg; have hcz32_0 : w31.cell? ⟨gb368, 0, none⟩ = some (.bool false) := (zN BK368.out 0).trans rfl; have hcz32_1 : w31.cell? ⟨gb368, 1, none⟩ = some (.int .i64 0) := (zN BK368.out 1).trans rfl; have hcz32_2 : w31.cell? ⟨gb368, 2, none⟩ = some (.slice none 0 0) := (zN BK368.out 2).trans rfl; have hfz32_0 := zO BK368.out 0; have hfz32_1 := zO BK368.out 1; have hfz32_2 := zO BK368.out 2; obtain ⟨Ao33, co33, eo33⟩ := Kd.R_slice HO365.out; subst eo33) | ((with_reducible refine gate_callee (f := 8) rfl ?_); refine goesL_ (some 61) rfl rfl Try.func8 (by kernel_rfl) rfl #[] rfl (by (try simp only [List.map_toArray, List.map_cons, List.map_nil]); first | done | rfl | (simp only [List.length_drop, List.length_take]; rfl)) ?_; (with_reducible refine (bits_New.calls  t369 t370 w _ ?side1 A15.out).mono ?_); (case side1 => repeat (first | (with_reducible first | exact HB.out | apply zF | apply zC | apply zD | refine zE ?_ GE368.out) | exact HB.out)); rintro e w34 ⟨g371, rfl, hi, hb, hb2⟩; refine ⟨_, rfl, ?_⟩; have n0_ := zG.mk (Kd.R_below (by (with_reducible repeat (first | apply Kd.zS | apply Kd.zQ | apply Kd.zR)); exact (Kd.R_mono (Kd.R_far (p := ⟨gb368, 2, none⟩) (Kd.R_far (p := ⟨gb368, 1, none⟩) (Kd.R_far (p := ⟨gb368, 0, none⟩) (Kd.R_types HO_10.out BK368.out (by decide)) (fun _ hk => hk.2) (.bool t361)) (fun _ hk => hk.2) (.int .i64 t362)) (fun _ hk => hk.2) (.slice Ao33 t363.length co33)) (fun _ h_ => h_.1))) hb2); have n1_ := zG.mk (Kd.R_below (by (with_reducible repeat (first | apply Kd.zS | apply Kd.zQ | apply Kd.zR)); exact (Kd.R_mono (Kd.R_far (p := ⟨gb368, 2, none⟩) (Kd.R_far (p := ⟨gb368, 1, none⟩) (Kd.R_far (p := ⟨gb368, 0, none⟩) (Kd.R_types HO365.out BK368.out (by decide)) (fun _ hk => hk.2) (.bool t361)) (fun _ hk => hk.2) (.int .i64 t362)) (fun _ hk => hk.2) (.slice Ao33 t363.length co33)) (fun _ h_ => h_.1))) hb2); have n2_ := zG.mk (blk_below (g := gb368) (o := .cells #[.bool t361, .int .i64 t362, .slice Ao33 t363.length co33] 25 (0, 0)) (by (with_reducible repeat (first | refine zL ?_ _ | refine zM ?_ | refine zK ?_ _)); refine blk_put (cs := #[.bool t361, .int .i64 t362, .slice none 0 0]) ?_ 2 _ rfl; (with_reducible repeat (first | refine zL ?_ _ | refine zM ?_ | refine zK ?_ _)); refine blk_put (cs := #[.bool t361, .int .i64 0, .slice none 0 0]) ?_ 1 _ rfl; (with_reducible repeat (first | refine zL ?_ _ | refine zM ?_ | refine zK ?_ _)); refine blk_put (cs := #[.bool false, .int .i64 0, .slice none 0 0]) ?_ 0 _ rfl; (with_reducible repeat (first | refine zL ?_ _ | refine zM ?_ | refine zK ?_ _)); exact BK368.out) hb2); have n3_ := zG.mk (hb); have n4_ := zG.mk (hi); have n5_ := zG.mk (zI.ne_blk hi (blk_below (g := gb368) (o := .cells #[.bool t361, .int .i64 t362, .slice Ao33 t363.length co33] 25 (0, 0)) (by (with_reducible repeat (first | refine zL ?_ _ | refine zM ?_ | refine zK ?_ _)); refine blk_put (cs := #[.bool t361, .int .i64 t362, .slice none 0 0]) ?_ 2 _ rfl; (with_reducible repeat (first | refine zL ?_ _ | refine zM ?_ | refine zK ?_ _)); refine blk_put (cs := #[.bool t361, .int .i64 0, .slice none 0 0]) ?_ 1 _ rfl; (with_reducible repeat (first | refine zL ?_ _ | refine zM ?_ | refine zK ?_ _)); refine blk_put (cs := #[.bool false, .int .i64 0, .slice none 0 0]) ?_ 0 _ rfl; (with_reducible repeat (first | refine zL ?_ _ | refine zM ?_ | refine zK ?_ _)); exact BK368.out) hb2) (by decide)); have n6_ := zG.mk (Ne.symm (zI.ne_blk hi (blk_below (g := gb368) (o := .cells #[.bool t361, .int .i64 t362, .slice Ao33 t363.length co33] 25 (0, 0)) (by (with_reducible repeat (first | refine zL ?_ _ | refine zM ?_ | refine zK ?_ _)); refine blk_put (cs := #[.bool t361, .int .i64 t362, .slice none 0 0]) ?_ 2 _ rfl; (with_reducible repeat (first | refine zL ?_ _ | refine zM ?_ | refine zK ?_ _)); refine blk_put (cs := #[.bool t361, .int .i64 0, .slice none 0 0]) ?_ 1 _ rfl; (with_reducible repeat (first | refine zL ?_ _ | refine zM ?_ | refine zK ?_ _)); refine blk_put (cs := #[.bool false, .int .i64 0, .slice none 0 0]) ?_ 0 _ rfl; (with_reducible repeat (first | refine zL ?_ _ | refine zM ?_ | refine zK ?_ _)); exact BK368.out) hb2) (by decide))); clear HO_10; clear HO365; clear BK368; clear HB; have HO_10 := n0_; have HO365 := n1_; have BK368 := n2_; have HB := n3_; have HI371 := n4_; have NB371_368 := n5_; have NB368_371 := n6_; clear n0_ n1_ n2_ n3_ n4_ n5_ n6_; (try clear hb); (try clear hb2); (try clear hk); (try clear hi); have hnb35 := NB368_371.out; have hnc35 := NB371_368.out; have hcz36_0 : w34.cell? ⟨gb368, 0, none⟩ = some (.bool t361) := (zN BK368.out 0).trans rfl; have hcz36_1 : w34.cell? ⟨gb368, 1, none⟩ = some (.int .i64 t362) := (zN BK368.out 1).trans rfl; have hcz36_2 : w34.cell? ⟨gb368, 2, none⟩ = some (.slice Ao33 t363.length co33) := (zN BK368.out 2).trans rfl; have hfz36_0 := zO BK368.out 0; have hfz36_1 := zO BK368.out 1; have hfz36_2 := zO BK368.out 2) | ((with_reducible refine gate_callee (f := 9) rfl ?_); refine goesL_ (some 72) rfl rfl Try.func9 (by kernel_rfl) rfl #[.pointer (some ⟨g371, 0, none⟩), .slice Ao29 x10_2.length co29, .int .i64 (wrap64 (Int.tmod a1 33)), .agg #[.bool t361, .int .i64 t362, .slice Ao33 t363.length co33]] rfl (by (try simp only [List.map_toArray, List.map_cons, List.map_nil]); first | done | rfl | (simp only [List.length_drop, List.length_take]; rfl)) ?_; (with_reducible refine (section_Put.calls g371 t369 t370 _ _ x10_2 (wrap64 (Int.tmod a1 33)) t361 t362 _ _ t363 t372 t373 t374 w _ ?side1 ?side2 ?side3 ?side4 ?side5 ?side6 ?side7 A17.out).mono ?_); (case side1 => repeat (first | (with_reducible first | exact HI371.out | apply zI.alloc | apply zI.drewN | apply zI.drew | refine zI.farT (t := 25) (b := gb368) ?_ (by decide) (by repeat (first | exact zA.of BK368.out | apply zA.set | apply zA.drewN | apply zA.drew | apply zA.alloc)) _) | exact HI371.out)); (case side2 => repeat (first | (with_reducible first | exact HB.out | apply zF | apply zC | apply zD | refine zE ?_ GE368.out) | exact HB.out)); (case side3 => repeat (first | exact (Kd.R_reads' HO_10.out).2.2 | (with_reducible refine Kd.zV ?_ _) | (with_reducible refine Kd.zT ?_ _) | (with_reducible refine Kd.zU ?_))); (case side4 => exact (Kd.R_reads' HO_10.out).2.1); (case side5 => exact KC.own (by (with_reducible repeat (first | apply Kd.zS | apply Kd.zQ | apply Kd.zR)); exact HO_10.out) (by decide)); (case side6 => exact KC.own (by (with_reducible repeat (first | apply Kd.zS | apply Kd.zQ | apply Kd.zR)); exact HO365.out) (by decide)); (case side7 => exact (Kd.R_reads' HO365.out).2.1); rintro e w37 ⟨rfl, hi, hb, hk⟩; refine ⟨_, rfl, ?_⟩; have n0_ := zG.mk (Kd.R_mono (KB.R_keep (zI.apart (show zI w _ g371 t369 t370 from by repeat (first | (with_reducible first | exact HI371.out | apply zI.alloc | apply zI.drewN | apply zI.drew | refine zI.farT (t := 25) (b := gb368) ?_ (by decide) (by repeat (first | exact zA.of BK368.out | apply zA.set | apply zA.drewN | apply zA.drew | apply zA.alloc)) _) | exact HI371.out)) (by (with_reducible repeat (first | apply Kd.zS | apply Kd.zQ | apply Kd.zR)); exact HO_10.out) (by decide)) (fun _ h => h.2) (by decide) hk.1) (fun _ h => h.1)); have n1_ := zG.mk (Kd.R_mono (KB.R_keep (zI.apart (show zI w _ g371 t369 t370 from by repeat (first | (with_reducible first | exact HI371.out | apply zI.alloc | apply zI.drewN | apply zI.drew | refine zI.farT (t := 25) (b := gb368) ?_ (by decide) (by repeat (first | exact zA.of BK368.out | apply zA.set | apply zA.drewN | apply zA.drew | apply zA.alloc)) _) | exact HI371.out)) (by (with_reducible repeat (first | apply Kd.zS | apply Kd.zQ | apply Kd.zR)); exact HO365.out) (by decide)) (fun _ h => h.2) (by decide) hk.1) (fun _ h => h.1)); have n2_ := zG.mk (KB.blk hk.1 (g' := gb368) (cs := #[.bool t361, .int .i64 t362, .slice Ao33 t363.length co33]) (t := 25) (fr := (0, 0)) (by (with_reducible repeat (first | refine zL ?_ _ | refine zM ?_ | refine zK ?_ _)); exact BK368.out) NB368_371.out (by decide)); have n3_ := zG.mk (hb); have n4_ := zG.mk (hi); clear HO_10; clear HO365; clear BK368; clear HB; clear HI371; have HO_10 := n0_; have HO365 := n1_; have BK368 := n2_; have HB := n3_; have HI371 := n4_; clear n0_ n1_ n2_ n3_ n4_; (try clear hb); (try clear hb2); (try clear hk); (try clear hi)) | ((with_reducible refine gate_callee (f := 13) rfl ?_); refine goesL_ (some 74) rfl rfl Try.func13 (by kernel_rfl) rfl #[.pointer (some ⟨g371, 0, none⟩)] rfl (by (try simp only [List.map_toArray, List.map_cons, List.map_nil]); first | done | rfl | (simp only [List.length_drop, List.length_take]; rfl)) ?_; (with_reducible refine (bits_Writer_Bytes.calls g371 t373 t374 t375 t378 t379 w _ ?side1 ?side2 A18.out).mono ?_); (case side1 => repeat (first | (with_reducible first | exact HI371.out | apply zI.alloc | apply zI.drewN | apply zI.drew | refine zI.farT (t := 25) (b := gb368) ?_ (by decide) (by repeat (first | exact zA.of BK368.out | apply zA.set | apply zA.drewN | apply zA.drew | apply zA.alloc)) _) | exact HI371.out)); (case side2 => repeat (first | (with_reducible first | exact HB.out | apply zF | apply zC | apply zD | refine zE ?_ GE368.out) | exact HB.out)); rintro e w38 ⟨v376, rfl, ho0, hi, hb, hk⟩; refine ⟨_, rfl, ?_⟩; have n0_ := zG.mk (Kd.R_mono (Kd.R_keep (zI.apart (show zI w _ g371 t373 t374 from by repeat (first | (with_reducible first | exact HI371.out | apply zI.alloc | apply zI.drewN | apply zI.drew | refine zI.farT (t := 25) (b := gb368) ?_ (by decide) (by repeat (first | exact zA.of BK368.out | apply zA.set | apply zA.drewN | apply zA.drew | apply zA.alloc)) _) | exact HI371.out)) (by (with_reducible repeat (first | apply Kd.zS | apply Kd.zQ | apply Kd.zR)); exact HO_10.out) (by decide)) hk (fun _ h => h.2)) (fun _ h => h.1)); have n1_ := zG.mk (Kd.R_mono (Kd.R_keep (zI.apart (show zI w _ g371 t373 t374 from by repeat (first | (with_reducible first | exact HI371.out | apply zI.alloc | apply zI.drewN | apply zI.drew | refine zI.farT (t := 25) (b := gb368) ?_ (by decide) (by repeat (first | exact zA.of BK368.out | apply zA.set | apply zA.drewN | apply zA.drew | apply zA.alloc)) _) | exact HI371.out)) (by (with_reducible repeat (first | apply Kd.zS | apply Kd.zQ | apply Kd.zR)); exact HO365.out) (by decide)) hk (fun _ h => h.2)) (fun _ h => h.1)); have n2_ := zG.mk (zJ.blk hk (g' := gb368) (o := .cells #[.bool t361, .int .i64 t362, .slice Ao33 t363.length co33] 25 (0, 0)) (by (with_reducible repeat (first | refine zL ?_ _ | refine zM ?_ | refine zK ?_ _)); exact BK368.out) NB368_371.out (by simp)); have n3_ := zG.mk (Kd.R_lower ho0 (below_size (by repeat (first | (with_reducible first | exact HB.out | apply zF | apply zC | apply zD | refine zE ?_ GE368.out) | exact HB.out)))); have n4_ := zG.mk (hb); have n5_ := zG.mk (hi); clear HO_10; clear HO365; clear BK368; clear HB; clear HI371; have HO_10 := n0_; have HO365 := n1_; have BK368 := n2_; have HO377 := n3_; have HB := n4_; have HI371 := n5_; clear n0_ n1_ n2_ n3_ n4_ n5_; (try clear hb); (try clear hb2); (try clear hk); (try clear hi); (try clear ho0); obtain ⟨Ao39, co39, eo39⟩ := Kd.R_slice HO377.out; subst eo39) | ((with_reducible refine gate_callee (f := 12) rfl ?_); refine goesL_ (some 75) rfl rfl Try.func12 (by kernel_rfl) rfl #[.slice Ao39 t375.length co39] rfl (by (try simp only [List.map_toArray, List.map_cons, List.map_nil]); first | done | rfl | (simp only [List.length_drop, List.length_take]; rfl)) ?_; (with_reducible refine (bits_Open.calls _ _ t375 t380 t381 t382 w _ ?side1 ?side2 ?side3 A19.out).mono ?_); (case side1 => repeat (first | (with_reducible first | exact HB.out | apply zF | apply zC | apply zD | refine zE ?_ GE368.out) | exact HB.out)); (case side2 => repeat (first | exact (Kd.R_reads' HO377.out).2.2 | (with_reducible refine Kd.zV ?_ _) | (with_reducible refine Kd.zT ?_ _) | (with_reducible refine Kd.zU ?_))); (case side3 => exact (Kd.R_reads' HO377.out).2.1); rintro e w40 ⟨g383, rfl, hi, hb, hb2⟩; refine ⟨_, rfl, ?_⟩; have n0_ := zG.mk (Kd.R_below (by (with_reducible repeat (first | apply Kd.zS | apply Kd.zQ | apply Kd.zR)); exact HO_10.out) hb2); have n1_ := zG.mk (Kd.R_below (by (with_reducible repeat (first | apply Kd.zS | apply Kd.zQ | apply Kd.zR)); exact HO365.out) hb2); have n2_ := zG.mk (Kd.R_below (by (with_reducible repeat (first | apply Kd.zS | apply Kd.zQ | apply Kd.zR)); exact HO377.out) hb2); have n3_ := zG.mk (blk_below (g := gb368) (o := .cells #[.bool t361, .int .i64 t362, .slice Ao33 t363.length co33] 25 (0, 0)) (by (with_reducible repeat (first | refine zL ?_ _ | refine zM ?_ | refine zK ?_ _)); exact BK368.out) hb2); have n4_ := zG.mk (zI.below (by refine zI.as HI371.out ?_; repeat (first | (with_reducible first | exact HI371.out | apply zI.alloc | apply zI.drewN | apply zI.drew | refine zI.farT (t := 25) (b := gb368) ?_ (by decide) (by repeat (first | exact zA.of BK368.out | apply zA.set | apply zA.drewN | apply zA.drew | apply zA.alloc)) _) | exact HI371.out)) hb2); have n5_ := zG.mk (hb); have n6_ := zG.mk (hi); have n7_ := zG.mk (zH.ne_blk hi (blk_below (g := gb368) (o := .cells #[.bool t361, .int .i64 t362, .slice Ao33 t363.length co33] 25 (0, 0)) (by (with_reducible repeat (first | refine zL ?_ _ | refine zM ?_ | refine zK ?_ _)); exact BK368.out) hb2) (by decide)); have n8_ := zG.mk (Ne.symm (zH.ne_blk hi (blk_below (g := gb368) (o := .cells #[.bool t361, .int .i64 t362, .slice Ao33 t363.length co33] 25 (0, 0)) (by (with_reducible repeat (first | refine zL ?_ _ | refine zM ?_ | refine zK ?_ _)); exact BK368.out) hb2) (by decide))); clear HO_10; clear HO365; clear HO377; clear BK368; clear HI371; clear HB; have HO_10 := n0_; have HO365 := n1_; have HO377 := n2_; have BK368 := n3_; have HI371 := n4_; have HB := n5_; have HI383 := n6_; have NB383_368 := n7_; have NB368_383 := n8_; clear n0_ n1_ n2_ n3_ n4_ n5_ n6_ n7_ n8_; (try clear hb); (try clear hb2); (try clear hk); (try clear hi)) | ((with_reducible refine gate_callee (f := 14) rfl ?_); refine goesL_ (some 85) rfl rfl Try.func14 (by kernel_rfl) rfl #[.pointer (some ⟨g383, 0, none⟩), .int .i64 (wrap64 ((x10_2.length : Int) + (wrap64 (Int.tmod a1 33)))), .int .i64 (wrap64 (Int.tmod a1 33))] rfl (by (try simp only [List.map_toArray, List.map_cons, List.map_nil]); first | done | rfl | (simp only [List.length_drop, List.length_take]; rfl)) ?_; (with_reducible refine (section_Take.calls k2 g383 t380 t381 t382 (wrap64 ((x10_2.length : Int) + (wrap64 (Int.tmod a1 33)))) (wrap64 (Int.tmod a1 33)) t384 t387 t388 t389 t392 t393 t394 w _ ?side1 ?side2 A20.out).mono ?_); (case side1 => repeat (first | (with_reducible first | exact HI383.out | apply zH.alloc | apply zH.drewN | apply zH.drew | refine zH.farT (t := 25) (b := gb368) ?_ (by decide) (by repeat (first | exact zA.of BK368.out | apply zA.set | apply zA.drewN | apply zA.drew | apply zA.alloc)) _) | exact HI383.out)); (case side2 => repeat (first | (with_reducible first | exact HB.out | apply zF | apply zC | apply zD | refine zE ?_ GE368.out) | exact HB.out)); rintro e w41 ⟨v385, v390, rfl, ho0, ho1, hi, hb, hk⟩; refine ⟨_, rfl, ?_⟩; have n0_ := zG.mk (Kd.R_mono (Kd.R_told (Kd.R_oldK (zH.apart (show zH w _ g383 t380 t381 t382 from by repeat (first | (with_reducible first | exact HI383.out | apply zH.alloc | apply zH.drewN | apply zH.drew | refine zH.farT (t := 25) (b := gb368) ?_ (by decide) (by repeat (first | exact zA.of BK368.out | apply zA.set | apply zA.drewN | apply zA.drew | apply zA.alloc)) _) | exact HI383.out)) (by (with_reducible repeat (first | apply Kd.zS | apply Kd.zQ | apply Kd.zR)); exact HO_10.out) (by decide)) hk) (Kd.R_base ho0)) (fun _ h_ => h_.1)); have n1_ := zG.mk (Kd.R_mono (Kd.R_told (Kd.R_oldK (zH.apart (show zH w _ g383 t380 t381 t382 from by repeat (first | (with_reducible first | exact HI383.out | apply zH.alloc | apply zH.drewN | apply zH.drew | refine zH.farT (t := 25) (b := gb368) ?_ (by decide) (by repeat (first | exact zA.of BK368.out | apply zA.set | apply zA.drewN | apply zA.drew | apply zA.alloc)) _) | exact HI383.out)) (by (with_reducible repeat (first | apply Kd.zS | apply Kd.zQ | apply Kd.zR)); exact HO365.out) (by decide)) hk) (Kd.R_base ho1)) (fun _ h_ => h_.1)); have n2_ := zG.mk (zJ.blk hk (g' := gb368) (o := .cells #[.bool t361, .int .i64 t362, .slice Ao33 t363.length co33] 25 (0, 0)) (by (with_reducible repeat (first | refine zL ?_ _ | refine zM ?_ | refine zK ?_ _)); exact BK368.out) NB368_383.out (by simp)); have n3_ := zG.mk (zI.keepG (by refine zI.as HI371.out ?_; repeat (first | (with_reducible first | exact HI371.out | apply zI.alloc | apply zI.drewN | apply zI.drew | refine zI.farT (t := 25) (b := gb368) ?_ (by decide) (by repeat (first | exact zA.of BK368.out | apply zA.set | apply zA.drewN | apply zA.drew | apply zA.alloc)) _) | exact HI371.out)) (zH.blk (show zH w _ g383 t380 t381 t382 from by repeat (first | (with_reducible first | exact HI383.out | apply zH.alloc | apply zH.drewN | apply zH.drew | refine zH.farT (t := 25) (b := gb368) ?_ (by decide) (by repeat (first | exact zA.of BK368.out | apply zA.set | apply zA.drewN | apply zA.drew | apply zA.alloc)) _) | exact HI383.out))).choose_spec (by decide) hk); have n4_ := zG.mk (Kd.R_mono (Kd.R_keep (zH.apart (show zH w _ g383 t380 t381 t382 from by repeat (first | (with_reducible first | exact HI383.out | apply zH.alloc | apply zH.drewN | apply zH.drew | refine zH.farT (t := 25) (b := gb368) ?_ (by decide) (by repeat (first | exact zA.of BK368.out | apply zA.set | apply zA.drewN | apply zA.drew | apply zA.alloc)) _) | exact HI383.out)) (by (with_reducible repeat (first | apply Kd.zS | apply Kd.zQ | apply Kd.zR)); exact HO377.out) (by decide)) hk (fun _ h => h.2)) (fun _ h => h.1)); have n5_ := zG.mk (Kd.R_lower (Kd.R_new' ho0 (Kd.R_lt (by (with_reducible repeat (first | apply Kd.zS | apply Kd.zQ | apply Kd.zR)); exact HO_10.out))) (below_size (by repeat (first | (with_reducible first | exact HB.out | apply zF | apply zC | apply zD | refine zE ?_ GE368.out) | exact HB.out)))); have n6_ := zG.mk (Kd.R_lower (Kd.R_new' ho1 (Kd.R_lt (by (with_reducible repeat (first | apply Kd.zS | apply Kd.zQ | apply Kd.zR)); exact HO365.out))) (below_size (by repeat (first | (with_reducible first | exact HB.out | apply zF | apply zC | apply zD | refine zE ?_ GE368.out) | exact HB.out)))); have n7_ := zG.mk (hb); have n8_ := zG.mk (hi); clear HO_10; clear HO365; clear BK368; clear HI371; clear HO377; clear HB; clear HI383; have HO_10 := n0_; have HO365 := n1_; have BK368 := n2_; have HI371 := n3_; have HO377 := n4_; have HO386 := n5_; have HO391 := n6_; have HB := n7_; have HI383 := n8_; clear n0_ n1_ n2_ n3_ n4_ n5_ n6_ n7_ n8_; (try clear hb); (try clear hb2); (try clear hk); (try clear hi); (try clear ho0); (try clear ho1)) | ((with_reducible refine gate_dst (N := 20) rfl ?_); (try (refine gate_guard (by rfl) ?_; dsimp only)); refine box_event ?hg (N := 20) ?hd (cs := #[.bool false, .int .i64 0, .slice none 0 0]) (t := 25) ?hr ?_; (case hd => rfl); (case hg => rfl); (case hr => first | (go_simp; done) | (go_simp; rfl)); intro gb395 hg w42 hbox hb; have n0_ := zG.mk (Kd.R_below (by (with_reducible repeat (first | apply Kd.zS | apply Kd.zQ | apply Kd.zR)); exact HO_10.out) hb); have n1_ := zG.mk (Kd.R_below (by (with_reducible repeat (first | apply Kd.zS | apply Kd.zQ | apply Kd.zR)); exact HO365.out) hb); have n2_ := zG.mk (Kd.R_below (by (with_reducible repeat (first | apply Kd.zS | apply Kd.zQ | apply Kd.zR)); exact HO377.out) hb); have n3_ := zG.mk (Kd.R_below (by (with_reducible repeat (first | apply Kd.zS | apply Kd.zQ | apply Kd.zR)); exact HO386.out) hb); have n4_ := zG.mk (Kd.R_below (by (with_reducible repeat (first | apply Kd.zS | apply Kd.zQ | apply Kd.zR)); exact HO391.out) hb); have n5_ := zG.mk (blk_below (g := gb368) (o := .cells #[.bool t361, .int .i64 t362, .slice Ao33 t363.length co33] 25 (0, 0)) (by (with_reducible repeat (first | refine zL ?_ _ | refine zM ?_ | refine zK ?_ _)); exact BK368.out) hb); have n6_ := zG.mk (zI.below (by refine zI.as HI371.out ?_; repeat (first | (with_reducible first | exact HI371.out | apply zI.alloc | apply zI.drewN | apply zI.drew | refine zI.farT (t := 25) (b := gb368) ?_ (by decide) (by repeat (first | exact zA.of BK368.out | apply zA.set | apply zA.drewN | apply zA.drew | apply zA.alloc)) _) | exact HI371.out)) hb); have n7_ := zG.mk (zH.below (by refine zH.as HI383.out ?_; repeat (first | (with_reducible first | exact HI383.out | apply zH.alloc | apply zH.drewN | apply zH.drew | refine zH.farT (t := 25) (b := gb368) ?_ (by decide) (by repeat (first | exact zA.of BK368.out | apply zA.set | apply zA.drewN | apply zA.drew | apply zA.alloc)) _) | exact HI383.out)) hb); have n8_ := zG.mk (below_step (by repeat (first | (with_reducible first | exact HB.out | apply zF | apply zC | apply zD | refine zE ?_ GE368.out) | exact HB.out)) hb); have n9_ := zG.mk (hbox); have n10_ := zG.mk ((by rw [hg]; exact (below_size (by repeat (first | (with_reducible first | exact HB.out | apply zF | apply zC | apply zD | refine zE ?_ GE368.out) | exact HB.out))) : w.heap.size ≤ gb395)); have n11_ := zG.mk ((by rw [hg]; exact (below_size (by repeat (first | (with_reducible first | exact HB.out | apply zF | apply zC | apply zD | refine zE ?_ GE368.out) | exact HB.out))) : w.heap.size ≤ gb395)); have n12_ := zG.mk ((by rw [hg]; exact Nat.ne_of_lt (blk_lt (g := gb368) (o := .cells #[.bool t361, .int .i64 t362, .slice Ao33 t363.length co33] 25 (0, 0)) (by (with_reducible repeat (first | refine zL ?_ _ | refine zM ?_ | refine zK ?_ _)); exact BK368.out)) : gb368 ≠ gb395)); have n13_ := zG.mk ((by rw [hg]; exact Nat.ne_of_gt (blk_lt (g := gb368) (o := .cells #[.bool t361, .int .i64 t362, .slice Ao33 t363.length co33] 25 (0, 0)) (by (with_reducible repeat (first | refine zL ?_ _ | refine zM ?_ | refine zK ?_ _)); exact BK368.out)) : gb395 ≠ gb368)); have n14_ := zG.mk ((by rw [hg]; exact Nat.ne_of_lt (zI.lt (show zI w _ g371 t378 t379 from by repeat (first | (with_reducible first | exact HI371.out | apply zI.alloc | apply zI.drewN | apply zI.drew | refine zI.farT (t := 25) (b := gb368) ?_ (by decide) (by repeat (first | exact zA.of BK368.out | apply zA.set | apply zA.drewN | apply zA.drew | apply zA.alloc)) _) | exact HI371.out))) : g371 ≠ gb395)); have n15_ := zG.mk ((by rw [hg]; exact Nat.ne_of_gt (zI.lt (show zI w _ g371 t378 t379 from by repeat (first | (with_reducible first | exact HI371.out | apply zI.alloc | apply zI.drewN | apply zI.drew | refine zI.farT (t := 25) (b := gb368) ?_ (by decide) (by repeat (first | exact zA.of BK368.out | apply zA.set | apply zA.drewN | apply zA.drew | apply zA.alloc)) _) | exact HI371.out))) : gb395 ≠ g371)); have n16_ := zG.mk ((by rw [hg]; exact Nat.ne_of_lt (zH.lt (show zH w _ g383 t380 t393 t394 from by repeat (first | (with_reducible first | exact HI383.out | apply zH.alloc | apply zH.drewN | apply zH.drew | refine zH.farT (t := 25) (b := gb368) ?_ (by decide) (by repeat (first | exact zA.of BK368.out | apply zA.set | apply zA.drewN | apply zA.drew | apply zA.alloc)) _) | exact HI383.out))) : g383 ≠ gb395)); have n17_ := zG.mk ((by rw [hg]; exact Nat.ne_of_gt (zH.lt (show zH w _ g383 t380 t393 t394 from by repeat (first | (with_reducible first | exact HI383.out | apply zH.alloc | apply zH.drewN | apply zH.drew | refine zH.farT (t := 25) (b := gb368) ?_ (by decide) (by repeat (first | exact zA.of BK368.out | apply zA.set | apply zA.drewN | apply zA.drew | apply zA.alloc)) _) | exact HI383.out))) : gb395 ≠ g383)); clear HO_10; clear HO365; clear HO377; clear HO386; clear HO391; clear BK368; clear HI371; clear HI383; clear HB; have HO_10 := n0_; have HO365 := n1_; have HO377 := n2_; have HO386 := n3_; have HO391 := n4_; have BK368 := n5_; have HI371 := n6_; have HI383 := n7_; have HB := n8_; have BK395 := n9_; have GW395 := n10_; have GE395 := n11_; have NB368_395 := n12_; have NB395_368 := n13_; have NB371_395 := n14_; have NB395_371 := n15_; have NB383_395 := n16_; have NB395_383 := n17_; clear n0_ n1_ n2_ n3_ n4_ n5_ n6_ n7_ n8_ n9_ n10_ n11_ n12_ n13_ n14_ n15_ n16_ n17_; clear hb hbox hg; have hnb43 := NB395_368.out; have hnc43 := NB368_395.out; have hnb44 := NB395_371.out; have hnc44 := NB371_395.out; have hnb45 := NB395_383.out; have hnc45 := NB383_395.out; have hcz46_0 : w42.cell? ⟨gb395, 0, none⟩ = some (.bool false) := (zN BK395.out 0).trans rfl; have hcz46_1 : w42.cell? ⟨gb395, 1, none⟩ = some (.int .i64 0) := (zN BK395.out 1).trans rfl; have hcz46_2 : w42.cell? ⟨gb395, 2, none⟩ = some (.slice none 0 0) := (zN BK395.out 2).trans rfl; have hfz46_0 := zO BK395.out 0; have hfz46_1 := zO BK395.out 1; have hfz46_2 := zO BK395.out 2; obtain ⟨Ao47, co47, eo47⟩ := Kd.R_slice HO391.out; subst eo47) | (go_at_call 11; (with_reducible refine (bits_Writer_Len.calls g371 t378 t379 t396 t397 t398 w _ ?side1 ?side2 A23.out).mono ?_); (case side1 => repeat (first | (with_reducible first | exact HI371.out | apply zI.alloc | apply zI.drewN | apply zI.drew | refine zI.farT (t := 25) (b := gb368) ?_ (by decide) (by repeat (first | exact zA.of BK368.out | apply zA.set | apply zA.drewN | apply zA.drew | apply zA.alloc)) _ | refine zI.farT (t := 25) (b := gb395) ?_ (by decide) (by repeat (first | exact zA.of BK395.out | apply zA.set | apply zA.drewN | apply zA.drew | apply zA.alloc)) _) | exact HI371.out)); (case side2 => repeat (first | (with_reducible first | exact HB.out | apply zF | apply zC | apply zD | refine zE ?_ GE368.out | refine zE ?_ GE395.out) | exact HB.out)); rintro e w48 ⟨rfl, hi, hb, hk⟩; have n0_ := zG.mk (Kd.R_mono (Kd.R_keep (zI.apart (show zI w _ g371 t378 t379 from by repeat (first | (with_reducible first | exact HI371.out | apply zI.alloc | apply zI.drewN | apply zI.drew | refine zI.farT (t := 25) (b := gb368) ?_ (by decide) (by repeat (first | exact zA.of BK368.out | apply zA.set | apply zA.drewN | apply zA.drew | apply zA.alloc)) _ | refine zI.farT (t := 25) (b := gb395) ?_ (by decide) (by repeat (first | exact zA.of BK395.out | apply zA.set | apply zA.drewN | apply zA.drew | apply zA.alloc)) _) | exact HI371.out)) (by (with_reducible repeat (first | apply Kd.zS | apply Kd.zQ | apply Kd.zR)); exact (Kd.R_mono (Kd.R_far (p := ⟨gb395, 2, none⟩) (Kd.R_far (p := ⟨gb395, 1, none⟩) (Kd.R_far (p := ⟨gb395, 0, none⟩) (Kd.R_types HO_10.out BK395.out (by decide)) (fun _ hk => hk.2) (.bool t387)) (fun _ hk => hk.2) (.int .i64 t388)) (fun _ hk => hk.2) (.slice Ao47 t389.length co47)) (fun _ h_ => h_.1))) (by decide)) hk (fun _ h => h.2)) (fun _ h => h.1)); have n1_ := zG.mk (Kd.R_mono (Kd.R_keep (zI.apart (show zI w _ g371 t378 t379 from by repeat (first | (with_reducible first | exact HI371.out | apply zI.alloc | apply zI.drewN | apply zI.drew | refine zI.farT (t := 25) (b := gb368) ?_ (by decide) (by repeat (first | exact zA.of BK368.out | apply zA.set | apply zA.drewN | apply zA.drew | apply zA.alloc)) _ | refine zI.farT (t := 25) (b := gb395) ?_ (by decide) (by repeat (first | exact zA.of BK395.out | apply zA.set | apply zA.drewN | apply zA.drew | apply zA.alloc)) _) | exact HI371.out)) (by (with_reducible repeat (first | apply Kd.zS | apply Kd.zQ | apply Kd.zR)); exact (Kd.R_mono (Kd.R_far (p := ⟨gb395, 2, none⟩) (Kd.R_far (p := ⟨gb395, 1, none⟩) (Kd.R_far (p := ⟨gb395, 0, none⟩) (Kd.R_types HO365.out BK395.out (by decide)) (fun _ hk => hk.2) (.bool t387)) (fun _ hk => hk.2) (.int .i64 t388)) (fun _ hk => hk.2) (.slice Ao47 t389.length co47)) (fun _ h_ => h_.1))) (by decide)) hk (fun _ h => h.2)) (fun _ h => h.1)); have n2_ := zG.mk (zJ.blk hk (g' := gb368) (o := .cells #[.bool t361, .int .i64 t362, .slice Ao33 t363.length co33] 25 (0, 0)) (by (with_reducible repeat (first | refine zL ?_ _ | refine zM ?_ | refine zK ?_ _)); refine zP ?_ NB368_395.out _; (with_reducible repeat (first | refine zL ?_ _ | refine zM ?_ | refine zK ?_ _)); refine zP ?_ NB368_395.out _; (with_reducible repeat (first | refine zL ?_ _ | refine zM ?_ | refine zK ?_ _)); refine zP ?_ NB368_395.out _; (with_reducible repeat (first | refine zL ?_ _ | refine zM ?_ | refine zK ?_ _)); exact BK368.out) NB368_371.out (by simp)); have n3_ := zG.mk (Kd.R_mono (Kd.R_keep (zI.apart (show zI w _ g371 t378 t379 from by repeat (first | (with_reducible first | exact HI371.out | apply zI.alloc | apply zI.drewN | apply zI.drew | refine zI.farT (t := 25) (b := gb368) ?_ (by decide) (by repeat (first | exact zA.of BK368.out | apply zA.set | apply zA.drewN | apply zA.drew | apply zA.alloc)) _ | refine zI.farT (t := 25) (b := gb395) ?_ (by decide) (by repeat (first | exact zA.of BK395.out | apply zA.set | apply zA.drewN | apply zA.drew | apply zA.alloc)) _) | exact HI371.out)) (by (with_reducible repeat (first | apply Kd.zS | apply Kd.zQ | apply Kd.zR)); exact (Kd.R_mono (Kd.R_far (p := ⟨gb395, 2, none⟩) (Kd.R_far (p := ⟨gb395, 1, none⟩) (Kd.R_far (p := ⟨gb395, 0, none⟩) (Kd.R_types HO377.out BK395.out (by decide)) (fun _ hk => hk.2) (.bool t387)) (fun _ hk => hk.2) (.int .i64 t388)) (fun _ hk => hk.2) (.slice Ao47 t389.length co47)) (fun _ h_ => h_.1))) (by decide)) hk (fun _ h => h.2)) (fun _ h => h.1)); have n4_ := zG.mk (zH.keepG (by refine zH.as HI383.out ?_; repeat (first | (with_reducible first | exact HI383.out | apply zH.alloc | apply zH.drewN | apply zH.drew | refine zH.farT (t := 25) (b := gb368) ?_ (by decide) (by repeat (first | exact zA.of BK368.out | apply zA.set | apply zA.drewN | apply zA.drew | apply zA.alloc)) _ | refine zH.farT (t := 25) (b := gb395) ?_ (by decide) (by repeat (first | exact zA.of BK395.out | apply zA.set | apply zA.drewN | apply zA.drew | apply zA.alloc)) _) | exact HI383.out)) (zI.blk (show zI w _ g371 t378 t379 from by repeat (first | (with_reducible first | exact HI371.out | apply zI.alloc | apply zI.drewN | apply zI.drew | refine zI.farT (t := 25) (b := gb368) ?_ (by decide) (by repeat (first | exact zA.of BK368.out | apply zA.set | apply zA.drewN | apply zA.drew | apply zA.alloc)) _ | refine zI.farT (t := 25) (b := gb395) ?_ (by decide) (by repeat (first | exact zA.of BK395.out | apply zA.set | apply zA.drewN | apply zA.drew | apply zA.alloc)) _) | exact HI371.out))).choose_spec (by decide) hk); have n5_ := zG.mk (Kd.R_mono (Kd.R_keep (zI.apart (show zI w _ g371 t378 t379 from by repeat (first | (with_reducible first | exact HI371.out | apply zI.alloc | apply zI.drewN | apply zI.drew | refine zI.farT (t := 25) (b := gb368) ?_ (by decide) (by repeat (first | exact zA.of BK368.out | apply zA.set | apply zA.drewN | apply zA.drew | apply zA.alloc)) _ | refine zI.farT (t := 25) (b := gb395) ?_ (by decide) (by repeat (first | exact zA.of BK395.out | apply zA.set | apply zA.drewN | apply zA.drew | apply zA.alloc)) _) | exact HI371.out)) (by (with_reducible repeat (first | apply Kd.zS | apply Kd.zQ | apply Kd.zR)); exact (Kd.R_mono (Kd.R_far (p := ⟨gb395, 2, none⟩) (Kd.R_far (p := ⟨gb395, 1, none⟩) (Kd.R_far (p := ⟨gb395, 0, none⟩) (Kd.R_types HO386.out BK395.out (by decide)) (fun _ hk => hk.2) (.bool t387)) (fun _ hk => hk.2) (.int .i64 t388)) (fun _ hk => hk.2) (.slice Ao47 t389.length co47)) (fun _ h_ => h_.1))) (by decide)) hk (fun _ h => h.2)) (fun _ h => h.1)); have n6_ := zG.mk (Kd.R_mono (Kd.R_keep (zI.apart (show zI w _ g371 t378 t379 from by repeat (first | (with_reducible first | exact HI371.out | apply zI.alloc | apply zI.drewN | apply zI.drew | refine zI.farT (t := 25) (b := gb368) ?_ (by decide) (by repeat (first | exact zA.of BK368.out | apply zA.set | apply zA.drewN | apply zA.drew | apply zA.alloc)) _ | refine zI.farT (t := 25) (b := gb395) ?_ (by decide) (by repeat (first | exact zA.of BK395.out | apply zA.set | apply zA.drewN | apply zA.drew | apply zA.alloc)) _) | exact HI371.out)) (by (with_reducible repeat (first | apply Kd.zS | apply Kd.zQ | apply Kd.zR)); exact (Kd.R_mono (Kd.R_far (p := ⟨gb395, 2, none⟩) (Kd.R_far (p := ⟨gb395, 1, none⟩) (Kd.R_far (p := ⟨gb395, 0, none⟩) (Kd.R_types HO391.out BK395.out (by decide)) (fun _ hk => hk.2) (.bool t387)) (fun _ hk => hk.2) (.int .i64 t388)) (fun _ hk => hk.2) (.slice Ao47 t389.length co47)) (fun _ h_ => h_.1))) (by decide)) hk (fun _ h => h.2)) (fun _ h => h.1)); have n7_ := zG.mk (zJ.blk hk (g' := gb395) (o := .cells #[.bool t387, .int .i64 t388, .slice Ao47 t389.length co47] 25 (0, 0)) (by (with_reducible repeat (first | refine zL ?_ _ | refine zM ?_ | refine zK ?_ _)); refine blk_put (cs := #[.bool t387, .int .i64 t388, .slice none 0 0]) ?_ 2 _ rfl; (with_reducible repeat (first | refine zL ?_ _ | refine zM ?_ | refine zK ?_ _)); refine blk_put (cs := #[.bool t387, .int .i64 0, .slice none 0 0]) ?_ 1 _ rfl; (with_reducible repeat (first | refine zL ?_ _ | refine zM ?_ | refine zK ?_ _)); refine blk_put (cs := #[.bool false, .int .i64 0, .slice none 0 0]) ?_ 0 _ rfl; (with_reducible repeat (first | refine zL ?_ _ | refine zM ?_ | refine zK ?_ _)); exact BK395.out) NB395_371.out (by simp)); have n8_ := zG.mk (hb); have n9_ := zG.mk (hi); clear HO_10; clear HO365; clear BK368; clear HO377; clear HI383; clear HO386; clear HO391; clear BK395; clear HB; clear HI371; have HO_10 := n0_; have HO365 := n1_; have BK368 := n2_; have HO377 := n3_; have HI383 := n4_; have HO386 := n5_; have HO391 := n6_; have BK395 := n7_; have HB := n8_; have HI371 := n9_; clear n0_ n1_ n2_ n3_ n4_ n5_ n6_ n7_ n8_ n9_; (try clear hb); (try clear hb2); (try clear hk); (try clear hi); obtain ⟨Ao49, co49, eo49⟩ := Kd.R_slice HO386.out; subst eo49) | (go_at_call 15; (with_reducible refine (serinetteref01_Ints.calls k2 _ _ x10_2 _ _ t384 true _ ?side1 ?side2 ?side3 ?side4 A26.out).mono ?_); (case side1 => repeat (first | exact (Kd.R_reads' HO_10.out).2.2 | (with_reducible refine Kd.zV ?_ _) | (with_reducible refine Kd.zT ?_ _) | (with_reducible refine Kd.zU ?_))); (case side2 => exact (Kd.R_reads' HO_10.out).2.1); (case side3 => repeat (first | exact (Kd.R_reads' HO386.out).2.2 | (with_reducible refine Kd.zV ?_ _) | (with_reducible refine Kd.zT ?_ _) | (with_reducible refine Kd.zU ?_))); (case side4 => exact (Kd.R_reads' HO386.out).2.1); rintro e w' ⟨rfl, ⟨nd, rfl⟩⟩; have hnb50 := NB368_383.out; have hnc50 := NB383_368.out; have hcz51_0 : w48.cell? ⟨gb368, 0, none⟩ = some (.bool t361) := (zN BK368.out 0).trans rfl; have hcz51_1 : w48.cell? ⟨gb368, 1, none⟩ = some (.int .i64 t362) := (zN BK368.out 1).trans rfl; have hcz51_2 : w48.cell? ⟨gb368, 2, none⟩ = some (.slice Ao33 t363.length co33) := (zN BK368.out 2).trans rfl; have hfz51_0 := zO BK368.out 0; have hfz51_1 := zO BK368.out 1; have hfz51_2 := zO BK368.out 2; have hcz52_0 : w48.cell? ⟨gb395, 0, none⟩ = some (.bool t387) := (zN BK395.out 0).trans rfl; have hcz52_1 : w48.cell? ⟨gb395, 1, none⟩ = some (.int .i64 t388) := (zN BK395.out 1).trans rfl; have hcz52_2 : w48.cell? ⟨gb395, 2, none⟩ = some (.slice Ao47 t389.length co47) := (zN BK395.out 2).trans rfl; have hfz52_0 := zO BK395.out 0; have hfz52_1 := zO BK395.out 1; have hfz52_2 := zO BK395.out 2) | (go_at_call 16; (with_reducible refine (serinetteref14_Same.calls k2 t361 t362 _ _ t363 t387 t388 _ _ t389 t400 _ ?side1 ?side2 ?side3 ?side4 A28.out).mono ?_); (case side1 => repeat (first | exact (Kd.R_reads' HO365.out).2.2 | (with_reducible refine Kd.zV ?_ _) | (with_reducible refine Kd.zT ?_ _) | (with_reducible refine Kd.zU ?_))); (case side2 => exact (Kd.R_reads' HO365.out).2.1); (case side3 => repeat (first | exact (Kd.R_reads' HO391.out).2.2 | (with_reducible refine Kd.zV ?_ _) | (with_reducible refine Kd.zT ?_ _) | (with_reducible refine Kd.zU ?_))); (case side4 => exact (Kd.R_reads' HO391.out).2.1); rintro e w53 ⟨rfl, hb⟩; have n0_ := zG.mk (Kd.R_below (by (with_reducible repeat (first | apply Kd.zS | apply Kd.zQ | apply Kd.zR)); exact HO_10.out) hb); have n1_ := zG.mk (Kd.R_below (by (with_reducible repeat (first | apply Kd.zS | apply Kd.zQ | apply Kd.zR)); exact HO365.out) hb); have n2_ := zG.mk (Kd.R_below (by (with_reducible repeat (first | apply Kd.zS | apply Kd.zQ | apply Kd.zR)); exact HO377.out) hb); have n3_ := zG.mk (Kd.R_below (by (with_reducible repeat (first | apply Kd.zS | apply Kd.zQ | apply Kd.zR)); exact HO386.out) hb); have n4_ := zG.mk (Kd.R_below (by (with_reducible repeat (first | apply Kd.zS | apply Kd.zQ | apply Kd.zR)); exact HO391.out) hb); have n5_ := zG.mk (blk_below (g := gb368) (o := .cells #[.bool t361, .int .i64 t362, .slice Ao33 t363.length co33] 25 (0, 0)) (by (with_reducible repeat (first | refine zL ?_ _ | refine zM ?_ | refine zK ?_ _)); exact BK368.out) hb); have n6_ := zG.mk (zI.below (by refine zI.as HI371.out ?_; repeat (first | (with_reducible first | exact HI371.out | apply zI.alloc | apply zI.drewN | apply zI.drew | refine zI.farT (t := 25) (b := gb368) ?_ (by decide) (by repeat (first | exact zA.of BK368.out | apply zA.set | apply zA.drewN | apply zA.drew | apply zA.alloc)) _ | refine zI.farT (t := 25) (b := gb395) ?_ (by decide) (by repeat (first | exact zA.of BK395.out | apply zA.set | apply zA.drewN | apply zA.drew | apply zA.alloc)) _) | exact HI371.out)) hb); have n7_ := zG.mk (zH.below (by refine zH.as HI383.out ?_; repeat (first | (with_reducible first | exact HI383.out | apply zH.alloc | apply zH.drewN | apply zH.drew | refine zH.farT (t := 25) (b := gb368) ?_ (by decide) (by repeat (first | exact zA.of BK368.out | apply zA.set | apply zA.drewN | apply zA.drew | apply zA.alloc)) _ | refine zH.farT (t := 25) (b := gb395) ?_ (by decide) (by repeat (first | exact zA.of BK395.out | apply zA.set | apply zA.drewN | apply zA.drew | apply zA.alloc)) _) | exact HI383.out)) hb); have n8_ := zG.mk (blk_below (g := gb395) (o := .cells #[.bool t387, .int .i64 t388, .slice Ao47 t389.length co47] 25 (0, 0)) (by (with_reducible repeat (first | refine zL ?_ _ | refine zM ?_ | refine zK ?_ _)); exact BK395.out) hb); have n9_ := zG.mk (below_step (by repeat (first | (with_reducible first | exact HB.out | apply zF | apply zC | apply zD | refine zE ?_ GE368.out | refine zE ?_ GE395.out) | exact HB.out)) hb); clear HO_10; clear HO365; clear HO377; clear HO386; clear HO391; clear BK368; clear HI371; clear HI383; clear BK395; clear HB; have HO_10 := n0_; have HO365 := n1_; have HO377 := n2_; have HO386 := n3_; have HO391 := n4_; have BK368 := n5_; have HI371 := n6_; have HI383 := n7_; have BK395 := n8_; have HB := n9_; clear n0_ n1_ n2_ n3_ n4_ n5_ n6_ n7_ n8_ n9_; (try clear hb); (try clear hb2); (try clear hk); (try clear hi)) | (go_at_call 15; (with_reducible refine (serinetteref01_Ints.calls k2 _ _ x10_2 _ _ t384 false _ ?side1 ?side2 ?side3 ?side4 A26.out).mono ?_); (case side1 => repeat (first | exact (Kd.R_reads' HO_10.out).2.2 | (with_reducible refine Kd.zV ?_ _) | (with_reducible refine Kd.zT ?_ _) | (with_reducible refine Kd.zU ?_))); (case side2 => exact (Kd.R_reads' HO_10.out).2.1); (case side3 => repeat (first | exact (Kd.R_reads' HO386.out).2.2 | (with_reducible refine Kd.zV ?_ _) | (with_reducible refine Kd.zT ?_ _) | (with_reducible refine Kd.zU ?_))); (case side4 => exact (Kd.R_reads' HO386.out).2.1); rintro e w' ⟨rfl, ⟨nd, rfl⟩⟩) | (go_at_call 11; (with_reducible refine (bits_Writer_Len.calls g371 t378 t379 t396 t397 t398 w _ ?side1 ?side2 A23.out).mono ?_); (case side1 => repeat (first | (with_reducible first | exact HI371.out | apply zI.alloc | apply zI.drewN | apply zI.drew | refine zI.farT (t := 25) (b := gb368) ?_ (by decide) (by repeat (first | exact zA.of BK368.out | apply zA.set | apply zA.drewN | apply zA.drew | apply zA.alloc)) _ | refine zI.farT (t := 25) (b := gb395) ?_ (by decide) (by repeat (first | exact zA.of BK395.out | apply zA.set | apply zA.drewN | apply zA.drew | apply zA.alloc)) _) | exact HI371.out)); (case side2 => repeat (first | (with_reducible first | exact HB.out | apply zF | apply zC | apply zD | refine zE ?_ GE368.out | refine zE ?_ GE395.out) | exact HB.out)); rintro e w94 ⟨rfl, hi, hb, hk⟩; have n0_ := zG.mk (Kd.R_mono (Kd.R_keep (zI.apart (show zI w _ g371 t378 t379 from by repeat (first | (with_reducible first | exact HI371.out | apply zI.alloc | apply zI.drewN | apply zI.drew | refine zI.farT (t := 25) (b := gb368) ?_ (by decide) (by repeat (first | exact zA.of BK368.out | apply zA.set | apply zA.drewN | apply zA.drew | apply zA.alloc)) _ | refine zI.farT (t := 25) (b := gb395) ?_ (by decide) (by repeat (first | exact zA.of BK395.out | apply zA.set | apply zA.drewN | apply zA.drew | apply zA.alloc)) _) | exact HI371.out)) (by (with_reducible repeat (first | apply Kd.zS | apply Kd.zQ | apply Kd.zR)); exact (Kd.R_mono (Kd.R_far (p := ⟨gb395, 2, none⟩) (Kd.R_far (p := ⟨gb395, 1, none⟩) (Kd.R_far (p := ⟨gb395, 0, none⟩) (Kd.R_types HO_10.out BK395.out (by decide)) (fun _ hk => hk.2) (.bool t387)) (fun _ hk => hk.2) (.int .i64 t388)) (fun _ hk => hk.2) (.slice Ao47 t389.length co47)) (fun _ h_ => h_.1))) (by decide)) hk (fun _ h => h.2)) (fun _ h => h.1)); have n1_ := zG.mk (Kd.R_mono (Kd.R_keep (zI.apart (show zI w _ g371 t378 t379 from by repeat (first | (with_reducible first | exact HI371.out | apply zI.alloc | apply zI.drewN | apply zI.drew | refine zI.farT (t := 25) (b := gb368) ?_ (by decide) (by repeat (first | exact zA.of BK368.out | apply zA.set | apply zA.drewN | apply zA.drew | apply zA.alloc)) _ | refine zI.farT (t := 25) (b := gb395) ?_ (by decide) (by repeat (first | exact zA.of BK395.out | apply zA.set | apply zA.drewN | apply zA.drew | apply zA.alloc)) _) | exact HI371.out)) (by (with_reducible repeat (first | apply Kd.zS | apply Kd.zQ | apply Kd.zR)); exact (Kd.R_mono (Kd.R_far (p := ⟨gb395, 2, none⟩) (Kd.R_far (p := ⟨gb395, 1, none⟩) (Kd.R_far (p := ⟨gb395, 0, none⟩) (Kd.R_types HO365.out BK395.out (by decide)) (fun _ hk => hk.2) (.bool t387)) (fun _ hk => hk.2) (.int .i64 t388)) (fun _ hk => hk.2) (.slice Ao47 t389.length co47)) (fun _ h_ => h_.1))) (by decide)) hk (fun _ h => h.2)) (fun _ h => h.1)); have n2_ := zG.mk (zJ.blk hk (g' := gb368) (o := .cells #[.bool t361, .int .i64 t362, .slice Ao33 t363.length co33] 25 (0, 0)) (by (with_reducible repeat (first | refine zL ?_ _ | refine zM ?_ | refine zK ?_ _)); refine zP ?_ NB368_395.out _; (with_reducible repeat (first | refine zL ?_ _ | refine zM ?_ | refine zK ?_ _)); refine zP ?_ NB368_395.out _; (with_reducible repeat (first | refine zL ?_ _ | refine zM ?_ | refine zK ?_ _)); refine zP ?_ NB368_395.out _; (with_reducible repeat (first | refine zL ?_ _ | refine zM ?_ | refine zK ?_ _)); exact BK368.out) NB368_371.out (by simp)); have n3_ := zG.mk (Kd.R_mono (Kd.R_keep (zI.apart (show zI w _ g371 t378 t379 from by repeat (first | (with_reducible first | exact HI371.out | apply zI.alloc | apply zI.drewN | apply zI.drew | refine zI.farT (t := 25) (b := gb368) ?_ (by decide) (by repeat (first | exact zA.of BK368.out | apply zA.set | apply zA.drewN | apply zA.drew | apply zA.alloc)) _ | refine zI.farT (t := 25) (b := gb395) ?_ (by decide) (by repeat (first | exact zA.of BK395.out | apply zA.set | apply zA.drewN | apply zA.drew | apply zA.alloc)) _) | exact HI371.out)) (by (with_reducible repeat (first | apply Kd.zS | apply Kd.zQ | apply Kd.zR)); exact (Kd.R_mono (Kd.R_far (p := ⟨gb395, 2, none⟩) (Kd.R_far (p := ⟨gb395, 1, none⟩) (Kd.R_far (p := ⟨gb395, 0, none⟩) (Kd.R_types HO377.out BK395.out (by decide)) (fun _ hk => hk.2) (.bool t387)) (fun _ hk => hk.2) (.int .i64 t388)) (fun _ hk => hk.2) (.slice Ao47 t389.length co47)) (fun _ h_ => h_.1))) (by decide)) hk (fun _ h => h.2)) (fun _ h => h.1)); have n4_ := zG.mk (zH.keepG (by refine zH.as HI383.out ?_; repeat (first | (with_reducible first | exact HI383.out | apply zH.alloc | apply zH.drewN | apply zH.drew | refine zH.farT (t := 25) (b := gb368) ?_ (by decide) (by repeat (first | exact zA.of BK368.out | apply zA.set | apply zA.drewN | apply zA.drew | apply zA.alloc)) _ | refine zH.farT (t := 25) (b := gb395) ?_ (by decide) (by repeat (first | exact zA.of BK395.out | apply zA.set | apply zA.drewN | apply zA.drew | apply zA.alloc)) _) | exact HI383.out)) (zI.blk (show zI w _ g371 t378 t379 from by repeat (first | (with_reducible first | exact HI371.out | apply zI.alloc | apply zI.drewN | apply zI.drew | refine zI.farT (t := 25) (b := gb368) ?_ (by decide) (by repeat (first | exact zA.of BK368.out | apply zA.set | apply zA.drewN | apply zA.drew | apply zA.alloc)) _ | refine zI.farT (t := 25) (b := gb395) ?_ (by decide) (by repeat (first | exact zA.of BK395.out | apply zA.set | apply zA.drewN | apply zA.drew | apply zA.alloc)) _) | exact HI371.out))).choose_spec (by decide) hk); have n5_ := zG.mk (Kd.R_mono (Kd.R_keep (zI.apart (show zI w _ g371 t378 t379 from by repeat (first | (with_reducible first | exact HI371.out | apply zI.alloc | apply zI.drewN | apply zI.drew | refine zI.farT (t := 25) (b := gb368) ?_ (by decide) (by repeat (first | exact zA.of BK368.out | apply zA.set | apply zA.drewN | apply zA.drew | apply zA.alloc)) _ | refine zI.farT (t := 25) (b := gb395) ?_ (by decide) (by repeat (first | exact zA.of BK395.out | apply zA.set | apply zA.drewN | apply zA.drew | apply zA.alloc)) _) | exact HI371.out)) (by (with_reducible repeat (first | apply Kd.zS | apply Kd.zQ | apply Kd.zR)); exact (Kd.R_mono (Kd.R_far (p := ⟨gb395, 2, none⟩) (Kd.R_far (p := ⟨gb395, 1, none⟩) (Kd.R_far (p := ⟨gb395, 0, none⟩) (Kd.R_types HO386.out BK395.out (by decide)) (fun _ hk => hk.2) (.bool t387)) (fun _ hk => hk.2) (.int .i64 t388)) (fun _ hk => hk.2) (.slice Ao47 t389.length co47)) (fun _ h_ => h_.1))) (by decide)) hk (fun _ h => h.2)) (fun _ h => h.1)); have n6_ := zG.mk (Kd.R_mono (Kd.R_keep (zI.apart (show zI w _ g371 t378 t379 from by repeat (first | (with_reducible first | exact HI371.out | apply zI.alloc | apply zI.drewN | apply zI.drew | refine zI.farT (t := 25) (b := gb368) ?_ (by decide) (by repeat (first | exact zA.of BK368.out | apply zA.set | apply zA.drewN | apply zA.drew | apply zA.alloc)) _ | refine zI.farT (t := 25) (b := gb395) ?_ (by decide) (by repeat (first | exact zA.of BK395.out | apply zA.set | apply zA.drewN | apply zA.drew | apply zA.alloc)) _) | exact HI371.out)) (by (with_reducible repeat (first | apply Kd.zS | apply Kd.zQ | apply Kd.zR)); exact (Kd.R_mono (Kd.R_far (p := ⟨gb395, 2, none⟩) (Kd.R_far (p := ⟨gb395, 1, none⟩) (Kd.R_far (p := ⟨gb395, 0, none⟩) (Kd.R_types HO391.out BK395.out (by decide)) (fun _ hk => hk.2) (.bool t387)) (fun _ hk => hk.2) (.int .i64 t388)) (fun _ hk => hk.2) (.slice Ao47 t389.length co47)) (fun _ h_ => h_.1))) (by decide)) hk (fun _ h => h.2)) (fun _ h => h.1)); have n7_ := zG.mk (zJ.blk hk (g' := gb395) (o := .cells #[.bool t387, .int .i64 t388, .slice Ao47 t389.length co47] 25 (0, 0)) (by (with_reducible repeat (first | refine zL ?_ _ | refine zM ?_ | refine zK ?_ _)); refine blk_put (cs := #[.bool t387, .int .i64 t388, .slice none 0 0]) ?_ 2 _ rfl; (with_reducible repeat (first | refine zL ?_ _ | refine zM ?_ | refine zK ?_ _)); refine blk_put (cs := #[.bool t387, .int .i64 0, .slice none 0 0]) ?_ 1 _ rfl; (with_reducible repeat (first | refine zL ?_ _ | refine zM ?_ | refine zK ?_ _)); refine blk_put (cs := #[.bool false, .int .i64 0, .slice none 0 0]) ?_ 0 _ rfl; (with_reducible repeat (first | refine zL ?_ _ | refine zM ?_ | refine zK ?_ _)); exact BK395.out) NB395_371.out (by simp)); have n8_ := zG.mk (hb); have n9_ := zG.mk (hi); clear HO_10; clear HO365; clear BK368; clear HO377; clear HI383; clear HO386; clear HO391; clear BK395; clear HB; clear HI371; have HO_10 := n0_; have HO365 := n1_; have BK368 := n2_; have HO377 := n3_; have HI383 := n4_; have HO386 := n5_; have HO391 := n6_; have BK395 := n7_; have HB := n8_; have HI371 := n9_; clear n0_ n1_ n2_ n3_ n4_ n5_ n6_ n7_ n8_ n9_; (try clear hb); (try clear hb2); (try clear hk); (try clear hi)) | ((with_reducible refine gate_callee (f := 8) rfl ?_); refine goesL_ (some 61) rfl rfl Try.func8 (by kernel_rfl) rfl #[] rfl (by (try simp only [List.map_toArray, List.map_cons, List.map_nil]); first | done | rfl | (simp only [List.length_drop, List.length_take]; rfl)) ?_; (with_reducible refine (bits_New.calls  t369 t370 w _ ?side1 A15.out).mono ?_); (case side1 => repeat (first | (with_reducible first | exact HB.out | apply zF | apply zC | apply zD | refine zE ?_ GE368.out) | exact HB.out)); rintro e w158 ⟨g371, rfl, hi, hb, hb2⟩; refine ⟨_, rfl, ?_⟩; have n0_ := zG.mk (Kd.R_below (by (with_reducible repeat (first | apply Kd.zS | apply Kd.zQ | apply Kd.zR)); exact (Kd.R_mono (Kd.R_far (p := ⟨gb368, 2, none⟩) (Kd.R_far (p := ⟨gb368, 1, none⟩) (Kd.R_far (p := ⟨gb368, 0, none⟩) (Kd.R_types HO_10.out BK368.out (by decide)) (fun _ hk => hk.2) (.bool t361)) (fun _ hk => hk.2) (.int .i64 t362)) (fun _ hk => hk.2) (.slice Ao33 t363.length co33)) (fun _ h_ => h_.1))) hb2); have n1_ := zG.mk (Kd.R_below (by (with_reducible repeat (first | apply Kd.zS | apply Kd.zQ | apply Kd.zR)); exact (Kd.R_mono (Kd.R_far (p := ⟨gb368, 2, none⟩) (Kd.R_far (p := ⟨gb368, 1, none⟩) (Kd.R_far (p := ⟨gb368, 0, none⟩) (Kd.R_types HO365.out BK368.out (by decide)) (fun _ hk => hk.2) (.bool t361)) (fun _ hk => hk.2) (.int .i64 t362)) (fun _ hk => hk.2) (.slice Ao33 t363.length co33)) (fun _ h_ => h_.1))) hb2); have n2_ := zG.mk (blk_below (g := gb368) (o := .cells #[.bool t361, .int .i64 t362, .slice Ao33 t363.length co33] 25 (0, 0)) (by (with_reducible repeat (first | refine zL ?_ _ | refine zM ?_ | refine zK ?_ _)); refine blk_put (cs := #[.bool t361, .int .i64 t362, .slice none 0 0]) ?_ 2 _ rfl; (with_reducible repeat (first | refine zL ?_ _ | refine zM ?_ | refine zK ?_ _)); refine blk_put (cs := #[.bool t361, .int .i64 0, .slice none 0 0]) ?_ 1 _ rfl; (with_reducible repeat (first | refine zL ?_ _ | refine zM ?_ | refine zK ?_ _)); refine blk_put (cs := #[.bool false, .int .i64 0, .slice none 0 0]) ?_ 0 _ rfl; (with_reducible repeat (first | refine zL ?_ _ | refine zM ?_ | refine zK ?_ _)); exact BK368.out) hb2); have n3_ := zG.mk (hb); have n4_ := zG.mk (hi); have n5_ := zG.mk (zI.ne_blk hi (blk_below (g := gb368) (o := .cells #[.bool t361, .int .i64 t362, .slice Ao33 t363.length co33] 25 (0, 0)) (by (with_reducible repeat (first | refine zL ?_ _ | refine zM ?_ | refine zK ?_ _)); refine blk_put (cs := #[.bool t361, .int .i64 t362, .slice none 0 0]) ?_ 2 _ rfl; (with_reducible repeat (first | refine zL ?_ _ | refine zM ?_ | refine zK ?_ _)); refine blk_put (cs := #[.bool t361, .int .i64 0, .slice none 0 0]) ?_ 1 _ rfl; (with_reducible repeat (first | refine zL ?_ _ | refine zM ?_ | refine zK ?_ _)); refine blk_put (cs := #[.bool false, .int .i64 0, .slice none 0 0]) ?_ 0 _ rfl; (with_reducible repeat (first | refine zL ?_ _ | refine zM ?_ | refine zK ?_ _)); exact BK368.out) hb2) (by decide)); have n6_ := zG.mk (Ne.symm (zI.ne_blk hi (blk_below (g := gb368) (o := .cells #[.bool t361, .int .i64 t362, .slice Ao33 t363.length co33] 25 (0, 0)) (by (with_reducible repeat (first | refine zL ?_ _ | refine zM ?_ | refine zK ?_ _)); refine blk_put (cs := #[.bool t361, .int .i64 t362, .slice none 0 0]) ?_ 2 _ rfl; (with_reducible repeat (first | refine zL ?_ _ | refine zM ?_ | refine zK ?_ _)); refine blk_put (cs := #[.bool t361, .int .i64 0, .slice none 0 0]) ?_ 1 _ rfl; (with_reducible repeat (first | refine zL ?_ _ | refine zM ?_ | refine zK ?_ _)); refine blk_put (cs := #[.bool false, .int .i64 0, .slice none 0 0]) ?_ 0 _ rfl; (with_reducible repeat (first | refine zL ?_ _ | refine zM ?_ | refine zK ?_ _)); exact BK368.out) hb2) (by decide))); clear HO_10; clear HO365; clear BK368; clear HB; have HO_10 := n0_; have HO365 := n1_; have BK368 := n2_; have HB := n3_; have HI371 := n4_; have NB371_368 := n5_; have NB368_371 := n6_; clear n0_ n1_ n2_ n3_ n4_ n5_ n6_; (try clear hb); (try clear hb2); (try clear hk); (try clear hi)))
                go_ret
                first | (exact ⟨by first | rfl | (simp [errW_none, errW_some] <;> rfl) | (simp [*, errW_none, errW_some] <;> rfl), by repeat (first | (with_reducible first | exact HB.out | apply zF | apply zC | apply zD | refine zE ?_ GE368.out | refine zE ?_ GE395.out) | exact HB.out)⟩) | (exact ⟨by first | rfl | (simp [errW_none, errW_some] <;> rfl) | (simp [*, errW_none, errW_some] <;> rfl), by repeat (first | (with_reducible first | exact HB.out | apply zF | apply zC | apply zD | refine zE ?_ GE368.out) | exact HB.out)⟩)
noncomputable def serinettelaw15_SectionBest.Pure : Prop := ∀ (l0 : List Int) (a1 : Int) (a2 : Int) (a3 : Bool), l0.length ≤ maxLen → l0.length * 4 ≤ 140737488351232 → (∀ x ∈ l0, (Lit.int .i32 x).wf = true) → (Lit.int .u8 a1).wf = true → (Lit.int .u8 a2).wf = true → ∃ k, serinettelaw15_SectionBest.f k l0 a1 a2 a3 = some true
theorem serinettelaw15_SectionBest.walk (P : serinettelaw15_SectionBest.Pure) (a0 : Option Addr) (len0 cap0 : Nat) (z0 : List Int) (a1 : Int) (a2 : Int) (a3 : Bool) (w : World) (w0 : (a0 = none ∧ len0 = 0 ∧ cap0 = 0 ∧ z0 = []) ∨ ∃ x, a0 = some x ∧ len0 ≤ cap0 ∧ cap0 ≤ maxLen ∧ z0.length = cap0 ∧ (∀ i, i < z0.length → w.cell? (x.add i) = some (.int .i32 (z0.getD i 0))) ∧ ∀ n ∈ z0, (Lit.int .i32 n).wf = true) (y0 : len0 * 4 ≤ 140737488351232) (w1 : (Lit.int .u8 a1).wf = true) (w2 : (Lit.int .u8 a2).wf = true) :
    Calls Try.prog 4 #[.slice a0 len0 cap0, .int .u8 a1, .int .u8 a2, .bool a3] w fun e w' => e = .returned (.bool true) ∧ Below w.heap.size w w' := by
  obtain ⟨l0, rfl, hr0, hm0, hw0, hc0⟩ := ReadsInt.ofRowC w0
  obtain ⟨k, h⟩ := P l0 a1 a2 a3 hm0 y0 hw0 w1 w2
  refine (serinettelaw15_SectionBest.calls k _ _ l0 a1 a2 a3 true w (Kd.C_of_reads (d := (0 : Int)) (h1 := fun _ => rfl) hr0) hc0 h).mono ?_
  rintro e w' ⟨rfl, hd⟩
  exact ⟨rfl, hd⟩
end Go.Proofs.Ytokdjeoecnnckaa.PA
end
section
namespace Go.Proofs.Ytokdjeoecnnckaa.PL
open Go.RowKit Go.Proofs.Ytokdjeoecnnckaa.PA Go.Proofs.YtokdjeoecnnckaaW.PrintWords Go.Proofs.YtokdjeoecnnckaaW.PrintLast Go.Proofs.YtokdjeoecnnckaaW.PrintMore
set_option linter.unusedVariables false
set_option linter.unusedSimpArgs false
theorem wid_append (a b : List Int) (ha : NearAll a) (hb : NearAll b) : wid (a ++ b) = max (wid a) (wid b) := by
  obtain ⟨a1, _, a2⟩ := wid_spec ha
  obtain ⟨b1, _, b2⟩ := wid_spec hb
  refine wid_eq (nearAll_append.2 ⟨ha, hb⟩) (fitsW_append.2 ⟨fitsW_mono a1 (by omega), fitsW_mono b1 (by omega)⟩) (fun v hv hf => ?_)
  have hf := fitsW_append.1 hf
  rcases Nat.lt_or_ge v (wid a) with h | h
  · exact a2 v h hf.1
  · exact b2 v (by omega) hf.2
def smP (l : List Int) : Sm := ⟨(l.length : Int), (List.range 31).map (fun k => bitsL k l), (wid l : Int)⟩
theorem smP_ys (l : List Int) {k : Nat} (hk : k < 31) : (smP l).ys.getD k 0 = bitsL k l := by
  simp [smP, List.getD_eq_getElem?_getD, hk]
theorem take_near {l : List Int} (h : NearAll l) (n : Nat) : NearAll (l.take n) := fun x hx => h x (List.mem_of_mem_take hx)
theorem drop_near {l : List Int} (h : NearAll l) (n : Nat) : NearAll (l.drop n) := fun x hx => h x (List.mem_of_mem_drop hx)
theorem sumBy_near (k : Nat) (hk : k ≤ 30) : ∀ (l : List Int) (s : Int), NearAll l → l.length ≤ 1000 → 0 ≤ s → s + 17179869300 * l.length ≤ 17179869300 * 1000 → l.foldl (fun s n => wrap64 (s + sizeV n (k : Int))) s = s + bitsL k l
  | [], s, _, _, _, _ => by simp [bitsL]
  | x :: t, s, hn, hl, h0, h1 => by
    have hx := (nearAll_cons.1 hn).1
    have hb := sz_bd hx hk
    have e : sizeV x (k : Int) = sz x k := by unfold sizeV; rw [size_eq, if_pos hx, kk_nat hk]; rfl
    simp only [List.length_cons] at hl h1
    rw [List.foldl_cons, e, w64 (by omega) (by omega), sumBy_near k hk t _ (nearAll_cons.1 hn).2 (by omega) (by omega) (by omega)]
    simp only [bitsL]
    omega
theorem smOf_near {l : List Int} (h : NearAll l) (hl : l.length ≤ 1000) : smOf widF l = smP l := by
  unfold smOf smP ysAt widF
  congr 1
  apply List.map_congr_left
  intro k hk
  have hk : k < 31 := List.mem_range.1 hk
  simp only [hk, if_true]
  have := sumBy_near k (by omega) l 0 h hl (by omega) (by omega)
  rw [Int.zero_add] at this
  exact this
theorem bits_bd (k : Nat) (hk : k ≤ 30) (l : List Int) (h : NearAll l) (hl : l.length ≤ 1000) : 0 ≤ bitsL k l ∧ bitsL k l ≤ 17179869300000 := by
  have h1 := bitsL_bd k hk l h
  have : 0 ≤ (1 + (k : Int)) * (l.length : Int) := Int.mul_nonneg (by omega) (by omega)
  omega
theorem withS_near {a b : List Int} (ha : NearAll a) (hb : NearAll b) (hl : a.length + b.length ≤ 1000) : withS (smP a) (smP b) = smP (a ++ b) := by
  unfold withS
  have e1 : wrap64 ((smP a).n + (smP b).n) = ((a ++ b).length : Int) := by
    simp only [smP, List.length_append]
    rw [w64 (by omega) (by omega)]; omega
  have e2 : zAt (smP a).ys (smP b).ys 31 = (List.range 31).map (fun k => bitsL k (a ++ b)) := by
    unfold zAt
    apply List.map_congr_left
    intro k hk
    have hk : k < 31 := List.mem_range.1 hk
    have b1 := bits_bd k (by omega) a ha (by omega)
    have b2 := bits_bd k (by omega) b hb (by omega)
    simp only [hk, if_true]
    rw [smP_ys a hk, smP_ys b hk, w64 (by omega) (by omega), bitsL_append]
  have e3 : mx (smP a).wd (smP b).wd = (wid (a ++ b) : Int) := by
    rw [wid_append a b ha hb]
    simp only [smP]
    unfold mx
    by_cases hw : (wid a : Int) < (wid b : Int)
    · rw [if_pos hw]; omega
    · rw [if_neg hw]; omega
  rw [e1, e2, e3]
  rfl
theorem bestK_near (l : List Int) : ∀ m, m ≤ 30 → bestK (smP l).ys m = ((amin (fun k => bitsL k l) m : Int), bitsL (amin (fun k => bitsL k l) m) l)
  | 0, _ => by simp only [bestK, amin]; rw [smP_ys l (by omega)]; rfl
  | m + 1, h => by
    simp only [bestK, amin]
    rw [bestK_near l m (by omega), smP_ys l (by omega)]
    simp only
    split <;> rfl
theorem bestP_near {l : List Int} (h : NearAll l) (hl : l.length ≤ 1000) {m : Nat} (hm : m ≤ 30) : bestP (smP l).n (smP l).ys (smP l).wd m = (((bestL l m).1, (bestL l m).2.1), (bestL l m).2.2.1) := by
  have h34 := (wid_spec h).2.1
  have hb := raw_bd l hl h34
  have hr : bestRaw (smP l).n (smP l).wd = rawL l := by
    unfold bestRaw rawL smP
    simp only
    rw [Int.mul_comm, w64 (x := (wid l : Int) * l.length) (by omega) (by omega), w64 (by omega) (by omega)]
  unfold bestP
  rw [hr, bestK_near l m hm]
  unfold bestL
  have hw : (smP l).wd = (wid l : Int) := rfl
  rw [hw]
  by_cases hc : wid l ≤ 31 ∧ rawL l < bitsL (amin (fun k => bitsL k l) m) l
  · rw [if_pos ⟨by omega, hc.2⟩, if_pos hc]
  · rw [if_neg (fun g => hc ⟨by omega, g.2⟩), if_neg hc]
def partL (l : List Int) (m : Nat) : S50 := ⟨(bestL l m).1, (bestL l m).2.1⟩
def bestN (l : List Int) (m : Nat) : Int := (bestL l m).2.2.1
theorem partOf_near {l : List Int} (h : NearAll l) (hl : l.length ≤ 1000) {m : Nat} (hm : m ≤ 30) : partOf (smP l) m = partL l m := by unfold partOf partL; rw [bestP_near h hl hm]
theorem bitsOf_near {l : List Int} (h : NearAll l) (hl : l.length ≤ 1000) {m : Nat} (hm : m ≤ 30) : PA.bitsOf (smP l) m = bestN l m := by unfold PA.bitsOf bestN; rw [bestP_near h hl hm]
theorem best_le (l : List Int) (m : Nat) : (∀ k, k ≤ m → (bestL l m).2.2.1 ≤ bitsL k l) ∧ (wid l ≤ 31 → (bestL l m).2.2.1 ≤ rawL l) := by
  have hmin := amin_min (fun k => bitsL k l) m
  unfold bestL
  split
  · rename_i h
    exact ⟨fun k hk => by have := hmin k hk; simp only [] at *; omega, fun _ => Int.le_refl _⟩
  · rename_i h
    refine ⟨fun k hk => hmin k hk, fun h1 => ?_⟩
    have h2 : ¬ rawL l < bitsL (amin (fun k => bitsL k l) m) l := fun h3 => h ⟨h1, h3⟩
    simp only []; omega
theorem best_is (l : List Int) (m : Nat) : (∃ k, k ≤ m ∧ (bestL l m).2.2.1 = bitsL k l) ∨ (wid l ≤ 31 ∧ (bestL l m).2.2.1 = rawL l) := by
  unfold bestL
  split
  · rename_i h; exact .inr ⟨h.1, rfl⟩
  · exact .inl ⟨_, amin_le _ m, rfl⟩
theorem bestN_bd {l : List Int} (h : NearAll l) (hl : l.length ≤ 1000) {m : Nat} (hm : m ≤ 30) : 0 ≤ bestN l m ∧ bestN l m ≤ 17179869300 * l.length := by
  have h0 : bestN l m ≤ bitsL 0 l := (best_le l m).1 0 (Nat.zero_le _)
  have h1 := bitsL_bd 0 (by omega) l h
  refine ⟨?_, by omega⟩
  rcases best_is l m with ⟨k, hk, e⟩ | ⟨hw, e⟩
  · have := bits_bd k (by omega) l h hl
    unfold bestN; omega
  · have := raw_bd l hl (wid_spec h).2.1
    unfold bestN; rw [e]; unfold rawL; omega
def split : List Int → List Int → List (List Int)
  | [], _ => []
  | n :: cs, l => l.take n.toNat :: split cs (l.drop n.toNat)
theorem split_len : ∀ (cs l : List Int), (split cs l).length = cs.length
  | [], _ => rfl
  | _ :: cs, l => by simp [split, split_len cs]
theorem split_near : ∀ (cs l : List Int), NearAll l → l.length ≤ 1000 → ∀ p ∈ split cs l, NearAll p ∧ p.length ≤ 1000
  | [], _, _, _, p, hp => by simp [split] at hp
  | n :: cs, l, h, hl, p, hp => by
    simp only [split, List.mem_cons] at hp
    rcases hp with rfl | hp
    · exact ⟨take_near h _, by rw [List.length_take]; omega⟩
    · exact split_near cs _ (drop_near h _) (by rw [List.length_drop]; omega) p hp
theorem sums_near : ∀ (cs l : List Int), NearAll l → l.length ≤ 1000 → sumsOf widF cs l = (split cs l).map smP
  | [], _, _, _ => rfl
  | n :: cs, l, h, hl => by
    simp only [sumsOf, split, List.map_cons]
    rw [smOf_near (take_near h _) (by rw [List.length_take]; omega), sums_near cs _ (drop_near h _) (by rw [List.length_drop]; omega)]
def pairSum : List Int → List Int
  | a :: b :: r => (a + b) :: pairSum r
  | _ => []
def cut2 : List Int → Prop
  | a :: b :: r => 0 ≤ a ∧ 0 ≤ b ∧ cut2 r
  | _ => True
theorem pair_near : ∀ (cs l : List Int), cut2 cs → NearAll l → l.length ≤ 1000 → pairUp ((split cs l).map smP) = (split (pairSum cs) l).map smP
  | [], _, _, _, _ => rfl
  | [_], _, _, _, _ => rfl
  | a :: b :: r, l, hc, h, hl => by
    obtain ⟨ha, hb, hr⟩ := hc
    simp only [split, pairSum, List.map_cons, pairUp]
    rw [pair_near r _ hr (drop_near (drop_near h _) _) (by rw [List.length_drop, List.length_drop]; omega)]
    rw [withS_near (take_near h _) (take_near (drop_near h _) _) (by rw [List.length_take, List.length_take, List.length_drop]; omega)]
    have e : (a + b).toNat = a.toNat + b.toNat := by omega
    rw [e, List.take_add, List.drop_drop]
theorem pairSum_rep (s : Int) : ∀ m, pairSum (List.replicate (2 * m) s) = List.replicate m (2 * s)
  | 0 => rfl
  | m + 1 => by
    rw [show 2 * (m + 1) = 2 * m + 1 + 1 by omega, List.replicate_succ, List.replicate_succ, pairSum, pairSum_rep s m, List.replicate_succ]
    congr 1
    omega
theorem cut2_rep (s : Int) (h : 0 ≤ s) : ∀ m, cut2 (List.replicate (2 * m) s)
  | 0 => trivial
  | m + 1 => by
    rw [show 2 * (m + 1) = 2 * m + 1 + 1 by omega, List.replicate_succ, List.replicate_succ]
    exact ⟨h, h, cut2_rep s h m⟩
theorem cuts_pair {n order : Int} (hn : 0 ≤ n) (ho : 0 ≤ order) {o : Nat} (h : cutsP n order (o + 1) ≠ []) : cut2 (cutsP n order (o + 1)) ∧ pairSum (cutsP n order (o + 1)) = cutsP n order o := by
  have hc : (n + order) % 2 ^ (o + 1) = 0 ∧ order < (n + order) / 2 ^ (o + 1) := by
    unfold cutsP at h
    split at h
    · assumption
    · exact absurd rfl h
  obtain ⟨P, hP⟩ : ∃ P : Int, (2 : Int) ^ o = P := ⟨_, rfl⟩
  have hp : 0 < P := by rw [← hP]; exact Int.pow_pos (by decide)
  have e1 : (2 : Int) ^ (o + 1) = P * 2 := by rw [Int.pow_succ, hP]
  rw [e1] at hc
  obtain ⟨s, hs⟩ : ∃ s, (n + order) / (P * 2) = s := ⟨_, rfl⟩
  have hme := Int.mul_ediv_add_emod (n + order) (P * 2)
  rw [hs] at hc hme
  have hN : n + order = 2 * s * P := by rw [hc.1] at hme; rw [← hme]; grind
  have hd : (n + order) / P = 2 * s := by rw [hN]; exact Int.mul_ediv_cancel _ (by omega)
  have hm : (n + order) % P = 0 := by rw [hN]; exact Int.mul_emod_left _ _
  have h1 : cutsP n order (o + 1) = (s - order) :: s :: List.replicate (2 * (2 ^ o - 1)) s := by
    unfold cutsP
    rw [e1, hs, if_pos hc]
    have h2 : 2 ^ (o + 1) - 1 = 2 * (2 ^ o - 1) + 1 := by
      have : 0 < 2 ^ o := Nat.pow_pos (by decide)
      rw [Nat.pow_succ]; omega
    rw [h2, List.replicate_succ]
  have h2 : cutsP n order o = (2 * s - order) :: List.replicate (2 ^ o - 1) (2 * s) := by
    unfold cutsP
    rw [hP, hd, if_pos ⟨hm, by omega⟩]
  rw [h1, h2]
  refine ⟨⟨by omega, by omega, cut2_rep s (by omega) _⟩, ?_⟩
  simp only [pairSum]
  rw [pairSum_rep]
  congr 1
  omega
theorem cuts_down {n order : Int} (hn : 0 ≤ n) (ho : 0 ≤ order) {o : Nat} (h : cutsP n order (o + 1) ≠ []) : cutsP n order o ≠ [] := by
  have h1 := (cuts_pair hn ho h).2
  have h2 := cutsP_len h
  intro h3
  rw [h3] at h1
  have h4 : ∃ a b r, cutsP n order (o + 1) = a :: b :: r := by
    rw [Nat.pow_succ] at h2
    have : 0 < 2 ^ o := Nat.pow_pos (by decide)
    match hc : cutsP n order (o + 1) with
    | [] => rw [hc] at h2; simp at h2; omega
    | [_] => rw [hc] at h2; simp at h2; omega
    | a :: b :: r => exact ⟨a, b, r, rfl⟩
  obtain ⟨a, b, r, h5⟩ := h4
  rw [h5] at h1
  simp [pairSum] at h1
theorem cuts_below {n order : Int} (hn : 0 ≤ n) (ho : 0 ≤ order) : ∀ {o : Nat}, cutsP n order o ≠ [] → ∀ j, j ≤ o → cutsP n order j ≠ []
  | 0, h, j, hj => by obtain rfl : j = 0 := by omega
                      exact h
  | o + 1, h, j, hj => by
    rcases Nat.lt_or_ge o j with h1 | h1
    · obtain rfl : j = o + 1 := by omega
      exact h
    · exact cuts_below hn ho (cuts_down hn ho h) j h1
def partsP (l : List Int) (order : Int) (j : Nat) : List (List Int) := split (cutsP (l.length : Int) order j) l
def lev (l : List Int) (order : Int) : Nat → List (Nat × List Sm)
  | 0 => [(0, (partsP l order 0).map smP)]
  | o + 1 => (o + 1, (partsP l order (o + 1)).map smP) :: lev l order o
theorem levels_near {l : List Int} (h : NearAll l) (hl : l.length ≤ 1000) {order : Int} (ho : 0 ≤ order) : ∀ o, cutsP (l.length : Int) order o ≠ [] → levels o ((partsP l order o).map smP) = lev l order o
  | 0, _ => rfl
  | o + 1, hc => by
    simp only [levels, lev]
    congr 1
    have h1 := cuts_pair (by omega) ho hc
    have h2 : pairUp ((partsP l order (o + 1)).map smP) = (partsP l order o).map smP := by
      unfold partsP
      rw [pair_near _ l h1.1 h hl, h1.2]
    rw [h2]
    exact levels_near h hl ho o (cuts_down (by omega) ho hc)
def planN (w : Bool) : List (List Int) → Int
  | [] => 0
  | p :: ps => sizeOf_ w + bestN p (mostOf w) + planN w ps
def planL (l : List Int) (order : Int) (w : Bool) (j : Nat) : Int := 6 + planN w (partsP l order j)
def planPs (l : List Int) (order : Int) (w : Bool) (j : Nat) : List S50 := (partsP l order j).map (fun p => partL p (mostOf w))
theorem mostOf_le (w : Bool) : mostOf w ≤ 30 := by cases w <;> decide
theorem sizeOf_bd (w : Bool) : 4 ≤ sizeOf_ w ∧ sizeOf_ w ≤ 5 := by cases w <;> decide
theorem bits_fold (w : Bool) : ∀ (cs l : List Int) (s : Int), NearAll l → l.length ≤ 1000 → 0 ≤ s → s + 5 * cs.length + 17179869300 * l.length ≤ 1000000000000000 → cs.length ≤ 100000 → ((split cs l).map smP).foldl (planAdd w) s = s + planN w (split cs l)
  | [], l, s, _, _, _, _, _ => by simp [split, planN]
  | n :: cs, l, s, h, hl, h0, h1, hcl => by
    have hm := mostOf_le w
    have hb := bestN_bd (take_near h n.toNat) (by rw [List.length_take]; omega) hm
    have hz := sizeOf_bd w
    have hlt : (l.take n.toNat).length + (l.drop n.toNat).length = l.length := by rw [List.length_take, List.length_drop]; omega
    simp only [List.length_cons] at h1 hcl
    simp only [split, List.map_cons, List.foldl_cons, planN]
    unfold planAdd
    rw [bitsOf_near (take_near h _) (by omega) hm, w64 (x := sizeOf_ w + _) (by omega) (by omega), w64 (by omega) (by omega)]
    rw [show (fun n_ s_ => wrap64 (n_ + wrap64 (sizeOf_ w + PA.bitsOf s_ (mostOf w)))) = planAdd w from rfl]
    rw [bits_fold w cs _ _ (drop_near h _) (by omega) (by omega) (by omega) (by omega)]
    omega
theorem planBits_near {l : List Int} (h : NearAll l) (hl : l.length ≤ 1000) (order : Int) (w : Bool) {j : Nat} (hj : j ≤ 8) : planBits ((partsP l order j).map smP) w = planL l order w j := by
  unfold planBits planL partsP
  have hlen : (cutsP (l.length : Int) order j).length ≤ 256 := by
    by_cases hc : cutsP (l.length : Int) order j = []
    · rw [hc]; simp
    · rw [cutsP_len hc]
      have : 2 ^ j ≤ 2 ^ 8 := Nat.pow_le_pow_right (by decide) hj
      omega
  exact bits_fold w _ l 6 h hl (by omega) (by omega) (by omega)
theorem planParts_near {l : List Int} (h : NearAll l) (hl : l.length ≤ 1000) (order : Int) (w : Bool) (j : Nat) : planParts ((partsP l order j).map smP) w = planPs l order w j := by
  unfold planParts planPs
  rw [List.map_map]
  apply List.map_congr_left
  intro p hp
  have := split_near _ l h hl p hp
  exact partOf_near this.1 this.2 (mostOf_le w)
def curL (l : List Int) (order : Int) (w : Bool) (j : Nat) : Cur := ⟨w, (j : Int), planPs l order w j, planL l order w j⟩
theorem mkCur_near {l : List Int} (h : NearAll l) (hl : l.length ≤ 1000) (order : Int) (w : Bool) {j : Nat} (hj : j ≤ 8) : mkCur w (j : Int) ((partsP l order j).map smP) = curL l order w j := by
  unfold mkCur curL
  rw [planBits_near h hl order w hj, planParts_near h hl order w j]
theorem amin_or (f : Nat → Int) (m i : Nat) : (if f (m + 1) ≤ f i then (if f (amin f m) ≤ f (m + 1) then amin f m else m + 1) else (if f (amin f m) ≤ f i then amin f m else i)) = (if f (amin f (m + 1)) ≤ f i then amin f (m + 1) else i) := by
  by_cases h1 : f (m + 1) < f (amin f m)
  · have e : amin f (m + 1) = m + 1 := by rw [amin, if_pos h1]
    rw [e]
    by_cases h2 : f (m + 1) ≤ f i
    · rw [if_pos h2, if_pos h2, if_neg (by omega)]
    · rw [if_neg h2, if_neg h2, if_neg (by omega)]
  · have e : amin f (m + 1) = amin f m := by rw [amin, if_neg h1]
    rw [e]
    by_cases h2 : f (m + 1) ≤ f i
    · rw [if_pos h2, if_pos (by omega), if_pos (by omega)]
    · rw [if_neg h2]
theorem fin_near {l : List Int} (h : NearAll l) (hl : l.length ≤ 1000) (order : Int) (w : Bool) : ∀ (m i : Nat), m ≤ 8 → finCur false w (curL l order w i) (lev l order m) = curL l order w (if planL l order w (amin (planL l order w) m) ≤ planL l order w i then amin (planL l order w) m else i)
  | 0, i, _ => by
    have e : (curL l order w i).n = planL l order w i := rfl
    simp only [lev, finCur, stepCur]
    rw [planBits_near h hl order w (by omega), mkCur_near h hl order w (by omega), e]
    simp only [Bool.false_eq_true, false_or]
    have e0 : amin (planL l order w) 0 = 0 := rfl
    rw [e0]
    by_cases h1 : planL l order w 0 ≤ planL l order w i
    · rw [if_pos h1, if_pos h1]
    · rw [if_neg h1, if_neg h1]
  | m + 1, i, hm => by
    have e : (curL l order w i).n = planL l order w i := rfl
    rw [← amin_or]
    simp only [lev, finCur, stepCur]
    rw [planBits_near h hl order w hm, mkCur_near h hl order w hm, e]
    simp only [Bool.false_eq_true, false_or]
    by_cases h1 : planL l order w (m + 1) ≤ planL l order w i
    · rw [if_pos h1, if_pos h1, fin_near h hl order w m (m + 1) (by omega)]
    · rw [if_neg h1, if_neg h1, fin_near h hl order w m i (by omega)]
theorem fin_first {l : List Int} (h : NearAll l) (hl : l.length ≤ 1000) (order : Int) (w : Bool) (m : Nat) (hm : m ≤ 8) : finCur true w zCur (lev l order m) = curL l order w (amin (planL l order w) m) := by
  cases m with
  | zero =>
    simp only [lev, finCur, stepCur, amin, true_or, if_true]
    exact mkCur_near h hl order w (by omega)
  | succ m =>
    simp only [lev, finCur, stepCur, true_or, if_true]
    rw [mkCur_near h hl order w hm, fin_near h hl order w m (m + 1) (by omega)]
    by_cases h2 : planL l order w (m + 1) < planL l order w (amin (planL l order w) m)
    · have e : amin (planL l order w) (m + 1) = m + 1 := by rw [amin, if_pos h2]
      rw [e, if_neg (by omega)]
    · have e : amin (planL l order w) (m + 1) = amin (planL l order w) m := by rw [amin, if_neg h2]
      rw [e, if_pos (by omega)]
def bestPlan (l : List Int) (order : Int) (o : Nat) (wide : Bool) : Cur :=
  if wide = true ∧ planL l order true (amin (planL l order true) o) < planL l order false (amin (planL l order false) o) then curL l order true (amin (planL l order true) o) else curL l order false (amin (planL l order false) o)
theorem bestOf_near {l : List Int} (h : NearAll l) (hl : l.length ≤ 1000) (h0 : l.length ≠ 0) {order : Int} (ho : 0 ≤ order) {most : Nat} (hm : most ≤ 8) (wide : Bool) : bestOf l order most wide = bestPlan l order (topO (l.length : Int) order most) wide := by
  unfold bestOf bestPlan bestCur
  have hne := topO_ne (order := order) (show (0 : Int) < (l.length : Int) by omega) most
  have hle := topO_le (l.length : Int) order most
  generalize topO (l.length : Int) order most = o at hne hle
  rw [sums_near _ l h hl]
  have e := levels_near h hl ho o hne
  unfold partsP at e
  rw [e, fin_first h hl order true o (by omega), fin_first h hl order false o (by omega)]
  rfl
theorem best_f {l : List Int} (h : NearAll l) (hl : l.length ≤ 1000) (h0 : l.length ≠ 0) {order : Int} (ho : 0 ≤ order) (ho2 : order ≤ 32) {most : Nat} (hm : most ≤ 8) (wide : Bool) : partsBest.f l order (most : Int) wide = some ((bestPlan l order (topO (l.length : Int) order most) wide).f, (bestPlan l order (topO (l.length : Int) order most) wide).o, (bestPlan l order (topO (l.length : Int) order most) wide).ps, (bestPlan l order (topO (l.length : Int) order most) wide).n, 0) := by
  unfold partsBest.f
  rw [if_neg (by omega), if_neg h0, if_neg (by omega), if_pos h, Int.toNat_natCast, bestOf_near h hl h0 ho hm wide]
end Go.Proofs.Ytokdjeoecnnckaa.PL
end
section
namespace Go.Proofs.Ytokdjeoecnnckaa.PL
open Go.RowKit Go.Proofs.Ytokdjeoecnnckaa.PA Go.Proofs.YtokdjeoecnnckaaW.PrintWords Go.Proofs.YtokdjeoecnnckaaW.PrintMore
set_option linter.unusedVariables false
set_option linter.unusedSimpArgs false
theorem bits_ev (l : List Int) (k : Int) (hl : l.length ≤ 1000) : Ev (fun q => cost_Bits.f q l k) (if NearAll l then bitsL (kk k) l else -1) := by
  unfold cost_Bits.f
  refine bnd (anyFar_ev l hl) ?_
  by_cases hn : NearAll l
  · rw [if_pos hn]
    refine neg (by simp [hn]) ?_
    have key : ∀ (t p : List Int), l = p ++ t → Ev (fun q => cost_Bits.l0 q k (bitsL (kk k) p) l (l.length : Int) (p.length : Int)) (bitsL (kk k) l) := by
      intro t
      induction t with
      | nil =>
        intro p hp
        refine succ ?_
        simp only [cost_Bits.l0]
        exact neg (by rw [hp]; simp) (cst (by rw [hp, List.append_nil]))
      | cons x t ih =>
        intro p hp
        have l1 := congrArg List.length hp
        simp only [List.length_append, List.length_cons] at l1
        refine succ ?_
        simp only [cost_Bits.l0]
        have ra : rd l (p.length : Int) = x := by rw [hp]; exact rd_at _ _ _
        have hx : IsNear x := hn x (by rw [hp]; simp)
        have hp' : NearAll p := fun n h => hn n (by rw [hp]; simp [h])
        have b1 := bitsL_bd (kk k) (kk_le k) p hp'
        have b2 := sz_bd hx (kk_le k)
        have b0 : 0 ≤ (1 + ((kk k : Nat) : Int)) * (p.length : Int) := Int.mul_nonneg (by omega) (by omega)
        rw [ra, w64 (x := (p.length : Int) + 1) (by omega) (by omega), size_eq]
        simp only [Option.bind_some]
        rw [if_pos hx, w64 (by omega) (by omega)]
        refine pos (by omega) (pos (by omega) (pos (by omega) ?_))
        have := ih (p ++ [x]) (by simp [hp])
        rw [bitsL_append] at this
        simpa [bitsL] using this
    exact key l [] rfl
  · rw [if_neg hn]
    exact pos (by simp [hn]) (cst rfl)
theorem each_ev (l : List Int) (K : Int) (raw : Bool) (hl : l.length ≤ 1000) : Ev (fun q => cost_Each.f q l K raw) (if raw = true then (if NearAll l ∧ (wid l : Int) ≤ K ∧ K ≤ 31 then 5 + K * l.length else -1) else if NearAll l then bitsL (kk K) l else -1) := by
  unfold cost_Each.f
  refine bnd (width_ev l hl) ?_
  by_cases hr : raw = true
  · rw [if_pos hr]
    refine pos hr ?_
    by_cases hn : NearAll l
    · rw [if_pos hn]
      refine neg (by omega) ?_
      by_cases h1 : K < wid l
      · exact pos h1 (cst (by rw [if_neg (fun h => by omega)]))
      · refine neg h1 ?_
        by_cases h2 : K > 31
        · exact pos h2 (cst (by rw [if_neg (fun h => by omega)]))
        · refine neg h2 (cst ?_)
          have b0 : 0 ≤ K * l.length := Int.mul_nonneg (by omega) (by omega)
          have b1 : K * l.length ≤ 31 * 1000 := Int.mul_le_mul (by omega) (by omega) (by omega) (by omega)
          unfold cost_raw.f
          simp only [Option.bind_some]
          rw [w64 (x := K * l.length) (by omega) (by omega), w64 (by omega) (by omega), if_pos ⟨hn, by omega, by omega⟩]
    · rw [if_neg hn]
      exact pos (by decide) (cst (by rw [if_neg (fun h => hn h.1)]))
  · rw [if_neg hr]
    exact neg hr (bnd (bits_ev l K hl) (now _))
end Go.Proofs.Ytokdjeoecnnckaa.PL
end
