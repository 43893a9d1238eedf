/- Each Go function named below comes to what the plain Lean function of its name answers, wherever that answers (rounds enough, no panic, no row too long); texts by a program of this session by way of the kit's print.py, what that does not take by hand. Condition: what is read lies in memory as each theorem says. -/
import Derived.Test.YtfjefocjplljcaaPAx0
import Derived.Lib.AppendZerosOnto
import Derived.Lib.SliceRun
import Derived.Lib.Walk
namespace Go.Proofs.Ytfjefocjplljcaa.PA
open Go.RowKit Go.Proofs.YtfjefocjplljcaaW.PrintWords Go.Proofs.YtfjefocjplljcaaW.PrintLast Go.Proofs.YtfjefocjplljcaaW.PrintMore
attribute [local go_sem] max2_int min2_int max_two min_two max_three min_three max_four min_four   -- for this text's walks alone
set_option linter.unusedVariables false
set_option linter.unusedSimpArgs false

-- NOT PRINTED: function 42 (slices_Grow_int_int)

/-! ### slices_Concat_int_int: function 38 -/
set_option maxHeartbeats 4000000 in
set_option maxRecDepth 100000 in
/-- slices.Grow of no slice. -/
theorem slices_Grow_nil.calls (n : Nat) (hn : n ≤ 1000000000) (w : World) : Calls Try.prog 42 #[.slice none 0 0, .int .i64 (n : Int)] w fun e w' => ∃ v0_ : Value, e = .returned (v0_) ∧ Kd.R (Kd.int .i64) 3 w' w.heap.size (fun _ => True) v0_ ([] : List Int) ∧ Below w.heap.size w w' := by
  obtain ⟨i0, hi, hz0, hz1, hz2⟩ := info_parts (show (Try.prog.info? 3).map (fun i => (i.zero, i.size, i.bytes)) = some (some (.int .i64 0), 1, 8) by kernel_rfl)
  have b1 : decide ((n : Int) < 0) = false := decide_eq_false (by omega)
  cases n with
  | zero =>
    have b2 : decide ((0 : Int) < 0) = false := by decide
    go_enter Try.func42, Try.ntmps42
    go_wp2
    go_ret
    exact ⟨_, rfl, Kd.R_nil _ _ _ _ _, Below.refl _ _⟩
  | succ n =>
    have b2 : decide ((0 : Int) < ((n + 1 : Nat) : Int)) = true := decide_eq_true (by omega)
    have hold : (Builtin.firstCells i0.size 0 (.slice none 0 0)).run Try.prog w.drew = .ok (([] : List Value).toArray) w.drew := run_firstCells_none w.drew i0.size 0 0 0
    have hrz : ∀ ty, (Builtin.append_ #[45, 3] ty #[.slice none 0 0, .int .i64 ((n + 1 : Nat) : Int)]).run Try.prog w =
        .ok (.slice (some ⟨w.heap.size, 0, none⟩) (0 + (n + 1)) (grownCap w (0 + (n + 1)) 0 3)) (w.drew.alloc (.cells (([] : List Value).toArray ++ Builtin.zeroCells (Value.int .i64 0).cells (n + 1) ++ Builtin.zeroCells (Value.int .i64 0).cells (grownCap w (0 + (n + 1)) 0 3 - (0 + (n + 1)))) 3)) := fun ty =>
      Lib.run_append_grow_zeros w 45 3 ty 3 i0 (.int .i64 0) .i64 .i64 Try.underlying45 Try.underlying3 hi hz0 none 0 0 [] hold (n + 1) (by omega) (by omega) (by omega) (by omega) (by rw [hz2]; omega) (growslice_fits (by omega) (by rw [hz2]; omega))
    rw [Nat.zero_add] at hrz
    have hGn := grownCap_ge w (n + 1) 0 3
    have hGm := grownCap_le_maxLen w (n + 1) 0 3 (by unfold maxLen; omega)
    obtain ⟨G, hG⟩ : ∃ G, G = grownCap w (n + 1) 0 3 := ⟨_, rfl⟩
    rw [← hG] at hrz hGn hGm
    obtain ⟨cs, hcs⟩ : ∃ cs, cs = (([] : List Value).toArray ++ Builtin.zeroCells (Value.int .i64 0).cells (n + 1) ++ Builtin.zeroCells (Value.int .i64 0).cells (G - (n + 1))) := ⟨_, rfl⟩
    have hsz : cs.size = G * 1 := by
      rw [hcs]
      simp [Builtin.zeroCells, Value.cells]
      omega
    rw [← hcs] at hrz
    have HRZ := Aside0.mk hrz
    have HGM := Aside0.mk hGm
    clear hG hcs hold hrz hGm
    go_enter Try.func42, Try.ntmps42
    go_wp2_with (at_builtin; refine Lib.wpList_append_run _ rfl _ _ _ _ rfl _ _ rfl rfl _ _ (HRZ.out _) ?_)
    go_ret
    refine ⟨_, rfl, Kd.R_of_own ⟨rfl, .inr ⟨w.heap.size, G, cs, rfl, Nat.le_refl _, ?_, Nat.zero_le _, HGM.out, hsz, rfl⟩⟩ (fun _ _ => trivial), below_drew1 (below_alloc (Below.refl _ _) _)⟩
    exact blk_new w _
/-- How long so many rows are. -/
def catLen (l : List (List Int)) (i : Nat) : Nat := (l.take i).flatten.length
/-- All rows, one behind the other. -/
def slices_Concat_int_int.f (l0 : List (List Int)) : Option (List Int) := if l0.flatten.length ≤ 1000000000 ∧ l0.length ≤ 1000000000 then some l0.flatten else none
theorem flatten_take (l : List (List Int)) {i : Nat} (hi : i < l.length) : (l.take (i + 1)).flatten = (l.take i).flatten ++ rd_L1 l (i : Int) := by
  have e : rd_L1 l (i : Int) = l[i] := by simp [rd_L1, List.getD_eq_getElem?_getD, List.getElem?_eq_getElem hi]
  rw [e, List.take_succ_eq_append_getElem hi, List.flatten_append]
  simp
theorem catLen_succ (l : List (List Int)) {i : Nat} (hi : i < l.length) : catLen l (i + 1) = catLen l i + (rd_L1 l (i : Int)).length := by
  unfold catLen
  rw [flatten_take l hi, List.length_append]
theorem catLen_le (l : List (List Int)) (i : Nat) : catLen l i ≤ l.flatten.length := by
  unfold catLen
  conv => rhs; rw [← List.take_append_drop i l, List.flatten_append, List.length_append]
  exact Nat.le_add_right _ _
set_option maxHeartbeats 8000000 in
set_option maxRecDepth 100000 in
theorem slices_Concat_int_int.calls (A0 : Option Addr) (c0 : Nat) (l0 : List (List Int)) (r : List Int) (w : World) (hr0 : Kd.C (Kd.slice 3 (Kd.int .i64)) w A0 l0.length l0) (hc0 : l0.length ≤ c0) (h : slices_Concat_int_int.f l0 = some r) :
    Calls Try.prog 38 #[.slice A0 l0.length c0] w fun e w' => ∃ v0_ : Value, e = .returned (v0_) ∧ Kd.R (Kd.int .i64) 3 w' w.heap.size (fun _ => True) v0_ r ∧ Below w.heap.size w w' := by
  by_cases hc : l0.flatten.length ≤ 1000000000 ∧ l0.length ≤ 1000000000
  case neg => exact absurd (show (if l0.flatten.length ≤ 1000000000 ∧ l0.length ≤ 1000000000 then some l0.flatten else none) = some r from h) (by rw [if_neg hc]; simp)
  have hr : l0.flatten = r := Option.some.inj ((if_pos hc).symm.trans (show (if l0.flatten.length ≤ 1000000000 ∧ l0.length ≤ 1000000000 then some l0.flatten else none) = some r from h))
  subst hr
  clear h
  obtain ⟨hf, hl⟩ := hc
  have HR := Aside0.mk hr0
  clear hr0 hc0
  have HFL := Aside0.mk (catLen_le l0)
  have HF := Aside0.mk hf
  have hall : catLen l0 l0.length = l0.flatten.length := by unfold catLen; rw [List.take_length]
  have HALL := Aside0.mk hall
  clear hf hall
  go_enter Try.func38, Try.ntmps38
  go_wp2
  go_loopg [3, 11] l0.length (fun kq v3 v11 w' => ∃ (i : Nat), v3 = .int .i64 (catLen l0 i : Int) ∧ v11 = .int .i64 (i : Int) ∧ Aside0 (i + kq = l0.length) ∧ Aside0 (w' = w))
  case atStart => exact ⟨0, rfl, rfl, ⟨by omega⟩, ⟨rfl⟩⟩
  case round =>
    obtain ⟨i, rfl, rfl, HK, HW⟩ := hrel
    obtain rfl := HW.out.symm
    by_cases hi : i < l0.length
    · have p1 : 0 ≤ (i : Int) := by omega
      have q1 : (i : Int) < (l0.length : Int) := by omega
      obtain ⟨ad1, A1, c1, e1, hx1, hl1, hi1⟩ := at_L1 HR.out (i : Int) p1 q1
      cases e1
      clear hl1 hi1
      simp only [Int.toNat_natCast] at hx1
      have hq := decide_eq_true q1
      replace q1 := eq_true q1
      replace p1 := eq_true p1
      have h1 := HFL.out (i + 1)
      have h2 := HF.out
      have hs := catLen_succ l0 hi
      have e2 : wrap64 ((catLen l0 i : Int) + ((rd_L1 l0 (i : Int)).length : Int)) = (catLen l0 (i + 1) : Int) := by unfold wrap64; omega
      have e3 : decide ((catLen l0 (i + 1) : Int) < 0) = false := decide_eq_false (by omega)
      have E2 := Aside0.mk e2
      clear e2 h2 hs
      have e4 : wrap64 ((i : Int) + 1) = ((i + 1 : Nat) : Int) := by unfold wrap64; omega
      have E4 := Aside0.mk e4
      clear e4 h1
      have e2 : (IntKind.i64.wrap ((catLen l0 i : Int) + ((rd_L1 l0 (i : Int)).length : Int))) = (catLen l0 (i + 1) : Int) := (i64_w _).trans E2.out
      have e2' := E2.out
      go_wp2
      go_roundg (l0.length - (i + 1))
      case measure => have := HK.out; omega
      case rel => exact ⟨i + 1, by first | rfl | (simp; done) | (simp [E2.out]; done) | go_num, by first | rfl | (simp; done) | (simp [E4.out]; done) | go_num, ⟨by omega⟩, ⟨rfl⟩⟩
    · have hq : decide ((i : Int) < (l0.length : Int)) = false := decide_eq_false (by omega)
      obtain rfl : i = l0.length := by have := HK.out; omega
      have hcb : catLen l0 l0.length ≤ 1000000000 := by rw [HALL.out]; exact HF.out
      have HCB := Aside0.mk hcb
      clear hcb
      go_wp2_with (go_at_call 42; (with_reducible refine (slices_Grow_nil.calls (catLen l0 l0.length) HCB.out _).mono ?_); rintro e w1 ⟨v0, rfl, hO, hb1⟩; have HO := Aside0.mk hO; have HB := Aside0.mk hb1; clear hO hb1)
      clear hq
      go_loopg [6, 27] l0.length (fun kq v6 v27 w' => ∃ (i : Nat) (y : List Int), v27 = .int .i64 (i : Int) ∧ Aside0 (y = (l0.take i).flatten) ∧ Aside0 (i + kq = l0.length) ∧ Aside0 (Kd.R (Kd.int .i64) 3 w' w.heap.size (fun _ => True) v6 y) ∧ Aside0 (Below w.heap.size w w'))
      case atStart => exact ⟨0, [], rfl, ⟨rfl⟩, ⟨by omega⟩, HO, HB⟩
      case round =>
        clear HO HB
        obtain ⟨i, y, rfl, HY, HK2, HO, HB⟩ := hrel
        by_cases hi : i < l0.length
        · have p1 : 0 ≤ (i : Int) := by omega
          have q1 : (i : Int) < (l0.length : Int) := by omega
          obtain ⟨ad1, A1, c1, e1, hx1, hl1, hi1⟩ := at_L1 HR.out (i : Int) p1 q1
          cases e1
          replace hx1 := (HB.out.cell (World.block_lt_of_cell? w _ hx1)).trans hx1
          have HI1 := Aside0.mk hi1
          clear hl1 hi1
          simp only [Int.toNat_natCast] at hx1
          have hq := decide_eq_true q1
          replace q1 := eq_true q1
          replace p1 := eq_true p1
          have e4 : wrap64 ((i : Int) + 1) = ((i + 1 : Nat) : Int) := by unfold wrap64; omega
          have E4 := Aside0.mk e4
          clear e4
          have hlen : y.length + (rd_L1 l0 (i : Int)).length ≤ 1000000000 := by
            have h1 := HFL.out (i + 1)
            have h2 := HF.out
            rw [catLen_succ l0 hi] at h1
            rw [HY.out]
            unfold catLen at h1
            omega
          have HLEN := Aside0.mk hlen
          clear hlen
          have hny : y ++ rd_L1 l0 (i : Int) = (l0.take (i + 1)).flatten := by rw [HY.out, flatten_take l0 hi]
          have HNY := Aside0.mk hny
          clear hny
          go_wp2_with ((with_reducible refine gate_builtin (b := .append) (xs := #[.tmp 31, .tmp 32]) rfl ?_); at_builtin; refine Kd.R_append_rows (Kd.int .i64) (w0 := w) w.heap.size rfl (.tmp 31) (.tmp 32) 45 3 (.int .i64 0) 8 rfl Try.underlying45 info3 rfl (by decide) (by omega) u6 y (rd_L1 l0 (i : Int)) _ _ _ (fun _ => True) (fun _ => False) rfl rfl ?aO ?aR (fun _ _ h => h) (fun _ h => h.elim) ?aF ?aB ?aS ?aL ?_; (case aR => exact Kd.C_below HI1.out HB.out); (case aB => exact HB.out); (case aF => exact (fun _ _ => trivial)); (case aO => exact HO.out); (case aS => exact below_size HB.out); (case aL => have := HLEN.out; omega); intro v7 w5 ho hb hg hat; have HO5 := Aside0.mk ho; have HB5 := Aside0.mk hb; clear ho hb hg hat)
          go_roundg (l0.length - (i + 1))
          case measure => have := HK2.out; omega
          case rel => exact ⟨i + 1, _, by first | rfl | (simp; done) | (simp [E4.out]; done) | go_num, HNY, ⟨by omega⟩, HO5, HB5⟩
        · have hq : decide ((i : Int) < (l0.length : Int)) = false := decide_eq_false (by omega)
          obtain rfl : i = l0.length := by have := HK2.out; omega
          go_wp2
          go_ret
          have hy := HY.out
          rw [List.take_length] at hy
          rw [← hy]
          exact ⟨_, rfl, HO.out, HB.out⟩


end Go.Proofs.Ytfjefocjplljcaa.PA
