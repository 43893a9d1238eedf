/- Each Go function named below comes to what the plain Lean function of its name answers, wherever that answers (rounds enough, no panic, no row too long); texts by a program of this session by way of the kit's print.py, what that does not take by hand. Condition: what is read lies in memory as each theorem says. -/
import Derived.Test.YtfjefocjplljcaaPAx0
import Derived.RangeFuncNested
import Derived.RangeFuncBound
import Derived.RangeFuncCalls
import Derived.RangeFuncLeaves
import Derived.Shelf.Abstract
import Derived.Shelf.RegionOpen
import Derived.WalkKit
import Derived.OwnWalkIn
import Derived.TacticsInMore
import Derived.LoopNIn
import Derived.LoopIn
import Derived.Maps.AppendAt
namespace Go.Proofs.Ytfjefocjplljcaa.PA
open Go.RowKit Go.Proofs.YtfjefocjplljcaaW.PrintWords Go.Proofs.YtfjefocjplljcaaW.PrintLast Go.Proofs.YtfjefocjplljcaaW.PrintMore
attribute [local go_sem] max2_int min2_int max_two min_two max_three min_three max_four min_four   -- for this text's walks alone
set_option linter.unusedVariables false
set_option linter.unusedSimpArgs false

/-! ### pcm_Many: function 13 -/
def pcm_Many.f (a0_0 : Int) (a0_1 : Int) (l0_2 : List (List Int)) : Option (Int) := if (l0_2.length : Int) = 0 then (some 0) else (if 0 < (l0_2.length : Int) then (some ((rd_L1 l0_2 0).length : Int)) else (none))
set_option maxHeartbeats 8000000 in
set_option maxRecDepth 100000 in
theorem pcm_Many.calls (a0_0 : Int) (a0_1 : Int) (A0_2 : Option Addr) (c0_2 : Nat) (l0_2 : List (List Int)) (r : Int) (w : World) (hr0_2 : Kd.C (Kd.slice 3 (Kd.int .i64)) w A0_2 l0_2.length l0_2) (hc0_2 : l0_2.length ≤ c0_2) (h : pcm_Many.f a0_0 a0_1 l0_2 = some r) :
    Calls Try.prog 13 #[.agg #[.int .i64 a0_0, .int .i64 a0_1, .slice A0_2 l0_2.length c0_2]] w fun e w' => e = .returned (.int .i64 r) ∧ Below w.heap.size w w' := by
  have hu24 := Try.underlying24
  have HR0_2 := Aside0.mk hr0_2
  have HC0_2 := Aside0.mk hc0_2
  clear hr0_2 hc0_2
  have HB := Aside0.mk (Below.refl w.heap.size w)
  have H : (if (l0_2.length : Int) = 0 then (some 0) else (if 0 < (l0_2.length : Int) then (some ((rd_L1 l0_2 0).length : Int)) else (none))) = some r := h
  clear h
  by_cases c2 : (l0_2.length : Int) = 0
  · rw [if_pos c2] at H
    have c2b0 : ((l0_2.length : Int) == 0) = true := beq_iff_eq.mpr c2
    have c2b1 : ((l0_2.length : Int) != 0) = false := bne_eq_false_iff_eq.mpr c2
    clear c2
    obtain rfl := Option.some.inj H
    go_enter Try.func13, Try.ntmps13
    go_wp2_with (first | ((with_reducible refine gate_dst (N := 1) rfl ?_); refine box_event ?hg (N := 1) ?hd (cs := #[.int .i64 a0_0, .int .i64 a0_1, .slice A0_2 l0_2.length c0_2]) (t := 24) ?hr ?_; (case hd => rfl); (case hg => rfl); (case hr => first | (go_simp; done) | (go_simp; rfl)); intro gb101 hg w3 hbox hb; have n0_ := Aside0.mk (below_step (by repeat (first | (with_reducible first | exact HB.out | apply below_alloc | apply pw_below_drewN | apply below_drew1) | exact HB.out)) hb); have n1_ := Aside0.mk (hbox); have n2_ := Aside0.mk ((by rw [hg]; exact (below_size (by repeat (first | (with_reducible first | exact HB.out | apply below_alloc | apply pw_below_drewN | apply below_drew1) | exact HB.out))) : w.heap.size ≤ gb101)); have n3_ := Aside0.mk ((by rw [hg]; exact (below_size (by repeat (first | (with_reducible first | exact HB.out | apply below_alloc | apply pw_below_drewN | apply below_drew1) | exact HB.out))) : w.heap.size ≤ gb101)); clear HB; have HB := n0_; have BK101 := n1_; have GW101 := n2_; have GE101 := n3_; clear n0_ n1_ n2_ n3_; clear hb hbox hg; have hcz4_0 : w3.cell? ⟨gb101, 0, none⟩ = some (.int .i64 a0_0) := (blk_cell BK101.out 0).trans rfl; have hcz4_1 : w3.cell? ⟨gb101, 1, none⟩ = some (.int .i64 a0_1) := (blk_cell BK101.out 1).trans rfl; have hcz4_2 : w3.cell? ⟨gb101, 2, none⟩ = some (.slice A0_2 l0_2.length c0_2) := (blk_cell BK101.out 2).trans rfl; have hfz4_0 := blk_frozen BK101.out 0; have hfz4_1 := blk_frozen BK101.out 1; have hfz4_2 := blk_frozen BK101.out 2))
    go_ret
    exact ⟨by first | rfl | (simp [errW_none, errW_some] <;> rfl) | (simp [*, errW_none, errW_some] <;> rfl), by repeat (first | (with_reducible first | exact HB.out | apply below_alloc | apply pw_below_drewN | apply below_drew1 | refine below_set ?_ GE101.out) | exact HB.out)⟩
  · rw [if_neg c2] at H
    have c2b0 : ((l0_2.length : Int) == 0) = false := beq_eq_false_iff_ne.mpr c2
    have c2b1 : ((l0_2.length : Int) != 0) = true := bne_iff_ne.mpr c2
    have c2b2 : ¬ (l0_2 = []) := fun h_ => c2 (by rw [h_]; rfl)
    by_cases c5 : 0 < (l0_2.length : Int)
    · rw [if_pos c5] at H
      have c5b0 : decide (0 < (l0_2.length : Int)) = true := decide_eq_true c5
      have c5b1 : decide (0 < l0_2.length) = true := decide_eq_true (by omega)
      clear c5
      obtain rfl := Option.some.inj H
      go_enter Try.func13, Try.ntmps13
      go_wp2_with (first | ((with_reducible refine gate_dst (N := 1) rfl ?_); refine box_event ?hg (N := 1) ?hd (cs := #[.int .i64 a0_0, .int .i64 a0_1, .slice A0_2 l0_2.length c0_2]) (t := 24) ?hr ?_; (case hd => rfl); (case hg => rfl); (case hr => first | (go_simp; done) | (go_simp; rfl)); intro gb101 hg w6 hbox hb; have n0_ := Aside0.mk (below_step (by repeat (first | (with_reducible first | exact HB.out | apply below_alloc | apply pw_below_drewN | apply below_drew1) | exact HB.out)) hb); have n1_ := Aside0.mk (hbox); have n2_ := Aside0.mk ((by rw [hg]; exact (below_size (by repeat (first | (with_reducible first | exact HB.out | apply below_alloc | apply pw_below_drewN | apply below_drew1) | exact HB.out))) : w.heap.size ≤ gb101)); have n3_ := Aside0.mk ((by rw [hg]; exact (below_size (by repeat (first | (with_reducible first | exact HB.out | apply below_alloc | apply pw_below_drewN | apply below_drew1) | exact HB.out))) : w.heap.size ≤ gb101)); clear HB; have HB := n0_; have BK101 := n1_; have GW101 := n2_; have GE101 := n3_; clear n0_ n1_ n2_ n3_; clear hb hbox hg; have hcz7_0 : w6.cell? ⟨gb101, 0, none⟩ = some (.int .i64 a0_0) := (blk_cell BK101.out 0).trans rfl; have hcz7_1 : w6.cell? ⟨gb101, 1, none⟩ = some (.int .i64 a0_1) := (blk_cell BK101.out 1).trans rfl; have hcz7_2 : w6.cell? ⟨gb101, 2, none⟩ = some (.slice A0_2 l0_2.length c0_2) := (blk_cell BK101.out 2).trans rfl; have hfz7_0 := blk_frozen BK101.out 0; have hfz7_1 := blk_frozen BK101.out 1; have hfz7_2 := blk_frozen BK101.out 2; have p102 : 0 ≤ (0 : Int) := (by omega); have q102 : 0 < (l0_2.length : Int) := of_decide_eq_true (by first | (with_reducible assumption) | assumption); obtain ⟨ad102, A102_0, c102_0, e102, hx102_0, hl102_0, hi102_0⟩ := at_L1 HR0_2.out 0 p102 q102; cases e102; have qi102 : (0 < l0_2.length) = True := eq_true (by omega); (try rw [show ((0 : Int)).toNat = 0 from rfl] at hx102_0); (try rw [Addr.add_zero'] at hx102_0); replace hx102_0 := (HB.out.cell (World.block_lt_of_cell? w _ hx102_0)).trans hx102_0; have HR102_0 := Aside0.mk hi102_0; have HC102_0 := Aside0.mk hl102_0; clear hi102_0 hl102_0; replace p102 := eq_true p102; replace q102 := eq_true q102))
      go_ret
      exact ⟨by first | rfl | (simp [errW_none, errW_some] <;> rfl) | (simp [*, errW_none, errW_some] <;> rfl), by repeat (first | (with_reducible first | exact HB.out | apply below_alloc | apply pw_below_drewN | apply below_drew1 | refine below_set ?_ GE101.out) | exact HB.out)⟩
    · rw [if_neg c5] at H
      exact absurd H (by simp)

/-! ### pcm_In: function 15 -/
def pcm_In.f (a0 : Int) (a1 : Int) : Option (Bool) := if a1 < 1 then (some false) else (if a1 > 62 then (some false) else (if 0 ≤ (wrap64 (a1 - 1)) then (if (shr .i64 a0 (wrap64 (a1 - 1))) = 0 then (some true) else (some ((shr .i64 a0 (wrap64 (a1 - 1))) == (-1)))) else (none)))
set_option maxHeartbeats 8000000 in
set_option maxRecDepth 100000 in
theorem pcm_In.calls (a0 : Int) (a1 : Int) (r : Bool) (w : World) (h : pcm_In.f a0 a1 = some r) :
    Calls Try.prog 15 #[.int .i64 a0, .int .i64 a1] w fun e w' => e = .returned (.bool r) ∧ Drawn0 w w' := by
  have H : (if a1 < 1 then (some false) else (if a1 > 62 then (some false) else (if 0 ≤ (wrap64 (a1 - 1)) then (if (shr .i64 a0 (wrap64 (a1 - 1))) = 0 then (some true) else (some ((shr .i64 a0 (wrap64 (a1 - 1))) == (-1)))) else (none)))) = some r := h
  clear h
  by_cases c3 : a1 < 1
  · rw [if_pos c3] at H
    have c3b0 : decide (a1 < 1) = true := decide_eq_true c3
    clear c3
    obtain rfl := Option.some.inj H
    go_enter Try.func15, Try.ntmps15
    go_wp2
    go_ret
    exact ⟨by first | rfl | (simp; done) | (simp [*]; done), by repeat (first | exact Drawn0.refl _ | apply Drawn0.step)⟩
  · rw [if_neg c3] at H
    have c3b0 : decide (a1 < 1) = false := decide_eq_false c3
    clear c3
    by_cases c4 : a1 > 62
    · rw [if_pos c4] at H
      have c4b0 : decide (62 < a1) = true := decide_eq_true c4
      clear c4
      obtain rfl := Option.some.inj H
      go_enter Try.func15, Try.ntmps15
      go_wp2
      go_ret
      exact ⟨by first | rfl | (simp; done) | (simp [*]; done), by repeat (first | exact Drawn0.refl _ | apply Drawn0.step)⟩
    · rw [if_neg c4] at H
      have c4b0 : decide (62 < a1) = false := decide_eq_false c4
      clear c4
      obtain ⟨ji5, hji5⟩ : ∃ j_ : Int, (wrap64 (a1 - 1)) = j_ := ⟨_, rfl⟩
      replace H : (if 0 ≤ (ji5) then (if (shr .i64 a0 (ji5)) = 0 then (some true) else (some ((shr .i64 a0 (ji5)) == (-1)))) else (none)) = some r := by first | (rw [hji5] at H; exact H) | (simp only [hji5] at H ⊢; exact H)
      have hji5w : (IntKind.i64.wrap (a1 - 1)) = ji5 := (i64_w _).trans hji5
      by_cases c6 : 0 ≤ (ji5)
      · rw [if_pos c6] at H
        have c6b0 := eq_true c6
        have c6b1 : decide (0 ≤ (ji5)) = true := decide_eq_true c6
        clear c6
        obtain ⟨ji7, hji7⟩ : ∃ j_ : Int, (shr .i64 a0 (ji5)) = j_ := ⟨_, rfl⟩
        replace H : (if (ji7) = 0 then (some true) else (some ((ji7) == (-1)))) = some r := by first | (rw [hji7] at H; exact H) | (simp only [hji7] at H ⊢; exact H)
        have hji7_ : (a0 / 2 ^ min (ji5).toNat 64) = ji7 := hji7
        have hji7z : (ji5) ≤ 64 → (a0 / 2 ^ (ji5).toNat) = ji7 := shr_small hji7
        by_cases c8 : (ji7) = 0
        · rw [if_pos c8] at H
          have c8b0 : ((ji7) == 0) = true := beq_iff_eq.mpr c8
          have c8b1 : ((ji7) != 0) = false := bne_eq_false_iff_eq.mpr c8
          clear c8
          obtain rfl := Option.some.inj H
          go_enter Try.func15, Try.ntmps15
          go_wp2
          go_ret
          exact ⟨by first | rfl | (simp; done) | (simp only [← hji5, ← hji7] <;> (first | rfl | simp)) | (simp [*]; done), by repeat (first | exact Drawn0.refl _ | apply Drawn0.step)⟩
        · rw [if_neg c8] at H
          have c8b0 : ((ji7) == 0) = false := beq_eq_false_iff_ne.mpr c8
          have c8b1 : ((ji7) != 0) = true := bne_iff_ne.mpr c8
          obtain rfl := Option.some.inj H
          go_enter Try.func15, Try.ntmps15
          go_wp2
          go_ret
          exact ⟨by first | rfl | (simp; done) | (simp only [← hji5, ← hji7] <;> (first | rfl | simp)) | (simp [*]; done), by repeat (first | exact Drawn0.refl _ | apply Drawn0.step)⟩
      · rw [if_neg c6] at H
        exact absurd H (by simp)

/-! ### pcm_Each: function 17 -/
def pcm_Each.f (a0 : Int) : Option (Int) := some ((((mx 4 (mn a0 32)) + 8) - 1) / 8)
set_option maxHeartbeats 8000000 in
set_option maxRecDepth 100000 in
theorem pcm_Each.calls (a0 : Int) (r : Int) (w : World) (h : pcm_Each.f a0 = some r) :
    Calls Try.prog 17 #[.int .i64 a0] w fun e w' => e = .returned (.int .i64 r) ∧ Below w.heap.size w w' := by
  have HB := Aside0.mk (Below.refl w.heap.size w)
  have H : (some ((((mx 4 (mn a0 32)) + 8) - 1) / 8)) = some r := h
  clear h
  obtain ⟨ji2, hji2⟩ : ∃ j_ : Int, (mn a0 32) = j_ := ⟨_, rfl⟩
  replace H : (some ((((mx 4 (ji2)) + 8) - 1) / 8)) = some r := by first | (rw [hji2] at H; exact H) | (simp only [hji2] at H ⊢; exact H)
  (try (have hji2h : ji2 ≤ 32 := by (rw [← hji2]; unfold mn; (repeat' split) <;> omega)))
  (try (have hji2g : ji2 ≤ 64 := by omega))
  have hji2_ : (if 32 < a0 then 32 else a0) = ji2 := hji2
  obtain ⟨ji3, hji3⟩ : ∃ j_ : Int, (mx 4 (ji2)) = j_ := ⟨_, rfl⟩
  replace H : (some ((((ji3) + 8) - 1) / 8)) = some r := by first | (rw [hji3] at H; exact H) | (simp only [hji3] at H ⊢; exact H)
  have hji3_ : (if 4 < (ji2) then (ji2) else 4) = ji3 := hji3
  obtain rfl := Option.some.inj H
  go_enter Try.func17, Try.ntmps17
  go_wp2
  go_ret
  exact ⟨by first | rfl | (simp [errW_none, errW_some] <;> rfl) | (simp only [← hji2, ← hji3]; first | rfl | (simp [errW_none, errW_some] <;> rfl)) | (simp [*, errW_none, errW_some] <;> rfl), by repeat (first | (with_reducible first | exact HB.out | apply below_alloc | apply pw_below_drewN | apply below_drew1) | exact HB.out)⟩

-- NOT PRINTED: function 32 (pcm_samples)

/-! ### pcm_Bytes: function 23 -/
attribute [local go_sem] Oper.semAt_some
/-- What a round over a sound's samples keeps: what lay ahead, and the box of the sound. -/
def KpB (n₀ B : Nat) (W W' : World) : Prop := Below n₀ W W' ∧ ∀ cs t f, W.heap[B]? = some (.cells cs t f) → W'.heap[B]? = some (.cells cs t f)
theorem kpB_t {n₀ B : Nat} {X Y Z : World} (h : KpB n₀ B X Y) (k : KpB n₀ B Y Z) : KpB n₀ B X Z := ⟨h.1.trans k.1, fun cs t f e => k.2 cs t f (h.2 cs t f e)⟩
theorem kpB_b {n₀ B : Nat} {w : World} (hn : n₀ ≤ w.heap.size) (W : World) (l : Nat) (o o' : Obj) (hl : w.heap.size ≤ l) (h : W.heap[l]? = some o) (hc : o.isCells = false) (hw : o.isWalk = false) : KpB n₀ B W (W.putObj l o') :=
  ⟨belowK_b hn W l o o' hl h hc hw, fun cs t f e => by
    by_cases hb : B = l
    · subst hb; rw [h] at e; cases e; cases hc
    · exact (World.putObj_heap_other hb).trans e⟩
def pcmPre (ls : List (List Int)) (i j : Nat) : List Int := (List.range j).map fun (a : Nat) => rd (rd_L1 ls (a : Int)) (i : Int)
def pcmAll (ls : List (List Int)) (i : Nat) : List Int := (List.range i).flatMap fun a => pcmPre ls a ls.length
theorem pcmPre_succ (ls : List (List Int)) (i j : Nat) : pcmPre ls i (j + 1) = pcmPre ls i j ++ [rd (rd_L1 ls (j : Int)) (i : Int)] := by simp [pcmPre, List.range_succ]
theorem pcmAll_succ (ls : List (List Int)) (i : Nat) : pcmAll ls (i + 1) = pcmAll ls i ++ pcmPre ls i ls.length := by simp [pcmAll, List.range_succ]
theorem pcmPre_len (ls : List (List Int)) (i j : Nat) : (pcmPre ls i j).length = j := by simp [pcmPre]
theorem pcmAll_len (ls : List (List Int)) : ∀ i, (pcmAll ls i).length = i * ls.length
  | 0 => by simp [pcmAll]
  | i + 1 => by rw [pcmAll_succ, List.length_append, pcmAll_len ls i, pcmPre_len, Nat.succ_mul]
theorem pcmPre_prefix (ls : List (List Int)) (i : Nat) {j k : Nat} (h : j ≤ k) : pcmPre ls i j <+: pcmPre ls i k := by
  obtain ⟨d, rfl⟩ := Nat.le.dest h
  exact ⟨((List.range d).map (j + ·)).map fun (a : Nat) => rd (rd_L1 ls (a : Int)) (i : Int), by simp [pcmPre, List.range_add]⟩
theorem pcmAll_prefix (ls : List (List Int)) {i k : Nat} (h : i ≤ k) : pcmAll ls i <+: pcmAll ls k := by
  obtain ⟨d, rfl⟩ := Nat.le.dest h
  exact ⟨((List.range d).map (i + ·)).flatMap fun a => pcmPre ls a ls.length, by simp [pcmAll, List.range_add]⟩
theorem pcm_prefix (ls : List (List Int)) {i j m : Nat} (hi : i < m) (hj : j ≤ ls.length) : pcmAll ls i ++ pcmPre ls i j <+: pcmAll ls m := by
  refine List.IsPrefix.trans ?_ (pcmAll_prefix ls (show i + 1 ≤ m from hi))
  rw [pcmAll_succ]
  exact (List.prefix_append_right_inj _).2 (pcmPre_prefix ls i hj)
theorem pcm_len (ls : List (List Int)) {i j m : Nat} (hi : i < m) (hj : j < ls.length) : (pcmAll ls i ++ pcmPre ls i j).length < m * ls.length := by
  rw [List.length_append, pcmAll_len, pcmPre_len]
  have : (i + 1) * ls.length ≤ m * ls.length := Nat.mul_le_mul_right _ hi
  rw [Nat.succ_mul] at this
  omega
set_option maxRecDepth 100000 in
set_option maxHeartbeats 4000000 in
/-- The samples' closure: all samples, the first one of each channel first, for every loop body that keeps what lay ahead, and the box. -/
theorem pcm_samples1_in (n : Nat) (hn : 2 ≤ n) (l B : Nat) (w0 : World) (a0 a1 : Int) (A : Option Addr) (c : Nat) (ls : List (List Int)) (m : Nat) (hC : Kd.C (Kd.slice 3 (Kd.int .i64)) w0 A ls.length ls) (hcap : ls.length ≤ c)
    (hm : pcm_Many.f a0 a1 ls = some (m : Int)) (hrows : ∀ j : Nat, j < ls.length → m ≤ (rd_L1 ls (j : Int)).length) (hmx : m < 4611686018427387904) (hlx : ls.length < 4611686018427387904) (W : World) (J Jx : List Int → World → Prop) (hJ : AbidesFrom W.heap.size J)
    (hY : ∀ pre x W, J pre W → pre.length < m * ls.length → YieldAt Fence.wide (n - 1) Try.prog l #[.int .i64 x] W fun e W' =>
      (e = .returned (.bool true) ∧ J (pre ++ [x]) W' ∧ KpB w0.heap.size B W W') ∨ (e = .returned (.bool false) ∧ Jx (pre ++ [x]) W'))
    (hB0 : Below w0.heap.size w0 W) (hbx : W.heap[B]? = some (.cells #[.int .i64 a0, .int .i64 a1, .slice A ls.length c] 24 (0, 0))) (h0 : J [] W) :
    CallsIn Fence.wide n Try.prog 41 #[.func (.yield l) #[] #[], .pointer (some ⟨B, 0, none⟩)] W fun e W' => (∃ v, e = .returned v) ∧
      ((∃ xs, xs = pcmAll ls m ∧ J xs W') ∨ (∃ pre, pre <+: pcmAll ls m ∧ Jx pre W')) := by
  have hu24 := Try.underlying24
  have HC := Aside0.mk hC
  have HM := Aside0.mk hm
  have HCA := Aside0.mk hcap
  clear hC hm hcap
  have h1 : 1 ≤ n - 1 := by omega
  have hn1 : 1 ≤ n := by omega
  refine callsIn_of_wp Try.func41 rfl trivial ?_ rfl
  simp only [Try.ntmps41, List.size_toArray, List.length_cons, List.length_nil, Nat.reduceAdd, Nat.reduceSub, Array.replicate_succ, Array.replicate_zero, List.push_toArray, List.append_toArray, List.nil_append, List.cons_append]
  have hz0 : W.cell? ⟨B, 0, none⟩ = some (.int .i64 a0) := (blk_cell hbx 0).trans rfl
  have hz1 : W.cell? ⟨B, 1, none⟩ = some (.int .i64 a1) := (blk_cell hbx 1).trans rfl
  have hz2 : W.cell? ⟨B, 2, none⟩ = some (.slice A ls.length c) := (blk_cell hbx 2).trans rfl
  have HBX := Aside0.mk hbx
  clear hbx
  gi_wp2_with (refine ⟨trivial, ?_⟩; gi_at_call 13; refine (callsIn_wide.2 (pcm_Many.calls a0 a1 _ _ ls (m : Int) _ (Kd.C_below HC.out hB0) HCA.out HM.out)).mono ?_; rintro e w1 ⟨rfl, hb1⟩)
  have hB1 : Below w0.heap.size w0 w1 := hB0.trans (hb1.mono hB0.size)
  have h01 : J [] w1 := hJ [] _ _ none h0 (grown_of_below hb1 none) (fun r e => by cases e)
  have hbx1 : w1.heap[B]? = some (.cells #[.int .i64 a0, .int .i64 a1, .slice A ls.length c] 24 (0, 0)) := blk_below (g := B) HBX.out hb1
  clear hz0 hz1 hz2 HBX h0 hB0 hb1
  have HB1 := Aside0.mk hB1
  have HX1 := Aside0.mk hbx1
  clear hB1 hbx1
  gi_loopw [8] (fun i wr => ∃ k : Nat, k ≤ m ∧ i = .int .i64 k ∧ J (pcmAll ls k) wr ∧ Aside0 (Below w0.heap.size w0 wr) ∧ Aside0 (wr.heap[B]? = some (.cells #[.int .i64 a0, .int .i64 a1, .slice A ls.length c] 24 (0, 0))))
    (fun i _ => m - (intOf i).toNat)
  case atStart => exact ⟨0, Nat.zero_le _, rfl, h01, HB1, HX1⟩
  case round =>
    clear HB1 HX1 h01
    obtain ⟨k, hk, rfl, hJs, HB, HX⟩ := hrel
    by_cases hlt : k < m
    · have hz0 : wr.cell? ⟨B, 0, none⟩ = some (.int .i64 a0) := (blk_cell HX.out 0).trans rfl
      have hz1 : wr.cell? ⟨B, 1, none⟩ = some (.int .i64 a1) := (blk_cell HX.out 1).trans rfl
      have hz2 : wr.cell? ⟨B, 2, none⟩ = some (.slice A ls.length c) := (blk_cell HX.out 2).trans rfl
      have hd : decide ((k : Int) < (m : Int)) = true := decide_eq_true (by omega)
      gi_wp2
      clear hz0 hz1 hz2
      gi_loopw [14] (fun i wr => ∃ j : Nat, j ≤ ls.length ∧ i = .int .i64 j ∧ J (pcmAll ls k ++ pcmPre ls k j) wr ∧ Aside0 (Below w0.heap.size w0 wr) ∧ Aside0 (wr.heap[B]? = some (.cells #[.int .i64 a0, .int .i64 a1, .slice A ls.length c] 24 (0, 0))))
        (fun i _ => ls.length - (intOf i).toNat)
      case atStart => exact ⟨0, Nat.zero_le _, rfl, by simpa [pcmPre] using hJs, HB, HX⟩
      case round =>
        clear HB HX hJs
        obtain ⟨j, hj, rfl, hJs, HB, HX⟩ := hrel
        by_cases hlt2 : j < ls.length
        · have hd2 : decide ((j : Int) < (ls.length : Int)) = true := decide_eq_true (by omega)
          have p1 : 0 ≤ (j : Int) := Int.natCast_nonneg _
          have q1 : (j : Int) < (ls.length : Int) := by omega
          obtain ⟨ad1, A1, c1, e1, hx1, hl1, hi1⟩ := at_L1 HC.out (j : Int) p1 q1
          cases e1
          replace hx1 := (HB.out.cell (World.block_lt_of_cell? w0 _ hx1)).trans hx1
          have p2 : 0 ≤ (k : Int) := Int.natCast_nonneg _
          have q2 : (k : Int) < ((rd_L1 ls (j : Int)).length : Int) := by have := hrows j hlt2; omega
          obtain ⟨ad2, e2, hx2⟩ := Kd.at_int hi1 (k : Int) p2 q2
          cases e2
          replace hx2 := (HB.out.cell (World.block_lt_of_cell? w0 _ hx2)).trans hx2
          clear hi1 hl1
          simp only [Int.toNat_natCast] at hx1 hx2
          obtain ⟨fn, tmps, assign, body, hy, hR⟩ := hY _ (rd (rd_L1 ls (j : Int)) (k : Int)) wr hJs (pcm_len ls hlt hlt2)
          gi_wp2
          refine hR.mono ?_
          rintro e W3 (⟨rfl, hJ3, hk3⟩ | ⟨rfl, hJx3⟩)
          · gi_wp2
            go_roundw
            case rel => exact ⟨j + 1, by omega, by simp, by rw [pcmPre_succ, ← List.append_assoc]; exact hJ3, ⟨HB.out.trans hk3.1⟩, ⟨hk3.2 _ _ _ HX.out⟩⟩
            case measure => simp [intOf]; omega
          · gi_wp2
            refine bodyPost_ret (results_none rfl _ _ _) rfl ?_
            refine ⟨⟨_, rfl⟩, .inr ⟨_, ?_, hJx3⟩⟩
            rw [List.append_assoc, ← pcmPre_succ]
            exact pcm_prefix ls hlt hlt2
        · obtain rfl : j = ls.length := by omega
          have hd2 : decide (((ls.length : Nat) : Int) < (ls.length : Int)) = false := decide_eq_false (Int.lt_irrefl _)
          gi_wp2
          go_roundw
          case rel => exact ⟨k + 1, by omega, by simp, by rw [pcmAll_succ]; exact hJs, HB, HX⟩
          case measure => simp [intOf]; omega
    · obtain rfl : k = m := by omega
      have hd : decide ((k : Int) < (k : Int)) = false := decide_eq_false (Int.lt_irrefl _)
      gi_wp2
      go_end0
      exact ⟨⟨_, rfl⟩, .inl ⟨_, rfl, hJs⟩⟩

set_option maxHeartbeats 1000000 in
theorem pcm_samples_in (n : Nat) (a0 a1 : Int) (A : Option Addr) (len c : Nat) (w : World) :
    CallsIn Fence.wide n Try.prog 32 #[.agg #[.int .i64 a0, .int .i64 a1, .slice A len c]] w fun e w' => e = .returned (.func (.func 41) #[] #[.pointer (some ⟨w.heap.size, 0, none⟩)]) ∧ w' = w.alloc (.cells #[.int .i64 a0, .int .i64 a1, .slice A len c] 24) := by
  refine callsIn_of_wp Try.func32 rfl trivial ?_ rfl
  simp only [Try.ntmps32, List.size_toArray, List.length_cons, List.length_nil, Nat.reduceAdd, Nat.reduceSub, Array.replicate_succ, Array.replicate_zero, List.push_toArray, List.append_toArray, List.nil_append, List.cons_append]
  gi_wp2
  go_ret
  exact ⟨rfl, rfl⟩
theorem pcm_samples_stops (n : Nat) (hn : 2 ≤ n) (B : Nat) (w0 w : World) (a0 a1 : Int) (A : Option Addr) (c : Nat) (ls : List (List Int)) (m : Nat) (hC : Kd.C (Kd.slice 3 (Kd.int .i64)) w0 A ls.length ls) (hcap : ls.length ≤ c)
    (hm : pcm_Many.f a0 a1 ls = some (m : Int)) (hrows : ∀ j : Nat, j < ls.length → m ≤ (rd_L1 ls (j : Int)).length) (hmx : m < 4611686018427387904) (hlx : ls.length < 4611686018427387904)
    (hB0 : Below w0.heap.size w0 w) (hbx : w.heap[B]? = some (.cells #[.int .i64 a0, .int .i64 a1, .slice A ls.length c] 24 (0, 0))) :
    SeqStopsK Fence.wide n Try.prog 41 #[.pointer (some ⟨B, 0, none⟩)] (fun x : Int => #[Value.int .i64 x]) (KpB w0.heap.size B) (fun ys => ys = pcmAll ls m) (fun pre => pre <+: pcmAll ls m) (m * ls.length) w := fun l J Jx W hW hJ _ hY h0 =>
  pcm_samples1_in n hn l B w0 a0 a1 A c ls m hC hcap hm hrows hmx hlx W J Jx hJ hY (hB0.trans (hW.mono hB0.size)) (blk_below (g := B) hbx hW) h0
theorem pcm_Each_same (a r : Int) (w : World) (h : pcm_Each.f a = some r) : Calls Try.prog 17 #[.int .i64 a] w fun e w' => e = .returned (.int .i64 r) ∧ w' = w := by
  have H : (some ((((mx 4 (mn a 32)) + 8) - 1) / 8)) = some r := h
  clear h
  obtain ⟨ji2, hji2⟩ : ∃ j_ : Int, (mn a 32) = j_ := ⟨_, rfl⟩
  replace H : (some ((((mx 4 (ji2)) + 8) - 1) / 8)) = some r := by rw [hji2] at H; exact H
  (try (have hji2h : ji2 ≤ 32 := by (rw [← hji2]; unfold mn; (repeat' split) <;> omega)))
  (try (have hji2g : ji2 ≤ 64 := by omega))
  have hji2_ : (if 32 < a then 32 else a) = ji2 := hji2
  obtain ⟨ji3, hji3⟩ : ∃ j_ : Int, (mx 4 (ji2)) = j_ := ⟨_, rfl⟩
  replace H : (some ((((ji3) + 8) - 1) / 8)) = some r := by rw [hji3] at H; exact H
  have hji3_ : (if 4 < (ji2) then (ji2) else 4) = ji3 := hji3
  obtain rfl := Option.some.inj H
  go_enter Try.func17, Try.ntmps17
  go_wp2
  go_ret
  exact ⟨by first | rfl | (simp; done) | (simp [*]; done), rfl⟩

/-- A number's bytes, the lowest first: so many of them. -/
def pcmSh : Nat → Int → Int
  | 0, x => x
  | k + 1, x => pcmSh k x / 256
def pcmB (e : Nat) (x : Int) : List Int := (List.range e).map fun k => pcmSh k x % 256
theorem pcmB_succ (k : Nat) (x : Int) : pcmB (k + 1) x = pcmB k x ++ [pcmSh k x % 256] := by simp [pcmB, List.range_succ]
theorem pcmB_len (k : Nat) (x : Int) : (pcmB k x).length = k := by simp [pcmB]
def pcmBs (e : Nat) (xs : List Int) : List Int := xs.flatMap (pcmB e)
theorem pcmBs_snoc (e : Nat) (xs : List Int) (x : Int) : pcmBs e (xs ++ [x]) = pcmBs e xs ++ pcmB e x := by simp [pcmBs]
theorem pcmBs_len (e : Nat) : ∀ xs : List Int, (pcmBs e xs).length = xs.length * e
  | [] => by simp [pcmBs]
  | x :: t => by
    have h := pcmBs_len e t
    simp only [pcmBs, List.flatMap_cons, List.length_append, List.length_cons] at h ⊢
    rw [h, pcmB_len, Nat.succ_mul, Nat.add_comm]
/-- A sound's bytes. -/
def pcm_Bytes.f (a0_0 : Int) (a0_1 : Int) (l0_2 : List (List Int)) : Option (List Int) :=
  (pcm_Many.f a0_0 a0_1 l0_2).bind fun m => (pcm_Each.f a0_1).bind fun e =>
    if (∀ c ∈ l0_2, m ≤ (c.length : Int)) ∧ m ≤ 1000000 ∧ l0_2.length ≤ 1000000 then some (pcmBs e.toNat (pcmAll l0_2 m.toNat)) else none
theorem kpB_of {n₀ B : Nat} {W W' : World} {o : Obj} (hb : Below n₀ W W') (h : W.heap[B]? = some o) (h' : W'.heap[B]? = some o) : KpB n₀ B W W' := ⟨hb, fun cs t f e => by rw [h] at e; cases e; exact h'⟩
theorem blk_not_row {W : World} {B : Nat} {cs : Array Value} {t e : TypeId} {f : Nat × Nat} (h : W.heap[B]? = some (.cells cs t f)) (hte : t ≠ e) {base size k : Nat} {v : Value} {xs : List Value} (hr : W.ownsRow base e size v k xs) : some B ≠ v.ownBlock := by
  rcases hr.2 with ⟨rfl, _⟩ | ⟨g, cap, cur, rfl, _, hgb, _⟩
  · simp [Value.ownBlock]
  · intro e'
    obtain rfl : B = g := by simpa [Value.ownBlock] using e'
    have := h.symm.trans hgb
    simp at this
    exact hte this.2.1
theorem blk_appended {W w1 : World} {n₀ B b : Nat} {cs : Array Value} {t e : TypeId} {f : Nat × Nat} {size : Nat} {v v' : Value} {k : Nat} {xs : List Value} {tmp : Obj} (h : W.heap[B]? = some (.cells cs t f)) (hte : t ≠ e) (hrow : W.ownsRow n₀ e size v k xs)
    (hgrow : (W.alloc tmp).grownBy w1 v.ownBlock) (hne : B ≠ b) : (w1.setCell ⟨b, 0, none⟩ v').heap[B]? = some (.cells cs t f) := by
  have h1 : (W.alloc tmp).heap[B]? = some (.cells cs t f) := blk_alloc h tmp
  have h2 : w1.heap[B]? = some (.cells cs t f) := (hgrow.block B (Array.getElem?_eq_some_iff.1 h1).1 (blk_not_row h hte hrow)).trans h1
  exact ((grownBy_setCell' w1 b v').block B (Array.getElem?_eq_some_iff.1 h2).1 (by simpa using hne)).trans h2
theorem blk_kept {A B : World} {row : Option Nat} {b : Nat} {cs : Array Value} {t : TypeId} {f : Nat × Nat} (h : A.heap[b]? = some (.cells cs t f)) (hg : A.grownBy B row) (hr : ∀ r, row = some r → ∃ o : Obj, A.heap[r]? = some o ∧ o.isCells = false) : B.heap[b]? = some (.cells cs t f) :=
  (hg.block b (Array.getElem?_eq_some_iff.1 h).1 (fun e => by obtain ⟨o, ho, hc⟩ := hr b e.symm; rw [h] at ho; cases ho; cases hc)).trans h
theorem pcm_info5 : (Try.prog.info? 5).map (fun i => (i.zero, i.size, i.bytes)) = some (some (.int .u8 0), 1, 1) := by kernel_rfl
set_option maxRecDepth 100000 in
set_option maxHeartbeats 8000000 in
theorem pcm_Bytes.calls (a0_0 : Int) (a0_1 : Int) (A0_2 : Option Addr) (c0_2 : Nat) (l0_2 : List (List Int)) (r : List Int) (w : World) (hr0_2 : Kd.C (Kd.slice 3 (Kd.int .i64)) w A0_2 l0_2.length l0_2) (hc0_2 : l0_2.length ≤ c0_2) (h : pcm_Bytes.f a0_0 a0_1 l0_2 = some r) :
    Calls Try.prog 23 #[.agg #[.int .i64 a0_0, .int .i64 a0_1, .slice A0_2 l0_2.length c0_2]] w fun e w' => ∃ v0_ : Value, e = .returned (v0_) ∧ Kd.R (Kd.int .u8) 5 w' w.heap.size (fun _ => True) v0_ r ∧ Below w.heap.size w w' := by
  have hu24 := Try.underlying24
  obtain ⟨i0, hi, hz0, hz1, hz2⟩ := info_parts pcm_info5
  obtain ⟨mI, hm, h⟩ := Option.bind_eq_some_iff.mp h
  obtain ⟨eI, he, h⟩ := Option.bind_eq_some_iff.mp h
  by_cases hc : (∀ c ∈ l0_2, mI ≤ (c.length : Int)) ∧ mI ≤ 1000000 ∧ l0_2.length ≤ 1000000
  case neg => rw [if_neg hc] at h; exact absurd h (by simp)
  rw [if_pos hc] at h
  obtain rfl := Option.some.inj h
  clear h
  obtain ⟨hrows, hmx, hlx⟩ := hc
  have hm0 : 0 ≤ mI := by
    unfold pcm_Many.f at hm
    split at hm
    · rw [← Option.some.inj hm]; exact Int.le_refl _
    · split at hm
      · rw [← Option.some.inj hm]; exact Int.natCast_nonneg _
      · cases hm
  obtain ⟨m, rfl⟩ := Int.eq_ofNat_of_zero_le hm0
  have he0 : 0 ≤ eI ∧ eI ≤ 4 := by
    have he2 := Option.some.inj he
    have h1 : mn a0_1 32 ≤ 32 := by unfold mn; split <;> omega
    have h2 : 4 ≤ mx 4 (mn a0_1 32) ∧ mx 4 (mn a0_1 32) ≤ 32 := by unfold mx; split <;> omega
    omega
  obtain ⟨e, rfl⟩ := Int.eq_ofNat_of_zero_le he0.1
  have he4 : e ≤ 4 := by omega
  have hrow2 : ∀ j : Nat, j < l0_2.length → m ≤ (rd_L1 l0_2 (j : Int)).length := fun j hj => by
    have hmem : rd_L1 l0_2 (j : Int) ∈ l0_2 := by
      have : rd_L1 l0_2 (j : Int) = l0_2[j] := by simp [rd_L1, List.getD_eq_getElem?_getD, List.getElem?_eq_getElem hj]
      rw [this]; exact List.getElem_mem _
    exact Int.ofNat_le.1 (hrows _ hmem)
  have hmx2 : m ≤ 1000000 := by omega
  simp only [Int.toNat_natCast]
  have hbig : (m * l0_2.length) * e ≤ 1000000 * 1000000 * 4 := Nat.mul_le_mul (Nat.mul_le_mul hmx2 hlx) he4
  clear hrows hm0 he0 hmx
  have HC := Aside0.mk hr0_2
  have HCA := Aside0.mk hc0_2
  have HM := Aside0.mk hm
  have HE := Aside0.mk he
  clear hr0_2 hc0_2 hm he
  refine (callsIn_wide (n := 6)).1 ?_
  refine callsIn_of_wp_marks Try.func23 rfl trivial ?_ rfl
  simp only [Try.ntmps23, List.size_toArray, List.length_cons, List.length_nil, Nat.reduceAdd, Nat.reduceSub, Array.replicate_succ, Array.replicate_zero, List.push_toArray, List.append_toArray, List.nil_append, List.cons_append]
  have hn6 : 1 ≤ 6 := by omega
  gi_wp2_with (refine ⟨trivial, ?_⟩; gi_at_call 32; refine (pcm_samples_in _ _ _ _ _ _ _).mono ?_; rintro e w' ⟨rfl, rfl⟩)
  obtain ⟨CS, hCS⟩ : ∃ CS : Array Value, CS = #[.int .i64 a0_0, .int .i64 a0_1, .slice A0_2 l0_2.length c0_2] := ⟨_, rfl⟩
  have k0 : (((w.alloc (.cells CS 24)).alloc (.cells #[.slice none 0 0] 34)).alloc (.cells CS 24)).heap[w.heap.size]? = some (.cells CS 24 (0, 0)) := blk_alloc (blk_alloc (World.alloc_heap_new w _) _) _
  have k1 : Boxed (((w.alloc (.cells CS 24)).alloc (.cells #[.slice none 0 0] 34)).alloc (.cells CS 24)) (w.heap.size + 1) 34 (.slice none 0 0) := by
    have h := (Boxed.new (w.alloc (.cells CS 24)) 34 (.slice none 0 0)).alloc (.cells CS 24)
    rwa [World.size_alloc] at h
  have k2 : (((w.alloc (.cells CS 24)).alloc (.cells #[.slice none 0 0] 34)).alloc (.cells CS 24)).heap[w.heap.size + 1 + 1]? = some (.cells CS 24 (0, 0)) := by
    have h := World.alloc_heap_new ((w.alloc (.cells CS 24)).alloc (.cells #[.slice none 0 0] 34)) (.cells CS 24)
    rwa [World.size_alloc, World.size_alloc] at h
  have hBw : Below w.heap.size w (((w.alloc (.cells CS 24)).alloc (.cells #[.slice none 0 0] 34)).alloc (.cells CS 24)) := (((Below.refl _ w).alloc (Nat.le_refl _) _).alloc (by simp) _).alloc (by simp; omega) _
  rw [← hCS]
  have HCS := Aside0.mk hCS
  clear hCS
  obtain ⟨W0, hW0⟩ : ∃ W0, ((w.alloc (.cells CS 24)).alloc (.cells #[.slice none 0 0] 34)).alloc (.cells CS 24) = W0 := ⟨_, rfl⟩
  have hsz : W0.heap.size = w.heap.size + 3 := by rw [← hW0]; simp
  rw [hW0] at k0 k1 k2 hBw ⊢
  clear hW0
  refine wpIn_rangeFunc_ownG rfl hn6 (gf := 41) (lb := #[.pointer (some ⟨w.heap.size + 1 + 1, 0, none⟩)]) rfl trivial (enters_of Try.func41 (by kernel_rfl) rfl)
    (pcm_samples_stops (6 - 1) (by omega) (w.heap.size + 1 + 1) w W0 a0_0 a0_1 A0_2 c0_2 l0_2 m HC.out HCA.out HM.out hrow2 (by omega) (by omega) hBw (by rw [k2, HCS.out]))
    kpB_t (kpB_b (by rw [hsz]; omega)) (Below.refl _ _) (fun _ => rfl)
    (fun pre W => (((∃ v, Boxed W (w.heap.size + 1) 34 v ∧ W.ownsRow w.heap.size 5 1 v (pcmBs e pre).length ((pcmBs e pre).map (Value.int .u8)) ∧ True) ∧ W.heap[w.heap.size]? = some (.cells CS 24 (0, 0))) ∧ W.heap[w.heap.size + 1 + 1]? = some (.cells CS 24 (0, 0))) ∧ Below w.heap.size w W)
    (fun _ _ _ => False)
    ?hI
    (fun _ _ _ _ _ hs _ _ => hs)
    ⟨⟨⟨⟨_, k1, World.ownsRow_nil _ _ _ _, trivial⟩, k0⟩, k2⟩, hBw⟩
    (fun x => { tmps := #[.agg CS, .pointer (some ⟨w.heap.size, 0, none⟩), .slice none 0 0, .pointer (some ⟨w.heap.size + 1, 0, none⟩), .int .i64 x, .agg CS, .func (.func 41) #[] #[.pointer (some ⟨w.heap.size + 1 + 1, 0, none⟩)], .int .i64 x, undef, undef, undef, undef, undef, undef, undef, undef, undef, undef, undef, undef, undef, undef], defers := [] }) ?assign ?body ?done ?stop
  case hI => exact OwnFrom.and (Own.from (fun s A B row hs hg hr => ⟨⟨holdsRow_own w.heap.size (w.heap.size + 1) 34 5 1 (fun pre => (pcmBs e pre).length) (fun pre => (pcmBs e pre).map (Value.int .u8)) (fun _ _ => True) s A B row hs.1.1 hg hr, blk_kept hs.1.2 hg hr⟩, blk_kept hs.2 hg hr⟩) _) (ownFrom_below (Nat.le_refl _) (by rw [hsz]; omega))
  case assign =>
    intro l x W K hK
    gi_wp2
    exact hK
  case body =>
    rintro l pre x W ⟨⟨⟨⟨v, hv, hrow, _⟩, h0⟩, h2⟩, hB⟩ hlt
    have hz1 : W.cell? ⟨w.heap.size, 1, none⟩ = some (.int .i64 a0_1) := (blk_cell h0 1).trans (by rw [HCS.out]; rfl)
    have h4 : 1 ≤ 6 - 1 - 1 := by omega
    gi_wp2_with (refine ⟨trivial, ?_⟩; gi_at_call 17; refine (CallsIn.inRound l (callsIn_wide.2 (pcm_Each_same a0_1 e W HE.out))).mono ?_; rintro e1 w1 ⟨rfl, hw⟩; obtain rfl := hw.symm)
    clear hz1
    have hW2 := h2
    gi_loopw [4, 11] (fun p q wr => ∃ k : Nat, k ≤ e ∧ p = .int .i64 (pcmSh k x) ∧ q = .int .i64 (k : Int) ∧ (∃ v, Boxed wr (w.heap.size + 1) 34 v ∧ wr.ownsRow w.heap.size 5 1 v (pcmBs e pre ++ pcmB k x).length ((pcmBs e pre ++ pcmB k x).map (Value.int .u8))) ∧ wr.heap[w.heap.size]? = some (.cells CS 24 (0, 0)) ∧ wr.heap[w.heap.size + 1 + 1]? = some (.cells CS 24 (0, 0)) ∧ Below w.heap.size W wr ∧ KeepsFrom W0.heap.size W wr)
      (fun _ q _ => e - (intOf q).toNat)
    case atStart => exact ⟨0, Nat.zero_le _, rfl, rfl, ⟨v, hv, by simpa [pcmB] using hrow⟩, h0, h2, Below.refl _ _, KeepsFrom.refl _ _⟩
    case round =>
      clear hv hrow h0 h2
      obtain ⟨k, hk, rfl, rfl, ⟨v, hv, hrow⟩, h0, h2, hB2, hK2⟩ := hrel
      by_cases hlt2 : k < e
      · have hd2 : decide ((k : Int) < (e : Int)) = true := decide_eq_true (by omega)
        have hc := hv.cell
        have hn₀ : w.heap.size ≤ wr.heap.size := Nat.le_trans hB.size hB2.size
        have hlen : (pcmBs e pre ++ pcmB k x).length + 1 ≤ 1000000 * 1000000 * 4 := by
          rw [List.length_append, pcmBs_len, pcmB_len]
          have h1 : (pre.length + 1) * e ≤ (m * l0_2.length) * e := Nat.mul_le_mul_right _ hlt
          rw [Nat.succ_mul] at h1
          omega
        have hmxl : 1000000 * 1000000 * 4 ≤ maxLen := by decide
        gi_wp2_with (gi_at_builtin; refine wpListIn_append_own _ rfl _ _ 34 rfl w.heap.size 5 i0 (.int .u8 0) 1 1 Try.underlying34 hi hz0 hz1 hz2 rfl (by decide) _ _ _ rfl (hrow.alloc _) ⟨wr.heap.size, 0, none⟩ 1 1 [.int .u8 (pcmSh k x % 256)] rfl rfl (cell_one_new _ _ _) (by simp [Value.oneCell']) (Nat.le_trans hlen hmxl) (Nat.le_trans (Nat.mul_le_mul_right 1 hlen) (by decide)) (by rw [World.size_alloc]; omega) ?_; intro v' w1 hown' hgrow _; obtain ⟨g', cap', rfl⟩ := ownsRow_succ hown'; obtain ⟨hv1, hv2, hr2, hk2, hb2⟩ := hv.appended (by decide) hrow hn₀ (Nat.le_succ _) hown' hgrow; have hc1 := hv1.cell; have hf1 := hv1.frozen)
        have g0 := blk_appended (v' := .slice (some ⟨g', 0, none⟩) ((pcmBs e pre ++ pcmB k x).length + 1) cap') h0 (by decide) hrow hgrow (Nat.ne_of_lt (Nat.lt_succ_self _))
        have g2 := blk_appended (v' := .slice (some ⟨g', 0, none⟩) ((pcmBs e pre ++ pcmB k x).length + 1) cap') h2 (by decide) hrow hgrow (Nat.ne_of_gt (Nat.lt_succ_self _))
        simp only [List.length_append] at hv2 hr2 hk2 hb2 g0 g2
        have e1 : pcmBs e pre ++ pcmB (k + 1) x = (pcmBs e pre ++ pcmB k x) ++ [pcmSh k x % 256] := by rw [pcmB_succ, List.append_assoc]
        go_roundw
        case rel => exact ⟨k + 1, by omega, rfl, by simp, ⟨_, hv2, by rw [e1]; simp only [List.length_append, List.length_cons, List.length_nil, List.map_append, List.map_cons, List.map_nil] at hr2 ⊢; exact hr2⟩, g0, g2, hB2.trans hb2, hK2.trans (hk2.from _)⟩
        case measure => simp [intOf]; omega
      · obtain rfl : k = e := by omega
        have hd2 : decide ((k : Int) < (k : Int)) = false := decide_eq_false (Int.lt_irrefl _)
        gi_wp2
        exact ⟨hK2, kpB_of hB2 hW2 h2, ⟨⟨⟨⟨v, hv, by rw [pcmBs_snoc]; exact hrow, trivial⟩, h0⟩, h2⟩, hB.trans hB2⟩⟩
  case done =>
    rintro D ys W hD rfl ⟨⟨⟨⟨v, hv, hrow, _⟩, h0⟩, h2⟩, hB⟩ hK
    have hc := hv.cell
    gi_wp2
    refine ⟨by simp, .inl ⟨_, _, rfl, run_takeDeferred hK, ?_⟩⟩
    exact ⟨_, results_tmp rfl _ _ _, v, rfl, Kd.R_of_own (ownsRow_putObj hrow _ hK rfl) (fun _ _ => trivial), hB.trans (belowK_b (w := w) (Nat.le_refl _) W D _ _ (by rw [hsz] at hD; omega) hK rfl rfl)⟩
  case stop =>
    rintro D c pre W _ _ h _
    exact h.elim


end Go.Proofs.Ytfjefocjplljcaa.PA
