/- What the law SectionCuts needs, part 5: texts of this claim, merged; the row itself stands in the last part. Conditions: as each theorem says. -/
import Derived.Laws.Tables
import Derived.Laws.Rows
import Derived.Laws.CopyOwn
import Derived.Deep.RegionWith
import Derived.Deep.MidRow
import Derived.Test.YtokdjeoecnnckaaMCutsD
section
namespace Go.Proofs.Ytokdjeoecnnckaa.PA
open Go.RowKit Go.Proofs.YtokdjeoecnnckaaW.PrintWords Go.Proofs.YtokdjeoecnnckaaW.PrintLast Go.Proofs.YtokdjeoecnnckaaW.PrintMore
attribute [local go_sem] max2_int min2_int max_two min_two max_three min_three max_four min_four   -- for this text's walks alone
set_option linter.unusedVariables false
set_option linter.unusedSimpArgs false
theorem zH.as {w0 W X : World} {g : Nat} {f0 : List Int} {f1 f2 : Int} (_ : zH w0 W g f0 f1 f2) (k : zH w0 X g f0 f1 f2) : zH w0 X g f0 f1 f2 := k
/-- A row that grows beside a Reader. -/
theorem zH.grownR {w0 W W1 : World} {g : Nat} {f0 : List Int} {f1 f2 : Int} {α : Type} {d : Kd α} {e : Nat} {base : Nat} {ok : Nat → Prop} {v : Value} {xs : List α} (hw : W.grownBy W1 v.ownBlock) (h : zH w0 W g f0 f1 f2) (ho : d.R e W base ok v xs) (ht : e ≠ 71 ∧ e ≠ 5) : zH w0 W1 g f0 f1 f2 := h.grown hw (h.own_ne ho ht)
/-! ### section_Take: function 14 -/
mutual
def section_Take.j0 : Nat → Int → Int → Bool → List Int → Int → Int → Option (List Int × Bool × Int × (List (S50)) × Int × Int × Int)
  | 0, _, _, _, _, _, _ => none
  | k + 1, x1, x2, x31, x1000, x1001, x1002 => if x31 = true then (some (([] : List Int), false, 0, ([] : List (S50)), 1, x1001, x1002)) else ((bits_Reader_Take.f k x1000 x1001 x1002 2).bind fun bt263 => ((bits_Reader_Fail.f x1000 bt263.2.1 bt263.2.2).bind fun bt266 => (if bt266.1 = 0 then (section_Take.j1 k x1 x2 bt263.1 (decide (bt263.1 > 1)) x1000 bt266.2.1 bt266.2.2) else (section_Take.j1 k x1 x2 bt263.1 false x1000 bt266.2.1 bt266.2.2))))
def section_Take.j1 : Nat → Int → Int → Int → Bool → List Int → Int → Int → Option (List Int × Bool × Int × (List (S50)) × Int × Int × Int)
  | 0, _, _, _, _, _, _, _ => none
  | k + 1, x1, x2, x9, x41, x1000, x1001, x1002 => if x41 = true then (some (([] : List Int), false, 0, ([] : List (S50)), 8, x1001, x1002)) else ((bits_Reader_Take.f k x1000 x1001 x1002 4).bind fun bt269 => ((bits_Reader_Fail.f x1000 bt269.2.1 bt269.2.2).bind fun bt273 => (if bt273.1 = 0 then ((parts_Cuts.f k (wrap64 (x1 - x2)) x2 (wrap64 (bt269.1))).bind fun t279 => (if (t279.length : Int) = 0 then (some (([] : List Int), false, 0, ([] : List (S50)), 5, bt273.2.1, bt273.2.2)) else (section_Take.l0 k ([] : List Int) t279 (t279.length : Int) 0 x1000 bt273.2.1 bt273.2.2 (x9 == 1) (wrap64 (bt269.1)) ([] : List (S50))))) else ((bits_Reader_Fail.f x1000 bt273.2.1 bt273.2.2).bind fun bt276 => (some (([] : List Int), false, 0, ([] : List (S50)), bt276.1, bt276.2.1, bt276.2.2))))))
def section_Take.l0 : Nat → List Int → List Int → Int → Int → List Int → Int → Int → Bool → Int → List (S50) → Option (List Int × Bool × Int × (List (S50)) × Int × Int × Int)
  | 0, _, _, _, _, _, _, _, _, _, _ => none
  | k + 1, x12, x66, x67, x68, x1000, x1001, x1002, x273000, x273001, x273002 => if x68 < x67 then (if 0 ≤ x68 then (if x68 < (x66.length : Int) then ((section_part.f k x1000 x1001 x1002 x273000).bind fun bt283 => (if x273002.length < 8796093022208 then (section_Take.l1 k x12 x66 x67 x68 (rd x66 x68) 0 x1000 bt283.2.2.1 bt283.2.2.2 x273000 x273001 (x273002 ++ [(⟨bt283.1, bt283.2.1⟩ : S50)]) bt283.1 bt283.2.1) else (none))) else (none)) else (none)) else (some (x12, x273000, x273001, x273002, 0, x1001, x1002))
def section_Take.l1 : Nat → List Int → List Int → Int → Int → Int → Int → List Int → Int → Int → Bool → Int → List (S50) → Int → Bool → Option (List Int × Bool × Int × (List (S50)) × Int × Int × Int)
  | 0, _, _, _, _, _, _, _, _, _, _, _, _, _, _ => none
  | k + 1, x12, x66, x67, x68, x82, x83, x1000, x1001, x1002, x273000, x273001, x273002, x288000, x288001 => if x83 < x82 then ((section_number.f k x1000 x1001 x1002 x288000 x288001).bind fun bt291 => ((bits_Reader_Fail.f x1000 bt291.2.1 bt291.2.2).bind fun bt294 => (if bt294.1 = 0 then (if bt291.1 ≤ (-2147483648) then (some (([] : List Int), false, 0, ([] : List (S50)), 14, bt294.2.1, bt294.2.2)) else (if bt291.1 ≥ 2147483648 then (some (([] : List Int), false, 0, ([] : List (S50)), 14, bt294.2.1, bt294.2.2)) else (if x12.length < 17592186044416 then (section_Take.l1 k (x12 ++ [bt291.1]) x66 x67 x68 x82 (wrap64 (x83 + 1)) x1000 bt294.2.1 bt294.2.2 x273000 x273001 x273002 x288000 x288001) else (none)))) else ((bits_Reader_Fail.f x1000 bt294.2.1 bt294.2.2).bind fun bt300 => (some (([] : List Int), false, 0, ([] : List (S50)), bt300.1, bt300.2.1, bt300.2.2)))))) else (section_Take.l0 k x12 x66 x67 (wrap64 (x68 + 1)) x1000 x1001 x1002 x273000 x273001 x273002)
end
def section_Take.f (k : Nat) (s0_0 : List Int) (s0_1 : Int) (s0_2 : Int) (a1 : Int) (a2 : Int) : Option (List Int × Bool × Int × (List (S50)) × Int × Int × Int) := if a2 < 0 then (section_Take.j0 k a1 a2 true s0_0 s0_1 s0_2) else (if a2 > 32 then (section_Take.j0 k a1 a2 true s0_0 s0_1 s0_2) else (if a1 ≤ a2 then (section_Take.j0 k a1 a2 true s0_0 s0_1 s0_2) else (section_Take.j0 k a1 a2 (decide (a1 > 65535)) s0_0 s0_1 s0_2)))
set_option maxHeartbeats 8000000 in
set_option maxRecDepth 100000 in
theorem section_Take.calls (k : Nat) (g : Nat) (s0_0 : List Int) (s0_1 : Int) (s0_2 : Int) (a1 : Int) (a2 : Int) (r1 : List Int) (r2 : Bool) (r3 : Int) (r4 : List (S50)) (r5 : Int) (r6 : Int) (r7 : Int) (w0 w : World) (hI : zH w0 w g s0_0 s0_1 s0_2) (hB : Below w0.heap.size w0 w) (h : section_Take.f k s0_0 s0_1 s0_2 a1 a2 = some (r1, r2, r3, r4, r5, r6, r7)) :
    Calls Try.prog 14 #[.pointer (some ⟨g, 0, none⟩), .int .i64 a1, .int .i64 a2] w fun e w' => ∃ v0_ v3_ : Value, e = .returned (.tuple #[v0_, .agg #[.bool r2, .int .i64 r3, v3_], .int .i64 r5]) ∧ Kd.R (Kd.int .i64) 3 w' w.heap.size (fun _ => True) v0_ r1 ∧ Kd.R k50 50 w' w.heap.size (fun _ => True) v3_ r4 ∧ zH w0 w' g s0_0 r6 r7 ∧ Below w0.heap.size w0 w' ∧ zJ w w' g none := by
  have hu25 := Try.underlying25
  have hu50 := Try.underlying50
  have HI0 := zG.mk hI
  have HK := zG.mk (zJ.refl w g none)
  have HL := zG.mk hB.size
  clear hI
  have HW0 := zG.mk hB.size
  have HB := zG.mk hB
  clear hB
  have H : (if a2 < 0 then (section_Take.j0 k a1 a2 true s0_0 s0_1 s0_2) else (if a2 > 32 then (section_Take.j0 k a1 a2 true s0_0 s0_1 s0_2) else (if a1 ≤ a2 then (section_Take.j0 k a1 a2 true s0_0 s0_1 s0_2) else (section_Take.j0 k a1 a2 (decide (a1 > 65535)) s0_0 s0_1 s0_2)))) = some (r1, r2, r3, r4, r5, r6, r7) := h
  clear h
  have HC4 := zG.mk H
  clear H
  go_enter Try.func14, Try.ntmps14
  go_upto_region 1 with (first | ((with_reducible refine gate_dst (N := 7) rfl ?_); refine box_event ?hg (N := 7) ?hd (cs := #[.bool false, .int .i64 0, .slice none 0 0]) (t := 25) ?hr ?_; (case hd => rfl); (case hg => rfl); (case hr => first | (go_simp; done) | (go_simp; rfl)); intro gb262 hg w5 hbox hb; have n0_ := zG.mk (zH.below (by refine zH.as HI0.out ?_; repeat (first | (with_reducible first | exact HI0.out | apply zH.alloc | apply zH.drewN | apply zH.drew | apply zH.set_1 | apply zH.set_2) | exact HI0.out)) hb); have n1_ := zG.mk (zJ.trans (by repeat (first | (with_reducible first | exact HK.out | apply zJ.set_ | apply keep_drewN | apply keep_drew | apply keep_alloc) | exact HK.out)) (zJ.of_below hb g none) (.inl rfl)); have n2_ := zG.mk (below_step (by repeat (first | (with_reducible first | exact HB.out | apply zF | apply zC | apply zD | refine zE ?_ (zH.ge HI0.out)) | exact HB.out)) hb); have n3_ := zG.mk (hbox); have n4_ := zG.mk ((by rw [hg]; exact (keep_size (w := w) (g := g) (row := none) (by repeat (first | (with_reducible first | exact HK.out | apply zJ.set_ | apply keep_drewN | apply keep_drew | apply keep_alloc) | exact HK.out))) : w.heap.size ≤ gb262)); have n5_ := zG.mk ((Nat.le_trans HW0.out (by rw [hg]; exact (keep_size (w := w) (g := g) (row := none) (by repeat (first | (with_reducible first | exact HK.out | apply zJ.set_ | apply keep_drewN | apply keep_drew | apply keep_alloc) | exact HK.out))) : w.heap.size ≤ gb262) : w0.heap.size ≤ gb262)); have n6_ := zG.mk ((by rw [hg]; exact Nat.ne_of_lt (zH.lt (show zH w0 _ g s0_0 s0_1 s0_2 from by repeat (first | (with_reducible first | exact HI0.out | apply zH.alloc | apply zH.drewN | apply zH.drew | apply zH.set_1 | apply zH.set_2) | exact HI0.out))) : g ≠ gb262)); have n7_ := zG.mk ((by rw [hg]; exact Nat.ne_of_gt (zH.lt (show zH w0 _ g s0_0 s0_1 s0_2 from by repeat (first | (with_reducible first | exact HI0.out | apply zH.alloc | apply zH.drewN | apply zH.drew | apply zH.set_1 | apply zH.set_2) | exact HI0.out))) : gb262 ≠ g)); clear HI0; clear HK; clear HB; have HI0 := n0_; have HK := n1_; have HB := n2_; have BK262 := n3_; have GW262 := n4_; have GE262 := n5_; have NB0_262 := n6_; have NB262_0 := n7_; clear n0_ n1_ n2_ n3_ n4_ n5_ n6_ n7_; clear hb hbox hg))
  (try simp only [Act.put, List.setIfInBounds_toArray, List.set_cons_zero, List.set_cons_succ])
  go_cut [31] (fun v31 wc => ∃ (kq : Nat) (x31_3 : Bool), v31 = .bool x31_3 ∧ zG (section_Take.j0 kq a1 a2 x31_3 s0_0 s0_1 s0_2 = some (r1, r2, r3, r4, r5, r6, r7)) ∧ zG (kq ≤ k) ∧ zG (wc.heap[gb262]? = some (.cells #[.bool false, .int .i64 0, (.slice none 0 0)] 25 (0, 0))) ∧ zG (zH w0 wc g s0_0 s0_1 s0_2) ∧ zG (zJ w wc g none) ∧ zG (Below w0.heap.size w0 wc))
  case first =>
    have H := HC4.out
    clear HC4
    by_cases c6 : a2 < 0
    · rw [if_pos c6] at H
      have c6b0 : decide (a2 < 0) = true := decide_eq_true c6
      clear c6
      (first | rw [c6b0] | (simp only [i64_w, i32_w]; rw [c6b0]) | skip)
      have H' := zG.mk H
      clear H
      go_wp2
      go_meet
      case rel => exact ⟨_, (true), (by first | rfl | (simp; done) | (simp only [i64_w, i32_w]; done) | (simp [*]; done) | (simp only [i64_w, i32_w]; first | rfl | (simp; done) | (simp [*]; done))), H', ⟨by first | omega | exact Nat.le_refl _⟩, ⟨by (with_reducible repeat (first | refine zL ?_ _ | refine zM ?_ | refine zK ?_ _)); exact BK262.out⟩, ⟨by repeat (first | (with_reducible first | exact HI0.out | apply zH.alloc | apply zH.drewN | apply zH.drew | apply zH.set_1 | apply zH.set_2 | refine zH.farT (t := 25) (b := gb262) ?_ (by decide) (by repeat (first | exact zA.of BK262.out | apply zA.set | apply zA.drewN | apply zA.drew | apply zA.alloc)) _) | exact HI0.out)⟩, ⟨by repeat (first | (with_reducible first | exact HK.out | apply zJ.set_ | apply keep_drewN | apply keep_drew | apply keep_alloc | refine keep_far ?_ GW262.out _) | exact HK.out)⟩, ⟨by repeat (first | (with_reducible first | exact HB.out | apply zF | apply zC | apply zD | refine zE ?_ (zH.ge HI0.out) | refine zE ?_ GE262.out) | exact HB.out)⟩⟩
    · rw [if_neg c6] at H
      have c6b0 : decide (a2 < 0) = false := decide_eq_false c6
      clear c6
      (first | rw [c6b0] | (simp only [i64_w, i32_w]; rw [c6b0]) | skip)
      by_cases c7 : a2 > 32
      · rw [if_pos c7] at H
        have c7b0 : decide (32 < a2) = true := decide_eq_true c7
        clear c7
        have H' := zG.mk H
        clear H
        go_wp2
        go_meet
        case rel => exact ⟨_, (true), (by first | rfl | (simp; done) | (simp only [i64_w, i32_w]; done) | (simp [*]; done) | (simp only [i64_w, i32_w]; first | rfl | (simp; done) | (simp [*]; done))), H', ⟨by first | omega | exact Nat.le_refl _⟩, ⟨by (with_reducible repeat (first | refine zL ?_ _ | refine zM ?_ | refine zK ?_ _)); exact BK262.out⟩, ⟨by repeat (first | (with_reducible first | exact HI0.out | apply zH.alloc | apply zH.drewN | apply zH.drew | apply zH.set_1 | apply zH.set_2 | refine zH.farT (t := 25) (b := gb262) ?_ (by decide) (by repeat (first | exact zA.of BK262.out | apply zA.set | apply zA.drewN | apply zA.drew | apply zA.alloc)) _) | exact HI0.out)⟩, ⟨by repeat (first | (with_reducible first | exact HK.out | apply zJ.set_ | apply keep_drewN | apply keep_drew | apply keep_alloc | refine keep_far ?_ GW262.out _) | exact HK.out)⟩, ⟨by repeat (first | (with_reducible first | exact HB.out | apply zF | apply zC | apply zD | refine zE ?_ (zH.ge HI0.out) | refine zE ?_ GE262.out) | exact HB.out)⟩⟩
      · rw [if_neg c7] at H
        have c7b0 : decide (32 < a2) = false := decide_eq_false c7
        clear c7
        by_cases c8 : a1 ≤ a2
        · rw [if_pos c8] at H
          have c8b0 : decide (a1 ≤ a2) = true := decide_eq_true c8
          clear c8
          have H' := zG.mk H
          clear H
          go_wp2
          go_meet
          case rel => exact ⟨_, (true), (by first | rfl | (simp; done) | (simp only [i64_w, i32_w]; done) | (simp [*]; done) | (simp only [i64_w, i32_w]; first | rfl | (simp; done) | (simp [*]; done))), H', ⟨by first | omega | exact Nat.le_refl _⟩, ⟨by (with_reducible repeat (first | refine zL ?_ _ | refine zM ?_ | refine zK ?_ _)); exact BK262.out⟩, ⟨by repeat (first | (with_reducible first | exact HI0.out | apply zH.alloc | apply zH.drewN | apply zH.drew | apply zH.set_1 | apply zH.set_2 | refine zH.farT (t := 25) (b := gb262) ?_ (by decide) (by repeat (first | exact zA.of BK262.out | apply zA.set | apply zA.drewN | apply zA.drew | apply zA.alloc)) _) | exact HI0.out)⟩, ⟨by repeat (first | (with_reducible first | exact HK.out | apply zJ.set_ | apply keep_drewN | apply keep_drew | apply keep_alloc | refine keep_far ?_ GW262.out _) | exact HK.out)⟩, ⟨by repeat (first | (with_reducible first | exact HB.out | apply zF | apply zC | apply zD | refine zE ?_ (zH.ge HI0.out) | refine zE ?_ GE262.out) | exact HB.out)⟩⟩
        · rw [if_neg c8] at H
          have c8b0 : decide (a1 ≤ a2) = false := decide_eq_false c8
          clear c8
          have H' := zG.mk H
          clear H
          go_wp2
          go_meet
          case rel => exact ⟨_, (decide (a1 > 65535)), (by first | rfl | (simp; done) | (simp only [i64_w, i32_w]; done) | (simp [*]; done) | (simp only [i64_w, i32_w]; first | rfl | (simp; done) | (simp [*]; done))), H', ⟨by first | omega | exact Nat.le_refl _⟩, ⟨by (with_reducible repeat (first | refine zL ?_ _ | refine zM ?_ | refine zK ?_ _)); exact BK262.out⟩, ⟨by repeat (first | (with_reducible first | exact HI0.out | apply zH.alloc | apply zH.drewN | apply zH.drew | apply zH.set_1 | apply zH.set_2 | refine zH.farT (t := 25) (b := gb262) ?_ (by decide) (by repeat (first | exact zA.of BK262.out | apply zA.set | apply zA.drewN | apply zA.drew | apply zA.alloc)) _) | exact HI0.out)⟩, ⟨by repeat (first | (with_reducible first | exact HK.out | apply zJ.set_ | apply keep_drewN | apply keep_drew | apply keep_alloc | refine keep_far ?_ GW262.out _) | exact HK.out)⟩, ⟨by repeat (first | (with_reducible first | exact HB.out | apply zF | apply zC | apply zD | refine zE ?_ (zH.ge HI0.out) | refine zE ?_ GE262.out) | exact HB.out)⟩⟩
  case rest =>
    clear HC4
    try clear c1
    try clear p2
    try clear c6
    try clear c6b0
    try clear c7
    try clear c7b0
    try clear c8
    try clear c8b0
    obtain ⟨kq, x31_3, rfl, HA, HJ3, BK262, HI0, HK, HB⟩ := hcut
    cases kq with
    | zero => exact absurd HA.out (by simp [section_Take.j0])
    | succ kj3 =>
      have H := HA.out
      clear HA
      simp only [section_Take.j0] at H
      by_cases c9 : x31_3 = true
      · subst c9
        have H1 : (some (([] : List Int), false, 0, ([] : List (S50)), 1, s0_1, s0_2)) = some (r1, r2, r3, r4, r5, r6, r7) := by rw [if_pos rfl] at H; exact H
        clear H
        have H := H1
        clear H1
        simp only [Option.some.injEq, Prod.mk.injEq] at H
        obtain ⟨rfl, rfl, rfl, rfl, rfl, rfl, rfl⟩ := H
        have hnb10 := NB262_0.out
        have hnc10 := NB0_262.out
        have hcz11_0 : wc.cell? ⟨gb262, 0, none⟩ = some (.bool false) := (zN BK262.out 0).trans rfl
        have hcz11_1 : wc.cell? ⟨gb262, 1, none⟩ = some (.int .i64 0) := (zN BK262.out 1).trans rfl
        have hcz11_2 : wc.cell? ⟨gb262, 2, none⟩ = some (.slice none 0 0) := (zN BK262.out 2).trans rfl
        have hfz11_0 := zO BK262.out 0
        have hfz11_1 := zO BK262.out 1
        have hfz11_2 := zO BK262.out 2
        go_wp2
        refine bodyPost_ret (results_list (rs := [.tmp 6, .cell 7 25, .tmp 8]) rfl (by simp) (.tmp (.cell gb262 25 #[.bool false, .int .i64 0, .slice none 0 0] (0, 0) _ rfl (by (with_reducible repeat (first | refine zL ?_ _ | refine zM ?_ | refine zK ?_ _)); refine blk_put (cs := #[.bool false, .int .i64 0, .slice none 0 0]) ?_ 2 _ rfl; (with_reducible repeat (first | refine zL ?_ _ | refine zM ?_ | refine zK ?_ _)); refine blk_put (cs := #[.bool false, .int .i64 0, .slice none 0 0]) ?_ 1 _ rfl; (with_reducible repeat (first | refine zL ?_ _ | refine zM ?_ | refine zK ?_ _)); refine blk_put (cs := #[.bool false, .int .i64 0, .slice none 0 0]) ?_ 0 _ rfl; (with_reducible repeat (first | refine zL ?_ _ | refine zM ?_ | refine zK ?_ _)); exact BK262.out) Try.underlying25 rfl (by kernel_rfl) (.tmp .nil)))) rfl ?_
        exact ⟨_, _, by first | rfl | (simp [errW_none, errW_some] <;> rfl) | (simp [*, errW_none, errW_some] <;> rfl), by first | exact Kd.R_nil _ _ _ _ _ | exact Kd.N_nil _ _ _ _ _ | exact Kd.V_nil _ _ _ _ _ | exact Kd.Q_nil _ _ _ _ _ | exact Kd.S_nil _ _ _ _ _, by first | exact Kd.R_nil _ _ _ _ _ | exact Kd.N_nil _ _ _ _ _ | exact Kd.V_nil _ _ _ _ _ | exact Kd.Q_nil _ _ _ _ _ | exact Kd.S_nil _ _ _ _ _, by repeat (first | (with_reducible first | exact HI0.out | apply zH.alloc | apply zH.drewN | apply zH.drew | apply zH.set_1 | apply zH.set_2 | refine zH.farT (t := 25) (b := gb262) ?_ (by decide) (by repeat (first | exact zA.of BK262.out | apply zA.set | apply zA.drewN | apply zA.drew | apply zA.alloc)) _) | exact HI0.out), by repeat (first | (with_reducible first | exact HB.out | apply zF | apply zC | apply zD | refine zE ?_ (zH.ge HI0.out) | refine zE ?_ GE262.out) | exact HB.out), by repeat (first | (with_reducible first | exact HK.out | apply zJ.set_ | apply keep_drewN | apply keep_drew | apply keep_alloc | refine keep_far ?_ GW262.out _) | exact HK.out)⟩
      · replace c9 := Bool.eq_false_iff.mpr c9
        subst c9
        have H1 : ((bits_Reader_Take.f kj3 s0_0 s0_1 s0_2 2).bind fun bt263 => ((bits_Reader_Fail.f s0_0 bt263.2.1 bt263.2.2).bind fun bt266 => (if bt266.1 = 0 then (section_Take.j1 kj3 a1 a2 bt263.1 (decide (bt263.1 > 1)) s0_0 bt266.2.1 bt266.2.2) else (section_Take.j1 kj3 a1 a2 bt263.1 false s0_0 bt266.2.1 bt266.2.2)))) = some (r1, r2, r3, r4, r5, r6, r7) := by rw [if_neg (show ¬ (false = true) by decide)] at H; exact H
        clear H
        have H := H1
        clear H1
        replace H := Option.bind_eq_some_iff.mp H
        obtain ⟨⟨t263, t264, t265⟩, A120, H⟩ := H
        replace H : ((bits_Reader_Fail.f s0_0 t264 t265).bind fun bt266 => (if bt266.1 = 0 then (section_Take.j1 kj3 a1 a2 t263 (decide (t263 > 1)) s0_0 bt266.2.1 bt266.2.2) else (section_Take.j1 kj3 a1 a2 t263 false s0_0 bt266.2.1 bt266.2.2))) = some (r1, r2, r3, r4, r5, r6, r7) := H
        have A12 := zG.mk A120
        clear A120
        have HC13 := zG.mk H
        clear H
        go_upto_region 4 with (first | ((with_reducible refine gate_callee (f := 32) rfl ?_); refine goesL_ (some 34) rfl rfl Try.func32 (by kernel_rfl) rfl #[.pointer (some ⟨g, 0, none⟩), .int .i64 2] rfl (by (try simp only [List.map_toArray, List.map_cons, List.map_nil]); first | done | rfl | (simp only [List.length_drop, List.length_take]; rfl)) ?_; (with_reducible refine (bits_Reader_Take.calls kj3 g s0_0 s0_1 s0_2 2 t263 t264 t265 w0 _ ?side1 ?side2 A12.out).mono ?_); (case side1 => repeat (first | (with_reducible first | exact HI0.out | apply zH.alloc | apply zH.drewN | apply zH.drew | apply zH.set_1 | apply zH.set_2 | refine zH.farT (t := 25) (b := gb262) ?_ (by decide) (by repeat (first | exact zA.of BK262.out | apply zA.set | apply zA.drewN | apply zA.drew | apply zA.alloc)) _) | exact HI0.out)); (case side2 => repeat (first | (with_reducible first | exact HB.out | apply zF | apply zC | apply zD | refine zE ?_ (zH.ge HI0.out) | refine zE ?_ GE262.out) | exact HB.out)); rintro e w14 ⟨rfl, hi, hb, hk⟩; refine ⟨_, rfl, ?_⟩; have n0_ := zG.mk (zJ.blk hk (g' := gb262) (o := .cells #[.bool false, .int .i64 0, .slice none 0 0] 25 (0, 0)) (by (with_reducible repeat (first | refine zL ?_ _ | refine zM ?_ | refine zK ?_ _)); exact BK262.out) NB262_0.out (by simp)); have n1_ := zG.mk (zJ.trans (by repeat (first | (with_reducible first | exact HK.out | apply zJ.set_ | apply keep_drewN | apply keep_drew | apply keep_alloc | refine keep_far ?_ GW262.out _) | exact HK.out)) hk (.inl rfl)); have n2_ := zG.mk (hb); have n3_ := zG.mk (hi); clear BK262; clear HK; clear HB; clear HI0; have BK262 := n0_; have HK := n1_; have HB := n2_; have HI0 := n3_; clear n0_ n1_ n2_ n3_; (try clear hb); (try clear hb2); (try clear hk); (try clear hi)))
        (try simp only [Act.put, List.setIfInBounds_toArray, List.set_cons_zero, List.set_cons_succ])
        go_cut [41] (fun v41 wc => ∃ (kq : Nat) (x41_12 : Bool) (x1001_12 : Int) (x1002_12 : Int), v41 = .bool x41_12 ∧ zG (section_Take.j1 kq a1 a2 t263 x41_12 s0_0 x1001_12 x1002_12 = some (r1, r2, r3, r4, r5, r6, r7)) ∧ zG (kq ≤ kj3) ∧ zG (wc.heap[gb262]? = some (.cells #[.bool false, .int .i64 0, (.slice none 0 0)] 25 (0, 0))) ∧ zG (zH w0 wc g s0_0 x1001_12 x1002_12) ∧ zG (zJ w wc g none) ∧ zG (Below w0.heap.size w0 wc))
        case first =>
          have H := HC13.out
          clear HC13
          replace H := Option.bind_eq_some_iff.mp H
          obtain ⟨⟨t266, t267, t268⟩, A150, H⟩ := H
          replace H : (if t266 = 0 then (section_Take.j1 kj3 a1 a2 t263 (decide (t263 > 1)) s0_0 t267 t268) else (section_Take.j1 kj3 a1 a2 t263 false s0_0 t267 t268)) = some (r1, r2, r3, r4, r5, r6, r7) := H
          have A15 := zG.mk A150
          clear A150
          by_cases c16 : t266 = 0
          · rw [if_pos c16] at H
            have c16b0 : (t266 == 0) = true := beq_iff_eq.mpr c16
            have c16b1 : (t266 != 0) = false := bne_eq_false_iff_eq.mpr c16
            clear c16
            (first | rw [c16b0] | (simp only [i64_w, i32_w]; rw [c16b0]) | skip)
            have H' := zG.mk H
            clear H
            go_wp2_with (first | ((with_reducible refine gate_callee (f := 33) rfl ?_); refine goesL_ (some 36) rfl rfl Try.func33 (by kernel_rfl) rfl #[.pointer (some ⟨g, 0, none⟩)] rfl (by (try simp only [List.map_toArray, List.map_cons, List.map_nil]); first | done | rfl | (simp only [List.length_drop, List.length_take]; rfl)) ?_; (with_reducible refine (bits_Reader_Fail.calls g s0_0 t264 t265 t266 t267 t268 w0 _ ?side1 ?side2 A15.out).mono ?_); (case side1 => repeat (first | (with_reducible first | exact HI0.out | apply zH.alloc | apply zH.drewN | apply zH.drew | apply zH.set_1 | apply zH.set_2 | refine zH.farT (t := 25) (b := gb262) ?_ (by decide) (by repeat (first | exact zA.of BK262.out | apply zA.set | apply zA.drewN | apply zA.drew | apply zA.alloc)) _) | exact HI0.out)); (case side2 => repeat (first | (with_reducible first | exact HB.out | apply zF | apply zC | apply zD | refine zE ?_ (zH.ge HI0.out) | refine zE ?_ GE262.out) | exact HB.out)); rintro e w17 ⟨rfl, hi, hb, hk⟩; refine ⟨_, rfl, ?_⟩; have n0_ := zG.mk (zJ.blk hk (g' := gb262) (o := .cells #[.bool false, .int .i64 0, .slice none 0 0] 25 (0, 0)) (by (with_reducible repeat (first | refine zL ?_ _ | refine zM ?_ | refine zK ?_ _)); exact BK262.out) NB262_0.out (by simp)); have n1_ := zG.mk (zJ.trans (by repeat (first | (with_reducible first | exact HK.out | apply zJ.set_ | apply keep_drewN | apply keep_drew | apply keep_alloc | refine keep_far ?_ GW262.out _) | exact HK.out)) hk (.inl rfl)); have n2_ := zG.mk (hb); have n3_ := zG.mk (hi); clear BK262; clear HK; clear HB; clear HI0; have BK262 := n0_; have HK := n1_; have HB := n2_; have HI0 := n3_; clear n0_ n1_ n2_ n3_; (try clear hb); (try clear hb2); (try clear hk); (try clear hi)))
            go_meet
            case rel => exact ⟨_, (decide (t263 > 1)), (t267), (t268), (by first | rfl | (simp; done) | (simp only [i64_w, i32_w]; done) | (simp [*]; done) | (simp only [i64_w, i32_w]; first | rfl | (simp; done) | (simp [*]; done))), H', ⟨by have := HJ3.out; first | omega | exact Nat.le_refl _⟩, ⟨by (with_reducible repeat (first | refine zL ?_ _ | refine zM ?_ | refine zK ?_ _)); exact BK262.out⟩, ⟨by repeat (first | (with_reducible first | exact HI0.out | apply zH.alloc | apply zH.drewN | apply zH.drew | apply zH.set_1 | apply zH.set_2 | refine zH.farT (t := 25) (b := gb262) ?_ (by decide) (by repeat (first | exact zA.of BK262.out | apply zA.set | apply zA.drewN | apply zA.drew | apply zA.alloc)) _) | exact HI0.out)⟩, ⟨by repeat (first | (with_reducible first | exact HK.out | apply zJ.set_ | apply keep_drewN | apply keep_drew | apply keep_alloc | refine keep_far ?_ GW262.out _) | exact HK.out)⟩, ⟨by repeat (first | (with_reducible first | exact HB.out | apply zF | apply zC | apply zD | refine zE ?_ (zH.ge HI0.out) | refine zE ?_ GE262.out) | exact HB.out)⟩⟩
          · rw [if_neg c16] at H
            have c16b0 : (t266 == 0) = false := beq_eq_false_iff_ne.mpr c16
            have c16b1 : (t266 != 0) = true := bne_iff_ne.mpr c16
            (first | rw [c16b0] | (simp only [i64_w, i32_w]; rw [c16b0]) | skip)
            have H' := zG.mk H
            clear H
            go_wp2_with (first | ((with_reducible refine gate_callee (f := 33) rfl ?_); refine goesL_ (some 36) rfl rfl Try.func33 (by kernel_rfl) rfl #[.pointer (some ⟨g, 0, none⟩)] rfl (by (try simp only [List.map_toArray, List.map_cons, List.map_nil]); first | done | rfl | (simp only [List.length_drop, List.length_take]; rfl)) ?_; (with_reducible refine (bits_Reader_Fail.calls g s0_0 t264 t265 t266 t267 t268 w0 _ ?side1 ?side2 A15.out).mono ?_); (case side1 => repeat (first | (with_reducible first | exact HI0.out | apply zH.alloc | apply zH.drewN | apply zH.drew | apply zH.set_1 | apply zH.set_2 | refine zH.farT (t := 25) (b := gb262) ?_ (by decide) (by repeat (first | exact zA.of BK262.out | apply zA.set | apply zA.drewN | apply zA.drew | apply zA.alloc)) _) | exact HI0.out)); (case side2 => repeat (first | (with_reducible first | exact HB.out | apply zF | apply zC | apply zD | refine zE ?_ (zH.ge HI0.out) | refine zE ?_ GE262.out) | exact HB.out)); rintro e w18 ⟨rfl, hi, hb, hk⟩; refine ⟨_, rfl, ?_⟩; have n0_ := zG.mk (zJ.blk hk (g' := gb262) (o := .cells #[.bool false, .int .i64 0, .slice none 0 0] 25 (0, 0)) (by (with_reducible repeat (first | refine zL ?_ _ | refine zM ?_ | refine zK ?_ _)); exact BK262.out) NB262_0.out (by simp)); have n1_ := zG.mk (zJ.trans (by repeat (first | (with_reducible first | exact HK.out | apply zJ.set_ | apply keep_drewN | apply keep_drew | apply keep_alloc | refine keep_far ?_ GW262.out _) | exact HK.out)) hk (.inl rfl)); have n2_ := zG.mk (hb); have n3_ := zG.mk (hi); clear BK262; clear HK; clear HB; clear HI0; have BK262 := n0_; have HK := n1_; have HB := n2_; have HI0 := n3_; clear n0_ n1_ n2_ n3_; (try clear hb); (try clear hb2); (try clear hk); (try clear hi)))
            go_meet
            case rel => exact ⟨_, (false), (t267), (t268), (by first | rfl | (simp; done) | (simp only [i64_w, i32_w]; done) | (simp [*]; done) | (simp only [i64_w, i32_w]; first | rfl | (simp; done) | (simp [*]; done))), H', ⟨by have := HJ3.out; first | omega | exact Nat.le_refl _⟩, ⟨by (with_reducible repeat (first | refine zL ?_ _ | refine zM ?_ | refine zK ?_ _)); exact BK262.out⟩, ⟨by repeat (first | (with_reducible first | exact HI0.out | apply zH.alloc | apply zH.drewN | apply zH.drew | apply zH.set_1 | apply zH.set_2 | refine zH.farT (t := 25) (b := gb262) ?_ (by decide) (by repeat (first | exact zA.of BK262.out | apply zA.set | apply zA.drewN | apply zA.drew | apply zA.alloc)) _) | exact HI0.out)⟩, ⟨by repeat (first | (with_reducible first | exact HK.out | apply zJ.set_ | apply keep_drewN | apply keep_drew | apply keep_alloc | refine keep_far ?_ GW262.out _) | exact HK.out)⟩, ⟨by repeat (first | (with_reducible first | exact HB.out | apply zF | apply zC | apply zD | refine zE ?_ (zH.ge HI0.out) | refine zE ?_ GE262.out) | exact HB.out)⟩⟩
        case rest =>
          clear HC13
          try clear c1
          try clear p2
          try clear c3
          try clear c6
          try clear c6b0
          try clear c7
          try clear c7b0
          try clear c8
          try clear c8b0
          try clear c9
          try clear c10
          try clear c14
          try clear c16
          try clear c16b0
          try clear c16b1
          try clear hcz11_0
          try clear hcz11_1
          try clear hcz11_2
          try clear hfz11_0
          try clear hfz11_1
          try clear hfz11_2
          try clear p2
          obtain ⟨kq, x41_12, x1001_12, x1002_12, rfl, HA, HJ12, BK262, HI0, HK, HB⟩ := hcut
          cases kq with
          | zero => exact absurd HA.out (by simp [section_Take.j1])
          | succ kj12 =>
            have H := HA.out
            clear HA
            simp only [section_Take.j1] at H
            by_cases c19 : x41_12 = true
            · subst c19
              have H1 : (some (([] : List Int), false, 0, ([] : List (S50)), 8, x1001_12, x1002_12)) = some (r1, r2, r3, r4, r5, r6, r7) := by rw [if_pos rfl] at H; exact H
              clear H
              have H := H1
              clear H1
              simp only [Option.some.injEq, Prod.mk.injEq] at H
              obtain ⟨rfl, rfl, rfl, rfl, rfl, rfl, rfl⟩ := H
              have hnb20 := NB262_0.out
              have hnc20 := NB0_262.out
              have hcz21_0 : wc.cell? ⟨gb262, 0, none⟩ = some (.bool false) := (zN BK262.out 0).trans rfl
              have hcz21_1 : wc.cell? ⟨gb262, 1, none⟩ = some (.int .i64 0) := (zN BK262.out 1).trans rfl
              have hcz21_2 : wc.cell? ⟨gb262, 2, none⟩ = some (.slice none 0 0) := (zN BK262.out 2).trans rfl
              have hfz21_0 := zO BK262.out 0
              have hfz21_1 := zO BK262.out 1
              have hfz21_2 := zO BK262.out 2
              go_wp2
              refine bodyPost_ret (results_list (rs := [.tmp 6, .cell 7 25, .tmp 8]) rfl (by simp) (.tmp (.cell gb262 25 #[.bool false, .int .i64 0, .slice none 0 0] (0, 0) _ rfl (by (with_reducible repeat (first | refine zL ?_ _ | refine zM ?_ | refine zK ?_ _)); refine blk_put (cs := #[.bool false, .int .i64 0, .slice none 0 0]) ?_ 2 _ rfl; (with_reducible repeat (first | refine zL ?_ _ | refine zM ?_ | refine zK ?_ _)); refine blk_put (cs := #[.bool false, .int .i64 0, .slice none 0 0]) ?_ 1 _ rfl; (with_reducible repeat (first | refine zL ?_ _ | refine zM ?_ | refine zK ?_ _)); refine blk_put (cs := #[.bool false, .int .i64 0, .slice none 0 0]) ?_ 0 _ rfl; (with_reducible repeat (first | refine zL ?_ _ | refine zM ?_ | refine zK ?_ _)); exact BK262.out) Try.underlying25 rfl (by kernel_rfl) (.tmp .nil)))) rfl ?_
              exact ⟨_, _, by first | rfl | (simp [errW_none, errW_some] <;> rfl) | (simp [*, errW_none, errW_some] <;> rfl), by first | exact Kd.R_nil _ _ _ _ _ | exact Kd.N_nil _ _ _ _ _ | exact Kd.V_nil _ _ _ _ _ | exact Kd.Q_nil _ _ _ _ _ | exact Kd.S_nil _ _ _ _ _, by first | exact Kd.R_nil _ _ _ _ _ | exact Kd.N_nil _ _ _ _ _ | exact Kd.V_nil _ _ _ _ _ | exact Kd.Q_nil _ _ _ _ _ | exact Kd.S_nil _ _ _ _ _, by repeat (first | (with_reducible first | exact HI0.out | apply zH.alloc | apply zH.drewN | apply zH.drew | apply zH.set_1 | apply zH.set_2 | refine zH.farT (t := 25) (b := gb262) ?_ (by decide) (by repeat (first | exact zA.of BK262.out | apply zA.set | apply zA.drewN | apply zA.drew | apply zA.alloc)) _) | exact HI0.out), by repeat (first | (with_reducible first | exact HB.out | apply zF | apply zC | apply zD | refine zE ?_ (zH.ge HI0.out) | refine zE ?_ GE262.out) | exact HB.out), by repeat (first | (with_reducible first | exact HK.out | apply zJ.set_ | apply keep_drewN | apply keep_drew | apply keep_alloc | refine keep_far ?_ GW262.out _) | exact HK.out)⟩
            · replace c19 := Bool.eq_false_iff.mpr c19
              subst c19
              have H1 : ((bits_Reader_Take.f kj12 s0_0 x1001_12 x1002_12 4).bind fun bt269 => ((bits_Reader_Fail.f s0_0 bt269.2.1 bt269.2.2).bind fun bt273 => (if bt273.1 = 0 then ((parts_Cuts.f kj12 (wrap64 (a1 - a2)) a2 (wrap64 (bt269.1))).bind fun t279 => (if (t279.length : Int) = 0 then (some (([] : List Int), false, 0, ([] : List (S50)), 5, bt273.2.1, bt273.2.2)) else (section_Take.l0 kj12 ([] : List Int) t279 (t279.length : Int) 0 s0_0 bt273.2.1 bt273.2.2 (t263 == 1) (wrap64 (bt269.1)) ([] : List (S50))))) else ((bits_Reader_Fail.f s0_0 bt273.2.1 bt273.2.2).bind fun bt276 => (some (([] : List Int), false, 0, ([] : List (S50)), bt276.1, bt276.2.1, bt276.2.2)))))) = some (r1, r2, r3, r4, r5, r6, r7) := by rw [if_neg (show ¬ (false = true) by decide)] at H; exact H
              clear H
              have H := H1
              clear H1
              replace H := Option.bind_eq_some_iff.mp H
              obtain ⟨⟨t269, t270, t271⟩, A220, H⟩ := H
              replace H : ((bits_Reader_Fail.f s0_0 t270 t271).bind fun bt273 => (if bt273.1 = 0 then ((parts_Cuts.f kj12 (wrap64 (a1 - a2)) a2 (wrap64 (t269))).bind fun t279 => (if (t279.length : Int) = 0 then (some (([] : List Int), false, 0, ([] : List (S50)), 5, bt273.2.1, bt273.2.2)) else (section_Take.l0 kj12 ([] : List Int) t279 (t279.length : Int) 0 s0_0 bt273.2.1 bt273.2.2 (t263 == 1) (wrap64 (t269)) ([] : List (S50))))) else ((bits_Reader_Fail.f s0_0 bt273.2.1 bt273.2.2).bind fun bt276 => (some (([] : List Int), false, 0, ([] : List (S50)), bt276.1, bt276.2.1, bt276.2.2))))) = some (r1, r2, r3, r4, r5, r6, r7) := H
              have A22 := zG.mk A220
              clear A220
              replace H := Option.bind_eq_some_iff.mp H
              obtain ⟨⟨t273, t274, t275⟩, A230, H⟩ := H
              replace H : (if t273 = 0 then ((parts_Cuts.f kj12 (wrap64 (a1 - a2)) a2 (wrap64 (t269))).bind fun t279 => (if (t279.length : Int) = 0 then (some (([] : List Int), false, 0, ([] : List (S50)), 5, t274, t275)) else (section_Take.l0 kj12 ([] : List Int) t279 (t279.length : Int) 0 s0_0 t274 t275 (t263 == 1) (wrap64 (t269)) ([] : List (S50))))) else ((bits_Reader_Fail.f s0_0 t274 t275).bind fun bt276 => (some (([] : List Int), false, 0, ([] : List (S50)), bt276.1, bt276.2.1, bt276.2.2)))) = some (r1, r2, r3, r4, r5, r6, r7) := H
              have A23 := zG.mk A230
              clear A230
              by_cases c24 : t273 = 0
              · rw [if_pos c24] at H
                have c24b0 : (t273 == 0) = true := beq_iff_eq.mpr c24
                have c24b1 : (t273 != 0) = false := bne_eq_false_iff_eq.mpr c24
                clear c24
                replace H := Option.bind_eq_some_iff.mp H
                obtain ⟨t279, A250, H⟩ := H
                replace H : (if (t279.length : Int) = 0 then (some (([] : List Int), false, 0, ([] : List (S50)), 5, t274, t275)) else (section_Take.l0 kj12 ([] : List Int) t279 (t279.length : Int) 0 s0_0 t274 t275 (t263 == 1) (wrap64 (t269)) ([] : List (S50)))) = some (r1, r2, r3, r4, r5, r6, r7) := H
                have A25 := zG.mk A250
                clear A250
                by_cases c26 : (t279.length : Int) = 0
                · rw [if_pos c26] at H
                  have c26b0 : ((t279.length : Int) == 0) = true := beq_iff_eq.mpr c26
                  have c26b1 : ((t279.length : Int) != 0) = false := bne_eq_false_iff_eq.mpr c26
                  clear c26
                  simp only [Option.some.injEq, Prod.mk.injEq] at H
                  obtain ⟨rfl, rfl, rfl, rfl, rfl, rfl, rfl⟩ := H
                  go_wp2_with (first | ((with_reducible refine gate_callee (f := 32) rfl ?_); refine goesL_ (some 46) rfl rfl Try.func32 (by kernel_rfl) rfl #[.pointer (some ⟨g, 0, none⟩), .int .i64 4] rfl (by (try simp only [List.map_toArray, List.map_cons, List.map_nil]); first | done | rfl | (simp only [List.length_drop, List.length_take]; rfl)) ?_; (with_reducible refine (bits_Reader_Take.calls kj12 g s0_0 x1001_12 x1002_12 4 t269 t270 t271 w0 _ ?side1 ?side2 A22.out).mono ?_); (case side1 => repeat (first | (with_reducible first | exact HI0.out | apply zH.alloc | apply zH.drewN | apply zH.drew | apply zH.set_1 | apply zH.set_2 | refine zH.farT (t := 25) (b := gb262) ?_ (by decide) (by repeat (first | exact zA.of BK262.out | apply zA.set | apply zA.drewN | apply zA.drew | apply zA.alloc)) _) | exact HI0.out)); (case side2 => repeat (first | (with_reducible first | exact HB.out | apply zF | apply zC | apply zD | refine zE ?_ (zH.ge HI0.out) | refine zE ?_ GE262.out) | exact HB.out)); rintro e w27 ⟨rfl, hi, hb, hk⟩; refine ⟨_, rfl, ?_⟩; have n0_ := zG.mk (zJ.blk hk (g' := gb262) (o := .cells #[.bool false, .int .i64 0, .slice none 0 0] 25 (0, 0)) (by (with_reducible repeat (first | refine zL ?_ _ | refine zM ?_ | refine zK ?_ _)); exact BK262.out) NB262_0.out (by simp)); have n1_ := zG.mk (zJ.trans (by repeat (first | (with_reducible first | exact HK.out | apply zJ.set_ | apply keep_drewN | apply keep_drew | apply keep_alloc | refine keep_far ?_ GW262.out _) | exact HK.out)) hk (.inl rfl)); have n2_ := zG.mk (hb); have n3_ := zG.mk (hi); clear BK262; clear HK; clear HB; clear HI0; have BK262 := n0_; have HK := n1_; have HB := n2_; have HI0 := n3_; clear n0_ n1_ n2_ n3_; (try clear hb); (try clear hb2); (try clear hk); (try clear hi)) | ((with_reducible refine gate_dst (N := 10) rfl ?_); refine box_event ?hg (N := 10) ?hd (cs := #[.bool false, .int .i64 0, .slice none 0 0]) (t := 25) ?hr ?_; (case hd => rfl); (case hg => rfl); (case hr => first | (go_simp; done) | (go_simp; rfl)); intro gb272 hg w28 hbox hb; have n0_ := zG.mk (blk_below (g := gb262) (o := .cells #[.bool false, .int .i64 0, .slice none 0 0] 25 (0, 0)) (by (with_reducible repeat (first | refine zL ?_ _ | refine zM ?_ | refine zK ?_ _)); exact BK262.out) hb); have n1_ := zG.mk (zH.below (by refine zH.as HI0.out ?_; repeat (first | (with_reducible first | exact HI0.out | apply zH.alloc | apply zH.drewN | apply zH.drew | apply zH.set_1 | apply zH.set_2 | refine zH.farT (t := 25) (b := gb262) ?_ (by decide) (by repeat (first | exact zA.of BK262.out | apply zA.set | apply zA.drewN | apply zA.drew | apply zA.alloc)) _) | exact HI0.out)) hb); have n2_ := zG.mk (zJ.trans (by repeat (first | (with_reducible first | exact HK.out | apply zJ.set_ | apply keep_drewN | apply keep_drew | apply keep_alloc | refine keep_far ?_ GW262.out _) | exact HK.out)) (zJ.of_below hb g none) (.inl rfl)); have n3_ := zG.mk (below_step (by repeat (first | (with_reducible first | exact HB.out | apply zF | apply zC | apply zD | refine zE ?_ (zH.ge HI0.out) | refine zE ?_ GE262.out) | exact HB.out)) hb); have n4_ := zG.mk (hbox); have n5_ := zG.mk ((by rw [hg]; exact (keep_size (w := w) (g := g) (row := none) (by repeat (first | (with_reducible first | exact HK.out | apply zJ.set_ | apply keep_drewN | apply keep_drew | apply keep_alloc | refine keep_far ?_ GW262.out _) | exact HK.out))) : w.heap.size ≤ gb272)); have n6_ := zG.mk ((Nat.le_trans HW0.out (by rw [hg]; exact (keep_size (w := w) (g := g) (row := none) (by repeat (first | (with_reducible first | exact HK.out | apply zJ.set_ | apply keep_drewN | apply keep_drew | apply keep_alloc | refine keep_far ?_ GW262.out _) | exact HK.out))) : w.heap.size ≤ gb272) : w0.heap.size ≤ gb272)); have n7_ := zG.mk ((by rw [hg]; exact Nat.ne_of_lt (blk_lt (g := gb262) (o := .cells #[.bool false, .int .i64 0, .slice none 0 0] 25 (0, 0)) (by (with_reducible repeat (first | refine zL ?_ _ | refine zM ?_ | refine zK ?_ _)); exact BK262.out)) : gb262 ≠ gb272)); have n8_ := zG.mk ((by rw [hg]; exact Nat.ne_of_gt (blk_lt (g := gb262) (o := .cells #[.bool false, .int .i64 0, .slice none 0 0] 25 (0, 0)) (by (with_reducible repeat (first | refine zL ?_ _ | refine zM ?_ | refine zK ?_ _)); exact BK262.out)) : gb272 ≠ gb262)); have n9_ := zG.mk ((by rw [hg]; exact Nat.ne_of_lt (zH.lt (show zH w0 _ g s0_0 t270 t271 from by repeat (first | (with_reducible first | exact HI0.out | apply zH.alloc | apply zH.drewN | apply zH.drew | apply zH.set_1 | apply zH.set_2 | refine zH.farT (t := 25) (b := gb262) ?_ (by decide) (by repeat (first | exact zA.of BK262.out | apply zA.set | apply zA.drewN | apply zA.drew | apply zA.alloc)) _) | exact HI0.out))) : g ≠ gb272)); have n10_ := zG.mk ((by rw [hg]; exact Nat.ne_of_gt (zH.lt (show zH w0 _ g s0_0 t270 t271 from by repeat (first | (with_reducible first | exact HI0.out | apply zH.alloc | apply zH.drewN | apply zH.drew | apply zH.set_1 | apply zH.set_2 | refine zH.farT (t := 25) (b := gb262) ?_ (by decide) (by repeat (first | exact zA.of BK262.out | apply zA.set | apply zA.drewN | apply zA.drew | apply zA.alloc)) _) | exact HI0.out))) : gb272 ≠ g)); clear BK262; clear HI0; clear HK; clear HB; have BK262 := n0_; have HI0 := n1_; have HK := n2_; have HB := n3_; have BK272 := n4_; have GW272 := n5_; have GE272 := n6_; have NB262_272 := n7_; have NB272_262 := n8_; have NB0_272 := n9_; have NB272_0 := n10_; clear n0_ n1_ n2_ n3_ n4_ n5_ n6_ n7_ n8_ n9_ n10_; clear hb hbox hg; have hnb29 := NB272_262.out; have hnc29 := NB262_272.out; have hnb30 := NB272_0.out; have hnc30 := NB0_272.out; have hcz31_0 : w28.cell? ⟨gb272, 0, none⟩ = some (.bool false) := (zN BK272.out 0).trans rfl; have hcz31_1 : w28.cell? ⟨gb272, 1, none⟩ = some (.int .i64 0) := (zN BK272.out 1).trans rfl; have hcz31_2 : w28.cell? ⟨gb272, 2, none⟩ = some (.slice none 0 0) := (zN BK272.out 2).trans rfl; have hfz31_0 := zO BK272.out 0; have hfz31_1 := zO BK272.out 1; have hfz31_2 := zO BK272.out 2) | ((with_reducible refine gate_callee (f := 33) rfl ?_); refine goesL_ (some 50) rfl rfl Try.func33 (by kernel_rfl) rfl #[.pointer (some ⟨g, 0, none⟩)] rfl (by (try simp only [List.map_toArray, List.map_cons, List.map_nil]); first | done | rfl | (simp only [List.length_drop, List.length_take]; rfl)) ?_; (with_reducible refine (bits_Reader_Fail.calls g s0_0 t270 t271 t273 t274 t275 w0 _ ?side1 ?side2 A23.out).mono ?_); (case side1 => repeat (first | (with_reducible first | exact HI0.out | apply zH.alloc | apply zH.drewN | apply zH.drew | apply zH.set_1 | apply zH.set_2 | refine zH.farT (t := 25) (b := gb262) ?_ (by decide) (by repeat (first | exact zA.of BK262.out | apply zA.set | apply zA.drewN | apply zA.drew | apply zA.alloc)) _ | refine zH.farT (t := 25) (b := gb272) ?_ (by decide) (by repeat (first | exact zA.of BK272.out | apply zA.set | apply zA.drewN | apply zA.drew | apply zA.alloc)) _) | exact HI0.out)); (case side2 => repeat (first | (with_reducible first | exact HB.out | apply zF | apply zC | apply zD | refine zE ?_ (zH.ge HI0.out) | refine zE ?_ GE262.out | refine zE ?_ GE272.out) | exact HB.out)); rintro e w32 ⟨rfl, hi, hb, hk⟩; refine ⟨_, rfl, ?_⟩; have n0_ := zG.mk (zJ.blk hk (g' := gb262) (o := .cells #[.bool false, .int .i64 0, .slice none 0 0] 25 (0, 0)) (by (with_reducible repeat (first | refine zL ?_ _ | refine zM ?_ | refine zK ?_ _)); refine zP ?_ NB262_272.out _; (with_reducible repeat (first | refine zL ?_ _ | refine zM ?_ | refine zK ?_ _)); refine zP ?_ NB262_272.out _; (with_reducible repeat (first | refine zL ?_ _ | refine zM ?_ | refine zK ?_ _)); refine zP ?_ NB262_272.out _; (with_reducible repeat (first | refine zL ?_ _ | refine zM ?_ | refine zK ?_ _)); exact BK262.out) NB262_0.out (by simp)); have n1_ := zG.mk (zJ.blk hk (g' := gb272) (o := .cells #[.bool (t263 == 1), .int .i64 (wrap64 (t269)), .slice none 0 0] 25 (0, 0)) (by (with_reducible repeat (first | refine zL ?_ _ | refine zM ?_ | refine zK ?_ _)); refine blk_put (cs := #[.bool (t263 == 1), .int .i64 (wrap64 (t269)), .slice none 0 0]) ?_ 2 _ rfl; (with_reducible repeat (first | refine zL ?_ _ | refine zM ?_ | refine zK ?_ _)); refine blk_put (cs := #[.bool (t263 == 1), .int .i64 0, .slice none 0 0]) ?_ 1 _ rfl; (with_reducible repeat (first | refine zL ?_ _ | refine zM ?_ | refine zK ?_ _)); refine blk_put (cs := #[.bool false, .int .i64 0, .slice none 0 0]) ?_ 0 _ rfl; (with_reducible repeat (first | refine zL ?_ _ | refine zM ?_ | refine zK ?_ _)); exact BK272.out) NB272_0.out (by simp)); have n2_ := zG.mk (zJ.trans (by repeat (first | (with_reducible first | exact HK.out | apply zJ.set_ | apply keep_drewN | apply keep_drew | apply keep_alloc | refine keep_far ?_ GW262.out _ | refine keep_far ?_ GW272.out _) | exact HK.out)) hk (.inl rfl)); have n3_ := zG.mk (hb); have n4_ := zG.mk (hi); clear BK262; clear BK272; clear HK; clear HB; clear HI0; have BK262 := n0_; have BK272 := n1_; have HK := n2_; have HB := n3_; have HI0 := n4_; clear n0_ n1_ n2_ n3_ n4_; (try clear hb); (try clear hb2); (try clear hk); (try clear hi); have hcz33_0 : w32.cell? ⟨gb272, 0, none⟩ = some (.bool (t263 == 1)) := (zN BK272.out 0).trans rfl; have hcz33_1 : w32.cell? ⟨gb272, 1, none⟩ = some (.int .i64 (wrap64 (t269))) := (zN BK272.out 1).trans rfl; have hcz33_2 : w32.cell? ⟨gb272, 2, none⟩ = some (.slice none 0 0) := (zN BK272.out 2).trans rfl; have hfz33_0 := zO BK272.out 0; have hfz33_1 := zO BK272.out 1; have hfz33_2 := zO BK272.out 2) | ((with_reducible refine gate_callee (f := 28) rfl ?_); refine goesL_ (some 61) rfl rfl Try.func28 (by kernel_rfl) rfl #[.int .i64 (wrap64 (a1 - a2)), .int .i64 a2, .int .i64 (wrap64 (t269))] rfl (by (try simp only [List.map_toArray, List.map_cons, List.map_nil]); first | done | rfl | (simp only [List.length_drop, List.length_take]; rfl)) ?_; (with_reducible refine (parts_Cuts.calls kj12 (wrap64 (a1 - a2)) a2 (wrap64 (t269)) t279 _ A25.out).mono ?_); rintro e w34 ⟨v280, rfl, ho0, hb⟩; refine ⟨_, rfl, ?_⟩; have n0_ := zG.mk (Kd.R_lower ho0 (keep_size (w := w) (g := g) (row := none) (by repeat (first | (with_reducible first | exact HK.out | apply zJ.set_ | apply keep_drewN | apply keep_drew | apply keep_alloc | refine keep_far ?_ GW262.out _ | refine keep_far ?_ GW272.out _) | exact HK.out)))); have n1_ := zG.mk (blk_below (g := gb262) (o := .cells #[.bool false, .int .i64 0, .slice none 0 0] 25 (0, 0)) (by (with_reducible repeat (first | refine zL ?_ _ | refine zM ?_ | refine zK ?_ _)); exact BK262.out) hb); have n2_ := zG.mk (zH.below (by refine zH.as HI0.out ?_; repeat (first | (with_reducible first | exact HI0.out | apply zH.alloc | apply zH.drewN | apply zH.drew | apply zH.set_1 | apply zH.set_2 | refine zH.farT (t := 25) (b := gb262) ?_ (by decide) (by repeat (first | exact zA.of BK262.out | apply zA.set | apply zA.drewN | apply zA.drew | apply zA.alloc)) _ | refine zH.farT (t := 25) (b := gb272) ?_ (by decide) (by repeat (first | exact zA.of BK272.out | apply zA.set | apply zA.drewN | apply zA.drew | apply zA.alloc)) _) | exact HI0.out)) hb); have n3_ := zG.mk (blk_below (g := gb272) (o := .cells #[.bool (t263 == 1), .int .i64 (wrap64 (t269)), .slice none 0 0] 25 (0, 0)) (by (with_reducible repeat (first | refine zL ?_ _ | refine zM ?_ | refine zK ?_ _)); exact BK272.out) hb); have n4_ := zG.mk (zJ.trans (by repeat (first | (with_reducible first | exact HK.out | apply zJ.set_ | apply keep_drewN | apply keep_drew | apply keep_alloc | refine keep_far ?_ GW262.out _ | refine keep_far ?_ GW272.out _) | exact HK.out)) (zJ.of_below hb g none) (.inl rfl)); have n5_ := zG.mk (below_step (by repeat (first | (with_reducible first | exact HB.out | apply zF | apply zC | apply zD | refine zE ?_ (zH.ge HI0.out) | refine zE ?_ GE262.out | refine zE ?_ GE272.out) | exact HB.out)) hb); clear BK262; clear HI0; clear BK272; clear HK; clear HB; have HO281 := n0_; have BK262 := n1_; have HI0 := n2_; have BK272 := n3_; have HK := n4_; have HB := n5_; clear n0_ n1_ n2_ n3_ n4_ n5_; (try clear hb); (try clear hb2); (try clear hk); (try clear hi); (try clear ho0); obtain ⟨Ao35, co35, eo35⟩ := Kd.R_slice HO281.out; subst eo35; have hnb36 := NB262_0.out; have hnc36 := NB0_262.out; have hcz37_0 : w34.cell? ⟨gb262, 0, none⟩ = some (.bool false) := (zN BK262.out 0).trans rfl; have hcz37_1 : w34.cell? ⟨gb262, 1, none⟩ = some (.int .i64 0) := (zN BK262.out 1).trans rfl; have hcz37_2 : w34.cell? ⟨gb262, 2, none⟩ = some (.slice none 0 0) := (zN BK262.out 2).trans rfl; have hfz37_0 := zO BK262.out 0; have hfz37_1 := zO BK262.out 1; have hfz37_2 := zO BK262.out 2))
                  refine bodyPost_ret (results_list (rs := [.tmp 6, .cell 7 25, .tmp 8]) rfl (by simp) (.tmp (.cell gb262 25 #[.bool false, .int .i64 0, .slice none 0 0] (0, 0) _ rfl (by (with_reducible repeat (first | refine zL ?_ _ | refine zM ?_ | refine zK ?_ _)); refine blk_put (cs := #[.bool false, .int .i64 0, .slice none 0 0]) ?_ 2 _ rfl; (with_reducible repeat (first | refine zL ?_ _ | refine zM ?_ | refine zK ?_ _)); refine blk_put (cs := #[.bool false, .int .i64 0, .slice none 0 0]) ?_ 1 _ rfl; (with_reducible repeat (first | refine zL ?_ _ | refine zM ?_ | refine zK ?_ _)); refine blk_put (cs := #[.bool false, .int .i64 0, .slice none 0 0]) ?_ 0 _ rfl; (with_reducible repeat (first | refine zL ?_ _ | refine zM ?_ | refine zK ?_ _)); exact BK262.out) Try.underlying25 rfl (by kernel_rfl) (.tmp .nil)))) rfl ?_
                  exact ⟨_, _, by first | rfl | (simp [errW_none, errW_some] <;> rfl) | (simp [*, errW_none, errW_some] <;> rfl), by first | exact Kd.R_nil _ _ _ _ _ | exact Kd.N_nil _ _ _ _ _ | exact Kd.V_nil _ _ _ _ _ | exact Kd.Q_nil _ _ _ _ _ | exact Kd.S_nil _ _ _ _ _, by first | exact Kd.R_nil _ _ _ _ _ | exact Kd.N_nil _ _ _ _ _ | exact Kd.V_nil _ _ _ _ _ | exact Kd.Q_nil _ _ _ _ _ | exact Kd.S_nil _ _ _ _ _, by repeat (first | (with_reducible first | exact HI0.out | apply zH.alloc | apply zH.drewN | apply zH.drew | apply zH.set_1 | apply zH.set_2 | refine zH.farT (t := 25) (b := gb262) ?_ (by decide) (by repeat (first | exact zA.of BK262.out | apply zA.set | apply zA.drewN | apply zA.drew | apply zA.alloc)) _ | refine zH.farT (t := 25) (b := gb272) ?_ (by decide) (by repeat (first | exact zA.of BK272.out | apply zA.set | apply zA.drewN | apply zA.drew | apply zA.alloc)) _) | exact HI0.out), by repeat (first | (with_reducible first | exact HB.out | apply zF | apply zC | apply zD | refine zE ?_ (zH.ge HI0.out) | refine zE ?_ GE262.out | refine zE ?_ GE272.out) | exact HB.out), by repeat (first | (with_reducible first | exact HK.out | apply zJ.set_ | apply keep_drewN | apply keep_drew | apply keep_alloc | refine keep_far ?_ GW262.out _ | refine keep_far ?_ GW272.out _) | exact HK.out)⟩
                · rw [if_neg c26] at H
                  have c26b0 : ((t279.length : Int) == 0) = false := beq_eq_false_iff_ne.mpr c26
                  have c26b1 : ((t279.length : Int) != 0) = true := bne_iff_ne.mpr c26
                  have c26b2 : ¬ (t279 = []) := fun h_ => c26 (by rw [h_]; rfl)
                  have H' := zG.mk H
                  clear H
                  go_wp2_with (first | ((with_reducible refine gate_callee (f := 32) rfl ?_); refine goesL_ (some 46) rfl rfl Try.func32 (by kernel_rfl) rfl #[.pointer (some ⟨g, 0, none⟩), .int .i64 4] rfl (by (try simp only [List.map_toArray, List.map_cons, List.map_nil]); first | done | rfl | (simp only [List.length_drop, List.length_take]; rfl)) ?_; (with_reducible refine (bits_Reader_Take.calls kj12 g s0_0 x1001_12 x1002_12 4 t269 t270 t271 w0 _ ?side1 ?side2 A22.out).mono ?_); (case side1 => repeat (first | (with_reducible first | exact HI0.out | apply zH.alloc | apply zH.drewN | apply zH.drew | apply zH.set_1 | apply zH.set_2 | refine zH.farT (t := 25) (b := gb262) ?_ (by decide) (by repeat (first | exact zA.of BK262.out | apply zA.set | apply zA.drewN | apply zA.drew | apply zA.alloc)) _) | exact HI0.out)); (case side2 => repeat (first | (with_reducible first | exact HB.out | apply zF | apply zC | apply zD | refine zE ?_ (zH.ge HI0.out) | refine zE ?_ GE262.out) | exact HB.out)); rintro e w38 ⟨rfl, hi, hb, hk⟩; refine ⟨_, rfl, ?_⟩; have n0_ := zG.mk (zJ.blk hk (g' := gb262) (o := .cells #[.bool false, .int .i64 0, .slice none 0 0] 25 (0, 0)) (by (with_reducible repeat (first | refine zL ?_ _ | refine zM ?_ | refine zK ?_ _)); exact BK262.out) NB262_0.out (by simp)); have n1_ := zG.mk (zJ.trans (by repeat (first | (with_reducible first | exact HK.out | apply zJ.set_ | apply keep_drewN | apply keep_drew | apply keep_alloc | refine keep_far ?_ GW262.out _) | exact HK.out)) hk (.inl rfl)); have n2_ := zG.mk (hb); have n3_ := zG.mk (hi); clear BK262; clear HK; clear HB; clear HI0; have BK262 := n0_; have HK := n1_; have HB := n2_; have HI0 := n3_; clear n0_ n1_ n2_ n3_; (try clear hb); (try clear hb2); (try clear hk); (try clear hi)) | ((with_reducible refine gate_dst (N := 10) rfl ?_); refine box_event ?hg (N := 10) ?hd (cs := #[.bool false, .int .i64 0, .slice none 0 0]) (t := 25) ?hr ?_; (case hd => rfl); (case hg => rfl); (case hr => first | (go_simp; done) | (go_simp; rfl)); intro gb272 hg w39 hbox hb; have n0_ := zG.mk (blk_below (g := gb262) (o := .cells #[.bool false, .int .i64 0, .slice none 0 0] 25 (0, 0)) (by (with_reducible repeat (first | refine zL ?_ _ | refine zM ?_ | refine zK ?_ _)); exact BK262.out) hb); have n1_ := zG.mk (zH.below (by refine zH.as HI0.out ?_; repeat (first | (with_reducible first | exact HI0.out | apply zH.alloc | apply zH.drewN | apply zH.drew | apply zH.set_1 | apply zH.set_2 | refine zH.farT (t := 25) (b := gb262) ?_ (by decide) (by repeat (first | exact zA.of BK262.out | apply zA.set | apply zA.drewN | apply zA.drew | apply zA.alloc)) _) | exact HI0.out)) hb); have n2_ := zG.mk (zJ.trans (by repeat (first | (with_reducible first | exact HK.out | apply zJ.set_ | apply keep_drewN | apply keep_drew | apply keep_alloc | refine keep_far ?_ GW262.out _) | exact HK.out)) (zJ.of_below hb g none) (.inl rfl)); have n3_ := zG.mk (below_step (by repeat (first | (with_reducible first | exact HB.out | apply zF | apply zC | apply zD | refine zE ?_ (zH.ge HI0.out) | refine zE ?_ GE262.out) | exact HB.out)) hb); have n4_ := zG.mk (hbox); have n5_ := zG.mk ((by rw [hg]; exact (keep_size (w := w) (g := g) (row := none) (by repeat (first | (with_reducible first | exact HK.out | apply zJ.set_ | apply keep_drewN | apply keep_drew | apply keep_alloc | refine keep_far ?_ GW262.out _) | exact HK.out))) : w.heap.size ≤ gb272)); have n6_ := zG.mk ((Nat.le_trans HW0.out (by rw [hg]; exact (keep_size (w := w) (g := g) (row := none) (by repeat (first | (with_reducible first | exact HK.out | apply zJ.set_ | apply keep_drewN | apply keep_drew | apply keep_alloc | refine keep_far ?_ GW262.out _) | exact HK.out))) : w.heap.size ≤ gb272) : w0.heap.size ≤ gb272)); have n7_ := zG.mk ((by rw [hg]; exact Nat.ne_of_lt (blk_lt (g := gb262) (o := .cells #[.bool false, .int .i64 0, .slice none 0 0] 25 (0, 0)) (by (with_reducible repeat (first | refine zL ?_ _ | refine zM ?_ | refine zK ?_ _)); exact BK262.out)) : gb262 ≠ gb272)); have n8_ := zG.mk ((by rw [hg]; exact Nat.ne_of_gt (blk_lt (g := gb262) (o := .cells #[.bool false, .int .i64 0, .slice none 0 0] 25 (0, 0)) (by (with_reducible repeat (first | refine zL ?_ _ | refine zM ?_ | refine zK ?_ _)); exact BK262.out)) : gb272 ≠ gb262)); have n9_ := zG.mk ((by rw [hg]; exact Nat.ne_of_lt (zH.lt (show zH w0 _ g s0_0 t270 t271 from by repeat (first | (with_reducible first | exact HI0.out | apply zH.alloc | apply zH.drewN | apply zH.drew | apply zH.set_1 | apply zH.set_2 | refine zH.farT (t := 25) (b := gb262) ?_ (by decide) (by repeat (first | exact zA.of BK262.out | apply zA.set | apply zA.drewN | apply zA.drew | apply zA.alloc)) _) | exact HI0.out))) : g ≠ gb272)); have n10_ := zG.mk ((by rw [hg]; exact Nat.ne_of_gt (zH.lt (show zH w0 _ g s0_0 t270 t271 from by repeat (first | (with_reducible first | exact HI0.out | apply zH.alloc | apply zH.drewN | apply zH.drew | apply zH.set_1 | apply zH.set_2 | refine zH.farT (t := 25) (b := gb262) ?_ (by decide) (by repeat (first | exact zA.of BK262.out | apply zA.set | apply zA.drewN | apply zA.drew | apply zA.alloc)) _) | exact HI0.out))) : gb272 ≠ g)); clear BK262; clear HI0; clear HK; clear HB; have BK262 := n0_; have HI0 := n1_; have HK := n2_; have HB := n3_; have BK272 := n4_; have GW272 := n5_; have GE272 := n6_; have NB262_272 := n7_; have NB272_262 := n8_; have NB0_272 := n9_; have NB272_0 := n10_; clear n0_ n1_ n2_ n3_ n4_ n5_ n6_ n7_ n8_ n9_ n10_; clear hb hbox hg; have hnb40 := NB272_262.out; have hnc40 := NB262_272.out; have hnb41 := NB272_0.out; have hnc41 := NB0_272.out; have hcz42_0 : w39.cell? ⟨gb272, 0, none⟩ = some (.bool false) := (zN BK272.out 0).trans rfl; have hcz42_1 : w39.cell? ⟨gb272, 1, none⟩ = some (.int .i64 0) := (zN BK272.out 1).trans rfl; have hcz42_2 : w39.cell? ⟨gb272, 2, none⟩ = some (.slice none 0 0) := (zN BK272.out 2).trans rfl; have hfz42_0 := zO BK272.out 0; have hfz42_1 := zO BK272.out 1; have hfz42_2 := zO BK272.out 2) | ((with_reducible refine gate_callee (f := 33) rfl ?_); refine goesL_ (some 50) rfl rfl Try.func33 (by kernel_rfl) rfl #[.pointer (some ⟨g, 0, none⟩)] rfl (by (try simp only [List.map_toArray, List.map_cons, List.map_nil]); first | done | rfl | (simp only [List.length_drop, List.length_take]; rfl)) ?_; (with_reducible refine (bits_Reader_Fail.calls g s0_0 t270 t271 t273 t274 t275 w0 _ ?side1 ?side2 A23.out).mono ?_); (case side1 => repeat (first | (with_reducible first | exact HI0.out | apply zH.alloc | apply zH.drewN | apply zH.drew | apply zH.set_1 | apply zH.set_2 | refine zH.farT (t := 25) (b := gb262) ?_ (by decide) (by repeat (first | exact zA.of BK262.out | apply zA.set | apply zA.drewN | apply zA.drew | apply zA.alloc)) _ | refine zH.farT (t := 25) (b := gb272) ?_ (by decide) (by repeat (first | exact zA.of BK272.out | apply zA.set | apply zA.drewN | apply zA.drew | apply zA.alloc)) _) | exact HI0.out)); (case side2 => repeat (first | (with_reducible first | exact HB.out | apply zF | apply zC | apply zD | refine zE ?_ (zH.ge HI0.out) | refine zE ?_ GE262.out | refine zE ?_ GE272.out) | exact HB.out)); rintro e w43 ⟨rfl, hi, hb, hk⟩; refine ⟨_, rfl, ?_⟩; have n0_ := zG.mk (zJ.blk hk (g' := gb262) (o := .cells #[.bool false, .int .i64 0, .slice none 0 0] 25 (0, 0)) (by (with_reducible repeat (first | refine zL ?_ _ | refine zM ?_ | refine zK ?_ _)); refine zP ?_ NB262_272.out _; (with_reducible repeat (first | refine zL ?_ _ | refine zM ?_ | refine zK ?_ _)); refine zP ?_ NB262_272.out _; (with_reducible repeat (first | refine zL ?_ _ | refine zM ?_ | refine zK ?_ _)); refine zP ?_ NB262_272.out _; (with_reducible repeat (first | refine zL ?_ _ | refine zM ?_ | refine zK ?_ _)); exact BK262.out) NB262_0.out (by simp)); have n1_ := zG.mk (zJ.blk hk (g' := gb272) (o := .cells #[.bool (t263 == 1), .int .i64 (wrap64 (t269)), .slice none 0 0] 25 (0, 0)) (by (with_reducible repeat (first | refine zL ?_ _ | refine zM ?_ | refine zK ?_ _)); refine blk_put (cs := #[.bool (t263 == 1), .int .i64 (wrap64 (t269)), .slice none 0 0]) ?_ 2 _ rfl; (with_reducible repeat (first | refine zL ?_ _ | refine zM ?_ | refine zK ?_ _)); refine blk_put (cs := #[.bool (t263 == 1), .int .i64 0, .slice none 0 0]) ?_ 1 _ rfl; (with_reducible repeat (first | refine zL ?_ _ | refine zM ?_ | refine zK ?_ _)); refine blk_put (cs := #[.bool false, .int .i64 0, .slice none 0 0]) ?_ 0 _ rfl; (with_reducible repeat (first | refine zL ?_ _ | refine zM ?_ | refine zK ?_ _)); exact BK272.out) NB272_0.out (by simp)); have n2_ := zG.mk (zJ.trans (by repeat (first | (with_reducible first | exact HK.out | apply zJ.set_ | apply keep_drewN | apply keep_drew | apply keep_alloc | refine keep_far ?_ GW262.out _ | refine keep_far ?_ GW272.out _) | exact HK.out)) hk (.inl rfl)); have n3_ := zG.mk (hb); have n4_ := zG.mk (hi); clear BK262; clear BK272; clear HK; clear HB; clear HI0; have BK262 := n0_; have BK272 := n1_; have HK := n2_; have HB := n3_; have HI0 := n4_; clear n0_ n1_ n2_ n3_ n4_; (try clear hb); (try clear hb2); (try clear hk); (try clear hi); have hcz44_0 : w43.cell? ⟨gb272, 0, none⟩ = some (.bool (t263 == 1)) := (zN BK272.out 0).trans rfl; have hcz44_1 : w43.cell? ⟨gb272, 1, none⟩ = some (.int .i64 (wrap64 (t269))) := (zN BK272.out 1).trans rfl; have hcz44_2 : w43.cell? ⟨gb272, 2, none⟩ = some (.slice none 0 0) := (zN BK272.out 2).trans rfl; have hfz44_0 := zO BK272.out 0; have hfz44_1 := zO BK272.out 1; have hfz44_2 := zO BK272.out 2) | ((with_reducible refine gate_callee (f := 28) rfl ?_); refine goesL_ (some 61) rfl rfl Try.func28 (by kernel_rfl) rfl #[.int .i64 (wrap64 (a1 - a2)), .int .i64 a2, .int .i64 (wrap64 (t269))] rfl (by (try simp only [List.map_toArray, List.map_cons, List.map_nil]); first | done | rfl | (simp only [List.length_drop, List.length_take]; rfl)) ?_; (with_reducible refine (parts_Cuts.calls kj12 (wrap64 (a1 - a2)) a2 (wrap64 (t269)) t279 _ A25.out).mono ?_); rintro e w45 ⟨v280, rfl, ho0, hb⟩; refine ⟨_, rfl, ?_⟩; have n0_ := zG.mk (Kd.R_lower ho0 (keep_size (w := w) (g := g) (row := none) (by repeat (first | (with_reducible first | exact HK.out | apply zJ.set_ | apply keep_drewN | apply keep_drew | apply keep_alloc | refine keep_far ?_ GW262.out _ | refine keep_far ?_ GW272.out _) | exact HK.out)))); have n1_ := zG.mk (blk_below (g := gb262) (o := .cells #[.bool false, .int .i64 0, .slice none 0 0] 25 (0, 0)) (by (with_reducible repeat (first | refine zL ?_ _ | refine zM ?_ | refine zK ?_ _)); exact BK262.out) hb); have n2_ := zG.mk (zH.below (by refine zH.as HI0.out ?_; repeat (first | (with_reducible first | exact HI0.out | apply zH.alloc | apply zH.drewN | apply zH.drew | apply zH.set_1 | apply zH.set_2 | refine zH.farT (t := 25) (b := gb262) ?_ (by decide) (by repeat (first | exact zA.of BK262.out | apply zA.set | apply zA.drewN | apply zA.drew | apply zA.alloc)) _ | refine zH.farT (t := 25) (b := gb272) ?_ (by decide) (by repeat (first | exact zA.of BK272.out | apply zA.set | apply zA.drewN | apply zA.drew | apply zA.alloc)) _) | exact HI0.out)) hb); have n3_ := zG.mk (blk_below (g := gb272) (o := .cells #[.bool (t263 == 1), .int .i64 (wrap64 (t269)), .slice none 0 0] 25 (0, 0)) (by (with_reducible repeat (first | refine zL ?_ _ | refine zM ?_ | refine zK ?_ _)); exact BK272.out) hb); have n4_ := zG.mk (zJ.trans (by repeat (first | (with_reducible first | exact HK.out | apply zJ.set_ | apply keep_drewN | apply keep_drew | apply keep_alloc | refine keep_far ?_ GW262.out _ | refine keep_far ?_ GW272.out _) | exact HK.out)) (zJ.of_below hb g none) (.inl rfl)); have n5_ := zG.mk (below_step (by repeat (first | (with_reducible first | exact HB.out | apply zF | apply zC | apply zD | refine zE ?_ (zH.ge HI0.out) | refine zE ?_ GE262.out | refine zE ?_ GE272.out) | exact HB.out)) hb); clear BK262; clear HI0; clear BK272; clear HK; clear HB; have HO281 := n0_; have BK262 := n1_; have HI0 := n2_; have BK272 := n3_; have HK := n4_; have HB := n5_; clear n0_ n1_ n2_ n3_ n4_ n5_; (try clear hb); (try clear hb2); (try clear hk); (try clear hi); (try clear ho0); obtain ⟨Ao46, co46, eo46⟩ := Kd.R_slice HO281.out; subst eo46))
                  go_loopg [12, 68] kj12 (fun kq v12 v68 w' => ∃ (x12_3 : List Int) (x68_3 : Int) (x1001_3 : Int) (x1002_3 : Int) (x263000_3 : Bool) (x263001_3 : Int) (x273002_3 : List (S50)) (u273002 : Value), v68 = .int .i64 x68_3 ∧ zG (section_Take.l0 kq x12_3 t279 (t279.length : Int) x68_3 s0_0 x1001_3 x1002_3 (t263 == 1) (wrap64 (t269)) x273002_3 = some (r1, r2, r3, r4, r5, r6, r7)) ∧ zG (kq ≤ kj12) ∧ zG (Kd.R (Kd.int .i64) 3 w' w.heap.size (fun k_ => some k_ ≠ ((.slice Ao46 t279.length co46) : Value).ownBlock) v12 x12_3) ∧ zG (Kd.R (Kd.int .i64) 3 w' w.heap.size (fun k_ => some k_ ≠ (v12 : Value).ownBlock) (.slice Ao46 t279.length co46) t279) ∧ zG (Kd.R k50 50 w' w.heap.size (fun _ => True) u273002 x273002_3) ∧ zG (w'.heap[gb262]? = some (.cells #[.bool x263000_3, .int .i64 x263001_3, (.slice none 0 0)] 25 (0, 0))) ∧ zG (w'.heap[gb272]? = some (.cells #[.bool (t263 == 1), .int .i64 (wrap64 (t269)), u273002] 25 (0, 0))) ∧ zG (zH w0 w' g s0_0 x1001_3 x1002_3) ∧ zG (zJ w w' g none) ∧ zG (Below w0.heap.size w0 w'))
                  case atStart => exact ⟨(([] : List Int)), (0), (t274), (t275), (false), (0), (([] : List (S50))), (.slice none 0 0), (by first | rfl | (simp; done) | (simp only [i64_w, i32_w]; done) | (simp [*]; done) | (simp only [i64_w, i32_w]; first | rfl | (simp; done) | (simp [*]; done))), H', ⟨Nat.le_refl _⟩, ⟨by first | exact Kd.R_nil _ _ _ _ _ | exact Kd.N_nil _ _ _ _ _ | exact Kd.V_nil _ _ _ _ _ | exact Kd.Q_nil _ _ _ _ _ | exact Kd.S_nil _ _ _ _ _⟩, ⟨by (with_reducible repeat (first | apply Kd.R_alloc | apply Kd.R_drewN | apply Kd.R_drew)); exact Kd.R_mono HO281.out (fun _ hk => (by simp [Value.ownBlock]))⟩, ⟨by first | exact Kd.R_nil _ _ _ _ _ | exact Kd.N_nil _ _ _ _ _ | exact Kd.V_nil _ _ _ _ _ | exact Kd.Q_nil _ _ _ _ _ | exact Kd.S_nil _ _ _ _ _⟩, ⟨by (with_reducible repeat (first | refine zL ?_ _ | refine zM ?_ | refine zK ?_ _)); exact BK262.out⟩, ⟨by (with_reducible repeat (first | refine zL ?_ _ | refine zM ?_ | refine zK ?_ _)); exact BK272.out⟩, ⟨by repeat (first | (with_reducible first | exact HI0.out | apply zH.alloc | apply zH.drewN | apply zH.drew | apply zH.set_1 | apply zH.set_2 | refine zH.farT (t := 25) (b := gb262) ?_ (by decide) (by repeat (first | exact zA.of BK262.out | apply zA.set | apply zA.drewN | apply zA.drew | apply zA.alloc)) _ | refine zH.farT (t := 25) (b := gb272) ?_ (by decide) (by repeat (first | exact zA.of BK272.out | apply zA.set | apply zA.drewN | apply zA.drew | apply zA.alloc)) _) | exact HI0.out)⟩, ⟨by repeat (first | (with_reducible first | exact HK.out | apply zJ.set_ | apply keep_drewN | apply keep_drew | apply keep_alloc | refine keep_far ?_ GW262.out _ | refine keep_far ?_ GW272.out _) | exact HK.out)⟩, ⟨by repeat (first | (with_reducible first | exact HB.out | apply zF | apply zC | apply zD | refine zE ?_ (zH.ge HI0.out) | refine zE ?_ GE262.out | refine zE ?_ GE272.out) | exact HB.out)⟩⟩
                  case round =>
                    clear H'
                    try clear c1
                    try clear c2
                    try clear p2
                    try clear c3
                    try clear c4
                    try clear c6
                    try clear c6b0
                    try clear p6
                    try clear c7
                    try clear c7b0
                    try clear c8
                    try clear c8b0
                    try clear c9
                    try clear c10
                    try clear c14
                    try clear c16
                    try clear c16b0
                    try clear c16b1
                    try clear c19
                    try clear c20
                    try clear c24
                    try clear c24b0
                    try clear c24b1
                    try clear c26
                    try clear c26b0
                    try clear c26b1
                    try clear c26b2
                    try clear c28
                    try clear c29
                    try clear c30
                    try clear c32
                    try clear c33
                    try clear c36
                    try clear c40
                    try clear c41
                    try clear hcz11_0
                    try clear hcz11_1
                    try clear hcz11_2
                    try clear hcz21_0
                    try clear hcz21_1
                    try clear hcz21_2
                    try clear hcz31_0
                    try clear hcz31_1
                    try clear hcz31_2
                    try clear hcz33_0
                    try clear hcz33_1
                    try clear hcz33_2
                    try clear hcz37_0
                    try clear hcz37_1
                    try clear hcz37_2
                    try clear hcz42_0
                    try clear hcz42_1
                    try clear hcz42_2
                    try clear hcz44_0
                    try clear hcz44_1
                    try clear hcz44_2
                    try clear hfz11_0
                    try clear hfz11_1
                    try clear hfz11_2
                    try clear hfz21_0
                    try clear hfz21_1
                    try clear hfz21_2
                    try clear hfz31_0
                    try clear hfz31_1
                    try clear hfz31_2
                    try clear hfz33_0
                    try clear hfz33_1
                    try clear hfz33_2
                    try clear hfz37_0
                    try clear hfz37_1
                    try clear hfz37_2
                    try clear hfz42_0
                    try clear hfz42_1
                    try clear hfz42_2
                    try clear hfz44_0
                    try clear hfz44_1
                    try clear hfz44_2
                    try clear p2
                    obtain ⟨x12_3, x68_3, x1001_3, x1002_3, x263000_3, x263001_3, x273002_3, u273002, rfl, HA, HK3, HO_12, HO_66, HO_273002, BK262, BK272, HI0, HK, HB⟩ := hrel
                    cases gk with
                    | zero => exact absurd HA.out (by simp [section_Take.l0])
                    | succ k3 =>
                      have H := HA.out
                      clear HA
                      simp only [section_Take.l0] at H
                      by_cases c47 : x68_3 < (t279.length : Int)
                      · rw [if_pos c47] at H
                        have c47b0 : decide (x68_3 < (t279.length : Int)) = true := decide_eq_true c47
                        clear c47
                        by_cases c48 : 0 ≤ x68_3
                        · rw [if_pos c48] at H
                          have c48b0 : decide (0 ≤ x68_3) = true := decide_eq_true c48
                          clear c48
                          by_cases c49 : x68_3 < (t279.length : Int)
                          · rw [if_pos c49] at H
                            have c49b0 : decide (x68_3 < (t279.length : Int)) = true := decide_eq_true c49
                            clear c49
                            replace H := Option.bind_eq_some_iff.mp H
                            obtain ⟨⟨t283, t284, t285, t286⟩, A500, H⟩ := H
                            replace H : (if x273002_3.length < 8796093022208 then (section_Take.l1 k3 x12_3 t279 (t279.length : Int) x68_3 (rd t279 x68_3) 0 s0_0 t285 t286 (t263 == 1) (wrap64 (t269)) (x273002_3 ++ [(⟨t283, t284⟩ : S50)]) t283 t284) else (none)) = some (r1, r2, r3, r4, r5, r6, r7) := H
                            have A50 := zG.mk A500
                            clear A500
                            by_cases c51 : x273002_3.length < 8796093022208
                            · rw [if_pos c51] at H
                              have LMc51 := zG.mk c51
                              clear c51
                              obtain ⟨y288, hy288⟩ : ∃ y_ : List (S50), y_ = (x273002_3 ++ [(⟨t283, t284⟩ : S50)]) := ⟨_, rfl⟩
                              replace H : (section_Take.l1 k3 x12_3 t279 (t279.length : Int) x68_3 (rd t279 x68_3) 0 s0_0 t285 t286 (t263 == 1) (wrap64 (t269)) y288 t283 t284) = some (r1, r2, r3, r4, r5, r6, r7) := by first | (rw [hy288]; with_reducible exact H) | (have H2_ := (Option.bind_some _ _).symm.trans H; rw [hy288]; with_reducible exact H2_) | (have H2_ := (Option.bind_some _ _).symm.trans H; with_reducible exact H2_) | with_reducible exact H | (rw [hy288]; exact H) | exact H
                              have Ny288 := zG.mk hy288
                              clear hy288
                              have H' := zG.mk H
                              clear H
                              have p282 : 0 ≤ (x68_3 : Int) := of_decide_eq_true (by first | (with_reducible assumption) | assumption)
                              have q282 : x68_3 < (t279.length : Int) := of_decide_eq_true (by first | (with_reducible assumption) | assumption)
                              obtain ⟨ad282, e282, hx282_0⟩ := Kd.at_int (Kd.R_reads' HO_66.out).2.2 x68_3 p282 q282
                              cases e282
                              replace p282 := eq_true p282
                              replace q282 := eq_true q282
                              have hnb52 := NB272_262.out
                              have hnc52 := NB262_272.out
                              have hnb53 := NB272_0.out
                              have hnc53 := NB0_272.out
                              have hcz54_0 : wr.cell? ⟨gb272, 0, none⟩ = some (.bool (t263 == 1)) := (zN BK272.out 0).trans rfl
                              have hcz54_1 : wr.cell? ⟨gb272, 1, none⟩ = some (.int .i64 (wrap64 (t269))) := (zN BK272.out 1).trans rfl
                              have hcz54_2 : wr.cell? ⟨gb272, 2, none⟩ = some (u273002) := (zN BK272.out 2).trans rfl
                              have hfz54_0 := zO BK272.out 0
                              have hfz54_1 := zO BK272.out 1
                              have hfz54_2 := zO BK272.out 2
                              go_wp2_with (first | ((with_reducible refine gate_callee (f := 34) rfl ?_); refine goesL_ (some 75) rfl rfl Try.func34 (by kernel_rfl) rfl #[.pointer (some ⟨g, 0, none⟩), .bool (t263 == 1)] rfl (by (try simp only [List.map_toArray, List.map_cons, List.map_nil]); first | done | rfl | (simp only [List.length_drop, List.length_take]; rfl)) ?_; (with_reducible refine (section_part.calls k3 g s0_0 x1001_3 x1002_3 (t263 == 1) t283 t284 t285 t286 w0 _ ?side1 ?side2 A50.out).mono ?_); (case side1 => repeat (first | (with_reducible first | exact HI0.out | apply zH.alloc | apply zH.drewN | apply zH.drew | apply zH.set_1 | apply zH.set_2 | refine zH.farT (t := 25) (b := gb262) ?_ (by decide) (by repeat (first | exact zA.of BK262.out | apply zA.set | apply zA.drewN | apply zA.drew | apply zA.alloc)) _ | refine zH.farT (t := 25) (b := gb272) ?_ (by decide) (by repeat (first | exact zA.of BK272.out | apply zA.set | apply zA.drewN | apply zA.drew | apply zA.alloc)) _) | exact HI0.out)); (case side2 => repeat (first | (with_reducible first | exact HB.out | apply zF | apply zC | apply zD | refine zE ?_ (zH.ge HI0.out) | refine zE ?_ GE262.out | refine zE ?_ GE272.out) | exact HB.out)); rintro e w55 ⟨rfl, hi, hb, hk⟩; refine ⟨_, rfl, ?_⟩; have n0_ := zG.mk (Kd.R_mono (Kd.R_keep (zH.apart (show zH w0 _ g s0_0 x1001_3 x1002_3 from by repeat (first | (with_reducible first | exact HI0.out | apply zH.alloc | apply zH.drewN | apply zH.drew | apply zH.set_1 | apply zH.set_2 | refine zH.farT (t := 25) (b := gb262) ?_ (by decide) (by repeat (first | exact zA.of BK262.out | apply zA.set | apply zA.drewN | apply zA.drew | apply zA.alloc)) _ | refine zH.farT (t := 25) (b := gb272) ?_ (by decide) (by repeat (first | exact zA.of BK272.out | apply zA.set | apply zA.drewN | apply zA.drew | apply zA.alloc)) _) | exact HI0.out)) (by (with_reducible repeat (first | apply Kd.R_alloc | apply Kd.R_drewN | apply Kd.R_drew)); exact HO_12.out) (by decide)) hk (fun _ h => h.2)) (fun _ h => h.1)); have n1_ := zG.mk (Kd.R_mono (Kd.R_keep (zH.apart (show zH w0 _ g s0_0 x1001_3 x1002_3 from by repeat (first | (with_reducible first | exact HI0.out | apply zH.alloc | apply zH.drewN | apply zH.drew | apply zH.set_1 | apply zH.set_2 | refine zH.farT (t := 25) (b := gb262) ?_ (by decide) (by repeat (first | exact zA.of BK262.out | apply zA.set | apply zA.drewN | apply zA.drew | apply zA.alloc)) _ | refine zH.farT (t := 25) (b := gb272) ?_ (by decide) (by repeat (first | exact zA.of BK272.out | apply zA.set | apply zA.drewN | apply zA.drew | apply zA.alloc)) _) | exact HI0.out)) (by (with_reducible repeat (first | apply Kd.R_alloc | apply Kd.R_drewN | apply Kd.R_drew)); exact HO_66.out) (by decide)) hk (fun _ h => h.2)) (fun _ h => h.1)); have n2_ := zG.mk (Kd.R_mono (Kd.R_keep (zH.apart (show zH w0 _ g s0_0 x1001_3 x1002_3 from by repeat (first | (with_reducible first | exact HI0.out | apply zH.alloc | apply zH.drewN | apply zH.drew | apply zH.set_1 | apply zH.set_2 | refine zH.farT (t := 25) (b := gb262) ?_ (by decide) (by repeat (first | exact zA.of BK262.out | apply zA.set | apply zA.drewN | apply zA.drew | apply zA.alloc)) _ | refine zH.farT (t := 25) (b := gb272) ?_ (by decide) (by repeat (first | exact zA.of BK272.out | apply zA.set | apply zA.drewN | apply zA.drew | apply zA.alloc)) _) | exact HI0.out)) (by (with_reducible repeat (first | apply Kd.R_alloc | apply Kd.R_drewN | apply Kd.R_drew)); exact HO_273002.out) (by decide)) hk (fun _ h => h.2)) (fun _ h => h.1)); have n3_ := zG.mk (zJ.blk hk (g' := gb262) (o := .cells #[.bool x263000_3, .int .i64 x263001_3, .slice none 0 0] 25 (0, 0)) (by (with_reducible repeat (first | refine zL ?_ _ | refine zM ?_ | refine zK ?_ _)); exact BK262.out) NB262_0.out (by simp)); have n4_ := zG.mk (zJ.blk hk (g' := gb272) (o := .cells #[.bool (t263 == 1), .int .i64 (wrap64 (t269)), u273002] 25 (0, 0)) (by (with_reducible repeat (first | refine zL ?_ _ | refine zM ?_ | refine zK ?_ _)); exact BK272.out) NB272_0.out (by simp)); have n5_ := zG.mk (zJ.trans (by repeat (first | (with_reducible first | exact HK.out | apply zJ.set_ | apply keep_drewN | apply keep_drew | apply keep_alloc | refine keep_far ?_ GW262.out _ | refine keep_far ?_ GW272.out _) | exact HK.out)) hk (.inl rfl)); have n6_ := zG.mk (hb); have n7_ := zG.mk (hi); clear HO_12; clear HO_66; clear HO_273002; clear BK262; clear BK272; clear HK; clear HB; clear HI0; have HO_12 := n0_; have HO_66 := n1_; have HO_273002 := n2_; have BK262 := n3_; have BK272 := n4_; have HK := n5_; have HB := n6_; have HI0 := n7_; clear n0_ n1_ n2_ n3_ n4_ n5_ n6_ n7_; (try clear hb); (try clear hb2); (try clear hk); (try clear hi)) | ((with_reducible refine gate_dst (N := 15) rfl ?_); refine box_event ?hg (N := 15) ?hd (cs := #[.int .i64 0, .bool false]) (t := 50) ?hr ?_; (case hd => rfl); (case hg => rfl); (case hr => first | (go_simp; done) | (go_simp; rfl)); intro gb287 hg w56 hbox hb; have n0_ := zG.mk (Kd.R_below (by (with_reducible repeat (first | apply Kd.R_alloc | apply Kd.R_drewN | apply Kd.R_drew)); exact HO_12.out) hb); have n1_ := zG.mk (Kd.R_below (by (with_reducible repeat (first | apply Kd.R_alloc | apply Kd.R_drewN | apply Kd.R_drew)); exact HO_66.out) hb); have n2_ := zG.mk (Kd.R_below (Kd.R_elderB (by (with_reducible repeat (first | apply Kd.R_alloc | apply Kd.R_drewN | apply Kd.R_drew)); exact HO_273002.out) gb287 (Nat.le_of_eq hg.symm)) hb); have n3_ := zG.mk (blk_below (g := gb262) (o := .cells #[.bool x263000_3, .int .i64 x263001_3, .slice none 0 0] 25 (0, 0)) (by (with_reducible repeat (first | refine zL ?_ _ | refine zM ?_ | refine zK ?_ _)); exact BK262.out) hb); have n4_ := zG.mk (blk_below (g := gb272) (o := .cells #[.bool (t263 == 1), .int .i64 (wrap64 (t269)), u273002] 25 (0, 0)) (by (with_reducible repeat (first | refine zL ?_ _ | refine zM ?_ | refine zK ?_ _)); exact BK272.out) hb); have n5_ := zG.mk (zH.below (by refine zH.as HI0.out ?_; repeat (first | (with_reducible first | exact HI0.out | apply zH.alloc | apply zH.drewN | apply zH.drew | apply zH.set_1 | apply zH.set_2 | refine zH.farT (t := 25) (b := gb262) ?_ (by decide) (by repeat (first | exact zA.of BK262.out | apply zA.set | apply zA.drewN | apply zA.drew | apply zA.alloc)) _ | refine zH.farT (t := 25) (b := gb272) ?_ (by decide) (by repeat (first | exact zA.of BK272.out | apply zA.set | apply zA.drewN | apply zA.drew | apply zA.alloc)) _) | exact HI0.out)) hb); have n6_ := zG.mk (zJ.trans (by repeat (first | (with_reducible first | exact HK.out | apply zJ.set_ | apply keep_drewN | apply keep_drew | apply keep_alloc | refine keep_far ?_ GW262.out _ | refine keep_far ?_ GW272.out _) | exact HK.out)) (zJ.of_below hb g none) (.inl rfl)); have n7_ := zG.mk (below_step (by repeat (first | (with_reducible first | exact HB.out | apply zF | apply zC | apply zD | refine zE ?_ (zH.ge HI0.out) | refine zE ?_ GE262.out | refine zE ?_ GE272.out) | exact HB.out)) hb); have n8_ := zG.mk (hbox); have n9_ := zG.mk ((by rw [hg]; exact (keep_size (w := w) (g := g) (row := none) (by repeat (first | (with_reducible first | exact HK.out | apply zJ.set_ | apply keep_drewN | apply keep_drew | apply keep_alloc | refine keep_far ?_ GW262.out _ | refine keep_far ?_ GW272.out _) | exact HK.out))) : w.heap.size ≤ gb287)); have n10_ := zG.mk ((Nat.le_trans HW0.out (by rw [hg]; exact (keep_size (w := w) (g := g) (row := none) (by repeat (first | (with_reducible first | exact HK.out | apply zJ.set_ | apply keep_drewN | apply keep_drew | apply keep_alloc | refine keep_far ?_ GW262.out _ | refine keep_far ?_ GW272.out _) | exact HK.out))) : w.heap.size ≤ gb287) : w0.heap.size ≤ gb287)); have n11_ := zG.mk ((by rw [hg]; exact Nat.ne_of_lt (blk_lt (g := gb262) (o := .cells #[.bool x263000_3, .int .i64 x263001_3, .slice none 0 0] 25 (0, 0)) (by (with_reducible repeat (first | refine zL ?_ _ | refine zM ?_ | refine zK ?_ _)); exact BK262.out)) : gb262 ≠ gb287)); have n12_ := zG.mk ((by rw [hg]; exact Nat.ne_of_gt (blk_lt (g := gb262) (o := .cells #[.bool x263000_3, .int .i64 x263001_3, .slice none 0 0] 25 (0, 0)) (by (with_reducible repeat (first | refine zL ?_ _ | refine zM ?_ | refine zK ?_ _)); exact BK262.out)) : gb287 ≠ gb262)); have n13_ := zG.mk ((by rw [hg]; exact Nat.ne_of_lt (blk_lt (g := gb272) (o := .cells #[.bool (t263 == 1), .int .i64 (wrap64 (t269)), u273002] 25 (0, 0)) (by (with_reducible repeat (first | refine zL ?_ _ | refine zM ?_ | refine zK ?_ _)); exact BK272.out)) : gb272 ≠ gb287)); have n14_ := zG.mk ((by rw [hg]; exact Nat.ne_of_gt (blk_lt (g := gb272) (o := .cells #[.bool (t263 == 1), .int .i64 (wrap64 (t269)), u273002] 25 (0, 0)) (by (with_reducible repeat (first | refine zL ?_ _ | refine zM ?_ | refine zK ?_ _)); exact BK272.out)) : gb287 ≠ gb272)); have n15_ := zG.mk ((by rw [hg]; exact Nat.ne_of_lt (zH.lt (show zH w0 _ g s0_0 t285 t286 from by repeat (first | (with_reducible first | exact HI0.out | apply zH.alloc | apply zH.drewN | apply zH.drew | apply zH.set_1 | apply zH.set_2 | refine zH.farT (t := 25) (b := gb262) ?_ (by decide) (by repeat (first | exact zA.of BK262.out | apply zA.set | apply zA.drewN | apply zA.drew | apply zA.alloc)) _ | refine zH.farT (t := 25) (b := gb272) ?_ (by decide) (by repeat (first | exact zA.of BK272.out | apply zA.set | apply zA.drewN | apply zA.drew | apply zA.alloc)) _) | exact HI0.out))) : g ≠ gb287)); have n16_ := zG.mk ((by rw [hg]; exact Nat.ne_of_gt (zH.lt (show zH w0 _ g s0_0 t285 t286 from by repeat (first | (with_reducible first | exact HI0.out | apply zH.alloc | apply zH.drewN | apply zH.drew | apply zH.set_1 | apply zH.set_2 | refine zH.farT (t := 25) (b := gb262) ?_ (by decide) (by repeat (first | exact zA.of BK262.out | apply zA.set | apply zA.drewN | apply zA.drew | apply zA.alloc)) _ | refine zH.farT (t := 25) (b := gb272) ?_ (by decide) (by repeat (first | exact zA.of BK272.out | apply zA.set | apply zA.drewN | apply zA.drew | apply zA.alloc)) _) | exact HI0.out))) : gb287 ≠ g)); clear HO_12; clear HO_66; clear HO_273002; clear BK262; clear BK272; clear HI0; clear HK; clear HB; have HO_12 := n0_; have HO_66 := n1_; have HO_273002 := n2_; have BK262 := n3_; have BK272 := n4_; have HI0 := n5_; have HK := n6_; have HB := n7_; have BK287 := n8_; have GW287 := n9_; have GE287 := n10_; have NB262_287 := n11_; have NB287_262 := n12_; have NB272_287 := n13_; have NB287_272 := n14_; have NB0_287 := n15_; have NB287_0 := n16_; clear n0_ n1_ n2_ n3_ n4_ n5_ n6_ n7_ n8_ n9_ n10_ n11_ n12_ n13_ n14_ n15_ n16_; clear hb hbox hg; have hnb57 := NB287_262.out; have hnc57 := NB262_287.out; have hnb58 := NB287_272.out; have hnc58 := NB272_287.out; have hnb59 := NB287_0.out; have hnc59 := NB0_287.out; have hcz60_0 : w56.cell? ⟨gb287, 0, none⟩ = some (.int .i64 0) := (zN BK287.out 0).trans rfl; have hcz60_1 : w56.cell? ⟨gb287, 1, none⟩ = some (.bool false) := (zN BK287.out 1).trans rfl; have hfz60_0 := zO BK287.out 0; have hfz60_1 := zO BK287.out 1; have hcz61_0 : w56.cell? ⟨gb272, 0, none⟩ = some (.bool (t263 == 1)) := (zN BK272.out 0).trans rfl; have hcz61_1 : w56.cell? ⟨gb272, 1, none⟩ = some (.int .i64 (wrap64 (t269))) := (zN BK272.out 1).trans rfl; have hcz61_2 : w56.cell? ⟨gb272, 2, none⟩ = some (u273002) := (zN BK272.out 2).trans rfl; have hfz61_0 := zO BK272.out 0; have hfz61_1 := zO BK272.out 1; have hfz61_2 := zO BK272.out 2) | ((with_reducible refine gate_builtin (b := .append) (xs := #[.tmp 77, .tmp 79]) rfl ?_); at_builtin; refine Kd.R_append k50 w.heap.size rfl (.tmp 77) (.tmp 79) 23 50 (.agg #[(.int .i64 0), (.bool false)]) 16 rfl Try.underlying23 info50 rfl (by decide) (by omega) u273002 x273002_3 (⟨t283, t284⟩ : S50) [.int .i64 t283, .bool t284] (fun k_ => k_ ≠ gb287) (fun _ => False) rfl (by first | (go_simp; done) | (go_simp; rfl)) ?aP (fun _ hk => hk.elim) ?aF ?aO (Below.refl _ _) ?aS ?aL ?_; (case aP => exact k50_mkM _ _ _ (⟨t283, t284⟩ : S50)); (case aF => exact (fun k_ hk => Kd.freshB (g := gb287) (o := .cells #[.int .i64 t283, .bool t284] 50 (0, 0)) (by (with_reducible repeat (first | refine zL ?_ _ | refine zM ?_ | refine zK ?_ _)); refine blk_put (cs := #[.int .i64 t283, .bool false]) ?_ 1 _ rfl; (with_reducible repeat (first | refine zL ?_ _ | refine zM ?_ | refine zK ?_ _)); refine blk_put (cs := #[.int .i64 0, .bool false]) ?_ 0 _ rfl; (with_reducible repeat (first | refine zL ?_ _ | refine zM ?_ | refine zK ?_ _)); exact BK287.out) k_ hk)); (case aO => exact (by (with_reducible repeat (first | apply Kd.R_alloc | apply Kd.R_drewN | apply Kd.R_drew)); exact Kd.R_mono (Kd.R_far (p := ⟨gb287, 1, none⟩) (Kd.R_far (p := ⟨gb287, 0, none⟩) (Kd.R_mono HO_273002.out (fun k_ hk => (⟨hk, hk.2⟩ : _ ∧ k_ ≠ gb287))) (fun _ hk => hk.2) (.int .i64 t283)) (fun _ hk => hk.2) (.bool t284)) (fun _ hk => hk.1.2))); (case aS => exact (keep_size (w := w) (g := g) (row := none) (by repeat (first | (with_reducible first | exact HK.out | apply zJ.set_ | apply keep_drewN | apply keep_drew | apply keep_alloc | refine keep_far ?_ GW262.out _ | refine keep_far ?_ GW272.out _ | refine keep_far ?_ GW287.out _) | exact HK.out)))); (case aL => have := LMc51.out; omega); intro v289 w62 ho hb hg hat; rw [← Ny288.out] at ho; have n0_ := zG.mk (Kd.R_over' (by (with_reducible repeat (first | apply Kd.R_alloc | apply Kd.R_drewN | apply Kd.R_drew)); exact (Kd.R_mono (Kd.R_far (p := ⟨gb287, 1, none⟩) (Kd.R_far (p := ⟨gb287, 0, none⟩) (Kd.R_types HO_12.out BK287.out (by decide)) (fun _ hk => hk.2) (.int .i64 t283)) (fun _ hk => hk.2) (.bool t284)) (fun _ h_ => h_.1))) (Kd.R_typed (by (with_reducible repeat (first | apply Kd.R_alloc | apply Kd.R_drewN | apply Kd.R_drew)); exact (Kd.R_mono (Kd.R_far (p := ⟨gb287, 1, none⟩) (Kd.R_far (p := ⟨gb287, 0, none⟩) (Kd.R_mono HO_273002.out (fun k_ hk => (⟨hk, hk.2⟩ : _ ∧ k_ ≠ gb287))) (fun _ hk => hk.2) (.int .i64 t283)) (fun _ hk => hk.2) (.bool t284)) (fun _ h_ => h_.1)))) (by decide) hg); have n1_ := zG.mk (Kd.R_over' (by (with_reducible repeat (first | apply Kd.R_alloc | apply Kd.R_drewN | apply Kd.R_drew)); exact (Kd.R_mono (Kd.R_far (p := ⟨gb287, 1, none⟩) (Kd.R_far (p := ⟨gb287, 0, none⟩) (Kd.R_types HO_66.out BK287.out (by decide)) (fun _ hk => hk.2) (.int .i64 t283)) (fun _ hk => hk.2) (.bool t284)) (fun _ h_ => h_.1))) (Kd.R_typed (by (with_reducible repeat (first | apply Kd.R_alloc | apply Kd.R_drewN | apply Kd.R_drew)); exact (Kd.R_mono (Kd.R_far (p := ⟨gb287, 1, none⟩) (Kd.R_far (p := ⟨gb287, 0, none⟩) (Kd.R_mono HO_273002.out (fun k_ hk => (⟨hk, hk.2⟩ : _ ∧ k_ ≠ gb287))) (fun _ hk => hk.2) (.int .i64 t283)) (fun _ hk => hk.2) (.bool t284)) (fun _ h_ => h_.1)))) (by decide) hg); have n2_ := zG.mk (blk_grown (g := gb262) (o := .cells #[.bool x263000_3, .int .i64 x263001_3, .slice none 0 0] 25 (0, 0)) (by (with_reducible repeat (first | refine zL ?_ _ | refine zM ?_ | refine zK ?_ _)); refine zP ?_ NB262_287.out _; (with_reducible repeat (first | refine zL ?_ _ | refine zM ?_ | refine zK ?_ _)); refine zP ?_ NB262_287.out _; (with_reducible repeat (first | refine zL ?_ _ | refine zM ?_ | refine zK ?_ _)); exact BK262.out) hg (Kd.R_ne HO_273002.out BK262.out (by decide))); have n3_ := zG.mk (blk_grown (g := gb272) (o := .cells #[.bool (t263 == 1), .int .i64 (wrap64 (t269)), u273002] 25 (0, 0)) (by (with_reducible repeat (first | refine zL ?_ _ | refine zM ?_ | refine zK ?_ _)); refine zP ?_ NB272_287.out _; (with_reducible repeat (first | refine zL ?_ _ | refine zM ?_ | refine zK ?_ _)); refine zP ?_ NB272_287.out _; (with_reducible repeat (first | refine zL ?_ _ | refine zM ?_ | refine zK ?_ _)); exact BK272.out) hg (Kd.R_ne HO_273002.out BK272.out (by decide))); have n4_ := zG.mk (zH.grownR (w0 := w0) (g := g) hg (by refine zH.as HI0.out ?_; repeat (first | (with_reducible first | exact HI0.out | apply zH.alloc | apply zH.drewN | apply zH.drew | apply zH.set_1 | apply zH.set_2 | refine zH.farT (t := 25) (b := gb262) ?_ (by decide) (by repeat (first | exact zA.of BK262.out | apply zA.set | apply zA.drewN | apply zA.drew | apply zA.alloc)) _ | refine zH.farT (t := 25) (b := gb272) ?_ (by decide) (by repeat (first | exact zA.of BK272.out | apply zA.set | apply zA.drewN | apply zA.drew | apply zA.alloc)) _ | refine zH.farT (t := 50) (b := gb287) ?_ (by decide) (by repeat (first | exact zA.of BK287.out | apply zA.set | apply zA.drewN | apply zA.drew | apply zA.alloc)) _) | exact HI0.out)) (by (with_reducible repeat (first | apply Kd.R_alloc | apply Kd.R_drewN | apply Kd.R_drew)); exact (Kd.R_mono (Kd.R_far (p := ⟨gb287, 1, none⟩) (Kd.R_far (p := ⟨gb287, 0, none⟩) (Kd.R_mono HO_273002.out (fun k_ hk => (⟨hk, hk.2⟩ : _ ∧ k_ ≠ gb287))) (fun _ hk => hk.2) (.int .i64 t283)) (fun _ hk => hk.2) (.bool t284)) (fun _ h_ => h_.1))) (by decide)); have n5_ := zG.mk (blk_grown (g := gb287) (o := .cells #[.int .i64 t283, .bool t284] 50 (0, 0)) (by (with_reducible repeat (first | refine zL ?_ _ | refine zM ?_ | refine zK ?_ _)); refine blk_put (cs := #[.int .i64 t283, .bool false]) ?_ 1 _ rfl; (with_reducible repeat (first | refine zL ?_ _ | refine zM ?_ | refine zK ?_ _)); refine blk_put (cs := #[.int .i64 0, .bool false]) ?_ 0 _ rfl; (with_reducible repeat (first | refine zL ?_ _ | refine zM ?_ | refine zK ?_ _)); exact BK287.out) hg (Kd.R_away HO_273002.out (fun _ hk => hk.2))); have n6_ := zG.mk (below_weaken (by repeat (first | (with_reducible first | exact HB.out | apply zF | apply zC | apply zD | refine zE ?_ (zH.ge HI0.out) | refine zE ?_ GE262.out | refine zE ?_ GE272.out | refine zE ?_ GE287.out) | exact HB.out)) HL.out hb); have n7_ := zG.mk (zJ.trans (by repeat (first | (with_reducible first | exact HK.out | apply zJ.set_ | apply keep_drewN | apply keep_drew | apply keep_alloc | refine keep_far ?_ GW262.out _ | refine keep_far ?_ GW272.out _ | refine keep_far ?_ GW287.out _) | exact HK.out)) (zJ.of_grown hg g) (Kd.R_base2 HO_273002.out)); have n8_ := zG.mk (ho); clear HO_12; clear HO_66; clear BK262; clear BK272; clear HI0; clear BK287; clear HB; clear HK; clear HO_273002; have HO_12 := n0_; have HO_66 := n1_; have BK262 := n2_; have BK272 := n3_; have HI0 := n4_; have BK287 := n5_; have HB := n6_; have HK := n7_; have HO290 := n8_; clear n0_ n1_ n2_ n3_ n4_ n5_ n6_ n7_ n8_; clear ho hb hg hat; obtain ⟨Ao63, co63, eo63⟩ := Kd.R_slice HO290.out; subst eo63; have hcz64_0 : w62.cell? ⟨gb272, 0, none⟩ = some (.bool (t263 == 1)) := (zN BK272.out 0).trans rfl; have hcz64_1 : w62.cell? ⟨gb272, 1, none⟩ = some (.int .i64 (wrap64 (t269))) := (zN BK272.out 1).trans rfl; have hcz64_2 : w62.cell? ⟨gb272, 2, none⟩ = some (u273002) := (zN BK272.out 2).trans rfl; have hfz64_0 := zO BK272.out 0; have hfz64_1 := zO BK272.out 1; have hfz64_2 := zO BK272.out 2))
                              go_loopg [12, 83] k3 (fun kq v12 v83 w' => ∃ (x12_4 : List Int) (x83_4 : Int) (x1001_4 : Int) (x1002_4 : Int) (x263000_4 : Bool) (x263001_4 : Int), v83 = .int .i64 x83_4 ∧ zG (section_Take.l1 kq x12_4 t279 (t279.length : Int) x68_3 (rd t279 x68_3) x83_4 s0_0 x1001_4 x1002_4 (t263 == 1) (wrap64 (t269)) y288 t283 t284 = some (r1, r2, r3, r4, r5, r6, r7)) ∧ zG (kq ≤ k3) ∧ zG (Kd.R (Kd.int .i64) 3 w' w.heap.size (fun k_ => some k_ ≠ ((.slice (some ad282) t279.length co46) : Value).ownBlock) v12 x12_4) ∧ zG (Kd.R (Kd.int .i64) 3 w' w.heap.size (fun k_ => some k_ ≠ (v12 : Value).ownBlock) (.slice (some ad282) t279.length co46) t279) ∧ zG (Kd.R k50 50 w' w.heap.size (fun k_ => k_ ≠ gb287) (.slice Ao63 y288.length co63) y288) ∧ zG (w'.heap[gb262]? = some (.cells #[.bool x263000_4, .int .i64 x263001_4, (.slice none 0 0)] 25 (0, 0))) ∧ zG (w'.heap[gb272]? = some (.cells #[.bool (t263 == 1), .int .i64 (wrap64 (t269)), (.slice Ao63 y288.length co63)] 25 (0, 0))) ∧ zG (w'.heap[gb287]? = some (.cells #[.int .i64 t283, .bool t284] 50 (0, 0))) ∧ zG (zH w0 w' g s0_0 x1001_4 x1002_4) ∧ zG (zJ w w' g none) ∧ zG (Below w0.heap.size w0 w'))
                              case atStart => exact ⟨(x12_3), (0), (t285), (t286), (x263000_3), (x263001_3), (by first | rfl | (simp; done) | (simp only [i64_w, i32_w]; done) | (simp [*]; done) | (simp only [i64_w, i32_w]; first | rfl | (simp; done) | (simp [*]; done))), H', ⟨Nat.le_refl _⟩, ⟨by (with_reducible repeat (first | apply Kd.R_alloc | apply Kd.R_drewN | apply Kd.R_drew)); exact Kd.R_mono (Kd.R_far (p := ⟨gb272, 2, none⟩) (Kd.R_types HO_12.out BK272.out (by decide)) (fun _ hk => hk.2) (.slice Ao63 y288.length co63)) (fun _ hk => hk.1)⟩, ⟨by (with_reducible repeat (first | apply Kd.R_alloc | apply Kd.R_drewN | apply Kd.R_drew)); exact Kd.R_mono (Kd.R_far (p := ⟨gb272, 2, none⟩) (Kd.R_types HO_66.out BK272.out (by decide)) (fun _ hk => hk.2) (.slice Ao63 y288.length co63)) (fun _ hk => hk.1)⟩, ⟨by (with_reducible repeat (first | apply Kd.R_alloc | apply Kd.R_drewN | apply Kd.R_drew)); exact Kd.R_mono (Kd.R_far (p := ⟨gb272, 2, none⟩) (Kd.R_types HO290.out BK272.out (by decide)) (fun _ hk => hk.2) (.slice Ao63 y288.length co63)) (fun _ hk => hk.1)⟩, ⟨by (with_reducible repeat (first | refine zL ?_ _ | refine zM ?_ | refine zK ?_ _)); refine zP ?_ NB262_272.out _; (with_reducible repeat (first | refine zL ?_ _ | refine zM ?_ | refine zK ?_ _)); exact BK262.out⟩, ⟨by (with_reducible repeat (first | refine zL ?_ _ | refine zM ?_ | refine zK ?_ _)); refine blk_put (cs := #[.bool (t263 == 1), .int .i64 (wrap64 (t269)), u273002]) ?_ 2 _ rfl; (with_reducible repeat (first | refine zL ?_ _ | refine zM ?_ | refine zK ?_ _)); exact BK272.out⟩, ⟨by (with_reducible repeat (first | refine zL ?_ _ | refine zM ?_ | refine zK ?_ _)); refine zP ?_ NB287_272.out _; (with_reducible repeat (first | refine zL ?_ _ | refine zM ?_ | refine zK ?_ _)); exact BK287.out⟩, ⟨by repeat (first | (with_reducible first | exact HI0.out | apply zH.alloc | apply zH.drewN | apply zH.drew | apply zH.set_1 | apply zH.set_2 | refine zH.farT (t := 25) (b := gb262) ?_ (by decide) (by repeat (first | exact zA.of BK262.out | apply zA.set | apply zA.drewN | apply zA.drew | apply zA.alloc)) _ | refine zH.farT (t := 25) (b := gb272) ?_ (by decide) (by repeat (first | exact zA.of BK272.out | apply zA.set | apply zA.drewN | apply zA.drew | apply zA.alloc)) _ | refine zH.farT (t := 50) (b := gb287) ?_ (by decide) (by repeat (first | exact zA.of BK287.out | apply zA.set | apply zA.drewN | apply zA.drew | apply zA.alloc)) _) | exact HI0.out)⟩, ⟨by repeat (first | (with_reducible first | exact HK.out | apply zJ.set_ | apply keep_drewN | apply keep_drew | apply keep_alloc | refine keep_far ?_ GW262.out _ | refine keep_far ?_ GW272.out _ | refine keep_far ?_ GW287.out _) | exact HK.out)⟩, ⟨by repeat (first | (with_reducible first | exact HB.out | apply zF | apply zC | apply zD | refine zE ?_ (zH.ge HI0.out) | refine zE ?_ GE262.out | refine zE ?_ GE272.out | refine zE ?_ GE287.out) | exact HB.out)⟩⟩
                              case round =>
                                clear H'
                                try clear c1
                                try clear c2
                                try clear p2
                                try clear q2
                                try clear hx2
                                try clear c3
                                try clear c4
                                try clear c5
                                try clear c6
                                try clear c6b0
                                try clear p6
                                try clear c7
                                try clear c7b0
                                try clear c8
                                try clear c8b0
                                try clear c9
                                try clear c10
                                try clear c14
                                try clear c16
                                try clear c16b0
                                try clear c16b1
                                try clear c19
                                try clear c20
                                try clear c24
                                try clear c24b0
                                try clear c24b1
                                try clear c26
                                try clear c26b0
                                try clear c26b1
                                try clear c26b2
                                try clear c28
                                try clear p28
                                try clear q28
                                try clear hx28
                                try clear c29
                                try clear c30
                                try clear c32
                                try clear c33
                                try clear c34
                                try clear c36
                                try clear c40
                                try clear c41
                                try clear c47
                                try clear c47b0
                                try clear c48
                                try clear c48b0
                                try clear c49
                                try clear c49b0
                                try clear c51
                                try clear c52
                                try clear c53
                                try clear c57
                                try clear c58
                                try clear c59
                                try clear p64
                                try clear hcz11_0
                                try clear hcz11_1
                                try clear hcz11_2
                                try clear hcz21_0
                                try clear hcz21_1
                                try clear hcz21_2
                                try clear hcz31_0
                                try clear hcz31_1
                                try clear hcz31_2
                                try clear hcz33_0
                                try clear hcz33_1
                                try clear hcz33_2
                                try clear hcz37_0
                                try clear hcz37_1
                                try clear hcz37_2
                                try clear hcz42_0
                                try clear hcz42_1
                                try clear hcz42_2
                                try clear hcz44_0
                                try clear hcz44_1
                                try clear hcz44_2
                                try clear hcz54_0
                                try clear hcz54_1
                                try clear hcz54_2
                                try clear hcz60_0
                                try clear hcz60_1
                                try clear hcz61_0
                                try clear hcz61_1
                                try clear hcz61_2
                                try clear hcz64_0
                                try clear hcz64_1
                                try clear hcz64_2
                                try clear hfz11_0
                                try clear hfz11_1
                                try clear hfz11_2
                                try clear hfz21_0
                                try clear hfz21_1
                                try clear hfz21_2
                                try clear hfz31_0
                                try clear hfz31_1
                                try clear hfz31_2
                                try clear hfz33_0
                                try clear hfz33_1
                                try clear hfz33_2
                                try clear hfz37_0
                                try clear hfz37_1
                                try clear hfz37_2
                                try clear hfz42_0
                                try clear hfz42_1
                                try clear hfz42_2
                                try clear hfz44_0
                                try clear hfz44_1
                                try clear hfz44_2
                                try clear hfz54_0
                                try clear hfz54_1
                                try clear hfz54_2
                                try clear hfz60_0
                                try clear hfz60_1
                                try clear hfz61_0
                                try clear hfz61_1
                                try clear hfz61_2
                                try clear hfz64_0
                                try clear hfz64_1
                                try clear hfz64_2
                                try clear hx282_0
                                try clear p2
                                try clear p282
                                try clear p6
                                try clear q282
                                obtain ⟨x12_4, x83_4, x1001_4, x1002_4, x263000_4, x263001_4, rfl, HA, HK4, HO_12, HO_66, HO_273002, BK262, BK272, BK287, HI0, HK, HB⟩ := hrel
                                cases gk with
                                | zero => exact absurd HA.out (by simp [section_Take.l1])
                                | succ k4 =>
                                  have H := HA.out
                                  clear HA
                                  simp only [section_Take.l1] at H
                                  by_cases c65 : x83_4 < (rd t279 x68_3)
                                  · rw [if_pos c65] at H
                                    have c65b0 : decide (x83_4 < (rd t279 x68_3)) = true := decide_eq_true c65
                                    clear c65
                                    replace H := Option.bind_eq_some_iff.mp H
                                    obtain ⟨⟨t291, t292, t293⟩, A660, H⟩ := H
                                    replace H : ((bits_Reader_Fail.f s0_0 t292 t293).bind fun bt294 => (if bt294.1 = 0 then (if t291 ≤ (-2147483648) then (some (([] : List Int), false, 0, ([] : List (S50)), 14, bt294.2.1, bt294.2.2)) else (if t291 ≥ 2147483648 then (some (([] : List Int), false, 0, ([] : List (S50)), 14, bt294.2.1, bt294.2.2)) else (if x12_4.length < 17592186044416 then (section_Take.l1 k4 (x12_4 ++ [t291]) t279 (t279.length : Int) x68_3 (rd t279 x68_3) (wrap64 (x83_4 + 1)) s0_0 bt294.2.1 bt294.2.2 (t263 == 1) (wrap64 (t269)) y288 t283 t284) else (none)))) else ((bits_Reader_Fail.f s0_0 bt294.2.1 bt294.2.2).bind fun bt300 => (some (([] : List Int), false, 0, ([] : List (S50)), bt300.1, bt300.2.1, bt300.2.2))))) = some (r1, r2, r3, r4, r5, r6, r7) := H
                                    have A66 := zG.mk A660
                                    clear A660
                                    replace H := Option.bind_eq_some_iff.mp H
                                    obtain ⟨⟨t294, t295, t296⟩, A670, H⟩ := H
                                    replace H : (if t294 = 0 then (if t291 ≤ (-2147483648) then (some (([] : List Int), false, 0, ([] : List (S50)), 14, t295, t296)) else (if t291 ≥ 2147483648 then (some (([] : List Int), false, 0, ([] : List (S50)), 14, t295, t296)) else (if x12_4.length < 17592186044416 then (section_Take.l1 k4 (x12_4 ++ [t291]) t279 (t279.length : Int) x68_3 (rd t279 x68_3) (wrap64 (x83_4 + 1)) s0_0 t295 t296 (t263 == 1) (wrap64 (t269)) y288 t283 t284) else (none)))) else ((bits_Reader_Fail.f s0_0 t295 t296).bind fun bt300 => (some (([] : List Int), false, 0, ([] : List (S50)), bt300.1, bt300.2.1, bt300.2.2)))) = some (r1, r2, r3, r4, r5, r6, r7) := H
                                    have A67 := zG.mk A670
                                    clear A670
                                    by_cases c68 : t294 = 0
                                    · rw [if_pos c68] at H
                                      have c68b0 : (t294 == 0) = true := beq_iff_eq.mpr c68
                                      have c68b1 : (t294 != 0) = false := bne_eq_false_iff_eq.mpr c68
                                      clear c68
                                      by_cases c69 : t291 ≤ (-2147483648)
                                      · rw [if_pos c69] at H
                                        have c69b0 : decide (t291 ≤ (-2147483648)) = true := decide_eq_true c69
                                        clear c69
                                        simp only [Option.some.injEq, Prod.mk.injEq] at H
                                        obtain ⟨rfl, rfl, rfl, rfl, rfl, rfl, rfl⟩ := H
                                        have hnb70 := NB287_262.out
                                        have hnc70 := NB262_287.out
                                        have hnb71 := NB287_272.out
                                        have hnc71 := NB272_287.out
                                        have hnb72 := NB287_0.out
                                        have hnc72 := NB0_287.out
                                        have hcz73_0 : wr.cell? ⟨gb287, 0, none⟩ = some (.int .i64 t283) := (zN BK287.out 0).trans rfl
                                        have hcz73_1 : wr.cell? ⟨gb287, 1, none⟩ = some (.bool t284) := (zN BK287.out 1).trans rfl
                                        have hfz73_0 := zO BK287.out 0
                                        have hfz73_1 := zO BK287.out 1
                                        go_wp2_with (first | ((with_reducible refine gate_callee (f := 35) rfl ?_); refine goesL_ (some 87) rfl rfl Try.func35 (by kernel_rfl) rfl #[.pointer (some ⟨g, 0, none⟩), .agg #[.int .i64 t283, .bool t284]] rfl (by (try simp only [List.map_toArray, List.map_cons, List.map_nil]); first | done | rfl | (simp only [List.length_drop, List.length_take]; rfl)) ?_; (with_reducible refine (section_number.calls k4 g s0_0 x1001_4 x1002_4 t283 t284 t291 t292 t293 w0 _ ?side1 ?side2 A66.out).mono ?_); (case side1 => repeat (first | (with_reducible first | exact HI0.out | apply zH.alloc | apply zH.drewN | apply zH.drew | apply zH.set_1 | apply zH.set_2 | refine zH.farT (t := 25) (b := gb262) ?_ (by decide) (by repeat (first | exact zA.of BK262.out | apply zA.set | apply zA.drewN | apply zA.drew | apply zA.alloc)) _ | refine zH.farT (t := 25) (b := gb272) ?_ (by decide) (by repeat (first | exact zA.of BK272.out | apply zA.set | apply zA.drewN | apply zA.drew | apply zA.alloc)) _ | refine zH.farT (t := 50) (b := gb287) ?_ (by decide) (by repeat (first | exact zA.of BK287.out | apply zA.set | apply zA.drewN | apply zA.drew | apply zA.alloc)) _) | exact HI0.out)); (case side2 => repeat (first | (with_reducible first | exact HB.out | apply zF | apply zC | apply zD | refine zE ?_ (zH.ge HI0.out) | refine zE ?_ GE262.out | refine zE ?_ GE272.out | refine zE ?_ GE287.out) | exact HB.out)); rintro e w74 ⟨rfl, hi, hb, hk⟩; refine ⟨_, rfl, ?_⟩; have n0_ := zG.mk (Kd.R_mono (Kd.R_keep (zH.apart (show zH w0 _ g s0_0 x1001_4 x1002_4 from by repeat (first | (with_reducible first | exact HI0.out | apply zH.alloc | apply zH.drewN | apply zH.drew | apply zH.set_1 | apply zH.set_2 | refine zH.farT (t := 25) (b := gb262) ?_ (by decide) (by repeat (first | exact zA.of BK262.out | apply zA.set | apply zA.drewN | apply zA.drew | apply zA.alloc)) _ | refine zH.farT (t := 25) (b := gb272) ?_ (by decide) (by repeat (first | exact zA.of BK272.out | apply zA.set | apply zA.drewN | apply zA.drew | apply zA.alloc)) _ | refine zH.farT (t := 50) (b := gb287) ?_ (by decide) (by repeat (first | exact zA.of BK287.out | apply zA.set | apply zA.drewN | apply zA.drew | apply zA.alloc)) _) | exact HI0.out)) (by (with_reducible repeat (first | apply Kd.R_alloc | apply Kd.R_drewN | apply Kd.R_drew)); exact HO_12.out) (by decide)) hk (fun _ h => h.2)) (fun _ h => h.1)); have n1_ := zG.mk (Kd.R_mono (Kd.R_keep (zH.apart (show zH w0 _ g s0_0 x1001_4 x1002_4 from by repeat (first | (with_reducible first | exact HI0.out | apply zH.alloc | apply zH.drewN | apply zH.drew | apply zH.set_1 | apply zH.set_2 | refine zH.farT (t := 25) (b := gb262) ?_ (by decide) (by repeat (first | exact zA.of BK262.out | apply zA.set | apply zA.drewN | apply zA.drew | apply zA.alloc)) _ | refine zH.farT (t := 25) (b := gb272) ?_ (by decide) (by repeat (first | exact zA.of BK272.out | apply zA.set | apply zA.drewN | apply zA.drew | apply zA.alloc)) _ | refine zH.farT (t := 50) (b := gb287) ?_ (by decide) (by repeat (first | exact zA.of BK287.out | apply zA.set | apply zA.drewN | apply zA.drew | apply zA.alloc)) _) | exact HI0.out)) (by (with_reducible repeat (first | apply Kd.R_alloc | apply Kd.R_drewN | apply Kd.R_drew)); exact HO_66.out) (by decide)) hk (fun _ h => h.2)) (fun _ h => h.1)); have n2_ := zG.mk (Kd.R_mono (Kd.R_keep (zH.apart (show zH w0 _ g s0_0 x1001_4 x1002_4 from by repeat (first | (with_reducible first | exact HI0.out | apply zH.alloc | apply zH.drewN | apply zH.drew | apply zH.set_1 | apply zH.set_2 | refine zH.farT (t := 25) (b := gb262) ?_ (by decide) (by repeat (first | exact zA.of BK262.out | apply zA.set | apply zA.drewN | apply zA.drew | apply zA.alloc)) _ | refine zH.farT (t := 25) (b := gb272) ?_ (by decide) (by repeat (first | exact zA.of BK272.out | apply zA.set | apply zA.drewN | apply zA.drew | apply zA.alloc)) _ | refine zH.farT (t := 50) (b := gb287) ?_ (by decide) (by repeat (first | exact zA.of BK287.out | apply zA.set | apply zA.drewN | apply zA.drew | apply zA.alloc)) _) | exact HI0.out)) (by (with_reducible repeat (first | apply Kd.R_alloc | apply Kd.R_drewN | apply Kd.R_drew)); exact HO_273002.out) (by decide)) hk (fun _ h => h.2)) (fun _ h => h.1)); have n3_ := zG.mk (zJ.blk hk (g' := gb262) (o := .cells #[.bool x263000_4, .int .i64 x263001_4, .slice none 0 0] 25 (0, 0)) (by (with_reducible repeat (first | refine zL ?_ _ | refine zM ?_ | refine zK ?_ _)); exact BK262.out) NB262_0.out (by simp)); have n4_ := zG.mk (zJ.blk hk (g' := gb272) (o := .cells #[.bool (t263 == 1), .int .i64 (wrap64 (t269)), .slice Ao63 y288.length co63] 25 (0, 0)) (by (with_reducible repeat (first | refine zL ?_ _ | refine zM ?_ | refine zK ?_ _)); exact BK272.out) NB272_0.out (by simp)); have n5_ := zG.mk (zJ.blk hk (g' := gb287) (o := .cells #[.int .i64 t283, .bool t284] 50 (0, 0)) (by (with_reducible repeat (first | refine zL ?_ _ | refine zM ?_ | refine zK ?_ _)); exact BK287.out) NB287_0.out (by simp)); have n6_ := zG.mk (zJ.trans (by repeat (first | (with_reducible first | exact HK.out | apply zJ.set_ | apply keep_drewN | apply keep_drew | apply keep_alloc | refine keep_far ?_ GW262.out _ | refine keep_far ?_ GW272.out _ | refine keep_far ?_ GW287.out _) | exact HK.out)) hk (.inl rfl)); have n7_ := zG.mk (hb); have n8_ := zG.mk (hi); clear HO_12; clear HO_66; clear HO_273002; clear BK262; clear BK272; clear BK287; clear HK; clear HB; clear HI0; have HO_12 := n0_; have HO_66 := n1_; have HO_273002 := n2_; have BK262 := n3_; have BK272 := n4_; have BK287 := n5_; have HK := n6_; have HB := n7_; have HI0 := n8_; clear n0_ n1_ n2_ n3_ n4_ n5_ n6_ n7_ n8_; (try clear hb); (try clear hb2); (try clear hk); (try clear hi)) | ((with_reducible refine gate_callee (f := 33) rfl ?_); refine goesL_ (some 89) rfl rfl Try.func33 (by kernel_rfl) rfl #[.pointer (some ⟨g, 0, none⟩)] rfl (by (try simp only [List.map_toArray, List.map_cons, List.map_nil]); first | done | rfl | (simp only [List.length_drop, List.length_take]; rfl)) ?_; (with_reducible refine (bits_Reader_Fail.calls g s0_0 t292 t293 t294 t295 t296 w0 _ ?side1 ?side2 A67.out).mono ?_); (case side1 => repeat (first | (with_reducible first | exact HI0.out | apply zH.alloc | apply zH.drewN | apply zH.drew | apply zH.set_1 | apply zH.set_2 | refine zH.farT (t := 25) (b := gb262) ?_ (by decide) (by repeat (first | exact zA.of BK262.out | apply zA.set | apply zA.drewN | apply zA.drew | apply zA.alloc)) _ | refine zH.farT (t := 25) (b := gb272) ?_ (by decide) (by repeat (first | exact zA.of BK272.out | apply zA.set | apply zA.drewN | apply zA.drew | apply zA.alloc)) _ | refine zH.farT (t := 50) (b := gb287) ?_ (by decide) (by repeat (first | exact zA.of BK287.out | apply zA.set | apply zA.drewN | apply zA.drew | apply zA.alloc)) _) | exact HI0.out)); (case side2 => repeat (first | (with_reducible first | exact HB.out | apply zF | apply zC | apply zD | refine zE ?_ (zH.ge HI0.out) | refine zE ?_ GE262.out | refine zE ?_ GE272.out | refine zE ?_ GE287.out) | exact HB.out)); rintro e w75 ⟨rfl, hi, hb, hk⟩; refine ⟨_, rfl, ?_⟩; have n0_ := zG.mk (Kd.R_mono (Kd.R_keep (zH.apart (show zH w0 _ g s0_0 t292 t293 from by repeat (first | (with_reducible first | exact HI0.out | apply zH.alloc | apply zH.drewN | apply zH.drew | apply zH.set_1 | apply zH.set_2 | refine zH.farT (t := 25) (b := gb262) ?_ (by decide) (by repeat (first | exact zA.of BK262.out | apply zA.set | apply zA.drewN | apply zA.drew | apply zA.alloc)) _ | refine zH.farT (t := 25) (b := gb272) ?_ (by decide) (by repeat (first | exact zA.of BK272.out | apply zA.set | apply zA.drewN | apply zA.drew | apply zA.alloc)) _ | refine zH.farT (t := 50) (b := gb287) ?_ (by decide) (by repeat (first | exact zA.of BK287.out | apply zA.set | apply zA.drewN | apply zA.drew | apply zA.alloc)) _) | exact HI0.out)) (by (with_reducible repeat (first | apply Kd.R_alloc | apply Kd.R_drewN | apply Kd.R_drew)); exact HO_12.out) (by decide)) hk (fun _ h => h.2)) (fun _ h => h.1)); have n1_ := zG.mk (Kd.R_mono (Kd.R_keep (zH.apart (show zH w0 _ g s0_0 t292 t293 from by repeat (first | (with_reducible first | exact HI0.out | apply zH.alloc | apply zH.drewN | apply zH.drew | apply zH.set_1 | apply zH.set_2 | refine zH.farT (t := 25) (b := gb262) ?_ (by decide) (by repeat (first | exact zA.of BK262.out | apply zA.set | apply zA.drewN | apply zA.drew | apply zA.alloc)) _ | refine zH.farT (t := 25) (b := gb272) ?_ (by decide) (by repeat (first | exact zA.of BK272.out | apply zA.set | apply zA.drewN | apply zA.drew | apply zA.alloc)) _ | refine zH.farT (t := 50) (b := gb287) ?_ (by decide) (by repeat (first | exact zA.of BK287.out | apply zA.set | apply zA.drewN | apply zA.drew | apply zA.alloc)) _) | exact HI0.out)) (by (with_reducible repeat (first | apply Kd.R_alloc | apply Kd.R_drewN | apply Kd.R_drew)); exact HO_66.out) (by decide)) hk (fun _ h => h.2)) (fun _ h => h.1)); have n2_ := zG.mk (Kd.R_mono (Kd.R_keep (zH.apart (show zH w0 _ g s0_0 t292 t293 from by repeat (first | (with_reducible first | exact HI0.out | apply zH.alloc | apply zH.drewN | apply zH.drew | apply zH.set_1 | apply zH.set_2 | refine zH.farT (t := 25) (b := gb262) ?_ (by decide) (by repeat (first | exact zA.of BK262.out | apply zA.set | apply zA.drewN | apply zA.drew | apply zA.alloc)) _ | refine zH.farT (t := 25) (b := gb272) ?_ (by decide) (by repeat (first | exact zA.of BK272.out | apply zA.set | apply zA.drewN | apply zA.drew | apply zA.alloc)) _ | refine zH.farT (t := 50) (b := gb287) ?_ (by decide) (by repeat (first | exact zA.of BK287.out | apply zA.set | apply zA.drewN | apply zA.drew | apply zA.alloc)) _) | exact HI0.out)) (by (with_reducible repeat (first | apply Kd.R_alloc | apply Kd.R_drewN | apply Kd.R_drew)); exact HO_273002.out) (by decide)) hk (fun _ h => h.2)) (fun _ h => h.1)); have n3_ := zG.mk (zJ.blk hk (g' := gb262) (o := .cells #[.bool x263000_4, .int .i64 x263001_4, .slice none 0 0] 25 (0, 0)) (by (with_reducible repeat (first | refine zL ?_ _ | refine zM ?_ | refine zK ?_ _)); exact BK262.out) NB262_0.out (by simp)); have n4_ := zG.mk (zJ.blk hk (g' := gb272) (o := .cells #[.bool (t263 == 1), .int .i64 (wrap64 (t269)), .slice Ao63 y288.length co63] 25 (0, 0)) (by (with_reducible repeat (first | refine zL ?_ _ | refine zM ?_ | refine zK ?_ _)); exact BK272.out) NB272_0.out (by simp)); have n5_ := zG.mk (zJ.blk hk (g' := gb287) (o := .cells #[.int .i64 t283, .bool t284] 50 (0, 0)) (by (with_reducible repeat (first | refine zL ?_ _ | refine zM ?_ | refine zK ?_ _)); exact BK287.out) NB287_0.out (by simp)); have n6_ := zG.mk (zJ.trans (by repeat (first | (with_reducible first | exact HK.out | apply zJ.set_ | apply keep_drewN | apply keep_drew | apply keep_alloc | refine keep_far ?_ GW262.out _ | refine keep_far ?_ GW272.out _ | refine keep_far ?_ GW287.out _) | exact HK.out)) hk (.inl rfl)); have n7_ := zG.mk (hb); have n8_ := zG.mk (hi); clear HO_12; clear HO_66; clear HO_273002; clear BK262; clear BK272; clear BK287; clear HK; clear HB; clear HI0; have HO_12 := n0_; have HO_66 := n1_; have HO_273002 := n2_; have BK262 := n3_; have BK272 := n4_; have BK287 := n5_; have HK := n6_; have HB := n7_; have HI0 := n8_; clear n0_ n1_ n2_ n3_ n4_ n5_ n6_ n7_ n8_; (try clear hb); (try clear hb2); (try clear hk); (try clear hi); have hnb76 := NB262_272.out; have hnc76 := NB272_262.out; have hnb77 := NB262_0.out; have hnc77 := NB0_262.out; have hcz78_0 : w75.cell? ⟨gb262, 0, none⟩ = some (.bool x263000_4) := (zN BK262.out 0).trans rfl; have hcz78_1 : w75.cell? ⟨gb262, 1, none⟩ = some (.int .i64 x263001_4) := (zN BK262.out 1).trans rfl; have hcz78_2 : w75.cell? ⟨gb262, 2, none⟩ = some (.slice none 0 0) := (zN BK262.out 2).trans rfl; have hfz78_0 := zO BK262.out 0; have hfz78_1 := zO BK262.out 1; have hfz78_2 := zO BK262.out 2))
                                        refine bodyPost_ret (results_list (rs := [.tmp 6, .cell 7 25, .tmp 8]) rfl (by simp) (.tmp (.cell gb262 25 #[.bool false, .int .i64 0, .slice none 0 0] (0, 0) _ rfl (by (with_reducible repeat (first | refine zL ?_ _ | refine zM ?_ | refine zK ?_ _)); refine blk_put (cs := #[.bool false, .int .i64 0, .slice none 0 0]) ?_ 2 _ rfl; (with_reducible repeat (first | refine zL ?_ _ | refine zM ?_ | refine zK ?_ _)); refine blk_put (cs := #[.bool false, .int .i64 x263001_4, .slice none 0 0]) ?_ 1 _ rfl; (with_reducible repeat (first | refine zL ?_ _ | refine zM ?_ | refine zK ?_ _)); refine blk_put (cs := #[.bool x263000_4, .int .i64 x263001_4, .slice none 0 0]) ?_ 0 _ rfl; (with_reducible repeat (first | refine zL ?_ _ | refine zM ?_ | refine zK ?_ _)); exact BK262.out) Try.underlying25 rfl (by kernel_rfl) (.tmp .nil)))) rfl ?_
                                        exact ⟨_, _, by first | rfl | (simp [errW_none, errW_some] <;> rfl) | (simp [*, errW_none, errW_some] <;> rfl), by first | exact Kd.R_nil _ _ _ _ _ | exact Kd.N_nil _ _ _ _ _ | exact Kd.V_nil _ _ _ _ _ | exact Kd.Q_nil _ _ _ _ _ | exact Kd.S_nil _ _ _ _ _, by first | exact Kd.R_nil _ _ _ _ _ | exact Kd.N_nil _ _ _ _ _ | exact Kd.V_nil _ _ _ _ _ | exact Kd.Q_nil _ _ _ _ _ | exact Kd.S_nil _ _ _ _ _, by repeat (first | (with_reducible first | exact HI0.out | apply zH.alloc | apply zH.drewN | apply zH.drew | apply zH.set_1 | apply zH.set_2 | refine zH.farT (t := 25) (b := gb262) ?_ (by decide) (by repeat (first | exact zA.of BK262.out | apply zA.set | apply zA.drewN | apply zA.drew | apply zA.alloc)) _ | refine zH.farT (t := 25) (b := gb272) ?_ (by decide) (by repeat (first | exact zA.of BK272.out | apply zA.set | apply zA.drewN | apply zA.drew | apply zA.alloc)) _ | refine zH.farT (t := 50) (b := gb287) ?_ (by decide) (by repeat (first | exact zA.of BK287.out | apply zA.set | apply zA.drewN | apply zA.drew | apply zA.alloc)) _) | exact HI0.out), by repeat (first | (with_reducible first | exact HB.out | apply zF | apply zC | apply zD | refine zE ?_ (zH.ge HI0.out) | refine zE ?_ GE262.out | refine zE ?_ GE272.out | refine zE ?_ GE287.out) | exact HB.out), by repeat (first | (with_reducible first | exact HK.out | apply zJ.set_ | apply keep_drewN | apply keep_drew | apply keep_alloc | refine keep_far ?_ GW262.out _ | refine keep_far ?_ GW272.out _ | refine keep_far ?_ GW287.out _) | exact HK.out)⟩
                                      · rw [if_neg c69] at H
                                        have c69b0 : decide (t291 ≤ (-2147483648)) = false := decide_eq_false c69
                                        clear c69
                                        by_cases c79 : t291 ≥ 2147483648
                                        · rw [if_pos c79] at H
                                          have c79b0 : decide (2147483648 ≤ t291) = true := decide_eq_true c79
                                          clear c79
                                          simp only [Option.some.injEq, Prod.mk.injEq] at H
                                          obtain ⟨rfl, rfl, rfl, rfl, rfl, rfl, rfl⟩ := H
                                          have hnb80 := NB287_262.out
                                          have hnc80 := NB262_287.out
                                          have hnb81 := NB287_272.out
                                          have hnc81 := NB272_287.out
                                          have hnb82 := NB287_0.out
                                          have hnc82 := NB0_287.out
                                          have hcz83_0 : wr.cell? ⟨gb287, 0, none⟩ = some (.int .i64 t283) := (zN BK287.out 0).trans rfl
                                          have hcz83_1 : wr.cell? ⟨gb287, 1, none⟩ = some (.bool t284) := (zN BK287.out 1).trans rfl
                                          have hfz83_0 := zO BK287.out 0
                                          have hfz83_1 := zO BK287.out 1
                                          go_wp2_with (first | ((with_reducible refine gate_callee (f := 35) rfl ?_); refine goesL_ (some 87) rfl rfl Try.func35 (by kernel_rfl) rfl #[.pointer (some ⟨g, 0, none⟩), .agg #[.int .i64 t283, .bool t284]] rfl (by (try simp only [List.map_toArray, List.map_cons, List.map_nil]); first | done | rfl | (simp only [List.length_drop, List.length_take]; rfl)) ?_; (with_reducible refine (section_number.calls k4 g s0_0 x1001_4 x1002_4 t283 t284 t291 t292 t293 w0 _ ?side1 ?side2 A66.out).mono ?_); (case side1 => repeat (first | (with_reducible first | exact HI0.out | apply zH.alloc | apply zH.drewN | apply zH.drew | apply zH.set_1 | apply zH.set_2 | refine zH.farT (t := 25) (b := gb262) ?_ (by decide) (by repeat (first | exact zA.of BK262.out | apply zA.set | apply zA.drewN | apply zA.drew | apply zA.alloc)) _ | refine zH.farT (t := 25) (b := gb272) ?_ (by decide) (by repeat (first | exact zA.of BK272.out | apply zA.set | apply zA.drewN | apply zA.drew | apply zA.alloc)) _ | refine zH.farT (t := 50) (b := gb287) ?_ (by decide) (by repeat (first | exact zA.of BK287.out | apply zA.set | apply zA.drewN | apply zA.drew | apply zA.alloc)) _) | exact HI0.out)); (case side2 => repeat (first | (with_reducible first | exact HB.out | apply zF | apply zC | apply zD | refine zE ?_ (zH.ge HI0.out) | refine zE ?_ GE262.out | refine zE ?_ GE272.out | refine zE ?_ GE287.out) | exact HB.out)); rintro e w84 ⟨rfl, hi, hb, hk⟩; refine ⟨_, rfl, ?_⟩; have n0_ := zG.mk (Kd.R_mono (Kd.R_keep (zH.apart (show zH w0 _ g s0_0 x1001_4 x1002_4 from by repeat (first | (with_reducible first | exact HI0.out | apply zH.alloc | apply zH.drewN | apply zH.drew | apply zH.set_1 | apply zH.set_2 | refine zH.farT (t := 25) (b := gb262) ?_ (by decide) (by repeat (first | exact zA.of BK262.out | apply zA.set | apply zA.drewN | apply zA.drew | apply zA.alloc)) _ | refine zH.farT (t := 25) (b := gb272) ?_ (by decide) (by repeat (first | exact zA.of BK272.out | apply zA.set | apply zA.drewN | apply zA.drew | apply zA.alloc)) _ | refine zH.farT (t := 50) (b := gb287) ?_ (by decide) (by repeat (first | exact zA.of BK287.out | apply zA.set | apply zA.drewN | apply zA.drew | apply zA.alloc)) _) | exact HI0.out)) (by (with_reducible repeat (first | apply Kd.R_alloc | apply Kd.R_drewN | apply Kd.R_drew)); exact HO_12.out) (by decide)) hk (fun _ h => h.2)) (fun _ h => h.1)); have n1_ := zG.mk (Kd.R_mono (Kd.R_keep (zH.apart (show zH w0 _ g s0_0 x1001_4 x1002_4 from by repeat (first | (with_reducible first | exact HI0.out | apply zH.alloc | apply zH.drewN | apply zH.drew | apply zH.set_1 | apply zH.set_2 | refine zH.farT (t := 25) (b := gb262) ?_ (by decide) (by repeat (first | exact zA.of BK262.out | apply zA.set | apply zA.drewN | apply zA.drew | apply zA.alloc)) _ | refine zH.farT (t := 25) (b := gb272) ?_ (by decide) (by repeat (first | exact zA.of BK272.out | apply zA.set | apply zA.drewN | apply zA.drew | apply zA.alloc)) _ | refine zH.farT (t := 50) (b := gb287) ?_ (by decide) (by repeat (first | exact zA.of BK287.out | apply zA.set | apply zA.drewN | apply zA.drew | apply zA.alloc)) _) | exact HI0.out)) (by (with_reducible repeat (first | apply Kd.R_alloc | apply Kd.R_drewN | apply Kd.R_drew)); exact HO_66.out) (by decide)) hk (fun _ h => h.2)) (fun _ h => h.1)); have n2_ := zG.mk (Kd.R_mono (Kd.R_keep (zH.apart (show zH w0 _ g s0_0 x1001_4 x1002_4 from by repeat (first | (with_reducible first | exact HI0.out | apply zH.alloc | apply zH.drewN | apply zH.drew | apply zH.set_1 | apply zH.set_2 | refine zH.farT (t := 25) (b := gb262) ?_ (by decide) (by repeat (first | exact zA.of BK262.out | apply zA.set | apply zA.drewN | apply zA.drew | apply zA.alloc)) _ | refine zH.farT (t := 25) (b := gb272) ?_ (by decide) (by repeat (first | exact zA.of BK272.out | apply zA.set | apply zA.drewN | apply zA.drew | apply zA.alloc)) _ | refine zH.farT (t := 50) (b := gb287) ?_ (by decide) (by repeat (first | exact zA.of BK287.out | apply zA.set | apply zA.drewN | apply zA.drew | apply zA.alloc)) _) | exact HI0.out)) (by (with_reducible repeat (first | apply Kd.R_alloc | apply Kd.R_drewN | apply Kd.R_drew)); exact HO_273002.out) (by decide)) hk (fun _ h => h.2)) (fun _ h => h.1)); have n3_ := zG.mk (zJ.blk hk (g' := gb262) (o := .cells #[.bool x263000_4, .int .i64 x263001_4, .slice none 0 0] 25 (0, 0)) (by (with_reducible repeat (first | refine zL ?_ _ | refine zM ?_ | refine zK ?_ _)); exact BK262.out) NB262_0.out (by simp)); have n4_ := zG.mk (zJ.blk hk (g' := gb272) (o := .cells #[.bool (t263 == 1), .int .i64 (wrap64 (t269)), .slice Ao63 y288.length co63] 25 (0, 0)) (by (with_reducible repeat (first | refine zL ?_ _ | refine zM ?_ | refine zK ?_ _)); exact BK272.out) NB272_0.out (by simp)); have n5_ := zG.mk (zJ.blk hk (g' := gb287) (o := .cells #[.int .i64 t283, .bool t284] 50 (0, 0)) (by (with_reducible repeat (first | refine zL ?_ _ | refine zM ?_ | refine zK ?_ _)); exact BK287.out) NB287_0.out (by simp)); have n6_ := zG.mk (zJ.trans (by repeat (first | (with_reducible first | exact HK.out | apply zJ.set_ | apply keep_drewN | apply keep_drew | apply keep_alloc | refine keep_far ?_ GW262.out _ | refine keep_far ?_ GW272.out _ | refine keep_far ?_ GW287.out _) | exact HK.out)) hk (.inl rfl)); have n7_ := zG.mk (hb); have n8_ := zG.mk (hi); clear HO_12; clear HO_66; clear HO_273002; clear BK262; clear BK272; clear BK287; clear HK; clear HB; clear HI0; have HO_12 := n0_; have HO_66 := n1_; have HO_273002 := n2_; have BK262 := n3_; have BK272 := n4_; have BK287 := n5_; have HK := n6_; have HB := n7_; have HI0 := n8_; clear n0_ n1_ n2_ n3_ n4_ n5_ n6_ n7_ n8_; (try clear hb); (try clear hb2); (try clear hk); (try clear hi)) | ((with_reducible refine gate_callee (f := 33) rfl ?_); refine goesL_ (some 89) rfl rfl Try.func33 (by kernel_rfl) rfl #[.pointer (some ⟨g, 0, none⟩)] rfl (by (try simp only [List.map_toArray, List.map_cons, List.map_nil]); first | done | rfl | (simp only [List.length_drop, List.length_take]; rfl)) ?_; (with_reducible refine (bits_Reader_Fail.calls g s0_0 t292 t293 t294 t295 t296 w0 _ ?side1 ?side2 A67.out).mono ?_); (case side1 => repeat (first | (with_reducible first | exact HI0.out | apply zH.alloc | apply zH.drewN | apply zH.drew | apply zH.set_1 | apply zH.set_2 | refine zH.farT (t := 25) (b := gb262) ?_ (by decide) (by repeat (first | exact zA.of BK262.out | apply zA.set | apply zA.drewN | apply zA.drew | apply zA.alloc)) _ | refine zH.farT (t := 25) (b := gb272) ?_ (by decide) (by repeat (first | exact zA.of BK272.out | apply zA.set | apply zA.drewN | apply zA.drew | apply zA.alloc)) _ | refine zH.farT (t := 50) (b := gb287) ?_ (by decide) (by repeat (first | exact zA.of BK287.out | apply zA.set | apply zA.drewN | apply zA.drew | apply zA.alloc)) _) | exact HI0.out)); (case side2 => repeat (first | (with_reducible first | exact HB.out | apply zF | apply zC | apply zD | refine zE ?_ (zH.ge HI0.out) | refine zE ?_ GE262.out | refine zE ?_ GE272.out | refine zE ?_ GE287.out) | exact HB.out)); rintro e w85 ⟨rfl, hi, hb, hk⟩; refine ⟨_, rfl, ?_⟩; have n0_ := zG.mk (Kd.R_mono (Kd.R_keep (zH.apart (show zH w0 _ g s0_0 t292 t293 from by repeat (first | (with_reducible first | exact HI0.out | apply zH.alloc | apply zH.drewN | apply zH.drew | apply zH.set_1 | apply zH.set_2 | refine zH.farT (t := 25) (b := gb262) ?_ (by decide) (by repeat (first | exact zA.of BK262.out | apply zA.set | apply zA.drewN | apply zA.drew | apply zA.alloc)) _ | refine zH.farT (t := 25) (b := gb272) ?_ (by decide) (by repeat (first | exact zA.of BK272.out | apply zA.set | apply zA.drewN | apply zA.drew | apply zA.alloc)) _ | refine zH.farT (t := 50) (b := gb287) ?_ (by decide) (by repeat (first | exact zA.of BK287.out | apply zA.set | apply zA.drewN | apply zA.drew | apply zA.alloc)) _) | exact HI0.out)) (by (with_reducible repeat (first | apply Kd.R_alloc | apply Kd.R_drewN | apply Kd.R_drew)); exact HO_12.out) (by decide)) hk (fun _ h => h.2)) (fun _ h => h.1)); have n1_ := zG.mk (Kd.R_mono (Kd.R_keep (zH.apart (show zH w0 _ g s0_0 t292 t293 from by repeat (first | (with_reducible first | exact HI0.out | apply zH.alloc | apply zH.drewN | apply zH.drew | apply zH.set_1 | apply zH.set_2 | refine zH.farT (t := 25) (b := gb262) ?_ (by decide) (by repeat (first | exact zA.of BK262.out | apply zA.set | apply zA.drewN | apply zA.drew | apply zA.alloc)) _ | refine zH.farT (t := 25) (b := gb272) ?_ (by decide) (by repeat (first | exact zA.of BK272.out | apply zA.set | apply zA.drewN | apply zA.drew | apply zA.alloc)) _ | refine zH.farT (t := 50) (b := gb287) ?_ (by decide) (by repeat (first | exact zA.of BK287.out | apply zA.set | apply zA.drewN | apply zA.drew | apply zA.alloc)) _) | exact HI0.out)) (by (with_reducible repeat (first | apply Kd.R_alloc | apply Kd.R_drewN | apply Kd.R_drew)); exact HO_66.out) (by decide)) hk (fun _ h => h.2)) (fun _ h => h.1)); have n2_ := zG.mk (Kd.R_mono (Kd.R_keep (zH.apart (show zH w0 _ g s0_0 t292 t293 from by repeat (first | (with_reducible first | exact HI0.out | apply zH.alloc | apply zH.drewN | apply zH.drew | apply zH.set_1 | apply zH.set_2 | refine zH.farT (t := 25) (b := gb262) ?_ (by decide) (by repeat (first | exact zA.of BK262.out | apply zA.set | apply zA.drewN | apply zA.drew | apply zA.alloc)) _ | refine zH.farT (t := 25) (b := gb272) ?_ (by decide) (by repeat (first | exact zA.of BK272.out | apply zA.set | apply zA.drewN | apply zA.drew | apply zA.alloc)) _ | refine zH.farT (t := 50) (b := gb287) ?_ (by decide) (by repeat (first | exact zA.of BK287.out | apply zA.set | apply zA.drewN | apply zA.drew | apply zA.alloc)) _) | exact HI0.out)) (by (with_reducible repeat (first | apply Kd.R_alloc | apply Kd.R_drewN | apply Kd.R_drew)); exact HO_273002.out) (by decide)) hk (fun _ h => h.2)) (fun _ h => h.1)); have n3_ := zG.mk (zJ.blk hk (g' := gb262) (o := .cells #[.bool x263000_4, .int .i64 x263001_4, .slice none 0 0] 25 (0, 0)) (by (with_reducible repeat (first | refine zL ?_ _ | refine zM ?_ | refine zK ?_ _)); exact BK262.out) NB262_0.out (by simp)); have n4_ := zG.mk (zJ.blk hk (g' := gb272) (o := .cells #[.bool (t263 == 1), .int .i64 (wrap64 (t269)), .slice Ao63 y288.length co63] 25 (0, 0)) (by (with_reducible repeat (first | refine zL ?_ _ | refine zM ?_ | refine zK ?_ _)); exact BK272.out) NB272_0.out (by simp)); have n5_ := zG.mk (zJ.blk hk (g' := gb287) (o := .cells #[.int .i64 t283, .bool t284] 50 (0, 0)) (by (with_reducible repeat (first | refine zL ?_ _ | refine zM ?_ | refine zK ?_ _)); exact BK287.out) NB287_0.out (by simp)); have n6_ := zG.mk (zJ.trans (by repeat (first | (with_reducible first | exact HK.out | apply zJ.set_ | apply keep_drewN | apply keep_drew | apply keep_alloc | refine keep_far ?_ GW262.out _ | refine keep_far ?_ GW272.out _ | refine keep_far ?_ GW287.out _) | exact HK.out)) hk (.inl rfl)); have n7_ := zG.mk (hb); have n8_ := zG.mk (hi); clear HO_12; clear HO_66; clear HO_273002; clear BK262; clear BK272; clear BK287; clear HK; clear HB; clear HI0; have HO_12 := n0_; have HO_66 := n1_; have HO_273002 := n2_; have BK262 := n3_; have BK272 := n4_; have BK287 := n5_; have HK := n6_; have HB := n7_; have HI0 := n8_; clear n0_ n1_ n2_ n3_ n4_ n5_ n6_ n7_ n8_; (try clear hb); (try clear hb2); (try clear hk); (try clear hi); have hnb86 := NB262_272.out; have hnc86 := NB272_262.out; have hnb87 := NB262_0.out; have hnc87 := NB0_262.out; have hcz88_0 : w85.cell? ⟨gb262, 0, none⟩ = some (.bool x263000_4) := (zN BK262.out 0).trans rfl; have hcz88_1 : w85.cell? ⟨gb262, 1, none⟩ = some (.int .i64 x263001_4) := (zN BK262.out 1).trans rfl; have hcz88_2 : w85.cell? ⟨gb262, 2, none⟩ = some (.slice none 0 0) := (zN BK262.out 2).trans rfl; have hfz88_0 := zO BK262.out 0; have hfz88_1 := zO BK262.out 1; have hfz88_2 := zO BK262.out 2))
                                          refine bodyPost_ret (results_list (rs := [.tmp 6, .cell 7 25, .tmp 8]) rfl (by simp) (.tmp (.cell gb262 25 #[.bool false, .int .i64 0, .slice none 0 0] (0, 0) _ rfl (by (with_reducible repeat (first | refine zL ?_ _ | refine zM ?_ | refine zK ?_ _)); refine blk_put (cs := #[.bool false, .int .i64 0, .slice none 0 0]) ?_ 2 _ rfl; (with_reducible repeat (first | refine zL ?_ _ | refine zM ?_ | refine zK ?_ _)); refine blk_put (cs := #[.bool false, .int .i64 x263001_4, .slice none 0 0]) ?_ 1 _ rfl; (with_reducible repeat (first | refine zL ?_ _ | refine zM ?_ | refine zK ?_ _)); refine blk_put (cs := #[.bool x263000_4, .int .i64 x263001_4, .slice none 0 0]) ?_ 0 _ rfl; (with_reducible repeat (first | refine zL ?_ _ | refine zM ?_ | refine zK ?_ _)); exact BK262.out) Try.underlying25 rfl (by kernel_rfl) (.tmp .nil)))) rfl ?_
                                          exact ⟨_, _, by first | rfl | (simp [errW_none, errW_some] <;> rfl) | (simp [*, errW_none, errW_some] <;> rfl), by first | exact Kd.R_nil _ _ _ _ _ | exact Kd.N_nil _ _ _ _ _ | exact Kd.V_nil _ _ _ _ _ | exact Kd.Q_nil _ _ _ _ _ | exact Kd.S_nil _ _ _ _ _, by first | exact Kd.R_nil _ _ _ _ _ | exact Kd.N_nil _ _ _ _ _ | exact Kd.V_nil _ _ _ _ _ | exact Kd.Q_nil _ _ _ _ _ | exact Kd.S_nil _ _ _ _ _, by repeat (first | (with_reducible first | exact HI0.out | apply zH.alloc | apply zH.drewN | apply zH.drew | apply zH.set_1 | apply zH.set_2 | refine zH.farT (t := 25) (b := gb262) ?_ (by decide) (by repeat (first | exact zA.of BK262.out | apply zA.set | apply zA.drewN | apply zA.drew | apply zA.alloc)) _ | refine zH.farT (t := 25) (b := gb272) ?_ (by decide) (by repeat (first | exact zA.of BK272.out | apply zA.set | apply zA.drewN | apply zA.drew | apply zA.alloc)) _ | refine zH.farT (t := 50) (b := gb287) ?_ (by decide) (by repeat (first | exact zA.of BK287.out | apply zA.set | apply zA.drewN | apply zA.drew | apply zA.alloc)) _) | exact HI0.out), by repeat (first | (with_reducible first | exact HB.out | apply zF | apply zC | apply zD | refine zE ?_ (zH.ge HI0.out) | refine zE ?_ GE262.out | refine zE ?_ GE272.out | refine zE ?_ GE287.out) | exact HB.out), by repeat (first | (with_reducible first | exact HK.out | apply zJ.set_ | apply keep_drewN | apply keep_drew | apply keep_alloc | refine keep_far ?_ GW262.out _ | refine keep_far ?_ GW272.out _ | refine keep_far ?_ GW287.out _) | exact HK.out)⟩
                                        · rw [if_neg c79] at H
                                          have c79b0 : decide (2147483648 ≤ t291) = false := decide_eq_false c79
                                          clear c79
                                          by_cases c89 : x12_4.length < 17592186044416
                                          · rw [if_pos c89] at H
                                            have LMc89 := zG.mk c89
                                            clear c89
                                            obtain ⟨y297, hy297⟩ : ∃ y_ : List Int, y_ = (x12_4 ++ [t291]) := ⟨_, rfl⟩
                                            replace H : (section_Take.l1 k4 y297 t279 (t279.length : Int) x68_3 (rd t279 x68_3) (wrap64 (x83_4 + 1)) s0_0 t295 t296 (t263 == 1) (wrap64 (t269)) y288 t283 t284) = some (r1, r2, r3, r4, r5, r6, r7) := by first | (rw [hy297]; with_reducible exact H) | (have H2_ := (Option.bind_some _ _).symm.trans H; rw [hy297]; with_reducible exact H2_) | (have H2_ := (Option.bind_some _ _).symm.trans H; with_reducible exact H2_) | with_reducible exact H | (rw [hy297]; exact H) | exact H
                                            have Ny297 := zG.mk hy297
                                            clear hy297
                                            have H' := zG.mk H
                                            clear H
                                            have hnb90 := NB287_262.out
                                            have hnc90 := NB262_287.out
                                            have hnb91 := NB287_272.out
                                            have hnc91 := NB272_287.out
                                            have hnb92 := NB287_0.out
                                            have hnc92 := NB0_287.out
                                            have hcz93_0 : wr.cell? ⟨gb287, 0, none⟩ = some (.int .i64 t283) := (zN BK287.out 0).trans rfl
                                            have hcz93_1 : wr.cell? ⟨gb287, 1, none⟩ = some (.bool t284) := (zN BK287.out 1).trans rfl
                                            have hfz93_0 := zO BK287.out 0
                                            have hfz93_1 := zO BK287.out 1
                                            go_wp2_with (first | ((with_reducible refine gate_callee (f := 35) rfl ?_); refine goesL_ (some 87) rfl rfl Try.func35 (by kernel_rfl) rfl #[.pointer (some ⟨g, 0, none⟩), .agg #[.int .i64 t283, .bool t284]] rfl (by (try simp only [List.map_toArray, List.map_cons, List.map_nil]); first | done | rfl | (simp only [List.length_drop, List.length_take]; rfl)) ?_; (with_reducible refine (section_number.calls k4 g s0_0 x1001_4 x1002_4 t283 t284 t291 t292 t293 w0 _ ?side1 ?side2 A66.out).mono ?_); (case side1 => repeat (first | (with_reducible first | exact HI0.out | apply zH.alloc | apply zH.drewN | apply zH.drew | apply zH.set_1 | apply zH.set_2 | refine zH.farT (t := 25) (b := gb262) ?_ (by decide) (by repeat (first | exact zA.of BK262.out | apply zA.set | apply zA.drewN | apply zA.drew | apply zA.alloc)) _ | refine zH.farT (t := 25) (b := gb272) ?_ (by decide) (by repeat (first | exact zA.of BK272.out | apply zA.set | apply zA.drewN | apply zA.drew | apply zA.alloc)) _ | refine zH.farT (t := 50) (b := gb287) ?_ (by decide) (by repeat (first | exact zA.of BK287.out | apply zA.set | apply zA.drewN | apply zA.drew | apply zA.alloc)) _) | exact HI0.out)); (case side2 => repeat (first | (with_reducible first | exact HB.out | apply zF | apply zC | apply zD | refine zE ?_ (zH.ge HI0.out) | refine zE ?_ GE262.out | refine zE ?_ GE272.out | refine zE ?_ GE287.out) | exact HB.out)); rintro e w94 ⟨rfl, hi, hb, hk⟩; refine ⟨_, rfl, ?_⟩; have n0_ := zG.mk (Kd.R_mono (Kd.R_keep (zH.apart (show zH w0 _ g s0_0 x1001_4 x1002_4 from by repeat (first | (with_reducible first | exact HI0.out | apply zH.alloc | apply zH.drewN | apply zH.drew | apply zH.set_1 | apply zH.set_2 | refine zH.farT (t := 25) (b := gb262) ?_ (by decide) (by repeat (first | exact zA.of BK262.out | apply zA.set | apply zA.drewN | apply zA.drew | apply zA.alloc)) _ | refine zH.farT (t := 25) (b := gb272) ?_ (by decide) (by repeat (first | exact zA.of BK272.out | apply zA.set | apply zA.drewN | apply zA.drew | apply zA.alloc)) _ | refine zH.farT (t := 50) (b := gb287) ?_ (by decide) (by repeat (first | exact zA.of BK287.out | apply zA.set | apply zA.drewN | apply zA.drew | apply zA.alloc)) _) | exact HI0.out)) (by (with_reducible repeat (first | apply Kd.R_alloc | apply Kd.R_drewN | apply Kd.R_drew)); exact HO_12.out) (by decide)) hk (fun _ h => h.2)) (fun _ h => h.1)); have n1_ := zG.mk (Kd.R_mono (Kd.R_keep (zH.apart (show zH w0 _ g s0_0 x1001_4 x1002_4 from by repeat (first | (with_reducible first | exact HI0.out | apply zH.alloc | apply zH.drewN | apply zH.drew | apply zH.set_1 | apply zH.set_2 | refine zH.farT (t := 25) (b := gb262) ?_ (by decide) (by repeat (first | exact zA.of BK262.out | apply zA.set | apply zA.drewN | apply zA.drew | apply zA.alloc)) _ | refine zH.farT (t := 25) (b := gb272) ?_ (by decide) (by repeat (first | exact zA.of BK272.out | apply zA.set | apply zA.drewN | apply zA.drew | apply zA.alloc)) _ | refine zH.farT (t := 50) (b := gb287) ?_ (by decide) (by repeat (first | exact zA.of BK287.out | apply zA.set | apply zA.drewN | apply zA.drew | apply zA.alloc)) _) | exact HI0.out)) (by (with_reducible repeat (first | apply Kd.R_alloc | apply Kd.R_drewN | apply Kd.R_drew)); exact HO_66.out) (by decide)) hk (fun _ h => h.2)) (fun _ h => h.1)); have n2_ := zG.mk (Kd.R_mono (Kd.R_keep (zH.apart (show zH w0 _ g s0_0 x1001_4 x1002_4 from by repeat (first | (with_reducible first | exact HI0.out | apply zH.alloc | apply zH.drewN | apply zH.drew | apply zH.set_1 | apply zH.set_2 | refine zH.farT (t := 25) (b := gb262) ?_ (by decide) (by repeat (first | exact zA.of BK262.out | apply zA.set | apply zA.drewN | apply zA.drew | apply zA.alloc)) _ | refine zH.farT (t := 25) (b := gb272) ?_ (by decide) (by repeat (first | exact zA.of BK272.out | apply zA.set | apply zA.drewN | apply zA.drew | apply zA.alloc)) _ | refine zH.farT (t := 50) (b := gb287) ?_ (by decide) (by repeat (first | exact zA.of BK287.out | apply zA.set | apply zA.drewN | apply zA.drew | apply zA.alloc)) _) | exact HI0.out)) (by (with_reducible repeat (first | apply Kd.R_alloc | apply Kd.R_drewN | apply Kd.R_drew)); exact HO_273002.out) (by decide)) hk (fun _ h => h.2)) (fun _ h => h.1)); have n3_ := zG.mk (zJ.blk hk (g' := gb262) (o := .cells #[.bool x263000_4, .int .i64 x263001_4, .slice none 0 0] 25 (0, 0)) (by (with_reducible repeat (first | refine zL ?_ _ | refine zM ?_ | refine zK ?_ _)); exact BK262.out) NB262_0.out (by simp)); have n4_ := zG.mk (zJ.blk hk (g' := gb272) (o := .cells #[.bool (t263 == 1), .int .i64 (wrap64 (t269)), .slice Ao63 y288.length co63] 25 (0, 0)) (by (with_reducible repeat (first | refine zL ?_ _ | refine zM ?_ | refine zK ?_ _)); exact BK272.out) NB272_0.out (by simp)); have n5_ := zG.mk (zJ.blk hk (g' := gb287) (o := .cells #[.int .i64 t283, .bool t284] 50 (0, 0)) (by (with_reducible repeat (first | refine zL ?_ _ | refine zM ?_ | refine zK ?_ _)); exact BK287.out) NB287_0.out (by simp)); have n6_ := zG.mk (zJ.trans (by repeat (first | (with_reducible first | exact HK.out | apply zJ.set_ | apply keep_drewN | apply keep_drew | apply keep_alloc | refine keep_far ?_ GW262.out _ | refine keep_far ?_ GW272.out _ | refine keep_far ?_ GW287.out _) | exact HK.out)) hk (.inl rfl)); have n7_ := zG.mk (hb); have n8_ := zG.mk (hi); clear HO_12; clear HO_66; clear HO_273002; clear BK262; clear BK272; clear BK287; clear HK; clear HB; clear HI0; have HO_12 := n0_; have HO_66 := n1_; have HO_273002 := n2_; have BK262 := n3_; have BK272 := n4_; have BK287 := n5_; have HK := n6_; have HB := n7_; have HI0 := n8_; clear n0_ n1_ n2_ n3_ n4_ n5_ n6_ n7_ n8_; (try clear hb); (try clear hb2); (try clear hk); (try clear hi)) | ((with_reducible refine gate_callee (f := 33) rfl ?_); refine goesL_ (some 89) rfl rfl Try.func33 (by kernel_rfl) rfl #[.pointer (some ⟨g, 0, none⟩)] rfl (by (try simp only [List.map_toArray, List.map_cons, List.map_nil]); first | done | rfl | (simp only [List.length_drop, List.length_take]; rfl)) ?_; (with_reducible refine (bits_Reader_Fail.calls g s0_0 t292 t293 t294 t295 t296 w0 _ ?side1 ?side2 A67.out).mono ?_); (case side1 => repeat (first | (with_reducible first | exact HI0.out | apply zH.alloc | apply zH.drewN | apply zH.drew | apply zH.set_1 | apply zH.set_2 | refine zH.farT (t := 25) (b := gb262) ?_ (by decide) (by repeat (first | exact zA.of BK262.out | apply zA.set | apply zA.drewN | apply zA.drew | apply zA.alloc)) _ | refine zH.farT (t := 25) (b := gb272) ?_ (by decide) (by repeat (first | exact zA.of BK272.out | apply zA.set | apply zA.drewN | apply zA.drew | apply zA.alloc)) _ | refine zH.farT (t := 50) (b := gb287) ?_ (by decide) (by repeat (first | exact zA.of BK287.out | apply zA.set | apply zA.drewN | apply zA.drew | apply zA.alloc)) _) | exact HI0.out)); (case side2 => repeat (first | (with_reducible first | exact HB.out | apply zF | apply zC | apply zD | refine zE ?_ (zH.ge HI0.out) | refine zE ?_ GE262.out | refine zE ?_ GE272.out | refine zE ?_ GE287.out) | exact HB.out)); rintro e w95 ⟨rfl, hi, hb, hk⟩; refine ⟨_, rfl, ?_⟩; have n0_ := zG.mk (Kd.R_mono (Kd.R_keep (zH.apart (show zH w0 _ g s0_0 t292 t293 from by repeat (first | (with_reducible first | exact HI0.out | apply zH.alloc | apply zH.drewN | apply zH.drew | apply zH.set_1 | apply zH.set_2 | refine zH.farT (t := 25) (b := gb262) ?_ (by decide) (by repeat (first | exact zA.of BK262.out | apply zA.set | apply zA.drewN | apply zA.drew | apply zA.alloc)) _ | refine zH.farT (t := 25) (b := gb272) ?_ (by decide) (by repeat (first | exact zA.of BK272.out | apply zA.set | apply zA.drewN | apply zA.drew | apply zA.alloc)) _ | refine zH.farT (t := 50) (b := gb287) ?_ (by decide) (by repeat (first | exact zA.of BK287.out | apply zA.set | apply zA.drewN | apply zA.drew | apply zA.alloc)) _) | exact HI0.out)) (by (with_reducible repeat (first | apply Kd.R_alloc | apply Kd.R_drewN | apply Kd.R_drew)); exact HO_12.out) (by decide)) hk (fun _ h => h.2)) (fun _ h => h.1)); have n1_ := zG.mk (Kd.R_mono (Kd.R_keep (zH.apart (show zH w0 _ g s0_0 t292 t293 from by repeat (first | (with_reducible first | exact HI0.out | apply zH.alloc | apply zH.drewN | apply zH.drew | apply zH.set_1 | apply zH.set_2 | refine zH.farT (t := 25) (b := gb262) ?_ (by decide) (by repeat (first | exact zA.of BK262.out | apply zA.set | apply zA.drewN | apply zA.drew | apply zA.alloc)) _ | refine zH.farT (t := 25) (b := gb272) ?_ (by decide) (by repeat (first | exact zA.of BK272.out | apply zA.set | apply zA.drewN | apply zA.drew | apply zA.alloc)) _ | refine zH.farT (t := 50) (b := gb287) ?_ (by decide) (by repeat (first | exact zA.of BK287.out | apply zA.set | apply zA.drewN | apply zA.drew | apply zA.alloc)) _) | exact HI0.out)) (by (with_reducible repeat (first | apply Kd.R_alloc | apply Kd.R_drewN | apply Kd.R_drew)); exact HO_66.out) (by decide)) hk (fun _ h => h.2)) (fun _ h => h.1)); have n2_ := zG.mk (Kd.R_mono (Kd.R_keep (zH.apart (show zH w0 _ g s0_0 t292 t293 from by repeat (first | (with_reducible first | exact HI0.out | apply zH.alloc | apply zH.drewN | apply zH.drew | apply zH.set_1 | apply zH.set_2 | refine zH.farT (t := 25) (b := gb262) ?_ (by decide) (by repeat (first | exact zA.of BK262.out | apply zA.set | apply zA.drewN | apply zA.drew | apply zA.alloc)) _ | refine zH.farT (t := 25) (b := gb272) ?_ (by decide) (by repeat (first | exact zA.of BK272.out | apply zA.set | apply zA.drewN | apply zA.drew | apply zA.alloc)) _ | refine zH.farT (t := 50) (b := gb287) ?_ (by decide) (by repeat (first | exact zA.of BK287.out | apply zA.set | apply zA.drewN | apply zA.drew | apply zA.alloc)) _) | exact HI0.out)) (by (with_reducible repeat (first | apply Kd.R_alloc | apply Kd.R_drewN | apply Kd.R_drew)); exact HO_273002.out) (by decide)) hk (fun _ h => h.2)) (fun _ h => h.1)); have n3_ := zG.mk (zJ.blk hk (g' := gb262) (o := .cells #[.bool x263000_4, .int .i64 x263001_4, .slice none 0 0] 25 (0, 0)) (by (with_reducible repeat (first | refine zL ?_ _ | refine zM ?_ | refine zK ?_ _)); exact BK262.out) NB262_0.out (by simp)); have n4_ := zG.mk (zJ.blk hk (g' := gb272) (o := .cells #[.bool (t263 == 1), .int .i64 (wrap64 (t269)), .slice Ao63 y288.length co63] 25 (0, 0)) (by (with_reducible repeat (first | refine zL ?_ _ | refine zM ?_ | refine zK ?_ _)); exact BK272.out) NB272_0.out (by simp)); have n5_ := zG.mk (zJ.blk hk (g' := gb287) (o := .cells #[.int .i64 t283, .bool t284] 50 (0, 0)) (by (with_reducible repeat (first | refine zL ?_ _ | refine zM ?_ | refine zK ?_ _)); exact BK287.out) NB287_0.out (by simp)); have n6_ := zG.mk (zJ.trans (by repeat (first | (with_reducible first | exact HK.out | apply zJ.set_ | apply keep_drewN | apply keep_drew | apply keep_alloc | refine keep_far ?_ GW262.out _ | refine keep_far ?_ GW272.out _ | refine keep_far ?_ GW287.out _) | exact HK.out)) hk (.inl rfl)); have n7_ := zG.mk (hb); have n8_ := zG.mk (hi); clear HO_12; clear HO_66; clear HO_273002; clear BK262; clear BK272; clear BK287; clear HK; clear HB; clear HI0; have HO_12 := n0_; have HO_66 := n1_; have HO_273002 := n2_; have BK262 := n3_; have BK272 := n4_; have BK287 := n5_; have HK := n6_; have HB := n7_; have HI0 := n8_; clear n0_ n1_ n2_ n3_ n4_ n5_ n6_ n7_ n8_; (try clear hb); (try clear hb2); (try clear hk); (try clear hi)) | ((with_reducible refine gate_builtin (b := .append) (xs := #[.tmp 101, .tmp 103]) rfl ?_); at_builtin; refine Kd.R_append (Kd.int .i64) w.heap.size rfl (.tmp 101) (.tmp 103) 22 3 (.int .i64 0) 8 rfl Try.underlying22 info3 rfl (by decide) (by omega) u12 x12_4 t291 [.int .i64 t291] (fun k_ => some k_ ≠ (.slice (some ad282) t279.length co46 : Value).ownBlock) (fun _ => False) rfl rfl ?aP (fun _ hk => hk.elim) ?aF ?aO (Below.refl _ _) ?aS ?aL ?_; (case aP => exact rfl); (case aF => exact (fun k_ hk => Kd.fresh' (Kd.R_lt (by (with_reducible repeat (first | apply Kd.R_alloc | apply Kd.R_drewN | apply Kd.R_drew)); exact HO_66.out)) k_ hk)); (case aO => exact (by (with_reducible repeat (first | apply Kd.R_alloc | apply Kd.R_drewN | apply Kd.R_drew)); exact HO_12.out)); (case aS => exact (keep_size (w := w) (g := g) (row := none) (by repeat (first | (with_reducible first | exact HK.out | apply zJ.set_ | apply keep_drewN | apply keep_drew | apply keep_alloc | refine keep_far ?_ GW262.out _ | refine keep_far ?_ GW272.out _ | refine keep_far ?_ GW287.out _) | exact HK.out)))); (case aL => have := LMc89.out; omega); intro v298 w96 ho hb hg hat; rw [← Ny297.out] at ho; have n0_ := zG.mk (Kd.R_after (ok := (fun _ => True)) (by (with_reducible repeat (first | apply Kd.R_alloc | apply Kd.R_drewN | apply Kd.R_drew)); exact Kd.R_mono HO_66.out (fun _ hk => ⟨trivial, hk⟩)) hg hat); have n1_ := zG.mk (Kd.R_over' (by (with_reducible repeat (first | apply Kd.R_alloc | apply Kd.R_drewN | apply Kd.R_drew)); exact HO_273002.out) (Kd.R_typed (by (with_reducible repeat (first | apply Kd.R_alloc | apply Kd.R_drewN | apply Kd.R_drew)); exact HO_12.out)) (by decide) hg); have n2_ := zG.mk (blk_grown (g := gb262) (o := .cells #[.bool x263000_4, .int .i64 x263001_4, .slice none 0 0] 25 (0, 0)) (by (with_reducible repeat (first | refine zL ?_ _ | refine zM ?_ | refine zK ?_ _)); exact BK262.out) hg (Kd.R_ne HO_12.out BK262.out (by decide))); have n3_ := zG.mk (blk_grown (g := gb272) (o := .cells #[.bool (t263 == 1), .int .i64 (wrap64 (t269)), .slice Ao63 y288.length co63] 25 (0, 0)) (by (with_reducible repeat (first | refine zL ?_ _ | refine zM ?_ | refine zK ?_ _)); exact BK272.out) hg (Kd.R_ne HO_12.out BK272.out (by decide))); have n4_ := zG.mk (blk_grown (g := gb287) (o := .cells #[.int .i64 t283, .bool t284] 50 (0, 0)) (by (with_reducible repeat (first | refine zL ?_ _ | refine zM ?_ | refine zK ?_ _)); exact BK287.out) hg (Kd.R_ne HO_12.out BK287.out (by decide))); have n5_ := zG.mk (zH.grown (by refine zH.as HI0.out ?_; repeat (first | (with_reducible first | exact HI0.out | apply zH.alloc | apply zH.drewN | apply zH.drew | apply zH.set_1 | apply zH.set_2 | refine zH.farT (t := 25) (b := gb262) ?_ (by decide) (by repeat (first | exact zA.of BK262.out | apply zA.set | apply zA.drewN | apply zA.drew | apply zA.alloc)) _ | refine zH.farT (t := 25) (b := gb272) ?_ (by decide) (by repeat (first | exact zA.of BK272.out | apply zA.set | apply zA.drewN | apply zA.drew | apply zA.alloc)) _ | refine zH.farT (t := 50) (b := gb287) ?_ (by decide) (by repeat (first | exact zA.of BK287.out | apply zA.set | apply zA.drewN | apply zA.drew | apply zA.alloc)) _) | exact HI0.out)) hg (zH.own_ne HI0.out HO_12.out (by decide))); have n6_ := zG.mk (below_weaken (by repeat (first | (with_reducible first | exact HB.out | apply zF | apply zC | apply zD | refine zE ?_ (zH.ge HI0.out) | refine zE ?_ GE262.out | refine zE ?_ GE272.out | refine zE ?_ GE287.out) | exact HB.out)) HL.out hb); have n7_ := zG.mk (zJ.trans (by repeat (first | (with_reducible first | exact HK.out | apply zJ.set_ | apply keep_drewN | apply keep_drew | apply keep_alloc | refine keep_far ?_ GW262.out _ | refine keep_far ?_ GW272.out _ | refine keep_far ?_ GW287.out _) | exact HK.out)) (zJ.of_grown hg g) (Kd.R_base2 HO_12.out)); have n8_ := zG.mk (ho); clear HO_66; clear HO_273002; clear BK262; clear BK272; clear BK287; clear HI0; clear HB; clear HK; clear HO_12; have HO_66 := n0_; have HO_273002 := n1_; have BK262 := n2_; have BK272 := n3_; have BK287 := n4_; have HI0 := n5_; have HB := n6_; have HK := n7_; have HO299 := n8_; clear n0_ n1_ n2_ n3_ n4_ n5_ n6_ n7_ n8_; clear ho hb hg hat))
                                            go_roundg k4
                                            case measure => have := HJ3.out; have := HJ12.out; have := HK3.out; have := HK4.out; omega
                                            case rel => exact ⟨(y297), (wrap64 (x83_4 + 1)), (t295), (t296), (x263000_4), (x263001_4), (by first | rfl | (simp; done) | (simp only [i64_w, i32_w]; done) | (simp [*]; done) | (simp only [i64_w, i32_w]; first | rfl | (simp; done) | (simp [*]; done))), H', ⟨by have := HJ3.out; have := HJ12.out; have := HK3.out; have := HK4.out; omega⟩, ⟨by (with_reducible repeat (first | apply Kd.R_alloc | apply Kd.R_drewN | apply Kd.R_drew)); exact HO299.out⟩, ⟨by (with_reducible repeat (first | apply Kd.R_alloc | apply Kd.R_drewN | apply Kd.R_drew)); exact Kd.R_mono HO_66.out (fun _ hk => hk.2)⟩, ⟨by (with_reducible repeat (first | apply Kd.R_alloc | apply Kd.R_drewN | apply Kd.R_drew)); exact HO_273002.out⟩, ⟨by (with_reducible repeat (first | refine zL ?_ _ | refine zM ?_ | refine zK ?_ _)); exact BK262.out⟩, ⟨by (with_reducible repeat (first | refine zL ?_ _ | refine zM ?_ | refine zK ?_ _)); exact BK272.out⟩, ⟨by (with_reducible repeat (first | refine zL ?_ _ | refine zM ?_ | refine zK ?_ _)); exact BK287.out⟩, ⟨by repeat (first | (with_reducible first | exact HI0.out | apply zH.alloc | apply zH.drewN | apply zH.drew | apply zH.set_1 | apply zH.set_2 | refine zH.farT (t := 25) (b := gb262) ?_ (by decide) (by repeat (first | exact zA.of BK262.out | apply zA.set | apply zA.drewN | apply zA.drew | apply zA.alloc)) _ | refine zH.farT (t := 25) (b := gb272) ?_ (by decide) (by repeat (first | exact zA.of BK272.out | apply zA.set | apply zA.drewN | apply zA.drew | apply zA.alloc)) _ | refine zH.farT (t := 50) (b := gb287) ?_ (by decide) (by repeat (first | exact zA.of BK287.out | apply zA.set | apply zA.drewN | apply zA.drew | apply zA.alloc)) _) | exact HI0.out)⟩, ⟨by repeat (first | (with_reducible first | exact HK.out | apply zJ.set_ | apply keep_drewN | apply keep_drew | apply keep_alloc | refine keep_far ?_ GW262.out _ | refine keep_far ?_ GW272.out _ | refine keep_far ?_ GW287.out _) | exact HK.out)⟩, ⟨by repeat (first | (with_reducible first | exact HB.out | apply zF | apply zC | apply zD | refine zE ?_ (zH.ge HI0.out) | refine zE ?_ GE262.out | refine zE ?_ GE272.out | refine zE ?_ GE287.out) | exact HB.out)⟩⟩
                                          · rw [if_neg c89] at H
                                            exact absurd H (by simp)
                                    · rw [if_neg c68] at H
                                      have c68b0 : (t294 == 0) = false := beq_eq_false_iff_ne.mpr c68
                                      have c68b1 : (t294 != 0) = true := bne_iff_ne.mpr c68
                                      replace H := Option.bind_eq_some_iff.mp H
                                      obtain ⟨⟨t300, t301, t302⟩, A970, H⟩ := H
                                      replace H : (some (([] : List Int), false, 0, ([] : List (S50)), t300, t301, t302)) = some (r1, r2, r3, r4, r5, r6, r7) := H
                                      have A97 := zG.mk A970
                                      clear A970
                                      simp only [Option.some.injEq, Prod.mk.injEq] at H
                                      obtain ⟨rfl, rfl, rfl, rfl, rfl, rfl, rfl⟩ := H
                                      have hnb98 := NB287_262.out
                                      have hnc98 := NB262_287.out
                                      have hnb99 := NB287_272.out
                                      have hnc99 := NB272_287.out
                                      have hnb100 := NB287_0.out
                                      have hnc100 := NB0_287.out
                                      have hcz101_0 : wr.cell? ⟨gb287, 0, none⟩ = some (.int .i64 t283) := (zN BK287.out 0).trans rfl
                                      have hcz101_1 : wr.cell? ⟨gb287, 1, none⟩ = some (.bool t284) := (zN BK287.out 1).trans rfl
                                      have hfz101_0 := zO BK287.out 0
                                      have hfz101_1 := zO BK287.out 1
                                      go_wp2_with (first | ((with_reducible refine gate_callee (f := 35) rfl ?_); refine goesL_ (some 87) rfl rfl Try.func35 (by kernel_rfl) rfl #[.pointer (some ⟨g, 0, none⟩), .agg #[.int .i64 t283, .bool t284]] rfl (by (try simp only [List.map_toArray, List.map_cons, List.map_nil]); first | done | rfl | (simp only [List.length_drop, List.length_take]; rfl)) ?_; (with_reducible refine (section_number.calls k4 g s0_0 x1001_4 x1002_4 t283 t284 t291 t292 t293 w0 _ ?side1 ?side2 A66.out).mono ?_); (case side1 => repeat (first | (with_reducible first | exact HI0.out | apply zH.alloc | apply zH.drewN | apply zH.drew | apply zH.set_1 | apply zH.set_2 | refine zH.farT (t := 25) (b := gb262) ?_ (by decide) (by repeat (first | exact zA.of BK262.out | apply zA.set | apply zA.drewN | apply zA.drew | apply zA.alloc)) _ | refine zH.farT (t := 25) (b := gb272) ?_ (by decide) (by repeat (first | exact zA.of BK272.out | apply zA.set | apply zA.drewN | apply zA.drew | apply zA.alloc)) _ | refine zH.farT (t := 50) (b := gb287) ?_ (by decide) (by repeat (first | exact zA.of BK287.out | apply zA.set | apply zA.drewN | apply zA.drew | apply zA.alloc)) _) | exact HI0.out)); (case side2 => repeat (first | (with_reducible first | exact HB.out | apply zF | apply zC | apply zD | refine zE ?_ (zH.ge HI0.out) | refine zE ?_ GE262.out | refine zE ?_ GE272.out | refine zE ?_ GE287.out) | exact HB.out)); rintro e w102 ⟨rfl, hi, hb, hk⟩; refine ⟨_, rfl, ?_⟩; have n0_ := zG.mk (Kd.R_mono (Kd.R_keep (zH.apart (show zH w0 _ g s0_0 x1001_4 x1002_4 from by repeat (first | (with_reducible first | exact HI0.out | apply zH.alloc | apply zH.drewN | apply zH.drew | apply zH.set_1 | apply zH.set_2 | refine zH.farT (t := 25) (b := gb262) ?_ (by decide) (by repeat (first | exact zA.of BK262.out | apply zA.set | apply zA.drewN | apply zA.drew | apply zA.alloc)) _ | refine zH.farT (t := 25) (b := gb272) ?_ (by decide) (by repeat (first | exact zA.of BK272.out | apply zA.set | apply zA.drewN | apply zA.drew | apply zA.alloc)) _ | refine zH.farT (t := 50) (b := gb287) ?_ (by decide) (by repeat (first | exact zA.of BK287.out | apply zA.set | apply zA.drewN | apply zA.drew | apply zA.alloc)) _) | exact HI0.out)) (by (with_reducible repeat (first | apply Kd.R_alloc | apply Kd.R_drewN | apply Kd.R_drew)); exact HO_12.out) (by decide)) hk (fun _ h => h.2)) (fun _ h => h.1)); have n1_ := zG.mk (Kd.R_mono (Kd.R_keep (zH.apart (show zH w0 _ g s0_0 x1001_4 x1002_4 from by repeat (first | (with_reducible first | exact HI0.out | apply zH.alloc | apply zH.drewN | apply zH.drew | apply zH.set_1 | apply zH.set_2 | refine zH.farT (t := 25) (b := gb262) ?_ (by decide) (by repeat (first | exact zA.of BK262.out | apply zA.set | apply zA.drewN | apply zA.drew | apply zA.alloc)) _ | refine zH.farT (t := 25) (b := gb272) ?_ (by decide) (by repeat (first | exact zA.of BK272.out | apply zA.set | apply zA.drewN | apply zA.drew | apply zA.alloc)) _ | refine zH.farT (t := 50) (b := gb287) ?_ (by decide) (by repeat (first | exact zA.of BK287.out | apply zA.set | apply zA.drewN | apply zA.drew | apply zA.alloc)) _) | exact HI0.out)) (by (with_reducible repeat (first | apply Kd.R_alloc | apply Kd.R_drewN | apply Kd.R_drew)); exact HO_66.out) (by decide)) hk (fun _ h => h.2)) (fun _ h => h.1)); have n2_ := zG.mk (Kd.R_mono (Kd.R_keep (zH.apart (show zH w0 _ g s0_0 x1001_4 x1002_4 from by repeat (first | (with_reducible first | exact HI0.out | apply zH.alloc | apply zH.drewN | apply zH.drew | apply zH.set_1 | apply zH.set_2 | refine zH.farT (t := 25) (b := gb262) ?_ (by decide) (by repeat (first | exact zA.of BK262.out | apply zA.set | apply zA.drewN | apply zA.drew | apply zA.alloc)) _ | refine zH.farT (t := 25) (b := gb272) ?_ (by decide) (by repeat (first | exact zA.of BK272.out | apply zA.set | apply zA.drewN | apply zA.drew | apply zA.alloc)) _ | refine zH.farT (t := 50) (b := gb287) ?_ (by decide) (by repeat (first | exact zA.of BK287.out | apply zA.set | apply zA.drewN | apply zA.drew | apply zA.alloc)) _) | exact HI0.out)) (by (with_reducible repeat (first | apply Kd.R_alloc | apply Kd.R_drewN | apply Kd.R_drew)); exact HO_273002.out) (by decide)) hk (fun _ h => h.2)) (fun _ h => h.1)); have n3_ := zG.mk (zJ.blk hk (g' := gb262) (o := .cells #[.bool x263000_4, .int .i64 x263001_4, .slice none 0 0] 25 (0, 0)) (by (with_reducible repeat (first | refine zL ?_ _ | refine zM ?_ | refine zK ?_ _)); exact BK262.out) NB262_0.out (by simp)); have n4_ := zG.mk (zJ.blk hk (g' := gb272) (o := .cells #[.bool (t263 == 1), .int .i64 (wrap64 (t269)), .slice Ao63 y288.length co63] 25 (0, 0)) (by (with_reducible repeat (first | refine zL ?_ _ | refine zM ?_ | refine zK ?_ _)); exact BK272.out) NB272_0.out (by simp)); have n5_ := zG.mk (zJ.blk hk (g' := gb287) (o := .cells #[.int .i64 t283, .bool t284] 50 (0, 0)) (by (with_reducible repeat (first | refine zL ?_ _ | refine zM ?_ | refine zK ?_ _)); exact BK287.out) NB287_0.out (by simp)); have n6_ := zG.mk (zJ.trans (by repeat (first | (with_reducible first | exact HK.out | apply zJ.set_ | apply keep_drewN | apply keep_drew | apply keep_alloc | refine keep_far ?_ GW262.out _ | refine keep_far ?_ GW272.out _ | refine keep_far ?_ GW287.out _) | exact HK.out)) hk (.inl rfl)); have n7_ := zG.mk (hb); have n8_ := zG.mk (hi); clear HO_12; clear HO_66; clear HO_273002; clear BK262; clear BK272; clear BK287; clear HK; clear HB; clear HI0; have HO_12 := n0_; have HO_66 := n1_; have HO_273002 := n2_; have BK262 := n3_; have BK272 := n4_; have BK287 := n5_; have HK := n6_; have HB := n7_; have HI0 := n8_; clear n0_ n1_ n2_ n3_ n4_ n5_ n6_ n7_ n8_; (try clear hb); (try clear hb2); (try clear hk); (try clear hi)) | ((with_reducible refine gate_callee (f := 33) rfl ?_); refine goesL_ (some 89) rfl rfl Try.func33 (by kernel_rfl) rfl #[.pointer (some ⟨g, 0, none⟩)] rfl (by (try simp only [List.map_toArray, List.map_cons, List.map_nil]); first | done | rfl | (simp only [List.length_drop, List.length_take]; rfl)) ?_; (with_reducible refine (bits_Reader_Fail.calls g s0_0 t292 t293 t294 t295 t296 w0 _ ?side1 ?side2 A67.out).mono ?_); (case side1 => repeat (first | (with_reducible first | exact HI0.out | apply zH.alloc | apply zH.drewN | apply zH.drew | apply zH.set_1 | apply zH.set_2 | refine zH.farT (t := 25) (b := gb262) ?_ (by decide) (by repeat (first | exact zA.of BK262.out | apply zA.set | apply zA.drewN | apply zA.drew | apply zA.alloc)) _ | refine zH.farT (t := 25) (b := gb272) ?_ (by decide) (by repeat (first | exact zA.of BK272.out | apply zA.set | apply zA.drewN | apply zA.drew | apply zA.alloc)) _ | refine zH.farT (t := 50) (b := gb287) ?_ (by decide) (by repeat (first | exact zA.of BK287.out | apply zA.set | apply zA.drewN | apply zA.drew | apply zA.alloc)) _) | exact HI0.out)); (case side2 => repeat (first | (with_reducible first | exact HB.out | apply zF | apply zC | apply zD | refine zE ?_ (zH.ge HI0.out) | refine zE ?_ GE262.out | refine zE ?_ GE272.out | refine zE ?_ GE287.out) | exact HB.out)); rintro e w103 ⟨rfl, hi, hb, hk⟩; refine ⟨_, rfl, ?_⟩; have n0_ := zG.mk (Kd.R_mono (Kd.R_keep (zH.apart (show zH w0 _ g s0_0 t292 t293 from by repeat (first | (with_reducible first | exact HI0.out | apply zH.alloc | apply zH.drewN | apply zH.drew | apply zH.set_1 | apply zH.set_2 | refine zH.farT (t := 25) (b := gb262) ?_ (by decide) (by repeat (first | exact zA.of BK262.out | apply zA.set | apply zA.drewN | apply zA.drew | apply zA.alloc)) _ | refine zH.farT (t := 25) (b := gb272) ?_ (by decide) (by repeat (first | exact zA.of BK272.out | apply zA.set | apply zA.drewN | apply zA.drew | apply zA.alloc)) _ | refine zH.farT (t := 50) (b := gb287) ?_ (by decide) (by repeat (first | exact zA.of BK287.out | apply zA.set | apply zA.drewN | apply zA.drew | apply zA.alloc)) _) | exact HI0.out)) (by (with_reducible repeat (first | apply Kd.R_alloc | apply Kd.R_drewN | apply Kd.R_drew)); exact HO_12.out) (by decide)) hk (fun _ h => h.2)) (fun _ h => h.1)); have n1_ := zG.mk (Kd.R_mono (Kd.R_keep (zH.apart (show zH w0 _ g s0_0 t292 t293 from by repeat (first | (with_reducible first | exact HI0.out | apply zH.alloc | apply zH.drewN | apply zH.drew | apply zH.set_1 | apply zH.set_2 | refine zH.farT (t := 25) (b := gb262) ?_ (by decide) (by repeat (first | exact zA.of BK262.out | apply zA.set | apply zA.drewN | apply zA.drew | apply zA.alloc)) _ | refine zH.farT (t := 25) (b := gb272) ?_ (by decide) (by repeat (first | exact zA.of BK272.out | apply zA.set | apply zA.drewN | apply zA.drew | apply zA.alloc)) _ | refine zH.farT (t := 50) (b := gb287) ?_ (by decide) (by repeat (first | exact zA.of BK287.out | apply zA.set | apply zA.drewN | apply zA.drew | apply zA.alloc)) _) | exact HI0.out)) (by (with_reducible repeat (first | apply Kd.R_alloc | apply Kd.R_drewN | apply Kd.R_drew)); exact HO_66.out) (by decide)) hk (fun _ h => h.2)) (fun _ h => h.1)); have n2_ := zG.mk (Kd.R_mono (Kd.R_keep (zH.apart (show zH w0 _ g s0_0 t292 t293 from by repeat (first | (with_reducible first | exact HI0.out | apply zH.alloc | apply zH.drewN | apply zH.drew | apply zH.set_1 | apply zH.set_2 | refine zH.farT (t := 25) (b := gb262) ?_ (by decide) (by repeat (first | exact zA.of BK262.out | apply zA.set | apply zA.drewN | apply zA.drew | apply zA.alloc)) _ | refine zH.farT (t := 25) (b := gb272) ?_ (by decide) (by repeat (first | exact zA.of BK272.out | apply zA.set | apply zA.drewN | apply zA.drew | apply zA.alloc)) _ | refine zH.farT (t := 50) (b := gb287) ?_ (by decide) (by repeat (first | exact zA.of BK287.out | apply zA.set | apply zA.drewN | apply zA.drew | apply zA.alloc)) _) | exact HI0.out)) (by (with_reducible repeat (first | apply Kd.R_alloc | apply Kd.R_drewN | apply Kd.R_drew)); exact HO_273002.out) (by decide)) hk (fun _ h => h.2)) (fun _ h => h.1)); have n3_ := zG.mk (zJ.blk hk (g' := gb262) (o := .cells #[.bool x263000_4, .int .i64 x263001_4, .slice none 0 0] 25 (0, 0)) (by (with_reducible repeat (first | refine zL ?_ _ | refine zM ?_ | refine zK ?_ _)); exact BK262.out) NB262_0.out (by simp)); have n4_ := zG.mk (zJ.blk hk (g' := gb272) (o := .cells #[.bool (t263 == 1), .int .i64 (wrap64 (t269)), .slice Ao63 y288.length co63] 25 (0, 0)) (by (with_reducible repeat (first | refine zL ?_ _ | refine zM ?_ | refine zK ?_ _)); exact BK272.out) NB272_0.out (by simp)); have n5_ := zG.mk (zJ.blk hk (g' := gb287) (o := .cells #[.int .i64 t283, .bool t284] 50 (0, 0)) (by (with_reducible repeat (first | refine zL ?_ _ | refine zM ?_ | refine zK ?_ _)); exact BK287.out) NB287_0.out (by simp)); have n6_ := zG.mk (zJ.trans (by repeat (first | (with_reducible first | exact HK.out | apply zJ.set_ | apply keep_drewN | apply keep_drew | apply keep_alloc | refine keep_far ?_ GW262.out _ | refine keep_far ?_ GW272.out _ | refine keep_far ?_ GW287.out _) | exact HK.out)) hk (.inl rfl)); have n7_ := zG.mk (hb); have n8_ := zG.mk (hi); clear HO_12; clear HO_66; clear HO_273002; clear BK262; clear BK272; clear BK287; clear HK; clear HB; clear HI0; have HO_12 := n0_; have HO_66 := n1_; have HO_273002 := n2_; have BK262 := n3_; have BK272 := n4_; have BK287 := n5_; have HK := n6_; have HB := n7_; have HI0 := n8_; clear n0_ n1_ n2_ n3_ n4_ n5_ n6_ n7_ n8_; (try clear hb); (try clear hb2); (try clear hk); (try clear hi)) | ((with_reducible refine gate_callee (f := 33) rfl ?_); refine goesL_ (some 93) rfl rfl Try.func33 (by kernel_rfl) rfl #[.pointer (some ⟨g, 0, none⟩)] rfl (by (try simp only [List.map_toArray, List.map_cons, List.map_nil]); first | done | rfl | (simp only [List.length_drop, List.length_take]; rfl)) ?_; (with_reducible refine (bits_Reader_Fail.calls g s0_0 t295 t296 t300 t301 t302 w0 _ ?side1 ?side2 A97.out).mono ?_); (case side1 => repeat (first | (with_reducible first | exact HI0.out | apply zH.alloc | apply zH.drewN | apply zH.drew | apply zH.set_1 | apply zH.set_2 | refine zH.farT (t := 25) (b := gb262) ?_ (by decide) (by repeat (first | exact zA.of BK262.out | apply zA.set | apply zA.drewN | apply zA.drew | apply zA.alloc)) _ | refine zH.farT (t := 25) (b := gb272) ?_ (by decide) (by repeat (first | exact zA.of BK272.out | apply zA.set | apply zA.drewN | apply zA.drew | apply zA.alloc)) _ | refine zH.farT (t := 50) (b := gb287) ?_ (by decide) (by repeat (first | exact zA.of BK287.out | apply zA.set | apply zA.drewN | apply zA.drew | apply zA.alloc)) _) | exact HI0.out)); (case side2 => repeat (first | (with_reducible first | exact HB.out | apply zF | apply zC | apply zD | refine zE ?_ (zH.ge HI0.out) | refine zE ?_ GE262.out | refine zE ?_ GE272.out | refine zE ?_ GE287.out) | exact HB.out)); rintro e w104 ⟨rfl, hi, hb, hk⟩; refine ⟨_, rfl, ?_⟩; have n0_ := zG.mk (Kd.R_mono (Kd.R_keep (zH.apart (show zH w0 _ g s0_0 t295 t296 from by repeat (first | (with_reducible first | exact HI0.out | apply zH.alloc | apply zH.drewN | apply zH.drew | apply zH.set_1 | apply zH.set_2 | refine zH.farT (t := 25) (b := gb262) ?_ (by decide) (by repeat (first | exact zA.of BK262.out | apply zA.set | apply zA.drewN | apply zA.drew | apply zA.alloc)) _ | refine zH.farT (t := 25) (b := gb272) ?_ (by decide) (by repeat (first | exact zA.of BK272.out | apply zA.set | apply zA.drewN | apply zA.drew | apply zA.alloc)) _ | refine zH.farT (t := 50) (b := gb287) ?_ (by decide) (by repeat (first | exact zA.of BK287.out | apply zA.set | apply zA.drewN | apply zA.drew | apply zA.alloc)) _) | exact HI0.out)) (by (with_reducible repeat (first | apply Kd.R_alloc | apply Kd.R_drewN | apply Kd.R_drew)); exact HO_12.out) (by decide)) hk (fun _ h => h.2)) (fun _ h => h.1)); have n1_ := zG.mk (Kd.R_mono (Kd.R_keep (zH.apart (show zH w0 _ g s0_0 t295 t296 from by repeat (first | (with_reducible first | exact HI0.out | apply zH.alloc | apply zH.drewN | apply zH.drew | apply zH.set_1 | apply zH.set_2 | refine zH.farT (t := 25) (b := gb262) ?_ (by decide) (by repeat (first | exact zA.of BK262.out | apply zA.set | apply zA.drewN | apply zA.drew | apply zA.alloc)) _ | refine zH.farT (t := 25) (b := gb272) ?_ (by decide) (by repeat (first | exact zA.of BK272.out | apply zA.set | apply zA.drewN | apply zA.drew | apply zA.alloc)) _ | refine zH.farT (t := 50) (b := gb287) ?_ (by decide) (by repeat (first | exact zA.of BK287.out | apply zA.set | apply zA.drewN | apply zA.drew | apply zA.alloc)) _) | exact HI0.out)) (by (with_reducible repeat (first | apply Kd.R_alloc | apply Kd.R_drewN | apply Kd.R_drew)); exact HO_66.out) (by decide)) hk (fun _ h => h.2)) (fun _ h => h.1)); have n2_ := zG.mk (Kd.R_mono (Kd.R_keep (zH.apart (show zH w0 _ g s0_0 t295 t296 from by repeat (first | (with_reducible first | exact HI0.out | apply zH.alloc | apply zH.drewN | apply zH.drew | apply zH.set_1 | apply zH.set_2 | refine zH.farT (t := 25) (b := gb262) ?_ (by decide) (by repeat (first | exact zA.of BK262.out | apply zA.set | apply zA.drewN | apply zA.drew | apply zA.alloc)) _ | refine zH.farT (t := 25) (b := gb272) ?_ (by decide) (by repeat (first | exact zA.of BK272.out | apply zA.set | apply zA.drewN | apply zA.drew | apply zA.alloc)) _ | refine zH.farT (t := 50) (b := gb287) ?_ (by decide) (by repeat (first | exact zA.of BK287.out | apply zA.set | apply zA.drewN | apply zA.drew | apply zA.alloc)) _) | exact HI0.out)) (by (with_reducible repeat (first | apply Kd.R_alloc | apply Kd.R_drewN | apply Kd.R_drew)); exact HO_273002.out) (by decide)) hk (fun _ h => h.2)) (fun _ h => h.1)); have n3_ := zG.mk (zJ.blk hk (g' := gb262) (o := .cells #[.bool x263000_4, .int .i64 x263001_4, .slice none 0 0] 25 (0, 0)) (by (with_reducible repeat (first | refine zL ?_ _ | refine zM ?_ | refine zK ?_ _)); exact BK262.out) NB262_0.out (by simp)); have n4_ := zG.mk (zJ.blk hk (g' := gb272) (o := .cells #[.bool (t263 == 1), .int .i64 (wrap64 (t269)), .slice Ao63 y288.length co63] 25 (0, 0)) (by (with_reducible repeat (first | refine zL ?_ _ | refine zM ?_ | refine zK ?_ _)); exact BK272.out) NB272_0.out (by simp)); have n5_ := zG.mk (zJ.blk hk (g' := gb287) (o := .cells #[.int .i64 t283, .bool t284] 50 (0, 0)) (by (with_reducible repeat (first | refine zL ?_ _ | refine zM ?_ | refine zK ?_ _)); exact BK287.out) NB287_0.out (by simp)); have n6_ := zG.mk (zJ.trans (by repeat (first | (with_reducible first | exact HK.out | apply zJ.set_ | apply keep_drewN | apply keep_drew | apply keep_alloc | refine keep_far ?_ GW262.out _ | refine keep_far ?_ GW272.out _ | refine keep_far ?_ GW287.out _) | exact HK.out)) hk (.inl rfl)); have n7_ := zG.mk (hb); have n8_ := zG.mk (hi); clear HO_12; clear HO_66; clear HO_273002; clear BK262; clear BK272; clear BK287; clear HK; clear HB; clear HI0; have HO_12 := n0_; have HO_66 := n1_; have HO_273002 := n2_; have BK262 := n3_; have BK272 := n4_; have BK287 := n5_; have HK := n6_; have HB := n7_; have HI0 := n8_; clear n0_ n1_ n2_ n3_ n4_ n5_ n6_ n7_ n8_; (try clear hb); (try clear hb2); (try clear hk); (try clear hi); have hnb105 := NB262_272.out; have hnc105 := NB272_262.out; have hnb106 := NB262_0.out; have hnc106 := NB0_262.out; have hcz107_0 : w104.cell? ⟨gb262, 0, none⟩ = some (.bool x263000_4) := (zN BK262.out 0).trans rfl; have hcz107_1 : w104.cell? ⟨gb262, 1, none⟩ = some (.int .i64 x263001_4) := (zN BK262.out 1).trans rfl; have hcz107_2 : w104.cell? ⟨gb262, 2, none⟩ = some (.slice none 0 0) := (zN BK262.out 2).trans rfl; have hfz107_0 := zO BK262.out 0; have hfz107_1 := zO BK262.out 1; have hfz107_2 := zO BK262.out 2))
                                      refine bodyPost_ret (results_list (rs := [.tmp 6, .cell 7 25, .tmp 8]) rfl (by simp) (.tmp (.cell gb262 25 #[.bool false, .int .i64 0, .slice none 0 0] (0, 0) _ rfl (by (with_reducible repeat (first | refine zL ?_ _ | refine zM ?_ | refine zK ?_ _)); refine blk_put (cs := #[.bool false, .int .i64 0, .slice none 0 0]) ?_ 2 _ rfl; (with_reducible repeat (first | refine zL ?_ _ | refine zM ?_ | refine zK ?_ _)); refine blk_put (cs := #[.bool false, .int .i64 x263001_4, .slice none 0 0]) ?_ 1 _ rfl; (with_reducible repeat (first | refine zL ?_ _ | refine zM ?_ | refine zK ?_ _)); refine blk_put (cs := #[.bool x263000_4, .int .i64 x263001_4, .slice none 0 0]) ?_ 0 _ rfl; (with_reducible repeat (first | refine zL ?_ _ | refine zM ?_ | refine zK ?_ _)); exact BK262.out) Try.underlying25 rfl (by kernel_rfl) (.tmp .nil)))) rfl ?_
                                      exact ⟨_, _, by first | rfl | (simp [errW_none, errW_some] <;> rfl) | (simp [*, errW_none, errW_some] <;> rfl), by first | exact Kd.R_nil _ _ _ _ _ | exact Kd.N_nil _ _ _ _ _ | exact Kd.V_nil _ _ _ _ _ | exact Kd.Q_nil _ _ _ _ _ | exact Kd.S_nil _ _ _ _ _, by first | exact Kd.R_nil _ _ _ _ _ | exact Kd.N_nil _ _ _ _ _ | exact Kd.V_nil _ _ _ _ _ | exact Kd.Q_nil _ _ _ _ _ | exact Kd.S_nil _ _ _ _ _, by repeat (first | (with_reducible first | exact HI0.out | apply zH.alloc | apply zH.drewN | apply zH.drew | apply zH.set_1 | apply zH.set_2 | refine zH.farT (t := 25) (b := gb262) ?_ (by decide) (by repeat (first | exact zA.of BK262.out | apply zA.set | apply zA.drewN | apply zA.drew | apply zA.alloc)) _ | refine zH.farT (t := 25) (b := gb272) ?_ (by decide) (by repeat (first | exact zA.of BK272.out | apply zA.set | apply zA.drewN | apply zA.drew | apply zA.alloc)) _ | refine zH.farT (t := 50) (b := gb287) ?_ (by decide) (by repeat (first | exact zA.of BK287.out | apply zA.set | apply zA.drewN | apply zA.drew | apply zA.alloc)) _) | exact HI0.out), by repeat (first | (with_reducible first | exact HB.out | apply zF | apply zC | apply zD | refine zE ?_ (zH.ge HI0.out) | refine zE ?_ GE262.out | refine zE ?_ GE272.out | refine zE ?_ GE287.out) | exact HB.out), by repeat (first | (with_reducible first | exact HK.out | apply zJ.set_ | apply keep_drewN | apply keep_drew | apply keep_alloc | refine keep_far ?_ GW262.out _ | refine keep_far ?_ GW272.out _ | refine keep_far ?_ GW287.out _) | exact HK.out)⟩
                                  · rw [if_neg c65] at H
                                    have c65b0 : decide (x83_4 < (rd t279 x68_3)) = false := decide_eq_false c65
                                    clear c65
                                    have H' := zG.mk H
                                    clear H
                                    go_wp2
                                    go_roundg k4
                                    case measure => have := HJ3.out; have := HJ12.out; have := HK3.out; have := HK4.out; omega
                                    case rel => exact ⟨(x12_4), (wrap64 (x68_3 + 1)), (x1001_4), (x1002_4), (x263000_4), (x263001_4), (y288), (.slice Ao63 y288.length co63), (by first | rfl | (simp; done) | (simp only [i64_w, i32_w]; done) | (simp [*]; done) | (simp only [i64_w, i32_w]; first | rfl | (simp; done) | (simp [*]; done))), H', ⟨by have := HJ3.out; have := HJ12.out; have := HK3.out; have := HK4.out; omega⟩, ⟨by (with_reducible repeat (first | apply Kd.R_alloc | apply Kd.R_drewN | apply Kd.R_drew)); exact HO_12.out⟩, ⟨by (with_reducible repeat (first | apply Kd.R_alloc | apply Kd.R_drewN | apply Kd.R_drew)); exact HO_66.out⟩, ⟨by (with_reducible repeat (first | apply Kd.R_alloc | apply Kd.R_drewN | apply Kd.R_drew)); exact Kd.R_mono HO_273002.out (fun _ hk => trivial)⟩, ⟨by (with_reducible repeat (first | refine zL ?_ _ | refine zM ?_ | refine zK ?_ _)); exact BK262.out⟩, ⟨by (with_reducible repeat (first | refine zL ?_ _ | refine zM ?_ | refine zK ?_ _)); exact BK272.out⟩, ⟨by repeat (first | (with_reducible first | exact HI0.out | apply zH.alloc | apply zH.drewN | apply zH.drew | apply zH.set_1 | apply zH.set_2 | refine zH.farT (t := 25) (b := gb262) ?_ (by decide) (by repeat (first | exact zA.of BK262.out | apply zA.set | apply zA.drewN | apply zA.drew | apply zA.alloc)) _ | refine zH.farT (t := 25) (b := gb272) ?_ (by decide) (by repeat (first | exact zA.of BK272.out | apply zA.set | apply zA.drewN | apply zA.drew | apply zA.alloc)) _ | refine zH.farT (t := 50) (b := gb287) ?_ (by decide) (by repeat (first | exact zA.of BK287.out | apply zA.set | apply zA.drewN | apply zA.drew | apply zA.alloc)) _) | exact HI0.out)⟩, ⟨by repeat (first | (with_reducible first | exact HK.out | apply zJ.set_ | apply keep_drewN | apply keep_drew | apply keep_alloc | refine keep_far ?_ GW262.out _ | refine keep_far ?_ GW272.out _ | refine keep_far ?_ GW287.out _) | exact HK.out)⟩, ⟨by repeat (first | (with_reducible first | exact HB.out | apply zF | apply zC | apply zD | refine zE ?_ (zH.ge HI0.out) | refine zE ?_ GE262.out | refine zE ?_ GE272.out | refine zE ?_ GE287.out) | exact HB.out)⟩⟩
                            · rw [if_neg c51] at H
                              exact absurd H (by simp)
                          · rw [if_neg c49] at H
                            exact absurd H (by simp)
                        · rw [if_neg c48] at H
                          exact absurd H (by simp)
                      · rw [if_neg c47] at H
                        have c47b0 : decide (x68_3 < (t279.length : Int)) = false := decide_eq_false c47
                        clear c47
                        simp only [Option.some.injEq, Prod.mk.injEq] at H
                        obtain ⟨rfl, rfl, rfl, rfl, rfl, rfl, rfl⟩ := H
                        try go_wp2
                        have n0_ := zG.mk (Kd.R_drew HO_12.out)
                        have n1_ := zG.mk (Kd.R_drew HO_66.out)
                        have n2_ := zG.mk (Kd.R_drew HO_273002.out)
                        have n3_ := zG.mk (zM BK262.out)
                        have n4_ := zG.mk (zM BK272.out)
                        have n5_ := zG.mk (zH.drew HI0.out)
                        have n6_ := zG.mk (keep_drew HK.out)
                        have n7_ := zG.mk (zD HB.out)
                        clear HO_12
                        clear HO_66
                        clear HO_273002
                        clear BK262
                        clear BK272
                        clear HI0
                        clear HK
                        clear HB
                        have HO_12 := n0_
                        have HO_66 := n1_
                        have HO_273002 := n2_
                        have BK262 := n3_
                        have BK272 := n4_
                        have HI0 := n5_
                        have HK := n6_
                        have HB := n7_
                        clear n0_ n1_ n2_ n3_ n4_ n5_ n6_ n7_
                        obtain ⟨Ao111, co111, eo111⟩ := Kd.R_slice HO_273002.out
                        (first | subst eo111 | (injection eo111 with f1_ f2_ f3_; have f4_ := f1_.symm; have f5_ := f3_.symm; clear f1_ f2_ f3_; subst f4_; subst f5_))
                        refine start_ (n := 5) (S := fun w' => w'.cell? ⟨gb272, 0, none⟩ = some (.bool (t263 == 1)) ∧ w'.cell? ⟨gb272, 1, none⟩ = some (.int .i64 (wrap64 (t269))) ∧ w'.cell? ⟨gb272, 2, none⟩ = some (.slice Ao111 x273002_3.length co111)) (ds := []) #[false, false, false, false, false] (by kernel_rfl) rfl rfl ⟨(zN BK272.out 0).trans rfl, (zN BK272.out 1).trans rfl, (zN BK272.out 2).trans rfl⟩ (fun hHeld => ?_)
                        generalize wr.drew = w108 at HO_12 HO_66 HO_273002 BK262 BK272 HI0 HK HB hHeld ⊢
                        refine pure_ (i := 0) (N := some 107) (v := ?_) (a' := ?_) #[true, false, false, false, false] rfl rfl (by kernel_rfl) (fun _ _ _ h => h) (Or.inl ⟨by rfl, ?_⟩) ?_ ?_
                        rotate_left
                        · intro w'
                          go_simp
                          with_reducible rfl
                        rotate_left
                        · simp only [Act.put, List.setIfInBounds_toArray, List.set_cons_zero, List.set_cons_succ, i64_w, i32_w]
                          rfl
                        refine pure_ (i := 2) (N := some 6) (v := ?_) (a' := ?_) #[true, false, true, false, false] rfl rfl (by kernel_rfl) (fun _ _ _ h => h) (Or.inl ⟨by rfl, ?_⟩) ?_ ?_
                        rotate_left
                        · intro w'
                          go_simp
                          with_reducible rfl
                        rotate_left
                        · simp only [Act.put, List.setIfInBounds_toArray, List.set_cons_zero, List.set_cons_succ, i64_w, i32_w]
                          rfl
                        refine take_ (i := 1) (N := some 108) (v := ?_) (a' := ?_) #[true, true, true, false, false] rfl rfl (by kernel_rfl) (fun _ _ _ h => h) (Or.inl ⟨by rfl, ?_⟩) hHeld ?_ ?_
                        rotate_left
                        · rintro w' ⟨s0, s1, s2⟩
                          go_simp
                          with_reducible rfl
                        rotate_left
                        · simp only [Act.put, List.setIfInBounds_toArray, List.set_cons_zero, List.set_cons_succ, i64_w, i32_w]
                          rfl
                        refine one_ (i := 3) (N := none) #[true, true, true, true, false] rfl rfl (by kernel_rfl) (by decide) (fun K hK => ?_)
                        have hs109 : w108.cell? ⟨gb262, 0, none⟩ = some (.bool x263000_3) := (zN BK262.out 0).trans rfl
                        have hfs109 := zO BK262.out 0
                        have hns109_1 := NB272_262.out
                        have hms109_1 := NB262_272.out
                        have hs110 : w108.cell? ⟨gb262, 1, none⟩ = some (.int .i64 x263001_3) := (zN BK262.out 1).trans rfl
                        have hfs110 := zO BK262.out 1
                        have hns110_1 := NB272_262.out
                        have hms110_1 := NB262_272.out
                        have hs112 : w108.cell? ⟨gb262, 2, none⟩ = some (.slice none 0 0) := (zN BK262.out 2).trans rfl
                        have hfs112 := zO BK262.out 2
                        have hns112_1 := NB272_262.out
                        have hms112_1 := NB262_272.out
                        refine skip_ (w1 := ?_) (by rfl) rfl ?_ ?_
                        rotate_left
                        · go_simp
                          rfl
                        refine hK.out _ _ ⟨((cell_far (p := ⟨gb262, _, none⟩) NB272_262.out _).trans (((cell_far (p := ⟨gb262, _, none⟩) NB272_262.out _).trans (((cell_far (p := ⟨gb262, _, none⟩) NB272_262.out _).trans (hHeld.1)))))), ((cell_far (p := ⟨gb262, _, none⟩) NB272_262.out _).trans (((cell_far (p := ⟨gb262, _, none⟩) NB272_262.out _).trans (((cell_far (p := ⟨gb262, _, none⟩) NB272_262.out _).trans (hHeld.2.1)))))), ((cell_far (p := ⟨gb262, _, none⟩) NB272_262.out _).trans (((cell_far (p := ⟨gb262, _, none⟩) NB272_262.out _).trans (((cell_far (p := ⟨gb262, _, none⟩) NB272_262.out _).trans (hHeld.2.2))))))⟩ (fun hHeld => ?_)
                        clear hK K
                        refine pure_ (i := 4) (N := some 8) (v := ?_) (a' := ?_) #[true, true, true, true, true] rfl rfl (by kernel_rfl) (fun _ _ _ h => h) (Or.inl ⟨by rfl, ?_⟩) ?_ ?_
                        rotate_left
                        · intro w'
                          go_simp
                          with_reducible rfl
                        rotate_left
                        · simp only [Act.put, List.setIfInBounds_toArray, List.set_cons_zero, List.set_cons_succ, i64_w, i32_w]
                          rfl
                        refine done_ (by kernel_rfl) ?_
                        try go_wp2
                        refine bodyPost_ret (results_list (rs := [.tmp 6, .cell 7 25, .tmp 8]) rfl (by simp) (.tmp (.cell gb262 25 #[.bool (t263 == 1), .int .i64 (wrap64 (t269)), .slice Ao111 x273002_3.length co111] (0, 0) _ rfl (by (with_reducible repeat (first | refine zL ?_ _ | refine zM ?_ | refine zK ?_ _)); refine blk_put (cs := #[.bool (t263 == 1), .int .i64 (wrap64 (t269)), .slice none 0 0]) ?_ 2 _ rfl; (with_reducible repeat (first | refine zL ?_ _ | refine zM ?_ | refine zK ?_ _)); refine blk_put (cs := #[.bool (t263 == 1), .int .i64 x263001_3, .slice none 0 0]) ?_ 1 _ rfl; (with_reducible repeat (first | refine zL ?_ _ | refine zM ?_ | refine zK ?_ _)); refine blk_put (cs := #[.bool x263000_3, .int .i64 x263001_3, .slice none 0 0]) ?_ 0 _ rfl; (with_reducible repeat (first | refine zL ?_ _ | refine zM ?_ | refine zK ?_ _)); exact BK262.out) Try.underlying25 rfl (by kernel_rfl) (.tmp .nil)))) rfl ?_
                        exact ⟨_, _, by first | rfl | (simp [errW_none, errW_some] <;> rfl) | (simp [*, errW_none, errW_some] <;> rfl), by (with_reducible repeat (first | apply Kd.R_alloc | apply Kd.R_drewN | apply Kd.R_drew)); exact Kd.R_mono (Kd.R_far (p := ⟨gb262, 2, none⟩) (Kd.R_far (p := ⟨gb262, 1, none⟩) (Kd.R_far (p := ⟨gb262, 0, none⟩) (Kd.R_types HO_12.out BK262.out (by decide)) (fun _ hk => hk.2) (.bool (t263 == 1))) (fun _ hk => hk.2) (.int .i64 (wrap64 (t269)))) (fun _ hk => hk.2) (.slice Ao111 x273002_3.length co111)) (fun _ hk => trivial), by (with_reducible repeat (first | apply Kd.R_alloc | apply Kd.R_drewN | apply Kd.R_drew)); exact Kd.R_mono (Kd.R_far (p := ⟨gb262, 2, none⟩) (Kd.R_far (p := ⟨gb262, 1, none⟩) (Kd.R_far (p := ⟨gb262, 0, none⟩) (Kd.R_types HO_273002.out BK262.out (by decide)) (fun _ hk => hk.2) (.bool (t263 == 1))) (fun _ hk => hk.2) (.int .i64 (wrap64 (t269)))) (fun _ hk => hk.2) (.slice Ao111 x273002_3.length co111)) (fun _ hk => trivial), by repeat (first | (with_reducible first | exact HI0.out | apply zH.alloc | apply zH.drewN | apply zH.drew | apply zH.set_1 | apply zH.set_2 | refine zH.farT (t := 25) (b := gb262) ?_ (by decide) (by repeat (first | exact zA.of BK262.out | apply zA.set | apply zA.drewN | apply zA.drew | apply zA.alloc)) _ | refine zH.farT (t := 25) (b := gb272) ?_ (by decide) (by repeat (first | exact zA.of BK272.out | apply zA.set | apply zA.drewN | apply zA.drew | apply zA.alloc)) _) | exact HI0.out), by repeat (first | (with_reducible first | exact HB.out | apply zF | apply zC | apply zD | refine zE ?_ (zH.ge HI0.out) | refine zE ?_ GE262.out | refine zE ?_ GE272.out) | exact HB.out), by repeat (first | (with_reducible first | exact HK.out | apply zJ.set_ | apply keep_drewN | apply keep_drew | apply keep_alloc | refine keep_far ?_ GW262.out _ | refine keep_far ?_ GW272.out _) | exact HK.out)⟩
              · rw [if_neg c24] at H
                have c24b0 : (t273 == 0) = false := beq_eq_false_iff_ne.mpr c24
                have c24b1 : (t273 != 0) = true := bne_iff_ne.mpr c24
                replace H := Option.bind_eq_some_iff.mp H
                obtain ⟨⟨t276, t277, t278⟩, A1130, H⟩ := H
                replace H : (some (([] : List Int), false, 0, ([] : List (S50)), t276, t277, t278)) = some (r1, r2, r3, r4, r5, r6, r7) := H
                have A113 := zG.mk A1130
                clear A1130
                simp only [Option.some.injEq, Prod.mk.injEq] at H
                obtain ⟨rfl, rfl, rfl, rfl, rfl, rfl, rfl⟩ := H
                go_wp2_with (first | ((with_reducible refine gate_callee (f := 32) rfl ?_); refine goesL_ (some 46) rfl rfl Try.func32 (by kernel_rfl) rfl #[.pointer (some ⟨g, 0, none⟩), .int .i64 4] rfl (by (try simp only [List.map_toArray, List.map_cons, List.map_nil]); first | done | rfl | (simp only [List.length_drop, List.length_take]; rfl)) ?_; (with_reducible refine (bits_Reader_Take.calls kj12 g s0_0 x1001_12 x1002_12 4 t269 t270 t271 w0 _ ?side1 ?side2 A22.out).mono ?_); (case side1 => repeat (first | (with_reducible first | exact HI0.out | apply zH.alloc | apply zH.drewN | apply zH.drew | apply zH.set_1 | apply zH.set_2 | refine zH.farT (t := 25) (b := gb262) ?_ (by decide) (by repeat (first | exact zA.of BK262.out | apply zA.set | apply zA.drewN | apply zA.drew | apply zA.alloc)) _) | exact HI0.out)); (case side2 => repeat (first | (with_reducible first | exact HB.out | apply zF | apply zC | apply zD | refine zE ?_ (zH.ge HI0.out) | refine zE ?_ GE262.out) | exact HB.out)); rintro e w114 ⟨rfl, hi, hb, hk⟩; refine ⟨_, rfl, ?_⟩; have n0_ := zG.mk (zJ.blk hk (g' := gb262) (o := .cells #[.bool false, .int .i64 0, .slice none 0 0] 25 (0, 0)) (by (with_reducible repeat (first | refine zL ?_ _ | refine zM ?_ | refine zK ?_ _)); exact BK262.out) NB262_0.out (by simp)); have n1_ := zG.mk (zJ.trans (by repeat (first | (with_reducible first | exact HK.out | apply zJ.set_ | apply keep_drewN | apply keep_drew | apply keep_alloc | refine keep_far ?_ GW262.out _) | exact HK.out)) hk (.inl rfl)); have n2_ := zG.mk (hb); have n3_ := zG.mk (hi); clear BK262; clear HK; clear HB; clear HI0; have BK262 := n0_; have HK := n1_; have HB := n2_; have HI0 := n3_; clear n0_ n1_ n2_ n3_; (try clear hb); (try clear hb2); (try clear hk); (try clear hi)) | ((with_reducible refine gate_dst (N := 10) rfl ?_); refine box_event ?hg (N := 10) ?hd (cs := #[.bool false, .int .i64 0, .slice none 0 0]) (t := 25) ?hr ?_; (case hd => rfl); (case hg => rfl); (case hr => first | (go_simp; done) | (go_simp; rfl)); intro gb272 hg w115 hbox hb; have n0_ := zG.mk (blk_below (g := gb262) (o := .cells #[.bool false, .int .i64 0, .slice none 0 0] 25 (0, 0)) (by (with_reducible repeat (first | refine zL ?_ _ | refine zM ?_ | refine zK ?_ _)); exact BK262.out) hb); have n1_ := zG.mk (zH.below (by refine zH.as HI0.out ?_; repeat (first | (with_reducible first | exact HI0.out | apply zH.alloc | apply zH.drewN | apply zH.drew | apply zH.set_1 | apply zH.set_2 | refine zH.farT (t := 25) (b := gb262) ?_ (by decide) (by repeat (first | exact zA.of BK262.out | apply zA.set | apply zA.drewN | apply zA.drew | apply zA.alloc)) _) | exact HI0.out)) hb); have n2_ := zG.mk (zJ.trans (by repeat (first | (with_reducible first | exact HK.out | apply zJ.set_ | apply keep_drewN | apply keep_drew | apply keep_alloc | refine keep_far ?_ GW262.out _) | exact HK.out)) (zJ.of_below hb g none) (.inl rfl)); have n3_ := zG.mk (below_step (by repeat (first | (with_reducible first | exact HB.out | apply zF | apply zC | apply zD | refine zE ?_ (zH.ge HI0.out) | refine zE ?_ GE262.out) | exact HB.out)) hb); have n4_ := zG.mk (hbox); have n5_ := zG.mk ((by rw [hg]; exact (keep_size (w := w) (g := g) (row := none) (by repeat (first | (with_reducible first | exact HK.out | apply zJ.set_ | apply keep_drewN | apply keep_drew | apply keep_alloc | refine keep_far ?_ GW262.out _) | exact HK.out))) : w.heap.size ≤ gb272)); have n6_ := zG.mk ((Nat.le_trans HW0.out (by rw [hg]; exact (keep_size (w := w) (g := g) (row := none) (by repeat (first | (with_reducible first | exact HK.out | apply zJ.set_ | apply keep_drewN | apply keep_drew | apply keep_alloc | refine keep_far ?_ GW262.out _) | exact HK.out))) : w.heap.size ≤ gb272) : w0.heap.size ≤ gb272)); have n7_ := zG.mk ((by rw [hg]; exact Nat.ne_of_lt (blk_lt (g := gb262) (o := .cells #[.bool false, .int .i64 0, .slice none 0 0] 25 (0, 0)) (by (with_reducible repeat (first | refine zL ?_ _ | refine zM ?_ | refine zK ?_ _)); exact BK262.out)) : gb262 ≠ gb272)); have n8_ := zG.mk ((by rw [hg]; exact Nat.ne_of_gt (blk_lt (g := gb262) (o := .cells #[.bool false, .int .i64 0, .slice none 0 0] 25 (0, 0)) (by (with_reducible repeat (first | refine zL ?_ _ | refine zM ?_ | refine zK ?_ _)); exact BK262.out)) : gb272 ≠ gb262)); have n9_ := zG.mk ((by rw [hg]; exact Nat.ne_of_lt (zH.lt (show zH w0 _ g s0_0 t270 t271 from by repeat (first | (with_reducible first | exact HI0.out | apply zH.alloc | apply zH.drewN | apply zH.drew | apply zH.set_1 | apply zH.set_2 | refine zH.farT (t := 25) (b := gb262) ?_ (by decide) (by repeat (first | exact zA.of BK262.out | apply zA.set | apply zA.drewN | apply zA.drew | apply zA.alloc)) _) | exact HI0.out))) : g ≠ gb272)); have n10_ := zG.mk ((by rw [hg]; exact Nat.ne_of_gt (zH.lt (show zH w0 _ g s0_0 t270 t271 from by repeat (first | (with_reducible first | exact HI0.out | apply zH.alloc | apply zH.drewN | apply zH.drew | apply zH.set_1 | apply zH.set_2 | refine zH.farT (t := 25) (b := gb262) ?_ (by decide) (by repeat (first | exact zA.of BK262.out | apply zA.set | apply zA.drewN | apply zA.drew | apply zA.alloc)) _) | exact HI0.out))) : gb272 ≠ g)); clear BK262; clear HI0; clear HK; clear HB; have BK262 := n0_; have HI0 := n1_; have HK := n2_; have HB := n3_; have BK272 := n4_; have GW272 := n5_; have GE272 := n6_; have NB262_272 := n7_; have NB272_262 := n8_; have NB0_272 := n9_; have NB272_0 := n10_; clear n0_ n1_ n2_ n3_ n4_ n5_ n6_ n7_ n8_ n9_ n10_; clear hb hbox hg; have hnb116 := NB272_262.out; have hnc116 := NB262_272.out; have hnb117 := NB272_0.out; have hnc117 := NB0_272.out; have hcz118_0 : w115.cell? ⟨gb272, 0, none⟩ = some (.bool false) := (zN BK272.out 0).trans rfl; have hcz118_1 : w115.cell? ⟨gb272, 1, none⟩ = some (.int .i64 0) := (zN BK272.out 1).trans rfl; have hcz118_2 : w115.cell? ⟨gb272, 2, none⟩ = some (.slice none 0 0) := (zN BK272.out 2).trans rfl; have hfz118_0 := zO BK272.out 0; have hfz118_1 := zO BK272.out 1; have hfz118_2 := zO BK272.out 2) | ((with_reducible refine gate_callee (f := 33) rfl ?_); refine goesL_ (some 50) rfl rfl Try.func33 (by kernel_rfl) rfl #[.pointer (some ⟨g, 0, none⟩)] rfl (by (try simp only [List.map_toArray, List.map_cons, List.map_nil]); first | done | rfl | (simp only [List.length_drop, List.length_take]; rfl)) ?_; (with_reducible refine (bits_Reader_Fail.calls g s0_0 t270 t271 t273 t274 t275 w0 _ ?side1 ?side2 A23.out).mono ?_); (case side1 => repeat (first | (with_reducible first | exact HI0.out | apply zH.alloc | apply zH.drewN | apply zH.drew | apply zH.set_1 | apply zH.set_2 | refine zH.farT (t := 25) (b := gb262) ?_ (by decide) (by repeat (first | exact zA.of BK262.out | apply zA.set | apply zA.drewN | apply zA.drew | apply zA.alloc)) _ | refine zH.farT (t := 25) (b := gb272) ?_ (by decide) (by repeat (first | exact zA.of BK272.out | apply zA.set | apply zA.drewN | apply zA.drew | apply zA.alloc)) _) | exact HI0.out)); (case side2 => repeat (first | (with_reducible first | exact HB.out | apply zF | apply zC | apply zD | refine zE ?_ (zH.ge HI0.out) | refine zE ?_ GE262.out | refine zE ?_ GE272.out) | exact HB.out)); rintro e w119 ⟨rfl, hi, hb, hk⟩; refine ⟨_, rfl, ?_⟩; have n0_ := zG.mk (zJ.blk hk (g' := gb262) (o := .cells #[.bool false, .int .i64 0, .slice none 0 0] 25 (0, 0)) (by (with_reducible repeat (first | refine zL ?_ _ | refine zM ?_ | refine zK ?_ _)); refine zP ?_ NB262_272.out _; (with_reducible repeat (first | refine zL ?_ _ | refine zM ?_ | refine zK ?_ _)); refine zP ?_ NB262_272.out _; (with_reducible repeat (first | refine zL ?_ _ | refine zM ?_ | refine zK ?_ _)); refine zP ?_ NB262_272.out _; (with_reducible repeat (first | refine zL ?_ _ | refine zM ?_ | refine zK ?_ _)); exact BK262.out) NB262_0.out (by simp)); have n1_ := zG.mk (zJ.blk hk (g' := gb272) (o := .cells #[.bool (t263 == 1), .int .i64 (wrap64 (t269)), .slice none 0 0] 25 (0, 0)) (by (with_reducible repeat (first | refine zL ?_ _ | refine zM ?_ | refine zK ?_ _)); refine blk_put (cs := #[.bool (t263 == 1), .int .i64 (wrap64 (t269)), .slice none 0 0]) ?_ 2 _ rfl; (with_reducible repeat (first | refine zL ?_ _ | refine zM ?_ | refine zK ?_ _)); refine blk_put (cs := #[.bool (t263 == 1), .int .i64 0, .slice none 0 0]) ?_ 1 _ rfl; (with_reducible repeat (first | refine zL ?_ _ | refine zM ?_ | refine zK ?_ _)); refine blk_put (cs := #[.bool false, .int .i64 0, .slice none 0 0]) ?_ 0 _ rfl; (with_reducible repeat (first | refine zL ?_ _ | refine zM ?_ | refine zK ?_ _)); exact BK272.out) NB272_0.out (by simp)); have n2_ := zG.mk (zJ.trans (by repeat (first | (with_reducible first | exact HK.out | apply zJ.set_ | apply keep_drewN | apply keep_drew | apply keep_alloc | refine keep_far ?_ GW262.out _ | refine keep_far ?_ GW272.out _) | exact HK.out)) hk (.inl rfl)); have n3_ := zG.mk (hb); have n4_ := zG.mk (hi); clear BK262; clear BK272; clear HK; clear HB; clear HI0; have BK262 := n0_; have BK272 := n1_; have HK := n2_; have HB := n3_; have HI0 := n4_; clear n0_ n1_ n2_ n3_ n4_; (try clear hb); (try clear hb2); (try clear hk); (try clear hi)) | ((with_reducible refine gate_callee (f := 33) rfl ?_); refine goesL_ (some 54) rfl rfl Try.func33 (by kernel_rfl) rfl #[.pointer (some ⟨g, 0, none⟩)] rfl (by (try simp only [List.map_toArray, List.map_cons, List.map_nil]); first | done | rfl | (simp only [List.length_drop, List.length_take]; rfl)) ?_; (with_reducible refine (bits_Reader_Fail.calls g s0_0 t274 t275 t276 t277 t278 w0 _ ?side1 ?side2 A113.out).mono ?_); (case side1 => repeat (first | (with_reducible first | exact HI0.out | apply zH.alloc | apply zH.drewN | apply zH.drew | apply zH.set_1 | apply zH.set_2 | refine zH.farT (t := 25) (b := gb262) ?_ (by decide) (by repeat (first | exact zA.of BK262.out | apply zA.set | apply zA.drewN | apply zA.drew | apply zA.alloc)) _ | refine zH.farT (t := 25) (b := gb272) ?_ (by decide) (by repeat (first | exact zA.of BK272.out | apply zA.set | apply zA.drewN | apply zA.drew | apply zA.alloc)) _) | exact HI0.out)); (case side2 => repeat (first | (with_reducible first | exact HB.out | apply zF | apply zC | apply zD | refine zE ?_ (zH.ge HI0.out) | refine zE ?_ GE262.out | refine zE ?_ GE272.out) | exact HB.out)); rintro e w120 ⟨rfl, hi, hb, hk⟩; refine ⟨_, rfl, ?_⟩; have n0_ := zG.mk (zJ.blk hk (g' := gb262) (o := .cells #[.bool false, .int .i64 0, .slice none 0 0] 25 (0, 0)) (by (with_reducible repeat (first | refine zL ?_ _ | refine zM ?_ | refine zK ?_ _)); exact BK262.out) NB262_0.out (by simp)); have n1_ := zG.mk (zJ.blk hk (g' := gb272) (o := .cells #[.bool (t263 == 1), .int .i64 (wrap64 (t269)), .slice none 0 0] 25 (0, 0)) (by (with_reducible repeat (first | refine zL ?_ _ | refine zM ?_ | refine zK ?_ _)); exact BK272.out) NB272_0.out (by simp)); have n2_ := zG.mk (zJ.trans (by repeat (first | (with_reducible first | exact HK.out | apply zJ.set_ | apply keep_drewN | apply keep_drew | apply keep_alloc | refine keep_far ?_ GW262.out _ | refine keep_far ?_ GW272.out _) | exact HK.out)) hk (.inl rfl)); have n3_ := zG.mk (hb); have n4_ := zG.mk (hi); clear BK262; clear BK272; clear HK; clear HB; clear HI0; have BK262 := n0_; have BK272 := n1_; have HK := n2_; have HB := n3_; have HI0 := n4_; clear n0_ n1_ n2_ n3_ n4_; (try clear hb); (try clear hb2); (try clear hk); (try clear hi); have hnb121 := NB262_0.out; have hnc121 := NB0_262.out; have hcz122_0 : w120.cell? ⟨gb262, 0, none⟩ = some (.bool false) := (zN BK262.out 0).trans rfl; have hcz122_1 : w120.cell? ⟨gb262, 1, none⟩ = some (.int .i64 0) := (zN BK262.out 1).trans rfl; have hcz122_2 : w120.cell? ⟨gb262, 2, none⟩ = some (.slice none 0 0) := (zN BK262.out 2).trans rfl; have hfz122_0 := zO BK262.out 0; have hfz122_1 := zO BK262.out 1; have hfz122_2 := zO BK262.out 2))
                refine bodyPost_ret (results_list (rs := [.tmp 6, .cell 7 25, .tmp 8]) rfl (by simp) (.tmp (.cell gb262 25 #[.bool false, .int .i64 0, .slice none 0 0] (0, 0) _ rfl (by (with_reducible repeat (first | refine zL ?_ _ | refine zM ?_ | refine zK ?_ _)); refine blk_put (cs := #[.bool false, .int .i64 0, .slice none 0 0]) ?_ 2 _ rfl; (with_reducible repeat (first | refine zL ?_ _ | refine zM ?_ | refine zK ?_ _)); refine blk_put (cs := #[.bool false, .int .i64 0, .slice none 0 0]) ?_ 1 _ rfl; (with_reducible repeat (first | refine zL ?_ _ | refine zM ?_ | refine zK ?_ _)); refine blk_put (cs := #[.bool false, .int .i64 0, .slice none 0 0]) ?_ 0 _ rfl; (with_reducible repeat (first | refine zL ?_ _ | refine zM ?_ | refine zK ?_ _)); exact BK262.out) Try.underlying25 rfl (by kernel_rfl) (.tmp .nil)))) rfl ?_
                exact ⟨_, _, by first | rfl | (simp [errW_none, errW_some] <;> rfl) | (simp [*, errW_none, errW_some] <;> rfl), by first | exact Kd.R_nil _ _ _ _ _ | exact Kd.N_nil _ _ _ _ _ | exact Kd.V_nil _ _ _ _ _ | exact Kd.Q_nil _ _ _ _ _ | exact Kd.S_nil _ _ _ _ _, by first | exact Kd.R_nil _ _ _ _ _ | exact Kd.N_nil _ _ _ _ _ | exact Kd.V_nil _ _ _ _ _ | exact Kd.Q_nil _ _ _ _ _ | exact Kd.S_nil _ _ _ _ _, by repeat (first | (with_reducible first | exact HI0.out | apply zH.alloc | apply zH.drewN | apply zH.drew | apply zH.set_1 | apply zH.set_2 | refine zH.farT (t := 25) (b := gb262) ?_ (by decide) (by repeat (first | exact zA.of BK262.out | apply zA.set | apply zA.drewN | apply zA.drew | apply zA.alloc)) _ | refine zH.farT (t := 25) (b := gb272) ?_ (by decide) (by repeat (first | exact zA.of BK272.out | apply zA.set | apply zA.drewN | apply zA.drew | apply zA.alloc)) _) | exact HI0.out), by repeat (first | (with_reducible first | exact HB.out | apply zF | apply zC | apply zD | refine zE ?_ (zH.ge HI0.out) | refine zE ?_ GE262.out | refine zE ?_ GE272.out) | exact HB.out), by repeat (first | (with_reducible first | exact HK.out | apply zJ.set_ | apply keep_drewN | apply keep_drew | apply keep_alloc | refine keep_far ?_ GW262.out _ | refine keep_far ?_ GW272.out _) | exact HK.out)⟩
end Go.Proofs.Ytokdjeoecnnckaa.PA
end
section
namespace Go.Proofs.Ytokdjeoecnnckaa.PA
open Go Go.RowKit Go.Proofs.YtokdjeoecnnckaaW.PrintWords Go.Proofs.YtokdjeoecnnckaaW.PrintLast Go.Proofs.YtokdjeoecnnckaaW.PrintMore
attribute [local go_sem] max2_int min2_int max_two min_two max_three min_three max_four min_four
set_option maxHeartbeats 8000000 in
set_option maxRecDepth 100000 in
theorem rice_Near_same (a0 : Int) (r : Bool) (w : World) (h : rice_Near.f a0 = some r) :
    Calls Try.prog 47 #[.int .i64 a0] w fun e w' => e = .returned (.bool r) ∧ w' = w := by
  have H : (if a0 ≥ (-8589934592) then (some (decide (a0 < 8589934592))) else (some false)) = some r := h
  clear h
  by_cases c2 : a0 ≥ (-8589934592)
  · rw [if_pos c2] at H
    have c2b0 : decide ((-8589934592) ≤ a0) = true := decide_eq_true c2
    clear c2
    obtain rfl := Option.some.inj H
    go_enter Try.func47, Try.ntmps47
    go_wp2
    go_ret
    exact ⟨by first | rfl | (simp; done) | (simp [*]; done), rfl⟩
  · rw [if_neg c2] at H
    have c2b0 : decide ((-8589934592) ≤ a0) = false := decide_eq_false c2
    clear c2
    obtain rfl := Option.some.inj H
    go_enter Try.func47, Try.ntmps47
    go_wp2
    go_ret
    exact ⟨by first | rfl | (simp; done) | (simp [*]; done), rfl⟩
set_option maxHeartbeats 8000000 in
set_option maxRecDepth 100000 in
theorem rice_held_same (a0 : Int) (r : Int) (w : World) (h : rice_held.f a0 = some r) :
    Calls Try.prog 46 #[.int .i64 a0] w fun e w' => e = .returned (.int .i64 r) ∧ w' = w := by
  have H : (some (mx 0 (mn a0 30))) = some r := h
  clear h
  obtain ⟨ji2, hji2⟩ : ∃ j_ : Int, (mn a0 30) = j_ := ⟨_, rfl⟩
  replace H : (some (mx 0 (ji2))) = some r := by first | (rw [hji2] at H; exact H) | (simp only [hji2] at H ⊢; exact H)
  (try (have hji2h : ji2 ≤ 30 := by (rw [← hji2]; unfold mn; (repeat' split) <;> omega)))
  (try (have hji2g : ji2 ≤ 64 := by omega))
  have hji2_ : (if 30 < a0 then 30 else a0) = ji2 := hji2
  obtain ⟨ji3, hji3⟩ : ∃ j_ : Int, (mx 0 (ji2)) = j_ := ⟨_, rfl⟩
  replace H : (some ji3) = some r := by first | (rw [hji3] at H; exact H) | (simp only [hji3] at H ⊢; exact H)
  have hji3_ : (if 0 < (ji2) then (ji2) else 0) = ji3 := hji3
  obtain rfl := Option.some.inj H
  go_enter Try.func46, Try.ntmps46
  go_wp2
  go_ret
  exact ⟨by first | rfl | (simp [errW_none, errW_some] <;> rfl) | (simp only [← hji2, ← hji3]; first | rfl | (simp [errW_none, errW_some] <;> rfl)) | (simp [*, errW_none, errW_some] <;> rfl), rfl⟩
set_option maxHeartbeats 8000000 in
set_option maxRecDepth 100000 in
theorem rice_Fold_same (a0 : Int) (r : Int) (w : World) (h : rice_Fold.f a0 = some r) :
    Calls Try.prog 44 #[.int .i64 a0] w fun e w' => e = .returned (.int .u64 r) ∧ w' = w := by
  have H : (some (Go.bits .xor .u64 (IntKind.u64.wrap ((IntKind.u64.wrap (a0)) * 2)) (IntKind.u64.wrap (a0 / 9223372036854775808)))) = some r := h
  clear h
  obtain rfl := Option.some.inj H
  go_enter Try.func44, Try.ntmps44
  go_wp2
  go_ret
  exact ⟨by first | rfl | (simp; done) | (simp [*]; done), rfl⟩
set_option maxHeartbeats 8000000 in
set_option maxRecDepth 100000 in
theorem rice_Size_same (a0 : Int) (a1 : Int) (r : Int) (w : World) (h : rice_Size.f a0 a1 = some r) :
    Calls Try.prog 58 #[.int .i64 a0, .int .i64 a1] w fun e w' => e = .returned (.int .i64 r) ∧ w' = w := by
  have H : ((rice_Near.f a0).bind fun t113 => (if t113 = true then ((rice_held.f a1).bind fun t114 => ((rice_Fold.f a0).bind fun t115 => (if 0 ≤ t114 then (some (wrap64 ((wrap64 ((wrap64 (shr .u64 t115 t114)) + 1)) + t114))) else (none)))) else (some (-1)))) = some r := h
  clear h
  replace H := Option.bind_eq_some_iff.mp H
  obtain ⟨t113, A30, H⟩ := H
  replace H : (if t113 = true then ((rice_held.f a1).bind fun t114 => ((rice_Fold.f a0).bind fun t115 => (if 0 ≤ t114 then (some (wrap64 ((wrap64 ((wrap64 (shr .u64 t115 t114)) + 1)) + t114))) else (none)))) else (some (-1))) = some r := H
  have A3 := zG.mk A30
  clear A30
  by_cases c4 : t113 = true
  · subst c4
    have H1 : ((rice_held.f a1).bind fun t114 => ((rice_Fold.f a0).bind fun t115 => (if 0 ≤ t114 then (some (wrap64 ((wrap64 ((wrap64 (shr .u64 t115 t114)) + 1)) + t114))) else (none)))) = some r := by rw [if_pos rfl] at H; exact H
    clear H
    have H := H1
    clear H1
    replace H := Option.bind_eq_some_iff.mp H
    obtain ⟨t114, A50, H⟩ := H
    replace H : ((rice_Fold.f a0).bind fun t115 => (if 0 ≤ t114 then (some (wrap64 ((wrap64 ((wrap64 (shr .u64 t115 t114)) + 1)) + t114))) else (none))) = some r := H
    have A5 := zG.mk A50
    clear A50
    replace H := Option.bind_eq_some_iff.mp H
    obtain ⟨t115, A60, H⟩ := H
    replace H : (if 0 ≤ t114 then (some (wrap64 ((wrap64 ((wrap64 (shr .u64 t115 t114)) + 1)) + t114))) else (none)) = some r := H
    have A6 := zG.mk A60
    clear A60
    by_cases c7 : 0 ≤ t114
    · rw [if_pos c7] at H
      have c7b0 := eq_true c7
      have c7b1 : decide (0 ≤ t114) = true := decide_eq_true c7
      clear c7
      obtain ⟨ji8, hji8⟩ : ∃ j_ : Int, (shr .u64 t115 t114) = j_ := ⟨_, rfl⟩
      replace H : (some (wrap64 ((wrap64 ((wrap64 (ji8)) + 1)) + t114))) = some r := by first | (rw [hji8] at H; exact H) | (simp only [hji8] at H ⊢; exact H)
      (try rw [hji8] at A3)
      (try rw [hji8] at A5)
      (try rw [hji8] at A6)
      have hji8_ : (t115 / 2 ^ min t114.toNat 64) = ji8 := hji8
      have hji8z : t114 ≤ 64 → (t115 / 2 ^ t114.toNat) = ji8 := shr_small hji8
      obtain rfl := Option.some.inj H
      go_enter Try.func58, Try.ntmps58
      go_wp2_with (first | (go_at_call 47; (with_reducible refine (rice_Near_same a0 true _ A3.out).mono ?_); rintro e w9 ⟨rfl, rfl⟩) | (go_at_call 46; (with_reducible refine (rice_held_same a1 t114 _ A5.out).mono ?_); rintro e w9 ⟨rfl, rfl⟩) | (go_at_call 44; (with_reducible refine (rice_Fold_same a0 t115 _ A6.out).mono ?_); rintro e w9 ⟨rfl, rfl⟩))
      go_ret
      exact ⟨by first | rfl | (simp [errW_none, errW_some] <;> rfl) | (simp only [← hji8]; first | rfl | (simp [errW_none, errW_some] <;> rfl)) | (simp [*, errW_none, errW_some] <;> rfl), rfl⟩
    · rw [if_neg c7] at H
      exact absurd H (by simp)
  · replace c4 := Bool.eq_false_iff.mpr c4
    subst c4
    have H1 : (some (-1)) = some r := by rw [if_neg (show ¬ (false = true) by decide)] at H; exact H
    clear H
    have H := H1
    clear H1
    obtain rfl := Option.some.inj H
    go_enter Try.func58, Try.ntmps58
    go_wp2_with (first | (go_at_call 47; (with_reducible refine (rice_Near_same a0 false _ A3.out).mono ?_); rintro e w9 ⟨rfl, rfl⟩))
    go_ret
    exact ⟨by first | rfl | (simp [errW_none, errW_some] <;> rfl) | (simp [*, errW_none, errW_some] <;> rfl), rfl⟩
/-- Whole numbers as cells. -/
def iA (xs : List Int) : Array Value := (xs.map (Value.int .i64)).toArray
/-- What is known of a part: how many numbers, by each k the bits, the width. -/
def sumL (n : Int) (by_ : List Int) (wd : Int) : List Int := n :: (by_ ++ [wd])
def zs31 : List Int := List.replicate 31 0
theorem iA_size (xs : List Int) : (iA xs).size = xs.length := by simp [iA]
theorem iA_one (xs : List Int) : (iA xs).all (·.oneCell') = true := by
  unfold iA
  simp [Value.oneCell']
theorem bsome_ {α β : Type} (a : α) (f : α → Option β) : (some a).bind f = f a := by
  have h := Option.bind_some a f
  exact h
def sizeV (n k : Int) : Int := (rice_Size.f n k).getD 0
theorem rice_Size_some (n k : Int) : rice_Size.f n k = some (sizeV n k) := by
  have : ∃ b, rice_Size.f n k = some b := by
    unfold rice_Size.f
    have h1 : ∃ t, rice_Near.f n = some t := by unfold rice_Near.f; split <;> exact ⟨_, rfl⟩
    obtain ⟨t, ht⟩ := h1
    rw [ht, bsome_]
    cases t with
    | false => exact ⟨_, rfl⟩
    | true =>
      have h2 : rice_held.f k = some (mx 0 (mn k 30)) := rfl
      have h3 : ∃ u, rice_Fold.f n = some u := ⟨_, rfl⟩
      obtain ⟨u, hu⟩ := h3
      have h4 : 0 ≤ mx 0 (mn k 30) := by unfold mx; split <;> omega
      rw [if_pos rfl, h2, bsome_, hu, bsome_, if_pos h4]
      exact ⟨_, rfl⟩
  obtain ⟨b, hb⟩ := this
  unfold sizeV
  rw [hb]
  rfl
/-- The bits of some numbers by a k. -/
def sumBy (l : List Int) (k : Int) : Int := l.foldl (fun s n => wrap64 (s + sizeV n k)) 0
theorem sumBy_take (l : List Int) (k : Int) {q : Nat} (hq : q < l.length) : sumBy (l.take (q + 1)) k = wrap64 (sumBy (l.take q) k + sizeV (rd l (q : Int)) k) := by
  have e : rd l (q : Int) = l[q] := by simp [rd, List.getD_eq_getElem?_getD, List.getElem?_eq_getElem hq]
  unfold sumBy
  rw [List.take_succ_eq_append_getElem hq, List.foldl_append, e]
  rfl
/-- The bits by the first i k's. -/
def ysAt (l : List Int) (i : Nat) : List Int := (List.range 31).map fun j => if j < i then sumBy l (j : Int) else 0
theorem ysAt_len (l : List Int) (i : Nat) : (ysAt l i).length = 31 := by simp [ysAt]
theorem ysAt_0 (l : List Int) : ysAt l 0 = zs31 := by
  unfold ysAt zs31
  refine List.ext_getElem (by simp) fun j h1 h2 => ?_
  rw [List.getElem_replicate]
  simp
theorem ysAt_same (l : List Int) {i : Nat} : (ysAt l i).set i 0 = ysAt l i := by
  refine List.ext_getElem (by simp) fun j h1 h2 => ?_
  rw [List.getElem_set]
  split
  · rename_i h; subst h; simp [ysAt]
  · rfl
theorem ysAt_succ (l : List Int) {i : Nat} : (ysAt l i).set i (sumBy l (i : Int)) = ysAt l (i + 1) := by
  refine List.ext_getElem (by simp [ysAt]) fun j h1 h2 => ?_
  rw [List.getElem_set]
  split
  · rename_i h; subst h; simp [ysAt]
  · rename_i h
    simp only [ysAt, List.getElem_map, List.getElem_range]
    have : (j < i) ↔ (j < i + 1) := by omega
    simp [this]
theorem sz55 : (Try.prog.info? 87).map (·.size) = some 33 := by kernel_rfl
theorem iA_sum_size {n wd : Int} {ys : List Int} (h : ys.length = 31) : (Try.prog.info? 87).map (·.size) = some (iA (sumL n ys wd)).size := by
  rw [sz55, iA_size]; simp [sumL, h]
theorem sum_cell {W : World} {g : Nat} {n wd : Int} {ys : List Int} (hb : W.heap[g]? = some (.cells (iA (sumL n ys wd)) 87 (0, 0))) {i : Nat} (hi : i < ys.length) : W.cell? ⟨g, 1 + i, none⟩ = some (.int .i64 (ys.getD i 0)) := by
  refine (zN hb (1 + i)).trans ?_
  unfold iA sumL
  rw [Nat.add_comm]
  simp [List.getElem?_append_left, hi, List.getD_eq_getElem?_getD]
theorem sum_set {W : World} {g : Nat} {n wd : Int} {ys : List Int} (hb : W.heap[g]? = some (.cells (iA (sumL n ys wd)) 87 (0, 0))) {i : Nat} (hi : i < ys.length) (x : Int) : (W.setCell ⟨g, 1 + i, none⟩ (.int .i64 x)).heap[g]? = some (.cells (iA (sumL n (ys.set i x) wd)) 87 (0, 0)) := by
  have h := blk_set hb (1 + i) (.int .i64 x)
  refine h.trans ?_
  congr 2
  unfold iA sumL
  rw [Nat.add_comm]
  simp [List.set_append_left, hi, List.map_set]
set_option maxHeartbeats 8000000 in
set_option maxRecDepth 100000 in
theorem parts_of.calls (k : Nat) (A0 : Option Addr) (c0 : Nat) (l0 : List Int) (wd : Int) (w : World) (hr0 : Kd.C (Kd.int .i64) w A0 l0.length l0) (hc0 : l0.length ≤ c0) (h : cost_Width.f k l0 = some wd) :
    Calls Try.prog 56 #[.slice A0 l0.length c0] w fun e w' => e = .returned (.agg (iA (sumL (l0.length : Int) (ysAt l0 31) wd))) ∧ Below w.heap.size w w' := by
  have HR0 := zG.mk hr0
  have HC0 := zG.mk hc0
  have HW := zG.mk h
  have HL : l0.length ≤ 9223372036854775807 := hr0.2.1
  clear hr0 hc0 h
  go_enter Try.func56, Try.ntmps56
  go_upto_region 2 with (first
    | ((with_reducible refine gate_dst (N := 2) rfl ?_); refine box_event ?hg (N := 2) ?hd (cs := iA (sumL 0 zs31 0)) (t := 87) ?hr ?_; (case hd => rfl); (case hg => rfl); (case hr => go_simp; rfl); intro g2 hg2 w1 hbox2 hb1)
    | (go_at_call 36; (with_reducible refine (cost_Width.calls k _ _ l0 wd _ ?side1 HC0.out HW.out).mono ?_); (case side1 => exact Kd.C_below HR0.out hb1); rintro e w2 ⟨rfl, ⟨nd, rfl⟩⟩)
    | ((with_reducible refine gate_dst (N := 11) rfl ?_); refine event_run (v := .agg (iA (sumL (l0.length : Int) zs31 wd))) ?hg ?hr ?_; (case hg => rfl); (case hr => go_simp; rfl))
    | ((with_reducible refine gate_dst (N := 3) rfl ?_); refine box_event ?hg (N := 3) ?hd (cs := iA (sumL 0 zs31 0)) (t := 87) ?hr ?_; (case hd => rfl); (case hg => rfl); (case hr => go_simp; rfl); intro g3 hg3 w3 hbox3 hb3)
    | ((with_reducible refine gate_store (t := 87) (p := 3) rfl ?_); refine wpList_store_row rfl 87 _ _ rfl g3 (iA (sumL (l0.length : Int) zs31 wd)) rfl rfl 87 _ hbox3 (by kernel_rfl) rfl (iA_one _) ?_))
  subst hg2
  have hs2 := blk_lt hbox2
  have hb2 : (w1.drewN nd).heap.size = w1.heap.size := rfl
  have hne : w.heap.size ≠ g3 := by rw [hg3, hb2]; omega
  have hle3 : w.heap.size ≤ g3 := by rw [hg3, hb2]; omega
  obtain ⟨W0, hW0⟩ : ∃ W0, w3.setRow g3 (iA (sumL (l0.length : Int) zs31 wd)) = W0 := ⟨_, rfl⟩
  have hX : W0.heap[g3]? = some (.cells (iA (sumL (l0.length : Int) zs31 wd)) 87 (0, 0)) := by rw [← hW0]; exact setRow_heap _ _ _ _ _ _ hbox3
  have hX2 : W0.heap[w.heap.size]? = some (.cells (iA (sumL 0 zs31 0)) 87 (0, 0)) := by rw [← hW0, setRow_other _ _ _ _ hne]; exact blk_below (g := w.heap.size) (zL hbox2 nd) hb3
  have hBB : Below w.heap.size w W0 := by rw [← hW0]; exact below_setRow (below_step (zC hb1 nd) hb3) hle3 _
  rw [hW0]
  rw [← ysAt_0 l0] at hX
  have HX := zG.mk hX
  have HX2 := zG.mk hX2
  have HB := zG.mk hBB
  have HNE := zG.mk hne
  have HLE := zG.mk hle3
  clear hX hX2 hBB hW0 hg3 hbox2 hbox3 hb1 hb3 hs2 hb2 hne hle3
  go_wp2
  go_loopg [12] 31 (fun kq v12 w' => ∃ (i : Nat), v12 = .int .i64 (i : Int) ∧ zG (i + kq = 31) ∧ zG (w'.heap[g3]? = some (.cells (iA (sumL (l0.length : Int) (ysAt l0 i) wd)) 87 (0, 0))) ∧ zG (w'.heap[w.heap.size]? = some (.cells (iA (sumL 0 zs31 0)) 87 (0, 0))) ∧ zG (Below w.heap.size w w'))
  case atStart => exact ⟨0, rfl, ⟨by omega⟩, HX, HX2, HB⟩
  case round =>
    clear HX HX2 HB
    obtain ⟨i, rfl, HK, HX, HX2, HB⟩ := hrel
    by_cases hi : i < 31
    · have hq : decide ((i : Int) < 31) = true := decide_eq_true (by omega)
      go_wp2
      clear hq
      go_loopg [17] l0.length (fun kq v17 w' => ∃ (q : Nat), v17 = .int .i64 (q : Int) ∧ zG (q + kq = l0.length) ∧ zG (w'.heap[g3]? = some (.cells (iA (sumL (l0.length : Int) ((ysAt l0 i).set i (sumBy (l0.take q) (i : Int))) wd)) 87 (0, 0))) ∧ zG (w'.heap[w.heap.size]? = some (.cells (iA (sumL 0 zs31 0)) 87 (0, 0))) ∧ zG (Below w.heap.size w w'))
      case atStart => exact ⟨0, rfl, ⟨by omega⟩, ⟨by rw [List.take_zero]; show _ = some (Obj.cells (iA (sumL (l0.length : Int) ((ysAt l0 i).set i 0) wd)) 87 (0, 0)); rw [ysAt_same]; exact HX.out⟩, HX2, HB⟩
      case round =>
        clear HX HX2 HB
        obtain ⟨q, rfl, HK2, HX, HX2, HB⟩ := hrel
        by_cases hql : q < l0.length
        · have hq : decide ((q : Int) < (l0.length : Int)) = true := decide_eq_true (by omega)
          have p1 : 0 ≤ (q : Int) := by omega
          have q1 : (q : Int) < (l0.length : Int) := by omega
          obtain ⟨ad1, e1, hx1⟩ := Kd.at_int HR0.out (q : Int) p1 q1
          cases e1
          replace hx1 := (HB.out.cell (World.block_lt_of_cell? w _ hx1)).trans hx1
          simp only [Int.toNat_natCast] at hx1
          replace q1 := eq_true q1
          replace p1 := eq_true p1
          have hcell := sum_cell HX.out (i := i) (by rw [List.length_set, ysAt_len]; exact hi)
          have hget : ((ysAt l0 i).set i (sumBy (l0.take q) (i : Int))).getD i 0 = sumBy (l0.take q) (i : Int) := by simp [List.getD_eq_getElem?_getD, ysAt_len, hi]
          rw [hget] at hcell
          have hfz := zO HX.out (1 + i)
          have hi31 : decide ((i : Int) < 31) = true := decide_eq_true (by omega)
          have hiN : i < 31 := hi
          clear hget
          have hw1 : wrap64 ((q : Int) + 1) = ((q + 1 : Nat) : Int) := by unfold wrap64; omega
          have HW1 := zG.mk hw1
          clear hw1
          go_wp2
          go_region_with (go_at_call 58; refine (rice_Size_same (rd l0 (q : Int)) (i : Int) _ _ (rice_Size_some _ _)).mono ?_; rintro e w9 ⟨rfl, rfl⟩)
          all_goals
            go_wp2
            go_roundg (l0.length - (q + 1))
            case measure => have := HK2.out; omega
            case rel =>
              have hv : IntKind.i64.wrap (sumBy (l0.take q) (i : Int) + sizeV (rd l0 (q : Int)) (i : Int)) = sumBy (l0.take (q + 1)) (i : Int) := (i64_w _).trans (sumBy_take l0 (i : Int) hql).symm
              have h3 := sum_set HX.out (i := i) (by rw [List.length_set, ysAt_len]; exact hiN) (sumBy (l0.take (q + 1)) (i : Int))
              rw [List.set_set] at h3
              first | rw [hv] | rw [← sumBy_take l0 (i : Int) hql]
              exact ⟨q + 1, by first | rfl | (simp; done) | (simp [HW1.out]; done) | go_num, ⟨by omega⟩, ⟨zM h3⟩, ⟨zM (zP HX2.out HNE.out _)⟩, ⟨zD (zE HB.out HLE.out)⟩⟩
        · have hq : decide ((q : Int) < (l0.length : Int)) = false := decide_eq_false (by omega)
          obtain rfl : q = l0.length := by have := HK2.out; omega
          go_wp2
          go_roundg (31 - (i + 1))
          case measure => have := HK.out; omega
          case rel =>
            have h3 := HX.out
            rw [List.take_length, ysAt_succ] at h3
            exact ⟨i + 1, by first | rfl | (simp; done) | go_num, ⟨by omega⟩, ⟨h3⟩, HX2, HB⟩
    · have hq : decide ((i : Int) < 31) = false := decide_eq_false (by omega)
      obtain rfl : i = 31 := by have := HK.out; omega
      go_wp2_with (first
        | ((with_reducible refine gate_dst (N := 33) rfl ?_); refine wpList_load_row rfl 87 _ rfl g3 rfl 87 _ _ _ HX.out Try.underlying87 rfl (iA_sum_size (ysAt_len _ _)) ?_)
        | ((with_reducible refine gate_store (t := 87) (p := 2) rfl ?_); refine wpList_store_row rfl 87 _ _ rfl w.heap.size (iA (sumL (l0.length : Int) (ysAt l0 31) wd)) rfl rfl 87 _ HX2.out (iA_sum_size (ysAt_len _ _)) (by rw [iA_size, iA_size]; simp [sumL, zs31, ysAt_len]) (iA_one _) ?_))
      have hX5 := setRow_heap wr w.heap.size _ (iA (sumL (l0.length : Int) (ysAt l0 31) wd)) _ _ HX2.out
      refine bodyPost_ret (results_cell_row rfl _ _ w.heap.size 87 _ _ _ rfl hX5 Try.underlying87 rfl (iA_sum_size (ysAt_len _ _))) rfl ?_
      exact ⟨rfl, below_setRow HB.out (Nat.le_refl _) _⟩
set_option linter.unusedSimpArgs false
set_option linter.unusedVariables false
theorem sum_cell0 {W : World} {g : Nat} {n wd : Int} {ys : List Int} (hb : W.heap[g]? = some (.cells (iA (sumL n ys wd)) 87 (0, 0))) : W.cell? ⟨g, 0, none⟩ = some (.int .i64 n) := by
  refine (zN hb 0).trans ?_
  simp [iA, sumL]
theorem sum_cellw {W : World} {g : Nat} {n wd : Int} {ys : List Int} (hb : W.heap[g]? = some (.cells (iA (sumL n ys wd)) 87 (0, 0))) (hl : ys.length = 31) : W.cell? ⟨g, 32, none⟩ = some (.int .i64 wd) := by
  refine (zN hb 32).trans ?_
  unfold iA sumL
  simp [List.getElem?_append_right, hl]
theorem sum_set0 {W : World} {g : Nat} {n wd : Int} {ys : List Int} (hb : W.heap[g]? = some (.cells (iA (sumL n ys wd)) 87 (0, 0))) (x : Int) : (W.setCell ⟨g, 0, none⟩ (.int .i64 x)).heap[g]? = some (.cells (iA (sumL x ys wd)) 87 (0, 0)) := by
  refine (blk_set hb 0 (.int .i64 x)).trans ?_
  first | rfl | (congr 2; simp [iA, sumL])
theorem sum_setw {W : World} {g : Nat} {n wd : Int} {ys : List Int} (hb : W.heap[g]? = some (.cells (iA (sumL n ys wd)) 87 (0, 0))) (hl : ys.length = 31) (x : Int) : (W.setCell ⟨g, 32, none⟩ (.int .i64 x)).heap[g]? = some (.cells (iA (sumL n ys x)) 87 (0, 0)) := by
  refine (blk_set hb 32 (.int .i64 x)).trans ?_
  congr 2
  unfold iA sumL
  simp [List.set_append_right, hl]
/-- Bits of two parts, by the first i k's added. -/
def zAt (xs ys : List Int) (i : Nat) : List Int := (List.range 31).map fun j => if j < i then wrap64 (xs.getD j 0 + ys.getD j 0) else xs.getD j 0
theorem zAt_len (xs ys : List Int) (i : Nat) : (zAt xs ys i).length = 31 := by simp [zAt]
theorem zAt_0 (xs ys : List Int) (h : xs.length = 31) : zAt xs ys 0 = xs := by
  refine List.ext_getElem (by simp [zAt, h]) fun j h1 h2 => ?_
  simp [zAt, List.getD_eq_getElem?_getD, h2]
theorem zAt_get (xs ys : List Int) {i : Nat} (hi : i < 31) : (zAt xs ys i).getD i 0 = xs.getD i 0 := by
  simp [zAt, List.getD_eq_getElem?_getD, hi]
theorem zAt_succ (xs ys : List Int) {i : Nat} : (zAt xs ys i).set i (wrap64 (xs.getD i 0 + ys.getD i 0)) = zAt xs ys (i + 1) := by
  refine List.ext_getElem (by simp [zAt]) fun j h1 h2 => ?_
  rw [List.getElem_set]
  split
  · rename_i h; subst h; simp [zAt]
  · rename_i h
    simp only [zAt, List.getElem_map, List.getElem_range]
    have : (j < i) ↔ (j < i + 1) := by omega
    simp [this]
set_option maxHeartbeats 8000000 in
set_option maxRecDepth 100000 in
theorem parts_with.calls (n1 w1_ n2 w2_ : Int) (xs ys : List Int) (hx : xs.length = 31) (hy : ys.length = 31) (w : World) :
    Calls Try.prog 39 #[.agg (iA (sumL n1 xs w1_)), .agg (iA (sumL n2 ys w2_))] w fun e w' => e = .returned (.agg (iA (sumL (wrap64 (n1 + n2)) (zAt xs ys 31) (mx w1_ w2_)))) ∧ Below w.heap.size w w' := by
  have HLX := zG.mk hx
  have HLY := zG.mk hy
  clear hx hy
  go_enter Try.func39, Try.ntmps39
  go_upto_region 1 with (first
    | ((with_reducible refine gate_dst (N := 2) rfl ?_); refine box_event ?hg (N := 2) ?hd (cs := iA (sumL n1 xs w1_)) (t := 87) ?hr ?_; (case hd => rfl); (case hg => rfl); (case hr => go_loud (first | (go_simp; done) | (go_simp; rfl))); intro g2 hg2 w1 hbox2 hb1)
    | ((with_reducible refine gate_dst (N := 3) rfl ?_); refine box_event ?hg (N := 3) ?hd (cs := iA (sumL n2 ys w2_)) (t := 87) ?hr ?_; (case hd => rfl); (case hg => rfl); (case hr => go_loud (first | (go_simp; done) | (go_simp; rfl))); intro g3 hg3 w2 hbox3 hb2)
    | ((with_reducible refine gate_dst (N := 4) rfl ?_); refine box_event ?hg (N := 4) ?hd (cs := iA (sumL 0 zs31 0)) (t := 87) ?hr ?_; (case hd => rfl); (case hg => rfl); (case hr => go_loud (go_simp; rfl)); intro g4 hg4 w3 hbox4 hb3))
  have s2 := blk_lt hbox2
  have s3 := blk_lt hbox3
  have s4 := blk_lt hbox4
  have hB : Below w.heap.size w w3 := below_step (below_step hb1 hb2) hb3
  have hX2 := blk_below (g := g2) (blk_below (g := g2) hbox2 hb2) hb3
  have hX3 := blk_below (g := g3) hbox3 hb3
  have z1 := hb1.size
  have z2 := hb2.size
  have n23 : g2 ≠ g3 := by omega
  have n24 : g2 ≠ g4 := by omega
  have n34 : g3 ≠ g4 := by omega
  have l2 : w.heap.size ≤ g2 := by omega
  have l4 : w.heap.size ≤ g4 := by omega
  have HX2 := zG.mk hX2
  have HX3 := zG.mk hX3
  have HX4 := zG.mk hbox4
  have HB := zG.mk hB
  have N23 := zG.mk n23
  have N24 := zG.mk n24
  have N34 := zG.mk n34
  have L2 := zG.mk l2
  have L4 := zG.mk l4
  clear hX2 hX3 hbox2 hbox3 hbox4 hB n23 n24 n34 l2 l4 z1 z2 s2 s3 s4 hb1 hb2 hb3 hg2 hg3 hg4
  go_wp2
  go_loopg [6] 31 (fun kq v6 w' => ∃ (i : Nat), v6 = .int .i64 (i : Int) ∧ zG (i + kq = 31) ∧ zG (w'.heap[g2]? = some (.cells (iA (sumL n1 (zAt xs ys i) w1_)) 87 (0, 0))) ∧ zG (w'.heap[g3]? = some (.cells (iA (sumL n2 ys w2_)) 87 (0, 0))) ∧ zG (w'.heap[g4]? = some (.cells (iA (sumL 0 zs31 0)) 87 (0, 0))) ∧ zG (Below w.heap.size w w'))
  case atStart => exact ⟨0, rfl, ⟨by omega⟩, ⟨by rw [zAt_0 xs ys HLX.out]; exact HX2.out⟩, HX3, HX4, HB⟩
  case round =>
    clear HX2 HX3 HX4 HB
    obtain ⟨i, rfl, HK, HX2, HX3, HX4, HB⟩ := hrel
    by_cases hi : i < 31
    · have hq : decide ((i : Int) < 31) = true := decide_eq_true (by omega)
      have hc2 := sum_cell HX2.out (i := i) (by rw [zAt_len]; exact hi)
      rw [zAt_get xs ys hi] at hc2
      have hc3 := sum_cell HX3.out (i := i) (by rw [HLY.out]; exact hi)
      have hfz := zO HX2.out (1 + i)
      have hiN : i < 31 := hi
      go_wp2
      go_region
      all_goals
        go_wp2
        go_roundg (31 - (i + 1))
        case measure => have := HK.out; omega
        case rel =>
          have h3 := sum_set HX2.out (i := i) (by rw [zAt_len]; exact hiN) (wrap64 (xs.getD i 0 + ys.getD i 0))
          rw [zAt_succ] at h3
          simp only [List.getD_eq_getElem?_getD] at h3
          exact ⟨i + 1, by first | rfl | (simp; done) | go_num, ⟨by omega⟩, ⟨zM h3⟩, ⟨zM (zP HX3.out N23.out.symm _)⟩, ⟨zM (zP HX4.out N24.out.symm _)⟩, ⟨zD (zE HB.out L2.out)⟩⟩
    · have hq : decide ((i : Int) < 31) = false := decide_eq_false (by omega)
      obtain rfl : i = 31 := by have := HK.out; omega
      have c20 := sum_cell0 HX2.out
      have c30 := sum_cell0 HX3.out
      have f20 := zO HX2.out 0
      have c2w := sum_cellw HX2.out (zAt_len _ _ _)
      have c3w := sum_cellw HX3.out HLY.out
      have f2w := zO HX2.out 32
      go_upto_region 8 with (fail)
      obtain ⟨M, hM⟩ : ∃ M, (if w1_ < w2_ then w2_ else w1_) = M := ⟨_, rfl⟩
      rw [hM]
      have HM := zG.mk (show mx w1_ w2_ = M from hM)
      clear hM
      have h0 := sum_set0 HX2.out (wrap64 (n1 + n2))
      have hw := sum_setw h0 (zAt_len _ _ _) M
      obtain ⟨W5, hW5⟩ : ∃ W5, (wr.setCell ⟨g2, 0, none⟩ (.int .i64 (wrap64 (n1 + n2)))).setCell ⟨g2, 32, none⟩ (.int .i64 M) = W5 := ⟨_, rfl⟩
      have hX4 : W5.heap[g4]? = some (.cells (iA (sumL 0 zs31 0)) 87 (0, 0)) := by rw [← hW5]; exact zP (zP HX4.out N24.out.symm _) N24.out.symm _
      have hB5 : Below w.heap.size w W5 := by rw [← hW5]; exact zE (zE HB.out L2.out) L2.out
      rw [hW5] at hw ⊢
      have HW := zG.mk hw
      have HX5 := zG.mk hX4
      have HB5 := zG.mk hB5
      clear hw hX4 hB5 hW5 h0 c20 c30 f20 c2w c3w f2w
      go_wp2_with (first
        | ((with_reducible refine gate_dst (N := 33) rfl ?_); refine wpList_load_row rfl 87 _ rfl g2 rfl 87 _ _ _ HW.out Try.underlying87 rfl (iA_sum_size (zAt_len _ _ _)) ?_)
        | ((with_reducible refine gate_store (t := 87) (p := 4) rfl ?_); refine wpList_store_row rfl 87 _ _ rfl g4 (iA (sumL (wrap64 (n1 + n2)) (zAt xs ys 31) M)) rfl rfl 87 _ HX5.out (iA_sum_size (zAt_len _ _ _)) (by rw [iA_size, iA_size]; simp [sumL, zs31, zAt_len]) (iA_one _) ?_))
      have hX6 := setRow_heap W5 g4 _ (iA (sumL (wrap64 (n1 + n2)) (zAt xs ys 31) M)) _ _ HX5.out
      refine bodyPost_ret (results_cell_row rfl _ _ g4 87 _ _ _ rfl hX6 Try.underlying87 rfl (iA_sum_size (zAt_len _ _ _))) rfl ?_
      rw [HM.out]
      exact ⟨rfl, below_setRow HB5.out L4.out _⟩
set_option linter.unusedSimpArgs false
set_option linter.unusedVariables false
theorem results_cell_row_tmp {P : Program} {fn : Func} {p u : Tmp} {ty : TypeId} (h : fn.results = #[.cell p ty, .tmp u]) (tmps : Array Value) (w : World) (g : Nat) (t : TypeId) (cs : Array Value) (fr : Nat × Nat) (d : TypeDesc)
    (hp : tmps.getD p undef = .pointer (some ⟨g, 0, none⟩)) (hg : w.heap[g]? = some (.cells cs t fr))
    (hu : P.underlying ty = some d) (hd : (match d with | .struct _ | .array _ _ => true | _ => false) = true) (hi : (P.info? ty).map (·.size) = some cs.size) :
    (results fn tmps).run P w = .ok (.tuple #[.agg cs, tmps.getD u undef]) w := by
  have hp' : tmps[p]?.getD undef = .pointer (some ⟨g, 0, none⟩) := by simpa using hp
  simp [results, h, hp', asAddr, run_loadVar_row w g t ty cs fr d hg hu hd hi]
theorem results_cell_row_tmp2 {P : Program} {fn : Func} {p u v : Tmp} {ty : TypeId} (h : fn.results = #[.cell p ty, .tmp u, .tmp v]) (tmps : Array Value) (w : World) (g : Nat) (t : TypeId) (cs : Array Value) (fr : Nat × Nat) (d : TypeDesc)
    (hp : tmps.getD p undef = .pointer (some ⟨g, 0, none⟩)) (hg : w.heap[g]? = some (.cells cs t fr))
    (hu : P.underlying ty = some d) (hd : (match d with | .struct _ | .array _ _ => true | _ => false) = true) (hi : (P.info? ty).map (·.size) = some cs.size) :
    (results fn tmps).run P w = .ok (.tuple #[.agg cs, tmps.getD u undef, tmps.getD v undef]) w := by
  have hp' : tmps[p]?.getD undef = .pointer (some ⟨g, 0, none⟩) := by simpa using hp
  simp [results, h, hp', asAddr, run_loadVar_row w g t ty cs fr d hg hu hd hi]
/-- The best k of the first ones, and its bits. -/
def bestK (ys : List Int) : Nat → Int × Int
  | 0 => (0, ys.getD 0 0)
  | k + 1 => if ys.getD (k + 1) 0 < (bestK ys k).2 then (((k + 1 : Nat) : Int), ys.getD (k + 1) 0) else bestK ys k
def bestRaw (n wd : Int) : Int := wrap64 (5 + wrap64 (n * wd))
/-- A part's best way, and its bits. -/
def bestP (n : Int) (ys : List Int) (wd : Int) (m : Nat) : (Int × Bool) × Int :=
  if wd ≤ 31 ∧ bestRaw n wd < (bestK ys m).2 then ((wd, true), bestRaw n wd) else (((bestK ys m).1, false), (bestK ys m).2)
set_option maxHeartbeats 8000000 in
set_option maxRecDepth 100000 in
theorem parts_best.calls (n wd : Int) (ys : List Int) (hy : ys.length = 31) (m : Nat) (hm : m ≤ 30) (w : World) :
    Calls Try.prog 57 #[.agg (iA (sumL n ys wd)), .int .i64 (m : Int)] w fun e w' => e = .returned (.tuple #[.agg #[.int .i64 (bestP n ys wd m).1.1, .bool (bestP n ys wd m).1.2], .int .i64 (bestP n ys wd m).2]) ∧ Below w.heap.size w w' := by
  have HLY := zG.mk hy
  clear hy
  go_enter Try.func57, Try.ntmps57
  go_upto_region 1 with (first
    | ((with_reducible refine gate_dst (N := 2) rfl ?_); refine box_event ?hg (N := 2) ?hd (cs := iA (sumL n ys wd)) (t := 87) ?hr ?_; (case hd => rfl); (case hg => rfl); (case hr => go_loud (first | (go_simp; done) | (go_simp; rfl))); intro g2 hg2_ w1 hbox2 hb1; have G2 := zG.mk hg2_; clear hg2_)
    | ((with_reducible refine gate_dst (N := 4) rfl ?_); refine box_event ?hg (N := 4) ?hd (cs := #[.int .i64 0, .bool false]) (t := 50) ?hr ?_; (case hd => rfl); (case hg => rfl); (case hr => go_loud (first | (go_simp; done) | (go_simp; rfl))); intro g4 hg4_ w2 hbox4 hb2; have G4 := zG.mk hg4_; clear hg4_))
  have hg2 := G2.out
  have hg4 := G4.out
  clear G2 G4
  have s2 := blk_lt hbox2
  have s4 := blk_lt hbox4
  have hB : Below w.heap.size w w2 := below_step hb1 hb2
  have hX2 := blk_below (g := g2) hbox2 hb2
  have z1 := hb1.size
  have l4 : w.heap.size ≤ g4 := by omega
  have HX2 := zG.mk hX2
  have HX4 := zG.mk hbox4
  have HB := zG.mk hB
  have L4 := zG.mk l4
  clear hX2 hbox2 hbox4 hB l4 z1 s2 s4 hb1 hb2 hg2 hg4
  have hc2 := sum_cell HX2.out (i := 0) (by rw [HLY.out]; decide)
  simp only [Nat.add_zero] at hc2
  have hc2a : ∀ o : Obj, (w2.alloc o).cell? ⟨g2, 1, none⟩ = some (.int .i64 (ys.getD 0 0)) := fun o => by
    have h := sum_cell (zK HX2.out o) (i := 0) (by rw [HLY.out]; decide)
    simpa only [Nat.add_zero] using h
  simp only [List.getD_eq_getElem?_getD] at hc2 hc2a
  go_region
  have hle := HB.out.size
  obtain ⟨g6, hg6⟩ : ∃ g6, w2.heap.size = g6 := ⟨_, rfl⟩
  obtain ⟨W0, hW0⟩ : ∃ W0, (w2.alloc (Obj.cells #[Value.int .i64 0, Value.bool false] 50)).drew = W0 := ⟨_, rfl⟩
  have x2 := zM (zK HX2.out (Obj.cells #[Value.int .i64 0, Value.bool false] 50))
  have x4 := zM (zK HX4.out (Obj.cells #[Value.int .i64 0, Value.bool false] 50))
  have x6 := zM (blk_new w2 (Obj.cells #[Value.int .i64 0, Value.bool false] 50))
  have hBw := zD (zF HB.out (Obj.cells #[Value.int .i64 0, Value.bool false] 50))
  have t2 := blk_lt HX2.out
  have t4 := blk_lt HX4.out
  rw [hW0] at x2 x4 x6 hBw ⊢
  rw [hg6] at x6 ⊢
  have n26 : g2 ≠ g6 := by omega
  have n46 : g4 ≠ g6 := by omega
  have l6 : w.heap.size ≤ g6 := by omega
  clear HX2 HX4 HB hc2 hc2a
  have HX2 := zG.mk x2
  have HX4 := zG.mk x4
  have HX6 := zG.mk x6
  have HB := zG.mk hBw
  have N26 := zG.mk n26
  have N46 := zG.mk n46
  have L6 := zG.mk l6
  clear x2 x4 x6 hBw n26 n46 l6 t2 t4 hW0 hg6 hle
  go_wp2
  go_loopg [7, 8] m (fun kq v7 v8 w' => ∃ (i : Nat), v7 = .int .i64 (bestK ys i).2 ∧ v8 = .int .i64 ((i + 1 : Nat) : Int) ∧ zG (i + kq = m) ∧ zG (w'.heap[g2]? = some (.cells (iA (sumL n ys wd)) 87 (0, 0))) ∧ zG (w'.heap[g4]? = some (.cells #[.int .i64 0, .bool false] 50 (0, 0))) ∧ zG (w'.heap[g6]? = some (.cells #[.int .i64 (bestK ys i).1, .bool false] 50 (0, 0))) ∧ zG (Below w.heap.size w w'))
  case atStart => exact ⟨0, by first | rfl | simp [bestK, List.getD_eq_getElem?_getD], rfl, ⟨by omega⟩, HX2, HX4, HX6, HB⟩
  case round =>
    clear HX2 HX4 HX6 HB
    obtain ⟨i, rfl, rfl, HK, HX2, HX4, HX6, HB⟩ := hrel
    have hKm := HK.out
    by_cases hi : i < m
    · have hq : decide (((i + 1 : Nat) : Int) ≤ (m : Int)) = true := decide_eq_true (by omega)
      have h31 : i + 1 < 31 := by omega
      have hc2 := sum_cell HX2.out (i := i + 1) (by rw [HLY.out]; exact h31)
      have hc60 : wr.cell? ⟨g6, 0, none⟩ = some (.int .i64 (bestK ys i).1) := (zN HX6.out 0).trans rfl
      have hc61 : wr.cell? ⟨g6, 1, none⟩ = some (.bool false) := (zN HX6.out 1).trans rfl
      have hf60 := zO HX6.out 0
      have hf61 := zO HX6.out 1
      have n26 := N26.out
      by_cases hb : ys.getD (i + 1) 0 < (bestK ys i).2
      · have hbd : decide (ys.getD (i + 1) 0 < (bestK ys i).2) = true := decide_eq_true hb
        have hbk : bestK ys (i + 1) = (((i + 1 : Nat) : Int), ys.getD (i + 1) 0) := by rw [bestK, if_pos hb]
        have HBK := zG.mk hbk
        clear hbk hb
        obtain ⟨Y, hY⟩ : ∃ Y, ys.getD (i + 1) 0 = Y := ⟨_, rfl⟩
        rw [hY] at hc2 hbd
        have HY := zG.mk hY
        clear hY
        go_wp2
        go_region
        go_wp2
        go_roundg (m - (i + 1))
        case measure => omega
        case rel =>
          have x6 : ((wr.setCell ⟨g6, 0, none⟩ (.int .i64 ((i : Int) + 1))).setCell ⟨g6, 1, none⟩ (.bool false)).heap[g6]? = some (.cells #[.int .i64 ((i : Int) + 1), .bool false] 50 (0, 0)) := (blk_set (blk_set HX6.out 0 (.int .i64 ((i : Int) + 1))) 1 (.bool false)).trans (by simp)
          have hbk := HBK.out
          rw [HY.out] at hbk
          refine ⟨i + 1, by rw [hbk], by first | rfl | (simp; done) | go_num, ⟨by omega⟩, ⟨zM (zP (zP HX2.out N26.out _) N26.out _)⟩, ⟨zM (zP (zP HX4.out N46.out _) N46.out _)⟩, ⟨zM (x6.trans ?_)⟩, ⟨zD (zE (zE HB.out L6.out) L6.out)⟩⟩
          rw [hbk]
          rfl
      · have hbd : decide (ys.getD (i + 1) 0 < (bestK ys i).2) = false := decide_eq_false hb
        have hbk : bestK ys (i + 1) = bestK ys i := by rw [bestK, if_neg hb]
        have HBK := zG.mk hbk
        clear hbk hb
        obtain ⟨Y, hY⟩ : ∃ Y, ys.getD (i + 1) 0 = Y := ⟨_, rfl⟩
        rw [hY] at hc2 hbd
        clear hY
        go_wp2
        go_roundg (m - (i + 1))
        case measure => omega
        case rel => exact ⟨i + 1, by rw [HBK.out], by first | rfl | (simp; done) | go_num, ⟨by omega⟩, HX2, HX4, ⟨by rw [HBK.out]; exact HX6.out⟩, HB⟩
    · have hq : decide (((i + 1 : Nat) : Int) ≤ (m : Int)) = false := decide_eq_false (by omega)
      obtain rfl : i = m := by omega
      clear hKm
      have hc20 := sum_cell0 HX2.out
      have hc2w := sum_cellw HX2.out HLY.out
      have hc60 : wr.cell? ⟨g6, 0, none⟩ = some (.int .i64 (bestK ys i).1) := (zN HX6.out 0).trans rfl
      have hc61 : wr.cell? ⟨g6, 1, none⟩ = some (.bool false) := (zN HX6.out 1).trans rfl
      have hf60 := zO HX6.out 0
      have hf61 := zO HX6.out 1
      have hc40 : wr.cell? ⟨g4, 0, none⟩ = some (.int .i64 0) := (zN HX4.out 0).trans rfl
      have hc41 : wr.cell? ⟨g4, 1, none⟩ = some (.bool false) := (zN HX4.out 1).trans rfl
      have hf40 := zO HX4.out 0
      have hf41 := zO HX4.out 1
      have n46 := N46.out
      have n64 := N46.out.symm
      obtain ⟨R, hR⟩ : ∃ R, wrap64 (5 + wrap64 (n * wd)) = R := ⟨_, rfl⟩
      by_cases h1 : wd ≤ 31 ∧ R < (bestK ys i).2
      · have d1 : decide (wd ≤ 31) = true := decide_eq_true h1.1
        have d2 : decide (R < (bestK ys i).2) = true := decide_eq_true h1.2
        have hbp : bestP n ys wd i = ((wd, true), R) := by unfold bestP bestRaw; rw [hR, if_pos h1]
        have HBP := zG.mk hbp
        clear h1 hbp
        go_wp2
        have x4 : ((((wr.setCell ⟨g6, 0, none⟩ (.int .i64 wd)).setCell ⟨g6, 1, none⟩ (.bool true)).setCell ⟨g4, 0, none⟩ (.int .i64 wd)).setCell ⟨g4, 1, none⟩ (.bool true)).heap[g4]? = some (.cells #[.int .i64 wd, .bool true] 50 (0, 0)) := (blk_set (blk_set (zP (zP HX4.out N46.out _) N46.out _) 0 (.int .i64 wd)) 1 (.bool true)).trans (by simp)
        have hb4 : Below w.heap.size w ((((wr.setCell ⟨g6, 0, none⟩ (.int .i64 wd)).setCell ⟨g6, 1, none⟩ (.bool true)).setCell ⟨g4, 0, none⟩ (.int .i64 wd)).setCell ⟨g4, 1, none⟩ (.bool true)) := zE (zE (zE (zE HB.out L6.out) L6.out) L4.out) L4.out
        refine bodyPost_ret (results_cell_row_tmp rfl _ _ g4 50 _ _ _ rfl x4 Try.underlying50 rfl rfl) rfl ?_
        rw [HBP.out]
        refine ⟨?_, hb4⟩
        simp [hR]
      · have hbp : bestP n ys wd i = (((bestK ys i).1, false), (bestK ys i).2) := by unfold bestP bestRaw; rw [hR, if_neg h1]
        have HBP := zG.mk hbp
        by_cases h2 : wd ≤ 31
        · have h3 : ¬ R < (bestK ys i).2 := fun h => h1 ⟨h2, h⟩
          have d1 : decide (wd ≤ 31) = true := decide_eq_true h2
          have d2 : decide (R < (bestK ys i).2) = false := decide_eq_false h3
          clear h1 h2 h3 hbp
          go_wp2
          have x4 : ((wr.setCell ⟨g4, 0, none⟩ (.int .i64 (bestK ys i).1)).setCell ⟨g4, 1, none⟩ (.bool false)).heap[g4]? = some (.cells #[.int .i64 (bestK ys i).1, .bool false] 50 (0, 0)) := (blk_set (blk_set HX4.out 0 (.int .i64 (bestK ys i).1)) 1 (.bool false)).trans (by simp)
          have hb4 : Below w.heap.size w ((wr.setCell ⟨g4, 0, none⟩ (.int .i64 (bestK ys i).1)).setCell ⟨g4, 1, none⟩ (.bool false)) := zE (zE HB.out L4.out) L4.out
          refine bodyPost_ret (results_cell_row_tmp rfl _ _ g4 50 _ _ _ rfl x4 Try.underlying50 rfl rfl) rfl ?_
          rw [HBP.out]
          refine ⟨?_, hb4⟩
          simp
        · have d1 : decide (wd ≤ 31) = false := decide_eq_false h2
          clear h1 h2 hbp
          go_wp2
          have x4 : ((wr.setCell ⟨g4, 0, none⟩ (.int .i64 (bestK ys i).1)).setCell ⟨g4, 1, none⟩ (.bool false)).heap[g4]? = some (.cells #[.int .i64 (bestK ys i).1, .bool false] 50 (0, 0)) := (blk_set (blk_set HX4.out 0 (.int .i64 (bestK ys i).1)) 1 (.bool false)).trans (by simp)
          have hb4 : Below w.heap.size w ((wr.setCell ⟨g4, 0, none⟩ (.int .i64 (bestK ys i).1)).setCell ⟨g4, 1, none⟩ (.bool false)) := zE (zE HB.out L4.out) L4.out
          refine bodyPost_ret (results_cell_row_tmp rfl _ _ g4 50 _ _ _ rfl x4 Try.underlying50 rfl rfl) rfl ?_
          rw [HBP.out]
          refine ⟨?_, hb4⟩
          simp
set_option linter.unusedSimpArgs false
set_option linter.unusedVariables false
theorem wpList_load_at {P : Program} {ops : Array Oper} {rest : List Oper} {op : Oper} {a : Act} {w : World} {Q : Exit → Act → World → Prop} (hgd : op.guard = none) (ty : TypeId) (x : Operand) (ho : op.op = .load ty x)
    (ad : Addr) (hx : a.eval x = .pointer (some ad)) (cs : List Value) (C : Array Value) (hC : cs.toArray = C) (d : TypeDesc) (hc : ∀ j v, cs[j]? = some v → w.cell? (ad.add j) = some v)
    (hu : P.underlying ty = some d) (hd : d.isRow = true) (hi : (P.info? ty).map (·.size) = some cs.length)
    (h : wpList P ops Q rest (a.put op.dst (.agg C)) w) : wpList P ops Q (op :: rest) a w := by
  subst hC
  refine wpList_plain hgd fun _ hK => ?_
  have hl : (loadCells ad cs.length).run P w = .ok cs.toArray w := run_loadCells_list (P := P) w ad cs hc
  have hv : (loadVar ty ad).run P w = .ok (.agg cs.toArray) w := by
    cases hq : P.info? ty with
    | none => simp [hq] at hi
    | some i =>
      have hs : i.size = cs.length := by simpa [hq] using hi
      have hagg : (isAgg ty).run P w = .ok true w := by
        unfold isAgg
        rw [Sem.run_bind, run_underlying hu w]
        cases d <;> simp_all
      simp [loadVar, Sem.run_bind, hagg, sizeOf, typeInfo, hq, hs, hl]
  unfold Oper.wp execOp
  simp only [ho, hx, Instr.loadAt, Instr.sureAddr, Sem.run_bind, Sem.run_pure, Result.andThen_ok, hv]
  exact hK _ _ h
theorem sz26 : (Try.prog.info? 25).map (·.size) = some 3 := by kernel_rfl
theorem sz39 : (Try.prog.info? 50).map (·.size) = some 2 := by kernel_rfl
/-- What is known of a part. -/
structure Sm where
  n : Int
  ys : List Int
  wd : Int
def Sm.c (s : Sm) : List Value := (sumL s.n s.ys s.wd).map (Value.int .i64)
theorem Sm.c_len {s : Sm} (h : s.ys.length = 31) : s.c.length = 33 := by simp [Sm.c, sumL, h]
def kS : Kd Sm where
  sz := 33
  E := []
  K := fun _ x cs => cs = x.c ∧ x.ys.length = 31
  M := fun _ _ _ x cs => cs = x.c ∧ x.ys.length = 31
  K_len := fun h => by rw [h.1]; exact Sm.c_len h.2
  K_one := fun h u hu => by
    rw [h.1] at hu
    obtain ⟨v, _, rfl⟩ := List.mem_map.1 hu
    rfl
  K_below := fun _ h => h
  K_of_M := fun h => h
  M_mono := fun _ h => h
  M_bound := fun h => h
  M_move := fun _ h => h
  M_lower := fun _ h => h
def zSm : Sm := ⟨0, zs31, 0⟩
theorem kS_at {w : World} {A : Option Addr} {n : Nat} {xs : List Sm} (h : Kd.C kS w A n xs) (i : Nat) (hi : i < n) : ∃ ad, A = some ad ∧ (xs.getD i zSm).ys.length = 31 ∧ ∀ j u, (xs.getD i zSm).c[j]? = some u → w.cell? (ad.add (i * 33 + j)) = some u := by
  obtain ⟨ad, c, hA, _, hk, hc⟩ := Kd.C_get h zSm (i : Int) (by omega) (by omega)
  simp only [Int.toNat_natCast] at hk hc
  obtain ⟨rfl, h31⟩ := hk
  exact ⟨ad, hA, h31, hc⟩
/-- A part's best way, by the greatest k. -/
def partOf (s : Sm) (m : Nat) : S50 := ⟨(bestP s.n s.ys s.wd m).1.1, (bestP s.n s.ys s.wd m).1.2⟩
def bitsOf (s : Sm) (m : Nat) : Int := (bestP s.n s.ys s.wd m).2
def mostOf (wide : Bool) : Nat := if wide then 30 else 14
def sizeOf_ (wide : Bool) : Int := if wide then 5 else 4
def planParts (l : List Sm) (wide : Bool) : List S50 := l.map (fun s => partOf s (mostOf wide))
def planAdd (wide : Bool) (n : Int) (s : Sm) : Int := wrap64 (n + wrap64 (sizeOf_ wide + bitsOf s (mostOf wide)))
def planBits (l : List Sm) (wide : Bool) : Int := l.foldl (planAdd wide) 6
theorem take_succ_s {l : List Sm} {i : Nat} (h : i < l.length) : l.take (i + 1) = l.take i ++ [l.getD i zSm] := by
  rw [List.take_add_one, List.getD_eq_getElem?_getD, List.getElem?_eq_getElem h]
  rfl
theorem planBits_succ {l : List Sm} {i : Nat} (h : i < l.length) (wide : Bool) : planBits (l.take (i + 1)) wide = planAdd wide (planBits (l.take i) wide) (l.getD i zSm) := by
  rw [take_succ_s h]; unfold planBits; rw [List.foldl_append]; rfl
theorem planParts_succ {l : List Sm} {i : Nat} (h : i < l.length) (wide : Bool) : planParts (l.take (i + 1)) wide = planParts (l.take i) wide ++ [partOf (l.getD i zSm) (mostOf wide)] := by
  rw [take_succ_s h]; unfold planParts; rw [List.map_append]; rfl
theorem wrapn {i : Nat} (h : i < 8796093022208) : wrap64 ((i : Int) + 1) = (i : Int) + 1 := by unfold wrap64; omega
set_option maxHeartbeats 8000000 in
set_option maxRecDepth 100000 in
theorem parts_plan.calls (A : Option Addr) (c : Nat) (l : List Sm) (o : Int) (wide : Bool) (w : World) (hr : Kd.C kS w A l.length l) (hc : l.length ≤ c) (hl : l.length < 8796093022208) :
    Calls Try.prog 38 #[.slice A l.length c, .int .i64 o, .bool wide] w fun e w' => ∃ v : Value, e = .returned (.tuple #[.agg #[.bool wide, .int .i64 o, v], .int .i64 (planBits l wide)]) ∧ Kd.R k50 50 w' w.heap.size (fun _ => True) v (planParts l wide) ∧ Below w.heap.size w w' := by
  have HR := zG.mk hr
  have HL := zG.mk hl
  clear hr hl
  go_enter Try.func38, Try.ntmps38
  have htop : parts_top.f wide = some ((mostOf wide : Int), sizeOf_ wide) := by cases wide <;> rfl
  have HT := zG.mk htop
  have HM := zG.mk (show mostOf wide ≤ 30 by cases wide <;> decide)
  clear htop
  obtain ⟨m, hm⟩ : ∃ m, mostOf wide = m := ⟨_, rfl⟩
  rw [hm] at HT HM
  have HMM := zG.mk hm
  clear hm
  go_upto_region 2 with (first
    | ((with_reducible refine gate_dst (N := 6) rfl ?_); refine box_event ?hg (N := 6) ?hd (cs := #[.bool false, .int .i64 0, .slice none 0 0]) (t := 25) ?hr ?_; (case hd => rfl); (case hg => rfl); (case hr => go_loud (first | (go_simp; done) | (go_simp; rfl))); intro g6 hg6_ w1 hbox6 hb1; have G6 := zG.mk hg6_; clear hg6_; have X6 := zG.mk hbox6; have B1 := zG.mk hb1; clear hbox6 hb1)
    | (go_at_call 29; (refine (parts_top.calls wide (m : Int) (sizeOf_ wide) _ HT.out).mono ?_); rintro e w9 ⟨rfl, ⟨nd, rfl⟩⟩))
  go_wp2_with (first
    | ((with_reducible refine gate_dst (N := 10) rfl ?_); refine box_event ?hg (N := 10) ?hd (cs := #[.bool false, .int .i64 0, .slice none 0 0]) (t := 25) ?hr ?_; (case hd => rfl); (case hg => rfl); (case hr => go_loud (first | (go_simp; done) | (go_simp; rfl))); intro g10 hg10_ w2 hbox10 hb2; have G10 := zG.mk hg10_; clear hg10_; have X10 := zG.mk hbox10; have B2 := zG.mk hb2; clear hbox10 hb2)
    | ((with_reducible refine gate_store (t := 25) (p := 10) rfl ?_); refine wpList_store_row rfl 25 _ _ rfl g10 #[.bool wide, .int .i64 o, .slice none 0 0] rfl rfl 25 _ X10.out sz26 rfl (by simp [Value.oneCell']) ?_))
  have z1 := blk_lt X6.out
  have hg6 := G6.out
  have hg10 : g10 = w1.heap.size := G10.out
  have zz := B1.out.size
  have n610 : g6 ≠ g10 := by omega
  have l6 : w.heap.size ≤ g6 := by omega
  have l10 : w.heap.size ≤ g10 := by omega
  have hX6 : (w2.setRow g10 #[Value.bool wide, Value.int IntKind.i64 o, Value.slice none 0 0]).heap[g6]? = some (.cells #[.bool false, .int .i64 0, .slice none 0 0] 25 (0, 0)) := (setRow_other w2 g10 g6 _ n610).trans (blk_below (zL X6.out nd) B2.out)
  have hX10 := setRow_heap w2 g10 _ #[Value.bool wide, Value.int IntKind.i64 o, Value.slice none 0 0] _ _ X10.out
  have hB : Below w.heap.size w (w2.setRow g10 #[Value.bool wide, Value.int IntKind.i64 o, Value.slice none 0 0]) := below_setRow (below_step (zC B1.out nd) B2.out) l10 _
  obtain ⟨W3, hW3⟩ : ∃ W3, w2.setRow g10 #[Value.bool wide, Value.int IntKind.i64 o, Value.slice none 0 0] = W3 := ⟨_, rfl⟩
  rw [hW3] at hX6 hX10 hB ⊢
  have hO := Kd.R_nil k50 50 W3 w.heap.size (fun _ => True)
  clear X6 X10 B1 B2 G6 G10 hg6 hg10 zz z1 hW3
  have HX6 := zG.mk hX6
  have HX10 := zG.mk hX10
  have HB := zG.mk hB
  have HO := zG.mk hO
  have N610 := zG.mk n610
  have L6 := zG.mk l6
  have L10 := zG.mk l10
  clear hX6 hX10 hB hO n610 l6 l10
  go_loopg [11, 26] l.length (fun kq v11 v26 w' => ∃ (i : Nat) (v : Value), v11 = .int .i64 (planBits (l.take i) wide) ∧ v26 = .int .i64 (i : Int) ∧ zG (i + kq = l.length) ∧ zG (w'.heap[g6]? = some (.cells #[.bool false, .int .i64 0, .slice none 0 0] 25 (0, 0))) ∧ zG (w'.heap[g10]? = some (.cells #[.bool wide, .int .i64 o, v] 25 (0, 0))) ∧ zG (Kd.R k50 50 w' w.heap.size (fun _ => True) v (planParts (l.take i) wide)) ∧ zG (Below w.heap.size w w'))
  case atStart => exact ⟨0, _, rfl, rfl, ⟨by omega⟩, HX6, HX10, HO, HB⟩
  case round =>
    clear HX6 HX10 HO HB
    obtain ⟨i, v, rfl, rfl, HK, HX6, HX10, HO, HB⟩ := hrel
    by_cases hi : i < l.length
    · have hq : decide ((i : Int) < (l.length : Int)) = true := decide_eq_true (by omega)
      obtain ⟨ad, rfl, h31, hcell⟩ := kS_at (Kd.C_below HR.out HB.out) i hi
      obtain ⟨s, hs⟩ : ∃ s, l.getD i zSm = s := ⟨_, rfl⟩
      rw [hs] at h31 hcell
      have HS := zG.mk hs
      have H31 := zG.mk h31
      have HC := zG.mk hcell
      have HI := zG.mk hi
      clear hs h31 hcell
      go_upto_region 5 with (fail)
      go_upto_region 6 with (first
        | ((with_reducible refine gate_dst (N := 29) rfl ?_); refine wpList_load_at rfl 87 _ rfl (ad.add (i * 33)) rfl s.c (iA (sumL s.n s.ys s.wd)) rfl _ (fun j u hj => by rw [Addr.add_add]; exact HC.out j u hj) Try.underlying87 rfl (by rw [Sm.c_len H31.out]; exact sz55) ?_)
        | ((with_reducible refine gate_dst (N := 13) rfl ?_); refine box_event ?hg (N := 13) ?hd (cs := iA (sumL 0 zs31 0)) (t := 87) ?hr ?_; (case hd => rfl); (case hg => rfl); (case hr => go_loud (first | (go_simp; done) | (go_simp; rfl))); intro g13 hg13_ w4 hbox13 hb4; have G13 := zG.mk hg13_; clear hg13_; have X13 := zG.mk hbox13; have B4 := zG.mk hb4; clear hbox13 hb4)
        | ((with_reducible refine gate_store (t := 87) (p := 13) rfl ?_); refine wpList_store_row rfl 87 _ _ rfl g13 (iA (sumL s.n s.ys s.wd)) rfl rfl 87 _ X13.out (iA_sum_size H31.out) (by rw [iA_size, iA_size]; simp [sumL, zs31, H31.out]) (iA_one _) ?_))
      have hX13 := setRow_heap w4 g13 _ (iA (sumL s.n s.ys s.wd)) _ _ X13.out
      have hg13 := G13.out
      have zb := HB.out.size
      have l13 : w.heap.size ≤ g13 := by omega
      have zi6 := blk_lt HX6.out
      have zi10 := blk_lt HX10.out
      have n6 : g6 ≠ g13 := by omega
      have n10 : g10 ≠ g13 := by omega
      have hX6 := (setRow_other w4 g13 g6 (iA (sumL s.n s.ys s.wd)) n6).trans (blk_below HX6.out B4.out)
      have hX10 := (setRow_other w4 g13 g10 (iA (sumL s.n s.ys s.wd)) n10).trans (blk_below HX10.out B4.out)
      have hB4 : Below wr.heap.size wr (w4.setRow g13 (iA (sumL s.n s.ys s.wd))) := below_setRow B4.out (by omega) _
      have hO := Kd.R_below HO.out hB4
      have hB := below_step HB.out hB4
      obtain ⟨W5, hW5⟩ : ∃ W5, w4.setRow g13 (iA (sumL s.n s.ys s.wd)) = W5 := ⟨_, rfl⟩
      rw [hW5] at hX13 hX6 hX10 hB4 hO hB ⊢
      clear X13 B4 G13 hW5 hB4 HX6 HX10 HO HB zb zi6 zi10 hg13
      have HX13 := zG.mk hX13
      have HX6 := zG.mk hX6
      have HX10 := zG.mk hX10
      have HO := zG.mk hO
      have HB := zG.mk hB
      clear hX13 hX6 hX10 hO hB
      go_upto_region 7 with (first
        | ((with_reducible refine gate_dst (N := 31) rfl ?_); refine wpList_load_row rfl 87 _ rfl g13 rfl 87 _ _ _ HX13.out Try.underlying87 rfl (iA_sum_size H31.out) ?_)
        | (go_at_call 57; (refine (parts_best.calls s.n s.wd s.ys H31.out m HM.out _).mono ?_); rintro e w6 ⟨rfl, hb6⟩; have B6 := zG.mk hb6; clear hb6)
        | ((with_reducible refine gate_dst (N := 14) rfl ?_); refine box_event ?hg (N := 14) ?hd (cs := #[.int .i64 0, .bool false]) (t := 50) ?hr ?_; (case hd => rfl); (case hg => rfl); (case hr => go_loud (first | (go_simp; done) | (go_simp; rfl))); intro g14 hg14_ w7 hbox14 hb7; have G14 := zG.mk hg14_; clear hg14_; have X14 := zG.mk hbox14; have B7 := zG.mk hb7; clear hbox14 hb7)
        | ((with_reducible refine gate_store (t := 50) (p := 14) rfl ?_); refine wpList_store_row rfl 50 _ _ rfl g14 #[.int .i64 (bestP s.n s.ys s.wd m).1.1, .bool (bestP s.n s.ys s.wd m).1.2] rfl rfl 50 _ X14.out sz39 rfl (by simp [Value.oneCell']) ?_))
      have hg14 := G14.out
      have zb := HB.out.size
      have zb6 := B6.out.size
      have zi6 := blk_lt HX6.out
      have zi10 := blk_lt HX10.out
      have l14 : w.heap.size ≤ g14 := by omega
      have n6 : g6 ≠ g14 := by omega
      have n10 : g10 ≠ g14 := by omega
      have hb8 := below_setRow (below_step B6.out B7.out) (by omega : W5.heap.size ≤ g14) #[.int .i64 (bestP s.n s.ys s.wd m).1.1, .bool (bestP s.n s.ys s.wd m).1.2]
      have hX6 := blk_below HX6.out hb8
      have hX10 := blk_below HX10.out hb8
      have hX14 := setRow_heap w7 g14 _ #[.int .i64 (bestP s.n s.ys s.wd m).1.1, .bool (bestP s.n s.ys s.wd m).1.2] _ _ X14.out
      have hO := Kd.R_below HO.out hb8
      have hB := below_step HB.out hb8
      obtain ⟨W8, hW8⟩ : ∃ W8, w7.setRow g14 #[.int .i64 (bestP s.n s.ys s.wd m).1.1, .bool (bestP s.n s.ys s.wd m).1.2] = W8 := ⟨_, rfl⟩
      rw [hW8] at hX14 hX6 hX10 hb8 hO hB ⊢
      have hc10 : W8.cell? ⟨g10, 2, none⟩ = some v := (zN hX10 2).trans rfl
      have hc140 : W8.cell? ⟨g14, 0, none⟩ = some (.int .i64 (bestP s.n s.ys s.wd m).1.1) := (zN hX14 0).trans rfl
      have hc141 : W8.cell? ⟨g14, 1, none⟩ = some (.bool (bestP s.n s.ys s.wd m).1.2) := (zN hX14 1).trans rfl
      clear X14 B7 G14 hW8 hb8 HX6 HX10 HX13 HO HB zb zb6 zi6 zi10 hg14 B6 n6 n10 l14
      have HX6 := zG.mk hX6
      have HX10 := zG.mk hX10
      have HO := zG.mk hO
      have HB := zG.mk hB
      clear hX14 hX6 hX10 hO hB
      go_wp2_with (first
        | ((with_reducible refine gate_builtin (b := .append) (xs := #[.tmp 37, .tmp 39]) rfl ?_); at_builtin; refine Kd.R_append k50 (w0 := w) w.heap.size rfl (.tmp 37) (.tmp 39) 23 50 (.agg #[(.int .i64 0), (.bool false)]) 16 rfl Try.underlying23 info50 rfl (by decide) (by omega) v (planParts (l.take i) wide) (partOf s m) [.int .i64 (bestP s.n s.ys s.wd m).1.1, .bool (bestP s.n s.ys s.wd m).1.2] (fun _ => True) (fun _ => False) rfl rfl ?aP (fun _ hk => hk.elim) (fun _ _ => trivial) ?aO ?aB ?aS ?aL ?_; (case aP => exact k50_mkM _ _ _ (partOf s m)); (case aB => exact HB.out); (case aO => exact HO.out); (case aS => exact below_size HB.out); (case aL => (have := HI.out; have := HL.out; simp only [planParts, List.length_map, List.length_take]; omega)); intro v9 w9 ho hb hg hat; obtain ⟨A9, c9, rfl⟩ := Kd.R_slice ho; have hX10n := blk_grown HX10.out hg (Kd.R_ne HO.out HX10.out (by decide)); have hX6n := blk_grown HX6.out hg (Kd.R_ne HO.out HX6.out (by decide)); have hc10n : w9.cell? ⟨g10, 2, none⟩ = some v := (zN hX10n 2).trans rfl; have hf10n := zO hX10n 2; clear HX10 HX6 HB HO hc10 hc140 hc141; have HX10 := zG.mk hX10n; have HX6 := zG.mk hX6n; have HO := zG.mk ho; have HB := zG.mk hb; clear ho hb hg hat hX10n hX6n))
      have hl := HL.out
      go_wp2
      go_roundg (l.length - (i + 1))
      case measure => have := HK.out; omega
      case rel =>
        have hn : planBits (l.take (i + 1)) wide = wrap64 (planBits (l.take i) wide + wrap64 (sizeOf_ wide + (bestP s.n s.ys s.wd m).2)) := by rw [planBits_succ HI.out, HS.out, planAdd, bitsOf, HMM.out]
        have hp : planParts (l.take (i + 1)) wide = planParts (l.take i) wide ++ [partOf s m] := by rw [planParts_succ HI.out, HS.out, HMM.out]
        have hO := HO.out
        rw [List.length_append, List.length_singleton, ← hp] at hO
        refine ⟨i + 1, .slice A9 ((planParts (l.take i) wide).length + 1) c9, by rw [hn], by rw [wrapn (by omega)]; rfl, ⟨by have := HK.out; omega⟩, ⟨?_⟩, ⟨?_⟩, ⟨?_⟩, ⟨?_⟩⟩
        · exact zP HX6.out N610.out _
        · exact (blk_set HX10.out 2 _).trans (by simp)
        · exact Kd.R_set hO HX10.out (by decide) 2 _
        · exact zE HB.out L10.out
    · have hq : decide ((i : Int) < (l.length : Int)) = false := decide_eq_false (by omega)
      obtain rfl : i = l.length := by have := HK.out; omega
      have hO := HO.out
      rw [List.take_length] at hO
      obtain ⟨Av, cv, rfl⟩ := Kd.R_slice hO
      have hc100 : wr.cell? ⟨g10, 0, none⟩ = some (.bool wide) := (zN HX10.out 0).trans rfl
      have hc101 : wr.cell? ⟨g10, 1, none⟩ = some (.int .i64 o) := (zN HX10.out 1).trans rfl
      have hc102 : wr.cell? ⟨g10, 2, none⟩ = some (.slice Av (planParts l wide).length cv) := (zN HX10.out 2).trans rfl
      go_wp2_with ((with_reducible refine gate_store (t := 25) (p := 6) rfl ?_); refine wpList_store_row rfl 25 _ _ rfl g6 _ rfl rfl 25 _ HX6.out sz26 rfl ?one ?_; (case one => simp [Value.oneCell']))
      have hX6 := setRow_heap wr g6 _ #[.bool wide, .int .i64 o, .slice Av (planParts l wide).length cv] _ _ HX6.out
      refine bodyPost_ret (results_cell_row_tmp rfl _ _ g6 25 _ _ _ rfl hX6 Try.underlying25 rfl sz26) rfl ?_
      exact ⟨_, rfl, Kd.R_mono (Kd.R_step (Kd.R_types hO HX6.out (by decide)) (fun k hk _ => setRow_other wr g6 k _ hk.2)) (fun _ _ => trivial), below_setRow HB.out L6.out _⟩
end Go.Proofs.Ytokdjeoecnnckaa.PA
end
