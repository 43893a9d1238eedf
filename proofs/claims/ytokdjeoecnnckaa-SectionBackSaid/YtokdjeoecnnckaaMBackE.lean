/- What the law SectionBack needs, part 5: texts of this claim, merged; the row itself stands in the last part. Conditions: as each theorem says. -/
import Derived.Test.YtokdjeoecnnckaaMBackD
section
namespace Go.Proofs.Ytokdjeoecnnckaa.PA
open Go.RowKit Go.Proofs.YtokdjeoecnnckaaW.PrintWords Go.Proofs.YtokdjeoecnnckaaW.PrintLast Go.Proofs.YtokdjeoecnnckaaW.PrintMore
attribute [local go_sem] max2_int min2_int max_two min_two max_three min_three max_four min_four   -- for this text's walks alone
set_option linter.unusedVariables false
set_option linter.unusedSimpArgs false
theorem zG.as {w0 W X : World} {g : Nat} {f0 : List Int} {f1 f2 : Int} (_ : zG w0 W g f0 f1 f2) (k : zG w0 X g f0 f1 f2) : zG w0 X g f0 f1 f2 := k
theorem zG.grownR {w0 W W1 : World} {g : Nat} {f0 : List Int} {f1 f2 : Int} {α : Type} {d : Kd α} {e : Nat} {base : Nat} {ok : Nat → Prop} {v : Value} {xs : List α} (hw : W.grownBy W1 v.ownBlock) (h : zG w0 W g f0 f1 f2) (ho : d.R e W base ok v xs) (ht : e ≠ 71 ∧ e ≠ 5) : zG w0 W1 g f0 f1 f2 := h.grown hw (h.own_ne ho ht)

mutual
def section_Take.j0 : Nat → Int → Int → Bool → List Int → Int → Int → Option (List Int × Bool × Int × (List (S50)) × Int × Int × Int)
  | 0, _, _, _, _, _, _ => none
  | k + 1, x1, x2, x31, x1000, x1001, x1002 => if x31 = true then (some (([] : List Int), false, 0, ([] : List (S50)), 1, x1001, x1002)) else ((bits_Reader_Take.f k x1000 x1001 x1002 2).bind fun bt263 => ((bits_Reader_Fail.f x1000 bt263.2.1 bt263.2.2).bind fun bt266 => (if bt266.1 = 0 then (section_Take.j1 k x1 x2 bt263.1 (decide (bt263.1 > 1)) x1000 bt266.2.1 bt266.2.2) else (section_Take.j1 k x1 x2 bt263.1 false x1000 bt266.2.1 bt266.2.2))))
def section_Take.j1 : Nat → Int → Int → Int → Bool → List Int → Int → Int → Option (List Int × Bool × Int × (List (S50)) × Int × Int × Int)
  | 0, _, _, _, _, _, _, _ => none
  | k + 1, x1, x2, x9, x41, x1000, x1001, x1002 => if x41 = true then (some (([] : List Int), false, 0, ([] : List (S50)), 8, x1001, x1002)) else ((bits_Reader_Take.f k x1000 x1001 x1002 4).bind fun bt269 => ((bits_Reader_Fail.f x1000 bt269.2.1 bt269.2.2).bind fun bt273 => (if bt273.1 = 0 then ((parts_Cuts.f k (wrap64 (x1 - x2)) x2 (wrap64 (bt269.1))).bind fun t279 => (if (t279.length : Int) = 0 then (some (([] : List Int), false, 0, ([] : List (S50)), 5, bt273.2.1, bt273.2.2)) else (section_Take.l0 k ([] : List Int) t279 (t279.length : Int) 0 x1000 bt273.2.1 bt273.2.2 (x9 == 1) (wrap64 (bt269.1)) ([] : List (S50))))) else ((bits_Reader_Fail.f x1000 bt273.2.1 bt273.2.2).bind fun bt276 => (some (([] : List Int), false, 0, ([] : List (S50)), bt276.1, bt276.2.1, bt276.2.2))))))
def section_Take.l0 : Nat → List Int → List Int → Int → Int → List Int → Int → Int → Bool → Int → List (S50) → Option (List Int × Bool × Int × (List (S50)) × Int × Int × Int)
  | 0, _, _, _, _, _, _, _, _, _, _ => none
  | k + 1, x12, x66, x67, x68, x1000, x1001, x1002, x273000, x273001, x273002 => if x68 < x67 then (if 0 ≤ x68 then (if x68 < (x66.length : Int) then ((section_part.f k x1000 x1001 x1002 x273000).bind fun bt283 => (if x273002.length < 8796093022208 then (section_Take.l1 k x12 x66 x67 x68 (rd x66 x68) 0 x1000 bt283.2.2.1 bt283.2.2.2 x273000 x273001 (x273002 ++ [(⟨bt283.1, bt283.2.1⟩ : S50)]) bt283.1 bt283.2.1) else (none))) else (none)) else (none)) else (some (x12, x273000, x273001, x273002, 0, x1001, x1002))
def section_Take.l1 : Nat → List Int → List Int → Int → Int → Int → Int → List Int → Int → Int → Bool → Int → List (S50) → Int → Bool → Option (List Int × Bool × Int × (List (S50)) × Int × Int × Int)
  | 0, _, _, _, _, _, _, _, _, _, _, _, _, _, _ => none
  | k + 1, x12, x66, x67, x68, x82, x83, x1000, x1001, x1002, x273000, x273001, x273002, x288000, x288001 => if x83 < x82 then ((section_number.f k x1000 x1001 x1002 x288000 x288001).bind fun bt291 => ((bits_Reader_Fail.f x1000 bt291.2.1 bt291.2.2).bind fun bt294 => (if bt294.1 = 0 then (if bt291.1 ≤ (-2147483648) then (some (([] : List Int), false, 0, ([] : List (S50)), 14, bt294.2.1, bt294.2.2)) else (if bt291.1 ≥ 2147483648 then (some (([] : List Int), false, 0, ([] : List (S50)), 14, bt294.2.1, bt294.2.2)) else (if x12.length < 17592186044416 then (section_Take.l1 k (x12 ++ [bt291.1]) x66 x67 x68 x82 (wrap64 (x83 + 1)) x1000 bt294.2.1 bt294.2.2 x273000 x273001 x273002 x288000 x288001) else (none)))) else ((bits_Reader_Fail.f x1000 bt294.2.1 bt294.2.2).bind fun bt300 => (some (([] : List Int), false, 0, ([] : List (S50)), bt300.1, bt300.2.1, bt300.2.2)))))) else (section_Take.l0 k x12 x66 x67 (wrap64 (x68 + 1)) x1000 x1001 x1002 x273000 x273001 x273002)
end
def section_Take.f (k : Nat) (s0_0 : List Int) (s0_1 : Int) (s0_2 : Int) (a1 : Int) (a2 : Int) : Option (List Int × Bool × Int × (List (S50)) × Int × Int × Int) := if a2 < 0 then (section_Take.j0 k a1 a2 true s0_0 s0_1 s0_2) else (if a2 > 32 then (section_Take.j0 k a1 a2 true s0_0 s0_1 s0_2) else (if a1 ≤ a2 then (section_Take.j0 k a1 a2 true s0_0 s0_1 s0_2) else (section_Take.j0 k a1 a2 (decide (a1 > 65535)) s0_0 s0_1 s0_2)))
set_option maxHeartbeats 8000000 in
set_option maxRecDepth 100000 in
theorem section_Take.calls (k : Nat) (g : Nat) (s0_0 : List Int) (s0_1 : Int) (s0_2 : Int) (a1 : Int) (a2 : Int) (r1 : List Int) (r2 : Bool) (r3 : Int) (r4 : List (S50)) (r5 : Int) (r6 : Int) (r7 : Int) (w0 w : World) (hI : zG w0 w g s0_0 s0_1 s0_2) (hB : Below w0.heap.size w0 w) (h : section_Take.f k s0_0 s0_1 s0_2 a1 a2 = some (r1, r2, r3, r4, r5, r6, r7)) :
    Calls Try.prog 14 #[.pointer (some ⟨g, 0, none⟩), .int .i64 a1, .int .i64 a2] w fun e w' => ∃ v0_ v3_ : Value, e = .returned (.tuple #[v0_, .agg #[.bool r2, .int .i64 r3, v3_], .int .i64 r5]) ∧ Kd.R (Kd.int .i64) 3 w' w.heap.size (fun _ => True) v0_ r1 ∧ Kd.R k50 50 w' w.heap.size (fun _ => True) v3_ r4 ∧ zG w0 w' g s0_0 r6 r7 ∧ Below w0.heap.size w0 w' ∧ zI w w' g none := by
  have hu25 := Try.underlying25
  have hu50 := Try.underlying50
  have HI0 := zF.mk hI
  have HK := zF.mk (zI.refl w g none)
  have HL := zF.mk hB.size
  clear hI
  have HW0 := zF.mk hB.size
  have HB := zF.mk hB
  clear hB
  have H : (if a2 < 0 then (section_Take.j0 k a1 a2 true s0_0 s0_1 s0_2) else (if a2 > 32 then (section_Take.j0 k a1 a2 true s0_0 s0_1 s0_2) else (if a1 ≤ a2 then (section_Take.j0 k a1 a2 true s0_0 s0_1 s0_2) else (section_Take.j0 k a1 a2 (decide (a1 > 65535)) s0_0 s0_1 s0_2)))) = some (r1, r2, r3, r4, r5, r6, r7) := h
  clear h
  have HC4 := zF.mk H
  clear H
  go_enter Try.func14, Try.ntmps14
  go_upto_region 1 with (first | ((with_reducible refine gate_dst (N := 7) rfl ?_); refine box_event ?hg (N := 7) ?hd (cs := #[.bool false, .int .i64 0, .slice none 0 0]) (t := 25) ?hr ?_; (case hd => rfl); (case hg => rfl); (case hr => first | (go_simp; done) | (go_simp; rfl)); intro gb262 hg w5 hbox hb; have n0_ := zF.mk (zG.below (by refine zG.as HI0.out ?_; repeat (first | (with_reducible first | exact HI0.out | apply zG.alloc | apply zG.drewN | apply zG.drew) | exact HI0.out)) hb); have n1_ := zF.mk (zI.trans (by repeat (first | (with_reducible first | exact HK.out | apply zV | apply zW | apply zX) | exact HK.out)) (zI.of_below hb g none) (.inl rfl)); have n2_ := zF.mk (below_step (by repeat (first | (with_reducible first | exact HB.out | apply zE | apply zB | apply zC) | exact HB.out)) hb); have n3_ := zF.mk (hbox); have n4_ := zF.mk ((by rw [hg]; exact (keep_size (w := w) (g := g) (row := none) (by repeat (first | (with_reducible first | exact HK.out | apply zV | apply zW | apply zX) | exact HK.out))) : w.heap.size ≤ gb262)); have n5_ := zF.mk ((Nat.le_trans HW0.out (by rw [hg]; exact (keep_size (w := w) (g := g) (row := none) (by repeat (first | (with_reducible first | exact HK.out | apply zV | apply zW | apply zX) | exact HK.out))) : w.heap.size ≤ gb262) : w0.heap.size ≤ gb262)); have n6_ := zF.mk ((by rw [hg]; exact Nat.ne_of_lt (zG.lt (show zG w0 _ g s0_0 s0_1 s0_2 from by repeat (first | (with_reducible first | exact HI0.out | apply zG.alloc | apply zG.drewN | apply zG.drew) | exact HI0.out))) : g ≠ gb262)); have n7_ := zF.mk ((by rw [hg]; exact Nat.ne_of_gt (zG.lt (show zG w0 _ g s0_0 s0_1 s0_2 from by repeat (first | (with_reducible first | exact HI0.out | apply zG.alloc | apply zG.drewN | apply zG.drew) | exact HI0.out))) : gb262 ≠ g)); clear HI0; clear HK; clear HB; have HI0 := n0_; have HK := n1_; have HB := n2_; have BK262 := n3_; have GW262 := n4_; have GE262 := n5_; have NB0_262 := n6_; have NB262_0 := n7_; clear n0_ n1_ n2_ n3_ n4_ n5_ n6_ n7_; clear hb hbox hg))
  (try simp only [Act.put, List.setIfInBounds_toArray, List.set_cons_zero, List.set_cons_succ])
  go_cut [31] (fun v31 wc => ∃ (kq : Nat) (x31_3 : Bool), v31 = .bool x31_3 ∧ zF (section_Take.j0 kq a1 a2 x31_3 s0_0 s0_1 s0_2 = some (r1, r2, r3, r4, r5, r6, r7)) ∧ zF (kq ≤ k) ∧ zF (wc.heap[gb262]? = some (.cells #[.bool false, .int .i64 0, (.slice none 0 0)] 25 (0, 0))) ∧ zF (zG w0 wc g s0_0 s0_1 s0_2) ∧ zF (zI w wc g none) ∧ zF (Below w0.heap.size w0 wc))
  case first =>
    have H := HC4.out
    clear HC4
    by_cases c6 : a2 < 0
    · rw [if_pos c6] at H
      have c6b0 : decide (a2 < 0) = true := decide_eq_true c6
      clear c6
      (first | rw [c6b0] | (simp only [i64_w, i32_w]; rw [c6b0]) | skip)
      have H' := zF.mk H
      clear H
      go_wp2
      go_meet
      case rel => exact ⟨_, (true), (by first | rfl | (simp; done) | (simp only [i64_w, i32_w]; done) | (simp [*]; done) | (simp only [i64_w, i32_w]; first | rfl | (simp; done) | (simp [*]; done))), H', ⟨by first | omega | exact Nat.le_refl _⟩, ⟨by (with_reducible repeat (first | refine zK ?_ _ | refine zL ?_ | refine zJ ?_ _)); exact BK262.out⟩, ⟨by repeat (first | (with_reducible first | exact HI0.out | apply zG.alloc | apply zG.drewN | apply zG.drew | refine zG.farT (t := 25) (b := gb262) ?_ (by decide) (by repeat (first | exact zA.of BK262.out | apply zA.set | apply zA.drewN | apply zA.drew | apply zA.alloc)) _) | exact HI0.out)⟩, ⟨by repeat (first | (with_reducible first | exact HK.out | apply zV | apply zW | apply zX | refine zY ?_ GW262.out _) | exact HK.out)⟩, ⟨by repeat (first | (with_reducible first | exact HB.out | apply zE | apply zB | apply zC | refine zD ?_ GE262.out) | exact HB.out)⟩⟩
    · rw [if_neg c6] at H
      have c6b0 : decide (a2 < 0) = false := decide_eq_false c6
      clear c6
      (first | rw [c6b0] | (simp only [i64_w, i32_w]; rw [c6b0]) | skip)
      by_cases c7 : a2 > 32
      · rw [if_pos c7] at H
        have c7b0 : decide (32 < a2) = true := decide_eq_true c7
        clear c7
        have H' := zF.mk H
        clear H
        go_wp2
        go_meet
        case rel => exact ⟨_, (true), (by first | rfl | (simp; done) | (simp only [i64_w, i32_w]; done) | (simp [*]; done) | (simp only [i64_w, i32_w]; first | rfl | (simp; done) | (simp [*]; done))), H', ⟨by first | omega | exact Nat.le_refl _⟩, ⟨by (with_reducible repeat (first | refine zK ?_ _ | refine zL ?_ | refine zJ ?_ _)); exact BK262.out⟩, ⟨by repeat (first | (with_reducible first | exact HI0.out | apply zG.alloc | apply zG.drewN | apply zG.drew | refine zG.farT (t := 25) (b := gb262) ?_ (by decide) (by repeat (first | exact zA.of BK262.out | apply zA.set | apply zA.drewN | apply zA.drew | apply zA.alloc)) _) | exact HI0.out)⟩, ⟨by repeat (first | (with_reducible first | exact HK.out | apply zV | apply zW | apply zX | refine zY ?_ GW262.out _) | exact HK.out)⟩, ⟨by repeat (first | (with_reducible first | exact HB.out | apply zE | apply zB | apply zC | refine zD ?_ GE262.out) | exact HB.out)⟩⟩
      · rw [if_neg c7] at H
        have c7b0 : decide (32 < a2) = false := decide_eq_false c7
        clear c7
        by_cases c8 : a1 ≤ a2
        · rw [if_pos c8] at H
          have c8b0 : decide (a1 ≤ a2) = true := decide_eq_true c8
          clear c8
          have H' := zF.mk H
          clear H
          go_wp2
          go_meet
          case rel => exact ⟨_, (true), (by first | rfl | (simp; done) | (simp only [i64_w, i32_w]; done) | (simp [*]; done) | (simp only [i64_w, i32_w]; first | rfl | (simp; done) | (simp [*]; done))), H', ⟨by first | omega | exact Nat.le_refl _⟩, ⟨by (with_reducible repeat (first | refine zK ?_ _ | refine zL ?_ | refine zJ ?_ _)); exact BK262.out⟩, ⟨by repeat (first | (with_reducible first | exact HI0.out | apply zG.alloc | apply zG.drewN | apply zG.drew | refine zG.farT (t := 25) (b := gb262) ?_ (by decide) (by repeat (first | exact zA.of BK262.out | apply zA.set | apply zA.drewN | apply zA.drew | apply zA.alloc)) _) | exact HI0.out)⟩, ⟨by repeat (first | (with_reducible first | exact HK.out | apply zV | apply zW | apply zX | refine zY ?_ GW262.out _) | exact HK.out)⟩, ⟨by repeat (first | (with_reducible first | exact HB.out | apply zE | apply zB | apply zC | refine zD ?_ GE262.out) | exact HB.out)⟩⟩
        · rw [if_neg c8] at H
          have c8b0 : decide (a1 ≤ a2) = false := decide_eq_false c8
          clear c8
          have H' := zF.mk H
          clear H
          go_wp2
          go_meet
          case rel => exact ⟨_, (decide (a1 > 65535)), (by first | rfl | (simp; done) | (simp only [i64_w, i32_w]; done) | (simp [*]; done) | (simp only [i64_w, i32_w]; first | rfl | (simp; done) | (simp [*]; done))), H', ⟨by first | omega | exact Nat.le_refl _⟩, ⟨by (with_reducible repeat (first | refine zK ?_ _ | refine zL ?_ | refine zJ ?_ _)); exact BK262.out⟩, ⟨by repeat (first | (with_reducible first | exact HI0.out | apply zG.alloc | apply zG.drewN | apply zG.drew | refine zG.farT (t := 25) (b := gb262) ?_ (by decide) (by repeat (first | exact zA.of BK262.out | apply zA.set | apply zA.drewN | apply zA.drew | apply zA.alloc)) _) | exact HI0.out)⟩, ⟨by repeat (first | (with_reducible first | exact HK.out | apply zV | apply zW | apply zX | refine zY ?_ GW262.out _) | exact HK.out)⟩, ⟨by repeat (first | (with_reducible first | exact HB.out | apply zE | apply zB | apply zC | refine zD ?_ GE262.out) | exact HB.out)⟩⟩
  case rest =>
    clear HC4
    try clear c1
    try clear p2
    try clear c6
    try clear c6b0
    try clear c7
    try clear c7b0
    try clear c8
    try clear c8b0
    obtain ⟨kq, x31_3, rfl, HA, HJ3, BK262, HI0, HK, HB⟩ := hcut
    cases kq with
    | zero => exact absurd HA.out (by simp [section_Take.j0])
    | succ kj3 =>
      have H := HA.out
      clear HA
      simp only [section_Take.j0] at H
      by_cases c9 : x31_3 = true
      · subst c9
        have H1 : (some (([] : List Int), false, 0, ([] : List (S50)), 1, s0_1, s0_2)) = some (r1, r2, r3, r4, r5, r6, r7) := by rw [if_pos rfl] at H; exact H
        clear H
        have H := H1
        clear H1
        simp only [Option.some.injEq, Prod.mk.injEq] at H
        obtain ⟨rfl, rfl, rfl, rfl, rfl, rfl, rfl⟩ := H
        have hnb10 := NB262_0.out
        have hnc10 := NB0_262.out
        have hcz11_0 : wc.cell? ⟨gb262, 0, none⟩ = some (.bool false) := (zM BK262.out 0).trans rfl
        have hcz11_1 : wc.cell? ⟨gb262, 1, none⟩ = some (.int .i64 0) := (zM BK262.out 1).trans rfl
        have hcz11_2 : wc.cell? ⟨gb262, 2, none⟩ = some (.slice none 0 0) := (zM BK262.out 2).trans rfl
        have hfz11_0 := zN BK262.out 0
        have hfz11_1 := zN BK262.out 1
        have hfz11_2 := zN BK262.out 2
        go_wp2
        refine bodyPost_ret (results_list (rs := [.tmp 6, .cell 7 25, .tmp 8]) rfl (by simp) (.tmp (.cell gb262 25 #[.bool false, .int .i64 0, .slice none 0 0] (0, 0) _ rfl (by (with_reducible repeat (first | refine zK ?_ _ | refine zL ?_ | refine zJ ?_ _)); refine blk_put (cs := #[.bool false, .int .i64 0, .slice none 0 0]) ?_ 2 _ rfl; (with_reducible repeat (first | refine zK ?_ _ | refine zL ?_ | refine zJ ?_ _)); refine blk_put (cs := #[.bool false, .int .i64 0, .slice none 0 0]) ?_ 1 _ rfl; (with_reducible repeat (first | refine zK ?_ _ | refine zL ?_ | refine zJ ?_ _)); refine blk_put (cs := #[.bool false, .int .i64 0, .slice none 0 0]) ?_ 0 _ rfl; (with_reducible repeat (first | refine zK ?_ _ | refine zL ?_ | refine zJ ?_ _)); exact BK262.out) Try.underlying25 rfl (by kernel_rfl) (.tmp .nil)))) rfl ?_
        exact ⟨_, _, by first | rfl | (simp [errW_none, errW_some] <;> rfl) | (simp [*, errW_none, errW_some] <;> rfl), by first | exact Kd.R_nil _ _ _ _ _ | exact Kd.N_nil _ _ _ _ _ | exact Kd.V_nil _ _ _ _ _ | exact Kd.Q_nil _ _ _ _ _ | exact Kd.S_nil _ _ _ _ _, by first | exact Kd.R_nil _ _ _ _ _ | exact Kd.N_nil _ _ _ _ _ | exact Kd.V_nil _ _ _ _ _ | exact Kd.Q_nil _ _ _ _ _ | exact Kd.S_nil _ _ _ _ _, by repeat (first | (with_reducible first | exact HI0.out | apply zG.alloc | apply zG.drewN | apply zG.drew | refine zG.farT (t := 25) (b := gb262) ?_ (by decide) (by repeat (first | exact zA.of BK262.out | apply zA.set | apply zA.drewN | apply zA.drew | apply zA.alloc)) _) | exact HI0.out), by repeat (first | (with_reducible first | exact HB.out | apply zE | apply zB | apply zC | refine zD ?_ GE262.out) | exact HB.out), by repeat (first | (with_reducible first | exact HK.out | apply zV | apply zW | apply zX | refine zY ?_ GW262.out _) | exact HK.out)⟩
      · replace c9 := Bool.eq_false_iff.mpr c9
        subst c9
        have H1 : ((bits_Reader_Take.f kj3 s0_0 s0_1 s0_2 2).bind fun bt263 => ((bits_Reader_Fail.f s0_0 bt263.2.1 bt263.2.2).bind fun bt266 => (if bt266.1 = 0 then (section_Take.j1 kj3 a1 a2 bt263.1 (decide (bt263.1 > 1)) s0_0 bt266.2.1 bt266.2.2) else (section_Take.j1 kj3 a1 a2 bt263.1 false s0_0 bt266.2.1 bt266.2.2)))) = some (r1, r2, r3, r4, r5, r6, r7) := by rw [if_neg (show ¬ (false = true) by decide)] at H; exact H
        clear H
        have H := H1
        clear H1
        replace H := Option.bind_eq_some_iff.mp H
        obtain ⟨⟨t263, t264, t265⟩, A120, H⟩ := H
        replace H : ((bits_Reader_Fail.f s0_0 t264 t265).bind fun bt266 => (if bt266.1 = 0 then (section_Take.j1 kj3 a1 a2 t263 (decide (t263 > 1)) s0_0 bt266.2.1 bt266.2.2) else (section_Take.j1 kj3 a1 a2 t263 false s0_0 bt266.2.1 bt266.2.2))) = some (r1, r2, r3, r4, r5, r6, r7) := H
        have A12 := zF.mk A120
        clear A120
        have HC13 := zF.mk H
        clear H
        go_upto_region 4 with (first | ((with_reducible refine gate_callee (f := 32) rfl ?_); refine goesL_ (some 34) rfl rfl Try.func32 (by kernel_rfl) rfl #[.pointer (some ⟨g, 0, none⟩), .int .i64 2] rfl (by (try simp only [List.map_toArray, List.map_cons, List.map_nil]); first | done | rfl | (simp only [List.length_drop, List.length_take]; rfl)) ?_; (with_reducible refine (bits_Reader_Take.calls kj3 g s0_0 s0_1 s0_2 2 t263 t264 t265 w0 _ ?side1 ?side2 A12.out).mono ?_); (case side1 => repeat (first | (with_reducible first | exact HI0.out | apply zG.alloc | apply zG.drewN | apply zG.drew | refine zG.farT (t := 25) (b := gb262) ?_ (by decide) (by repeat (first | exact zA.of BK262.out | apply zA.set | apply zA.drewN | apply zA.drew | apply zA.alloc)) _) | exact HI0.out)); (case side2 => repeat (first | (with_reducible first | exact HB.out | apply zE | apply zB | apply zC | refine zD ?_ GE262.out) | exact HB.out)); rintro e w14 ⟨rfl, hi, hb, hk⟩; refine ⟨_, rfl, ?_⟩; have n0_ := zF.mk (zI.blk hk (g' := gb262) (o := .cells #[.bool false, .int .i64 0, .slice none 0 0] 25 (0, 0)) (by (with_reducible repeat (first | refine zK ?_ _ | refine zL ?_ | refine zJ ?_ _)); exact BK262.out) NB262_0.out (by simp)); have n1_ := zF.mk (zI.trans (by repeat (first | (with_reducible first | exact HK.out | apply zV | apply zW | apply zX | refine zY ?_ GW262.out _) | exact HK.out)) hk (.inl rfl)); have n2_ := zF.mk (hb); have n3_ := zF.mk (hi); clear BK262; clear HK; clear HB; clear HI0; have BK262 := n0_; have HK := n1_; have HB := n2_; have HI0 := n3_; clear n0_ n1_ n2_ n3_; (try clear hb); (try clear hb2); (try clear hk); (try clear hi)))
        (try simp only [Act.put, List.setIfInBounds_toArray, List.set_cons_zero, List.set_cons_succ])
        go_cut [41] (fun v41 wc => ∃ (kq : Nat) (x41_12 : Bool) (x1001_12 : Int) (x1002_12 : Int), v41 = .bool x41_12 ∧ zF (section_Take.j1 kq a1 a2 t263 x41_12 s0_0 x1001_12 x1002_12 = some (r1, r2, r3, r4, r5, r6, r7)) ∧ zF (kq ≤ kj3) ∧ zF (wc.heap[gb262]? = some (.cells #[.bool false, .int .i64 0, (.slice none 0 0)] 25 (0, 0))) ∧ zF (zG w0 wc g s0_0 x1001_12 x1002_12) ∧ zF (zI w wc g none) ∧ zF (Below w0.heap.size w0 wc))
        case first =>
          have H := HC13.out
          clear HC13
          replace H := Option.bind_eq_some_iff.mp H
          obtain ⟨⟨t266, t267, t268⟩, A150, H⟩ := H
          replace H : (if t266 = 0 then (section_Take.j1 kj3 a1 a2 t263 (decide (t263 > 1)) s0_0 t267 t268) else (section_Take.j1 kj3 a1 a2 t263 false s0_0 t267 t268)) = some (r1, r2, r3, r4, r5, r6, r7) := H
          have A15 := zF.mk A150
          clear A150
          by_cases c16 : t266 = 0
          · rw [if_pos c16] at H
            have c16b0 : (t266 == 0) = true := beq_iff_eq.mpr c16
            have c16b1 : (t266 != 0) = false := bne_eq_false_iff_eq.mpr c16
            clear c16
            (first | rw [c16b0] | (simp only [i64_w, i32_w]; rw [c16b0]) | skip)
            have H' := zF.mk H
            clear H
            go_wp2_with (first | ((with_reducible refine gate_callee (f := 33) rfl ?_); refine goesL_ (some 36) rfl rfl Try.func33 (by kernel_rfl) rfl #[.pointer (some ⟨g, 0, none⟩)] rfl (by (try simp only [List.map_toArray, List.map_cons, List.map_nil]); first | done | rfl | (simp only [List.length_drop, List.length_take]; rfl)) ?_; (with_reducible refine (bits_Reader_Fail.calls g s0_0 t264 t265 t266 t267 t268 w0 _ ?side1 ?side2 A15.out).mono ?_); (case side1 => repeat (first | (with_reducible first | exact HI0.out | apply zG.alloc | apply zG.drewN | apply zG.drew | refine zG.farT (t := 25) (b := gb262) ?_ (by decide) (by repeat (first | exact zA.of BK262.out | apply zA.set | apply zA.drewN | apply zA.drew | apply zA.alloc)) _) | exact HI0.out)); (case side2 => repeat (first | (with_reducible first | exact HB.out | apply zE | apply zB | apply zC | refine zD ?_ GE262.out) | exact HB.out)); rintro e w17 ⟨rfl, hi, hb, hk⟩; refine ⟨_, rfl, ?_⟩; have n0_ := zF.mk (zI.blk hk (g' := gb262) (o := .cells #[.bool false, .int .i64 0, .slice none 0 0] 25 (0, 0)) (by (with_reducible repeat (first | refine zK ?_ _ | refine zL ?_ | refine zJ ?_ _)); exact BK262.out) NB262_0.out (by simp)); have n1_ := zF.mk (zI.trans (by repeat (first | (with_reducible first | exact HK.out | apply zV | apply zW | apply zX | refine zY ?_ GW262.out _) | exact HK.out)) hk (.inl rfl)); have n2_ := zF.mk (hb); have n3_ := zF.mk (hi); clear BK262; clear HK; clear HB; clear HI0; have BK262 := n0_; have HK := n1_; have HB := n2_; have HI0 := n3_; clear n0_ n1_ n2_ n3_; (try clear hb); (try clear hb2); (try clear hk); (try clear hi)))
            go_meet
            case rel => exact ⟨_, (decide (t263 > 1)), (t267), (t268), (by first | rfl | (simp; done) | (simp only [i64_w, i32_w]; done) | (simp [*]; done) | (simp only [i64_w, i32_w]; first | rfl | (simp; done) | (simp [*]; done))), H', ⟨by have := HJ3.out; first | omega | exact Nat.le_refl _⟩, ⟨by (with_reducible repeat (first | refine zK ?_ _ | refine zL ?_ | refine zJ ?_ _)); exact BK262.out⟩, ⟨by repeat (first | (with_reducible first | exact HI0.out | apply zG.alloc | apply zG.drewN | apply zG.drew | refine zG.farT (t := 25) (b := gb262) ?_ (by decide) (by repeat (first | exact zA.of BK262.out | apply zA.set | apply zA.drewN | apply zA.drew | apply zA.alloc)) _) | exact HI0.out)⟩, ⟨by repeat (first | (with_reducible first | exact HK.out | apply zV | apply zW | apply zX | refine zY ?_ GW262.out _) | exact HK.out)⟩, ⟨by repeat (first | (with_reducible first | exact HB.out | apply zE | apply zB | apply zC | refine zD ?_ GE262.out) | exact HB.out)⟩⟩
          · rw [if_neg c16] at H
            have c16b0 : (t266 == 0) = false := beq_eq_false_iff_ne.mpr c16
            have c16b1 : (t266 != 0) = true := bne_iff_ne.mpr c16
            (first | rw [c16b0] | (simp only [i64_w, i32_w]; rw [c16b0]) | skip)
            have H' := zF.mk H
            clear H
            go_wp2_with (first | ((with_reducible refine gate_callee (f := 33) rfl ?_); refine goesL_ (some 36) rfl rfl Try.func33 (by kernel_rfl) rfl #[.pointer (some ⟨g, 0, none⟩)] rfl (by (try simp only [List.map_toArray, List.map_cons, List.map_nil]); first | done | rfl | (simp only [List.length_drop, List.length_take]; rfl)) ?_; (with_reducible refine (bits_Reader_Fail.calls g s0_0 t264 t265 t266 t267 t268 w0 _ ?side1 ?side2 A15.out).mono ?_); (case side1 => repeat (first | (with_reducible first | exact HI0.out | apply zG.alloc | apply zG.drewN | apply zG.drew | refine zG.farT (t := 25) (b := gb262) ?_ (by decide) (by repeat (first | exact zA.of BK262.out | apply zA.set | apply zA.drewN | apply zA.drew | apply zA.alloc)) _) | exact HI0.out)); (case side2 => repeat (first | (with_reducible first | exact HB.out | apply zE | apply zB | apply zC | refine zD ?_ GE262.out) | exact HB.out)); rintro e w18 ⟨rfl, hi, hb, hk⟩; refine ⟨_, rfl, ?_⟩; have n0_ := zF.mk (zI.blk hk (g' := gb262) (o := .cells #[.bool false, .int .i64 0, .slice none 0 0] 25 (0, 0)) (by (with_reducible repeat (first | refine zK ?_ _ | refine zL ?_ | refine zJ ?_ _)); exact BK262.out) NB262_0.out (by simp)); have n1_ := zF.mk (zI.trans (by repeat (first | (with_reducible first | exact HK.out | apply zV | apply zW | apply zX | refine zY ?_ GW262.out _) | exact HK.out)) hk (.inl rfl)); have n2_ := zF.mk (hb); have n3_ := zF.mk (hi); clear BK262; clear HK; clear HB; clear HI0; have BK262 := n0_; have HK := n1_; have HB := n2_; have HI0 := n3_; clear n0_ n1_ n2_ n3_; (try clear hb); (try clear hb2); (try clear hk); (try clear hi)))
            go_meet
            case rel => exact ⟨_, (false), (t267), (t268), (by first | rfl | (simp; done) | (simp only [i64_w, i32_w]; done) | (simp [*]; done) | (simp only [i64_w, i32_w]; first | rfl | (simp; done) | (simp [*]; done))), H', ⟨by have := HJ3.out; first | omega | exact Nat.le_refl _⟩, ⟨by (with_reducible repeat (first | refine zK ?_ _ | refine zL ?_ | refine zJ ?_ _)); exact BK262.out⟩, ⟨by repeat (first | (with_reducible first | exact HI0.out | apply zG.alloc | apply zG.drewN | apply zG.drew | refine zG.farT (t := 25) (b := gb262) ?_ (by decide) (by repeat (first | exact zA.of BK262.out | apply zA.set | apply zA.drewN | apply zA.drew | apply zA.alloc)) _) | exact HI0.out)⟩, ⟨by repeat (first | (with_reducible first | exact HK.out | apply zV | apply zW | apply zX | refine zY ?_ GW262.out _) | exact HK.out)⟩, ⟨by repeat (first | (with_reducible first | exact HB.out | apply zE | apply zB | apply zC | refine zD ?_ GE262.out) | exact HB.out)⟩⟩
        case rest =>
          clear HC13
          try clear c1
          try clear p2
          try clear c3
          try clear c6
          try clear c6b0
          try clear c7
          try clear c7b0
          try clear c8
          try clear c8b0
          try clear c9
          try clear c10
          try clear c14
          try clear c16
          try clear c16b0
          try clear c16b1
          try clear hcz11_0
          try clear hcz11_1
          try clear hcz11_2
          try clear hfz11_0
          try clear hfz11_1
          try clear hfz11_2
          try clear p2
          obtain ⟨kq, x41_12, x1001_12, x1002_12, rfl, HA, HJ12, BK262, HI0, HK, HB⟩ := hcut
          cases kq with
          | zero => exact absurd HA.out (by simp [section_Take.j1])
          | succ kj12 =>
            have H := HA.out
            clear HA
            simp only [section_Take.j1] at H
            by_cases c19 : x41_12 = true
            · subst c19
              have H1 : (some (([] : List Int), false, 0, ([] : List (S50)), 8, x1001_12, x1002_12)) = some (r1, r2, r3, r4, r5, r6, r7) := by rw [if_pos rfl] at H; exact H
              clear H
              have H := H1
              clear H1
              simp only [Option.some.injEq, Prod.mk.injEq] at H
              obtain ⟨rfl, rfl, rfl, rfl, rfl, rfl, rfl⟩ := H
              have hnb20 := NB262_0.out
              have hnc20 := NB0_262.out
              have hcz21_0 : wc.cell? ⟨gb262, 0, none⟩ = some (.bool false) := (zM BK262.out 0).trans rfl
              have hcz21_1 : wc.cell? ⟨gb262, 1, none⟩ = some (.int .i64 0) := (zM BK262.out 1).trans rfl
              have hcz21_2 : wc.cell? ⟨gb262, 2, none⟩ = some (.slice none 0 0) := (zM BK262.out 2).trans rfl
              have hfz21_0 := zN BK262.out 0
              have hfz21_1 := zN BK262.out 1
              have hfz21_2 := zN BK262.out 2
              go_wp2
              refine bodyPost_ret (results_list (rs := [.tmp 6, .cell 7 25, .tmp 8]) rfl (by simp) (.tmp (.cell gb262 25 #[.bool false, .int .i64 0, .slice none 0 0] (0, 0) _ rfl (by (with_reducible repeat (first | refine zK ?_ _ | refine zL ?_ | refine zJ ?_ _)); refine blk_put (cs := #[.bool false, .int .i64 0, .slice none 0 0]) ?_ 2 _ rfl; (with_reducible repeat (first | refine zK ?_ _ | refine zL ?_ | refine zJ ?_ _)); refine blk_put (cs := #[.bool false, .int .i64 0, .slice none 0 0]) ?_ 1 _ rfl; (with_reducible repeat (first | refine zK ?_ _ | refine zL ?_ | refine zJ ?_ _)); refine blk_put (cs := #[.bool false, .int .i64 0, .slice none 0 0]) ?_ 0 _ rfl; (with_reducible repeat (first | refine zK ?_ _ | refine zL ?_ | refine zJ ?_ _)); exact BK262.out) Try.underlying25 rfl (by kernel_rfl) (.tmp .nil)))) rfl ?_
              exact ⟨_, _, by first | rfl | (simp [errW_none, errW_some] <;> rfl) | (simp [*, errW_none, errW_some] <;> rfl), by first | exact Kd.R_nil _ _ _ _ _ | exact Kd.N_nil _ _ _ _ _ | exact Kd.V_nil _ _ _ _ _ | exact Kd.Q_nil _ _ _ _ _ | exact Kd.S_nil _ _ _ _ _, by first | exact Kd.R_nil _ _ _ _ _ | exact Kd.N_nil _ _ _ _ _ | exact Kd.V_nil _ _ _ _ _ | exact Kd.Q_nil _ _ _ _ _ | exact Kd.S_nil _ _ _ _ _, by repeat (first | (with_reducible first | exact HI0.out | apply zG.alloc | apply zG.drewN | apply zG.drew | refine zG.farT (t := 25) (b := gb262) ?_ (by decide) (by repeat (first | exact zA.of BK262.out | apply zA.set | apply zA.drewN | apply zA.drew | apply zA.alloc)) _) | exact HI0.out), by repeat (first | (with_reducible first | exact HB.out | apply zE | apply zB | apply zC | refine zD ?_ GE262.out) | exact HB.out), by repeat (first | (with_reducible first | exact HK.out | apply zV | apply zW | apply zX | refine zY ?_ GW262.out _) | exact HK.out)⟩
            · replace c19 := Bool.eq_false_iff.mpr c19
              subst c19
              have H1 : ((bits_Reader_Take.f kj12 s0_0 x1001_12 x1002_12 4).bind fun bt269 => ((bits_Reader_Fail.f s0_0 bt269.2.1 bt269.2.2).bind fun bt273 => (if bt273.1 = 0 then ((parts_Cuts.f kj12 (wrap64 (a1 - a2)) a2 (wrap64 (bt269.1))).bind fun t279 => (if (t279.length : Int) = 0 then (some (([] : List Int), false, 0, ([] : List (S50)), 5, bt273.2.1, bt273.2.2)) else (section_Take.l0 kj12 ([] : List Int) t279 (t279.length : Int) 0 s0_0 bt273.2.1 bt273.2.2 (t263 == 1) (wrap64 (bt269.1)) ([] : List (S50))))) else ((bits_Reader_Fail.f s0_0 bt273.2.1 bt273.2.2).bind fun bt276 => (some (([] : List Int), false, 0, ([] : List (S50)), bt276.1, bt276.2.1, bt276.2.2)))))) = some (r1, r2, r3, r4, r5, r6, r7) := by rw [if_neg (show ¬ (false = true) by decide)] at H; exact H
              clear H
              have H := H1
              clear H1
              replace H := Option.bind_eq_some_iff.mp H
              obtain ⟨⟨t269, t270, t271⟩, A220, H⟩ := H
              replace H : ((bits_Reader_Fail.f s0_0 t270 t271).bind fun bt273 => (if bt273.1 = 0 then ((parts_Cuts.f kj12 (wrap64 (a1 - a2)) a2 (wrap64 (t269))).bind fun t279 => (if (t279.length : Int) = 0 then (some (([] : List Int), false, 0, ([] : List (S50)), 5, bt273.2.1, bt273.2.2)) else (section_Take.l0 kj12 ([] : List Int) t279 (t279.length : Int) 0 s0_0 bt273.2.1 bt273.2.2 (t263 == 1) (wrap64 (t269)) ([] : List (S50))))) else ((bits_Reader_Fail.f s0_0 bt273.2.1 bt273.2.2).bind fun bt276 => (some (([] : List Int), false, 0, ([] : List (S50)), bt276.1, bt276.2.1, bt276.2.2))))) = some (r1, r2, r3, r4, r5, r6, r7) := H
              have A22 := zF.mk A220
              clear A220
              replace H := Option.bind_eq_some_iff.mp H
              obtain ⟨⟨t273, t274, t275⟩, A230, H⟩ := H
              replace H : (if t273 = 0 then ((parts_Cuts.f kj12 (wrap64 (a1 - a2)) a2 (wrap64 (t269))).bind fun t279 => (if (t279.length : Int) = 0 then (some (([] : List Int), false, 0, ([] : List (S50)), 5, t274, t275)) else (section_Take.l0 kj12 ([] : List Int) t279 (t279.length : Int) 0 s0_0 t274 t275 (t263 == 1) (wrap64 (t269)) ([] : List (S50))))) else ((bits_Reader_Fail.f s0_0 t274 t275).bind fun bt276 => (some (([] : List Int), false, 0, ([] : List (S50)), bt276.1, bt276.2.1, bt276.2.2)))) = some (r1, r2, r3, r4, r5, r6, r7) := H
              have A23 := zF.mk A230
              clear A230
              by_cases c24 : t273 = 0
              · rw [if_pos c24] at H
                have c24b0 : (t273 == 0) = true := beq_iff_eq.mpr c24
                have c24b1 : (t273 != 0) = false := bne_eq_false_iff_eq.mpr c24
                clear c24
                replace H := Option.bind_eq_some_iff.mp H
                obtain ⟨t279, A250, H⟩ := H
                replace H : (if (t279.length : Int) = 0 then (some (([] : List Int), false, 0, ([] : List (S50)), 5, t274, t275)) else (section_Take.l0 kj12 ([] : List Int) t279 (t279.length : Int) 0 s0_0 t274 t275 (t263 == 1) (wrap64 (t269)) ([] : List (S50)))) = some (r1, r2, r3, r4, r5, r6, r7) := H
                have A25 := zF.mk A250
                clear A250
                by_cases c26 : (t279.length : Int) = 0
                · rw [if_pos c26] at H
                  have c26b0 : ((t279.length : Int) == 0) = true := beq_iff_eq.mpr c26
                  have c26b1 : ((t279.length : Int) != 0) = false := bne_eq_false_iff_eq.mpr c26
                  clear c26
                  simp only [Option.some.injEq, Prod.mk.injEq] at H
                  obtain ⟨rfl, rfl, rfl, rfl, rfl, rfl, rfl⟩ := H
                  go_wp2_with (first | ((with_reducible refine gate_callee (f := 32) rfl ?_); refine goesL_ (some 46) rfl rfl Try.func32 (by kernel_rfl) rfl #[.pointer (some ⟨g, 0, none⟩), .int .i64 4] rfl (by (try simp only [List.map_toArray, List.map_cons, List.map_nil]); first | done | rfl | (simp only [List.length_drop, List.length_take]; rfl)) ?_; (with_reducible refine (bits_Reader_Take.calls kj12 g s0_0 x1001_12 x1002_12 4 t269 t270 t271 w0 _ ?side1 ?side2 A22.out).mono ?_); (case side1 => repeat (first | (with_reducible first | exact HI0.out | apply zG.alloc | apply zG.drewN | apply zG.drew | refine zG.farT (t := 25) (b := gb262) ?_ (by decide) (by repeat (first | exact zA.of BK262.out | apply zA.set | apply zA.drewN | apply zA.drew | apply zA.alloc)) _) | exact HI0.out)); (case side2 => repeat (first | (with_reducible first | exact HB.out | apply zE | apply zB | apply zC | refine zD ?_ GE262.out) | exact HB.out)); rintro e w27 ⟨rfl, hi, hb, hk⟩; refine ⟨_, rfl, ?_⟩; have n0_ := zF.mk (zI.blk hk (g' := gb262) (o := .cells #[.bool false, .int .i64 0, .slice none 0 0] 25 (0, 0)) (by (with_reducible repeat (first | refine zK ?_ _ | refine zL ?_ | refine zJ ?_ _)); exact BK262.out) NB262_0.out (by simp)); have n1_ := zF.mk (zI.trans (by repeat (first | (with_reducible first | exact HK.out | apply zV | apply zW | apply zX | refine zY ?_ GW262.out _) | exact HK.out)) hk (.inl rfl)); have n2_ := zF.mk (hb); have n3_ := zF.mk (hi); clear BK262; clear HK; clear HB; clear HI0; have BK262 := n0_; have HK := n1_; have HB := n2_; have HI0 := n3_; clear n0_ n1_ n2_ n3_; (try clear hb); (try clear hb2); (try clear hk); (try clear hi)) | ((with_reducible refine gate_dst (N := 10) rfl ?_); refine box_event ?hg (N := 10) ?hd (cs := #[.bool false, .int .i64 0, .slice none 0 0]) (t := 25) ?hr ?_; (case hd => rfl); (case hg => rfl); (case hr => first | (go_simp; done) | (go_simp; rfl)); intro gb272 hg w28 hbox hb; have n0_ := zF.mk (blk_below (g := gb262) (o := .cells #[.bool false, .int .i64 0, .slice none 0 0] 25 (0, 0)) (by (with_reducible repeat (first | refine zK ?_ _ | refine zL ?_ | refine zJ ?_ _)); exact BK262.out) hb); have n1_ := zF.mk (zG.below (by refine zG.as HI0.out ?_; repeat (first | (with_reducible first | exact HI0.out | apply zG.alloc | apply zG.drewN | apply zG.drew | refine zG.farT (t := 25) (b := gb262) ?_ (by decide) (by repeat (first | exact zA.of BK262.out | apply zA.set | apply zA.drewN | apply zA.drew | apply zA.alloc)) _) | exact HI0.out)) hb); have n2_ := zF.mk (zI.trans (by repeat (first | (with_reducible first | exact HK.out | apply zV | apply zW | apply zX | refine zY ?_ GW262.out _) | exact HK.out)) (zI.of_below hb g none) (.inl rfl)); have n3_ := zF.mk (below_step (by repeat (first | (with_reducible first | exact HB.out | apply zE | apply zB | apply zC | refine zD ?_ GE262.out) | exact HB.out)) hb); have n4_ := zF.mk (hbox); have n5_ := zF.mk ((by rw [hg]; exact (keep_size (w := w) (g := g) (row := none) (by repeat (first | (with_reducible first | exact HK.out | apply zV | apply zW | apply zX | refine zY ?_ GW262.out _) | exact HK.out))) : w.heap.size ≤ gb272)); have n6_ := zF.mk ((Nat.le_trans HW0.out (by rw [hg]; exact (keep_size (w := w) (g := g) (row := none) (by repeat (first | (with_reducible first | exact HK.out | apply zV | apply zW | apply zX | refine zY ?_ GW262.out _) | exact HK.out))) : w.heap.size ≤ gb272) : w0.heap.size ≤ gb272)); have n7_ := zF.mk ((by rw [hg]; exact Nat.ne_of_lt (blk_lt (g := gb262) (o := .cells #[.bool false, .int .i64 0, .slice none 0 0] 25 (0, 0)) (by (with_reducible repeat (first | refine zK ?_ _ | refine zL ?_ | refine zJ ?_ _)); exact BK262.out)) : gb262 ≠ gb272)); have n8_ := zF.mk ((by rw [hg]; exact Nat.ne_of_gt (blk_lt (g := gb262) (o := .cells #[.bool false, .int .i64 0, .slice none 0 0] 25 (0, 0)) (by (with_reducible repeat (first | refine zK ?_ _ | refine zL ?_ | refine zJ ?_ _)); exact BK262.out)) : gb272 ≠ gb262)); have n9_ := zF.mk ((by rw [hg]; exact Nat.ne_of_lt (zG.lt (show zG w0 _ g s0_0 t270 t271 from by repeat (first | (with_reducible first | exact HI0.out | apply zG.alloc | apply zG.drewN | apply zG.drew | refine zG.farT (t := 25) (b := gb262) ?_ (by decide) (by repeat (first | exact zA.of BK262.out | apply zA.set | apply zA.drewN | apply zA.drew | apply zA.alloc)) _) | exact HI0.out))) : g ≠ gb272)); have n10_ := zF.mk ((by rw [hg]; exact Nat.ne_of_gt (zG.lt (show zG w0 _ g s0_0 t270 t271 from by repeat (first | (with_reducible first | exact HI0.out | apply zG.alloc | apply zG.drewN | apply zG.drew | refine zG.farT (t := 25) (b := gb262) ?_ (by decide) (by repeat (first | exact zA.of BK262.out | apply zA.set | apply zA.drewN | apply zA.drew | apply zA.alloc)) _) | exact HI0.out))) : gb272 ≠ g)); clear BK262; clear HI0; clear HK; clear HB; have BK262 := n0_; have HI0 := n1_; have HK := n2_; have HB := n3_; have BK272 := n4_; have GW272 := n5_; have GE272 := n6_; have NB262_272 := n7_; have NB272_262 := n8_; have NB0_272 := n9_; have NB272_0 := n10_; clear n0_ n1_ n2_ n3_ n4_ n5_ n6_ n7_ n8_ n9_ n10_; clear hb hbox hg; have hnb29 := NB272_262.out; have hnc29 := NB262_272.out; have hnb30 := NB272_0.out; have hnc30 := NB0_272.out; have hcz31_0 : w28.cell? ⟨gb272, 0, none⟩ = some (.bool false) := (zM BK272.out 0).trans rfl; have hcz31_1 : w28.cell? ⟨gb272, 1, none⟩ = some (.int .i64 0) := (zM BK272.out 1).trans rfl; have hcz31_2 : w28.cell? ⟨gb272, 2, none⟩ = some (.slice none 0 0) := (zM BK272.out 2).trans rfl; have hfz31_0 := zN BK272.out 0; have hfz31_1 := zN BK272.out 1; have hfz31_2 := zN BK272.out 2) | ((with_reducible refine gate_callee (f := 33) rfl ?_); refine goesL_ (some 50) rfl rfl Try.func33 (by kernel_rfl) rfl #[.pointer (some ⟨g, 0, none⟩)] rfl (by (try simp only [List.map_toArray, List.map_cons, List.map_nil]); first | done | rfl | (simp only [List.length_drop, List.length_take]; rfl)) ?_; (with_reducible refine (bits_Reader_Fail.calls g s0_0 t270 t271 t273 t274 t275 w0 _ ?side1 ?side2 A23.out).mono ?_); (case side1 => repeat (first | (with_reducible first | exact HI0.out | apply zG.alloc | apply zG.drewN | apply zG.drew | refine zG.farT (t := 25) (b := gb262) ?_ (by decide) (by repeat (first | exact zA.of BK262.out | apply zA.set | apply zA.drewN | apply zA.drew | apply zA.alloc)) _ | refine zG.farT (t := 25) (b := gb272) ?_ (by decide) (by repeat (first | exact zA.of BK272.out | apply zA.set | apply zA.drewN | apply zA.drew | apply zA.alloc)) _) | exact HI0.out)); (case side2 => repeat (first | (with_reducible first | exact HB.out | apply zE | apply zB | apply zC | refine zD ?_ GE262.out | refine zD ?_ GE272.out) | exact HB.out)); rintro e w32 ⟨rfl, hi, hb, hk⟩; refine ⟨_, rfl, ?_⟩; have n0_ := zF.mk (zI.blk hk (g' := gb262) (o := .cells #[.bool false, .int .i64 0, .slice none 0 0] 25 (0, 0)) (by (with_reducible repeat (first | refine zK ?_ _ | refine zL ?_ | refine zJ ?_ _)); refine zO ?_ NB262_272.out _; (with_reducible repeat (first | refine zK ?_ _ | refine zL ?_ | refine zJ ?_ _)); refine zO ?_ NB262_272.out _; (with_reducible repeat (first | refine zK ?_ _ | refine zL ?_ | refine zJ ?_ _)); refine zO ?_ NB262_272.out _; (with_reducible repeat (first | refine zK ?_ _ | refine zL ?_ | refine zJ ?_ _)); exact BK262.out) NB262_0.out (by simp)); have n1_ := zF.mk (zI.blk hk (g' := gb272) (o := .cells #[.bool (t263 == 1), .int .i64 (wrap64 (t269)), .slice none 0 0] 25 (0, 0)) (by (with_reducible repeat (first | refine zK ?_ _ | refine zL ?_ | refine zJ ?_ _)); refine blk_put (cs := #[.bool (t263 == 1), .int .i64 (wrap64 (t269)), .slice none 0 0]) ?_ 2 _ rfl; (with_reducible repeat (first | refine zK ?_ _ | refine zL ?_ | refine zJ ?_ _)); refine blk_put (cs := #[.bool (t263 == 1), .int .i64 0, .slice none 0 0]) ?_ 1 _ rfl; (with_reducible repeat (first | refine zK ?_ _ | refine zL ?_ | refine zJ ?_ _)); refine blk_put (cs := #[.bool false, .int .i64 0, .slice none 0 0]) ?_ 0 _ rfl; (with_reducible repeat (first | refine zK ?_ _ | refine zL ?_ | refine zJ ?_ _)); exact BK272.out) NB272_0.out (by simp)); have n2_ := zF.mk (zI.trans (by repeat (first | (with_reducible first | exact HK.out | apply zV | apply zW | apply zX | refine zY ?_ GW262.out _ | refine zY ?_ GW272.out _) | exact HK.out)) hk (.inl rfl)); have n3_ := zF.mk (hb); have n4_ := zF.mk (hi); clear BK262; clear BK272; clear HK; clear HB; clear HI0; have BK262 := n0_; have BK272 := n1_; have HK := n2_; have HB := n3_; have HI0 := n4_; clear n0_ n1_ n2_ n3_ n4_; (try clear hb); (try clear hb2); (try clear hk); (try clear hi); have hcz33_0 : w32.cell? ⟨gb272, 0, none⟩ = some (.bool (t263 == 1)) := (zM BK272.out 0).trans rfl; have hcz33_1 : w32.cell? ⟨gb272, 1, none⟩ = some (.int .i64 (wrap64 (t269))) := (zM BK272.out 1).trans rfl; have hcz33_2 : w32.cell? ⟨gb272, 2, none⟩ = some (.slice none 0 0) := (zM BK272.out 2).trans rfl; have hfz33_0 := zN BK272.out 0; have hfz33_1 := zN BK272.out 1; have hfz33_2 := zN BK272.out 2) | ((with_reducible refine gate_callee (f := 28) rfl ?_); refine goesL_ (some 61) rfl rfl Try.func28 (by kernel_rfl) rfl #[.int .i64 (wrap64 (a1 - a2)), .int .i64 a2, .int .i64 (wrap64 (t269))] rfl (by (try simp only [List.map_toArray, List.map_cons, List.map_nil]); first | done | rfl | (simp only [List.length_drop, List.length_take]; rfl)) ?_; (with_reducible refine (parts_Cuts.calls kj12 (wrap64 (a1 - a2)) a2 (wrap64 (t269)) t279 _ A25.out).mono ?_); rintro e w34 ⟨v280, rfl, ho0, hb⟩; refine ⟨_, rfl, ?_⟩; have n0_ := zF.mk (Kd.R_lower ho0 (keep_size (w := w) (g := g) (row := none) (by repeat (first | (with_reducible first | exact HK.out | apply zV | apply zW | apply zX | refine zY ?_ GW262.out _ | refine zY ?_ GW272.out _) | exact HK.out)))); have n1_ := zF.mk (blk_below (g := gb262) (o := .cells #[.bool false, .int .i64 0, .slice none 0 0] 25 (0, 0)) (by (with_reducible repeat (first | refine zK ?_ _ | refine zL ?_ | refine zJ ?_ _)); exact BK262.out) hb); have n2_ := zF.mk (zG.below (by refine zG.as HI0.out ?_; repeat (first | (with_reducible first | exact HI0.out | apply zG.alloc | apply zG.drewN | apply zG.drew | refine zG.farT (t := 25) (b := gb262) ?_ (by decide) (by repeat (first | exact zA.of BK262.out | apply zA.set | apply zA.drewN | apply zA.drew | apply zA.alloc)) _ | refine zG.farT (t := 25) (b := gb272) ?_ (by decide) (by repeat (first | exact zA.of BK272.out | apply zA.set | apply zA.drewN | apply zA.drew | apply zA.alloc)) _) | exact HI0.out)) hb); have n3_ := zF.mk (blk_below (g := gb272) (o := .cells #[.bool (t263 == 1), .int .i64 (wrap64 (t269)), .slice none 0 0] 25 (0, 0)) (by (with_reducible repeat (first | refine zK ?_ _ | refine zL ?_ | refine zJ ?_ _)); exact BK272.out) hb); have n4_ := zF.mk (zI.trans (by repeat (first | (with_reducible first | exact HK.out | apply zV | apply zW | apply zX | refine zY ?_ GW262.out _ | refine zY ?_ GW272.out _) | exact HK.out)) (zI.of_below hb g none) (.inl rfl)); have n5_ := zF.mk (below_step (by repeat (first | (with_reducible first | exact HB.out | apply zE | apply zB | apply zC | refine zD ?_ GE262.out | refine zD ?_ GE272.out) | exact HB.out)) hb); clear BK262; clear HI0; clear BK272; clear HK; clear HB; have HO281 := n0_; have BK262 := n1_; have HI0 := n2_; have BK272 := n3_; have HK := n4_; have HB := n5_; clear n0_ n1_ n2_ n3_ n4_ n5_; (try clear hb); (try clear hb2); (try clear hk); (try clear hi); (try clear ho0); obtain ⟨Ao35, co35, eo35⟩ := Kd.R_slice HO281.out; subst eo35; have hnb36 := NB262_0.out; have hnc36 := NB0_262.out; have hcz37_0 : w34.cell? ⟨gb262, 0, none⟩ = some (.bool false) := (zM BK262.out 0).trans rfl; have hcz37_1 : w34.cell? ⟨gb262, 1, none⟩ = some (.int .i64 0) := (zM BK262.out 1).trans rfl; have hcz37_2 : w34.cell? ⟨gb262, 2, none⟩ = some (.slice none 0 0) := (zM BK262.out 2).trans rfl; have hfz37_0 := zN BK262.out 0; have hfz37_1 := zN BK262.out 1; have hfz37_2 := zN BK262.out 2))
                  refine bodyPost_ret (results_list (rs := [.tmp 6, .cell 7 25, .tmp 8]) rfl (by simp) (.tmp (.cell gb262 25 #[.bool false, .int .i64 0, .slice none 0 0] (0, 0) _ rfl (by (with_reducible repeat (first | refine zK ?_ _ | refine zL ?_ | refine zJ ?_ _)); refine blk_put (cs := #[.bool false, .int .i64 0, .slice none 0 0]) ?_ 2 _ rfl; (with_reducible repeat (first | refine zK ?_ _ | refine zL ?_ | refine zJ ?_ _)); refine blk_put (cs := #[.bool false, .int .i64 0, .slice none 0 0]) ?_ 1 _ rfl; (with_reducible repeat (first | refine zK ?_ _ | refine zL ?_ | refine zJ ?_ _)); refine blk_put (cs := #[.bool false, .int .i64 0, .slice none 0 0]) ?_ 0 _ rfl; (with_reducible repeat (first | refine zK ?_ _ | refine zL ?_ | refine zJ ?_ _)); exact BK262.out) Try.underlying25 rfl (by kernel_rfl) (.tmp .nil)))) rfl ?_
                  exact ⟨_, _, by first | rfl | (simp [errW_none, errW_some] <;> rfl) | (simp [*, errW_none, errW_some] <;> rfl), by first | exact Kd.R_nil _ _ _ _ _ | exact Kd.N_nil _ _ _ _ _ | exact Kd.V_nil _ _ _ _ _ | exact Kd.Q_nil _ _ _ _ _ | exact Kd.S_nil _ _ _ _ _, by first | exact Kd.R_nil _ _ _ _ _ | exact Kd.N_nil _ _ _ _ _ | exact Kd.V_nil _ _ _ _ _ | exact Kd.Q_nil _ _ _ _ _ | exact Kd.S_nil _ _ _ _ _, by repeat (first | (with_reducible first | exact HI0.out | apply zG.alloc | apply zG.drewN | apply zG.drew | refine zG.farT (t := 25) (b := gb262) ?_ (by decide) (by repeat (first | exact zA.of BK262.out | apply zA.set | apply zA.drewN | apply zA.drew | apply zA.alloc)) _ | refine zG.farT (t := 25) (b := gb272) ?_ (by decide) (by repeat (first | exact zA.of BK272.out | apply zA.set | apply zA.drewN | apply zA.drew | apply zA.alloc)) _) | exact HI0.out), by repeat (first | (with_reducible first | exact HB.out | apply zE | apply zB | apply zC | refine zD ?_ GE262.out | refine zD ?_ GE272.out) | exact HB.out), by repeat (first | (with_reducible first | exact HK.out | apply zV | apply zW | apply zX | refine zY ?_ GW262.out _ | refine zY ?_ GW272.out _) | exact HK.out)⟩
                · rw [if_neg c26] at H
                  have c26b0 : ((t279.length : Int) == 0) = false := beq_eq_false_iff_ne.mpr c26
                  have c26b1 : ((t279.length : Int) != 0) = true := bne_iff_ne.mpr c26
                  have c26b2 : ¬ (t279 = []) := fun h_ => c26 (by rw [h_]; rfl)
                  have H' := zF.mk H
                  clear H
                  go_wp2_with (first | ((with_reducible refine gate_callee (f := 32) rfl ?_); refine goesL_ (some 46) rfl rfl Try.func32 (by kernel_rfl) rfl #[.pointer (some ⟨g, 0, none⟩), .int .i64 4] rfl (by (try simp only [List.map_toArray, List.map_cons, List.map_nil]); first | done | rfl | (simp only [List.length_drop, List.length_take]; rfl)) ?_; (with_reducible refine (bits_Reader_Take.calls kj12 g s0_0 x1001_12 x1002_12 4 t269 t270 t271 w0 _ ?side1 ?side2 A22.out).mono ?_); (case side1 => repeat (first | (with_reducible first | exact HI0.out | apply zG.alloc | apply zG.drewN | apply zG.drew | refine zG.farT (t := 25) (b := gb262) ?_ (by decide) (by repeat (first | exact zA.of BK262.out | apply zA.set | apply zA.drewN | apply zA.drew | apply zA.alloc)) _) | exact HI0.out)); (case side2 => repeat (first | (with_reducible first | exact HB.out | apply zE | apply zB | apply zC | refine zD ?_ GE262.out) | exact HB.out)); rintro e w38 ⟨rfl, hi, hb, hk⟩; refine ⟨_, rfl, ?_⟩; have n0_ := zF.mk (zI.blk hk (g' := gb262) (o := .cells #[.bool false, .int .i64 0, .slice none 0 0] 25 (0, 0)) (by (with_reducible repeat (first | refine zK ?_ _ | refine zL ?_ | refine zJ ?_ _)); exact BK262.out) NB262_0.out (by simp)); have n1_ := zF.mk (zI.trans (by repeat (first | (with_reducible first | exact HK.out | apply zV | apply zW | apply zX | refine zY ?_ GW262.out _) | exact HK.out)) hk (.inl rfl)); have n2_ := zF.mk (hb); have n3_ := zF.mk (hi); clear BK262; clear HK; clear HB; clear HI0; have BK262 := n0_; have HK := n1_; have HB := n2_; have HI0 := n3_; clear n0_ n1_ n2_ n3_; (try clear hb); (try clear hb2); (try clear hk); (try clear hi)) | ((with_reducible refine gate_dst (N := 10) rfl ?_); refine box_event ?hg (N := 10) ?hd (cs := #[.bool false, .int .i64 0, .slice none 0 0]) (t := 25) ?hr ?_; (case hd => rfl); (case hg => rfl); (case hr => first | (go_simp; done) | (go_simp; rfl)); intro gb272 hg w39 hbox hb; have n0_ := zF.mk (blk_below (g := gb262) (o := .cells #[.bool false, .int .i64 0, .slice none 0 0] 25 (0, 0)) (by (with_reducible repeat (first | refine zK ?_ _ | refine zL ?_ | refine zJ ?_ _)); exact BK262.out) hb); have n1_ := zF.mk (zG.below (by refine zG.as HI0.out ?_; repeat (first | (with_reducible first | exact HI0.out | apply zG.alloc | apply zG.drewN | apply zG.drew | refine zG.farT (t := 25) (b := gb262) ?_ (by decide) (by repeat (first | exact zA.of BK262.out | apply zA.set | apply zA.drewN | apply zA.drew | apply zA.alloc)) _) | exact HI0.out)) hb); have n2_ := zF.mk (zI.trans (by repeat (first | (with_reducible first | exact HK.out | apply zV | apply zW | apply zX | refine zY ?_ GW262.out _) | exact HK.out)) (zI.of_below hb g none) (.inl rfl)); have n3_ := zF.mk (below_step (by repeat (first | (with_reducible first | exact HB.out | apply zE | apply zB | apply zC | refine zD ?_ GE262.out) | exact HB.out)) hb); have n4_ := zF.mk (hbox); have n5_ := zF.mk ((by rw [hg]; exact (keep_size (w := w) (g := g) (row := none) (by repeat (first | (with_reducible first | exact HK.out | apply zV | apply zW | apply zX | refine zY ?_ GW262.out _) | exact HK.out))) : w.heap.size ≤ gb272)); have n6_ := zF.mk ((Nat.le_trans HW0.out (by rw [hg]; exact (keep_size (w := w) (g := g) (row := none) (by repeat (first | (with_reducible first | exact HK.out | apply zV | apply zW | apply zX | refine zY ?_ GW262.out _) | exact HK.out))) : w.heap.size ≤ gb272) : w0.heap.size ≤ gb272)); have n7_ := zF.mk ((by rw [hg]; exact Nat.ne_of_lt (blk_lt (g := gb262) (o := .cells #[.bool false, .int .i64 0, .slice none 0 0] 25 (0, 0)) (by (with_reducible repeat (first | refine zK ?_ _ | refine zL ?_ | refine zJ ?_ _)); exact BK262.out)) : gb262 ≠ gb272)); have n8_ := zF.mk ((by rw [hg]; exact Nat.ne_of_gt (blk_lt (g := gb262) (o := .cells #[.bool false, .int .i64 0, .slice none 0 0] 25 (0, 0)) (by (with_reducible repeat (first | refine zK ?_ _ | refine zL ?_ | refine zJ ?_ _)); exact BK262.out)) : gb272 ≠ gb262)); have n9_ := zF.mk ((by rw [hg]; exact Nat.ne_of_lt (zG.lt (show zG w0 _ g s0_0 t270 t271 from by repeat (first | (with_reducible first | exact HI0.out | apply zG.alloc | apply zG.drewN | apply zG.drew | refine zG.farT (t := 25) (b := gb262) ?_ (by decide) (by repeat (first | exact zA.of BK262.out | apply zA.set | apply zA.drewN | apply zA.drew | apply zA.alloc)) _) | exact HI0.out))) : g ≠ gb272)); have n10_ := zF.mk ((by rw [hg]; exact Nat.ne_of_gt (zG.lt (show zG w0 _ g s0_0 t270 t271 from by repeat (first | (with_reducible first | exact HI0.out | apply zG.alloc | apply zG.drewN | apply zG.drew | refine zG.farT (t := 25) (b := gb262) ?_ (by decide) (by repeat (first | exact zA.of BK262.out | apply zA.set | apply zA.drewN | apply zA.drew | apply zA.alloc)) _) | exact HI0.out))) : gb272 ≠ g)); clear BK262; clear HI0; clear HK; clear HB; have BK262 := n0_; have HI0 := n1_; have HK := n2_; have HB := n3_; have BK272 := n4_; have GW272 := n5_; have GE272 := n6_; have NB262_272 := n7_; have NB272_262 := n8_; have NB0_272 := n9_; have NB272_0 := n10_; clear n0_ n1_ n2_ n3_ n4_ n5_ n6_ n7_ n8_ n9_ n10_; clear hb hbox hg; have hnb40 := NB272_262.out; have hnc40 := NB262_272.out; have hnb41 := NB272_0.out; have hnc41 := NB0_272.out; have hcz42_0 : w39.cell? ⟨gb272, 0, none⟩ = some (.bool false) := (zM BK272.out 0).trans rfl; have hcz42_1 : w39.cell? ⟨gb272, 1, none⟩ = some (.int .i64 0) := (zM BK272.out 1).trans rfl; have hcz42_2 : w39.cell? ⟨gb272, 2, none⟩ = some (.slice none 0 0) := (zM BK272.out 2).trans rfl; have hfz42_0 := zN BK272.out 0; have hfz42_1 := zN BK272.out 1; have hfz42_2 := zN BK272.out 2) | ((with_reducible refine gate_callee (f := 33) rfl ?_); refine goesL_ (some 50) rfl rfl Try.func33 (by kernel_rfl) rfl #[.pointer (some ⟨g, 0, none⟩)] rfl (by (try simp only [List.map_toArray, List.map_cons, List.map_nil]); first | done | rfl | (simp only [List.length_drop, List.length_take]; rfl)) ?_; (with_reducible refine (bits_Reader_Fail.calls g s0_0 t270 t271 t273 t274 t275 w0 _ ?side1 ?side2 A23.out).mono ?_); (case side1 => repeat (first | (with_reducible first | exact HI0.out | apply zG.alloc | apply zG.drewN | apply zG.drew | refine zG.farT (t := 25) (b := gb262) ?_ (by decide) (by repeat (first | exact zA.of BK262.out | apply zA.set | apply zA.drewN | apply zA.drew | apply zA.alloc)) _ | refine zG.farT (t := 25) (b := gb272) ?_ (by decide) (by repeat (first | exact zA.of BK272.out | apply zA.set | apply zA.drewN | apply zA.drew | apply zA.alloc)) _) | exact HI0.out)); (case side2 => repeat (first | (with_reducible first | exact HB.out | apply zE | apply zB | apply zC | refine zD ?_ GE262.out | refine zD ?_ GE272.out) | exact HB.out)); rintro e w43 ⟨rfl, hi, hb, hk⟩; refine ⟨_, rfl, ?_⟩; have n0_ := zF.mk (zI.blk hk (g' := gb262) (o := .cells #[.bool false, .int .i64 0, .slice none 0 0] 25 (0, 0)) (by (with_reducible repeat (first | refine zK ?_ _ | refine zL ?_ | refine zJ ?_ _)); refine zO ?_ NB262_272.out _; (with_reducible repeat (first | refine zK ?_ _ | refine zL ?_ | refine zJ ?_ _)); refine zO ?_ NB262_272.out _; (with_reducible repeat (first | refine zK ?_ _ | refine zL ?_ | refine zJ ?_ _)); refine zO ?_ NB262_272.out _; (with_reducible repeat (first | refine zK ?_ _ | refine zL ?_ | refine zJ ?_ _)); exact BK262.out) NB262_0.out (by simp)); have n1_ := zF.mk (zI.blk hk (g' := gb272) (o := .cells #[.bool (t263 == 1), .int .i64 (wrap64 (t269)), .slice none 0 0] 25 (0, 0)) (by (with_reducible repeat (first | refine zK ?_ _ | refine zL ?_ | refine zJ ?_ _)); refine blk_put (cs := #[.bool (t263 == 1), .int .i64 (wrap64 (t269)), .slice none 0 0]) ?_ 2 _ rfl; (with_reducible repeat (first | refine zK ?_ _ | refine zL ?_ | refine zJ ?_ _)); refine blk_put (cs := #[.bool (t263 == 1), .int .i64 0, .slice none 0 0]) ?_ 1 _ rfl; (with_reducible repeat (first | refine zK ?_ _ | refine zL ?_ | refine zJ ?_ _)); refine blk_put (cs := #[.bool false, .int .i64 0, .slice none 0 0]) ?_ 0 _ rfl; (with_reducible repeat (first | refine zK ?_ _ | refine zL ?_ | refine zJ ?_ _)); exact BK272.out) NB272_0.out (by simp)); have n2_ := zF.mk (zI.trans (by repeat (first | (with_reducible first | exact HK.out | apply zV | apply zW | apply zX | refine zY ?_ GW262.out _ | refine zY ?_ GW272.out _) | exact HK.out)) hk (.inl rfl)); have n3_ := zF.mk (hb); have n4_ := zF.mk (hi); clear BK262; clear BK272; clear HK; clear HB; clear HI0; have BK262 := n0_; have BK272 := n1_; have HK := n2_; have HB := n3_; have HI0 := n4_; clear n0_ n1_ n2_ n3_ n4_; (try clear hb); (try clear hb2); (try clear hk); (try clear hi); have hcz44_0 : w43.cell? ⟨gb272, 0, none⟩ = some (.bool (t263 == 1)) := (zM BK272.out 0).trans rfl; have hcz44_1 : w43.cell? ⟨gb272, 1, none⟩ = some (.int .i64 (wrap64 (t269))) := (zM BK272.out 1).trans rfl; have hcz44_2 : w43.cell? ⟨gb272, 2, none⟩ = some (.slice none 0 0) := (zM BK272.out 2).trans rfl; have hfz44_0 := zN BK272.out 0; have hfz44_1 := zN BK272.out 1; have hfz44_2 := zN BK272.out 2) | ((with_reducible refine gate_callee (f := 28) rfl ?_); refine goesL_ (some 61) rfl rfl Try.func28 (by kernel_rfl) rfl #[.int .i64 (wrap64 (a1 - a2)), .int .i64 a2, .int .i64 (wrap64 (t269))] rfl (by (try simp only [List.map_toArray, List.map_cons, List.map_nil]); first | done | rfl | (simp only [List.length_drop, List.length_take]; rfl)) ?_; (with_reducible refine (parts_Cuts.calls kj12 (wrap64 (a1 - a2)) a2 (wrap64 (t269)) t279 _ A25.out).mono ?_); rintro e w45 ⟨v280, rfl, ho0, hb⟩; refine ⟨_, rfl, ?_⟩; have n0_ := zF.mk (Kd.R_lower ho0 (keep_size (w := w) (g := g) (row := none) (by repeat (first | (with_reducible first | exact HK.out | apply zV | apply zW | apply zX | refine zY ?_ GW262.out _ | refine zY ?_ GW272.out _) | exact HK.out)))); have n1_ := zF.mk (blk_below (g := gb262) (o := .cells #[.bool false, .int .i64 0, .slice none 0 0] 25 (0, 0)) (by (with_reducible repeat (first | refine zK ?_ _ | refine zL ?_ | refine zJ ?_ _)); exact BK262.out) hb); have n2_ := zF.mk (zG.below (by refine zG.as HI0.out ?_; repeat (first | (with_reducible first | exact HI0.out | apply zG.alloc | apply zG.drewN | apply zG.drew | refine zG.farT (t := 25) (b := gb262) ?_ (by decide) (by repeat (first | exact zA.of BK262.out | apply zA.set | apply zA.drewN | apply zA.drew | apply zA.alloc)) _ | refine zG.farT (t := 25) (b := gb272) ?_ (by decide) (by repeat (first | exact zA.of BK272.out | apply zA.set | apply zA.drewN | apply zA.drew | apply zA.alloc)) _) | exact HI0.out)) hb); have n3_ := zF.mk (blk_below (g := gb272) (o := .cells #[.bool (t263 == 1), .int .i64 (wrap64 (t269)), .slice none 0 0] 25 (0, 0)) (by (with_reducible repeat (first | refine zK ?_ _ | refine zL ?_ | refine zJ ?_ _)); exact BK272.out) hb); have n4_ := zF.mk (zI.trans (by repeat (first | (with_reducible first | exact HK.out | apply zV | apply zW | apply zX | refine zY ?_ GW262.out _ | refine zY ?_ GW272.out _) | exact HK.out)) (zI.of_below hb g none) (.inl rfl)); have n5_ := zF.mk (below_step (by repeat (first | (with_reducible first | exact HB.out | apply zE | apply zB | apply zC | refine zD ?_ GE262.out | refine zD ?_ GE272.out) | exact HB.out)) hb); clear BK262; clear HI0; clear BK272; clear HK; clear HB; have HO281 := n0_; have BK262 := n1_; have HI0 := n2_; have BK272 := n3_; have HK := n4_; have HB := n5_; clear n0_ n1_ n2_ n3_ n4_ n5_; (try clear hb); (try clear hb2); (try clear hk); (try clear hi); (try clear ho0); obtain ⟨Ao46, co46, eo46⟩ := Kd.R_slice HO281.out; subst eo46))
                  go_loopg [12, 68] kj12 (fun kq v12 v68 w' => ∃ (x12_3 : List Int) (x68_3 : Int) (x1001_3 : Int) (x1002_3 : Int) (x263000_3 : Bool) (x263001_3 : Int) (x273002_3 : List (S50)) (u273002 : Value), v68 = .int .i64 x68_3 ∧ zF (section_Take.l0 kq x12_3 t279 (t279.length : Int) x68_3 s0_0 x1001_3 x1002_3 (t263 == 1) (wrap64 (t269)) x273002_3 = some (r1, r2, r3, r4, r5, r6, r7)) ∧ zF (kq ≤ kj12) ∧ zF (Kd.R (Kd.int .i64) 3 w' w.heap.size (fun k_ => some k_ ≠ ((.slice Ao46 t279.length co46) : Value).ownBlock) v12 x12_3) ∧ zF (Kd.R (Kd.int .i64) 3 w' w.heap.size (fun k_ => some k_ ≠ (v12 : Value).ownBlock) (.slice Ao46 t279.length co46) t279) ∧ zF (Kd.R k50 50 w' w.heap.size (fun _ => True) u273002 x273002_3) ∧ zF (w'.heap[gb262]? = some (.cells #[.bool x263000_3, .int .i64 x263001_3, (.slice none 0 0)] 25 (0, 0))) ∧ zF (w'.heap[gb272]? = some (.cells #[.bool (t263 == 1), .int .i64 (wrap64 (t269)), u273002] 25 (0, 0))) ∧ zF (zG w0 w' g s0_0 x1001_3 x1002_3) ∧ zF (zI w w' g none) ∧ zF (Below w0.heap.size w0 w'))
                  case atStart => exact ⟨(([] : List Int)), (0), (t274), (t275), (false), (0), (([] : List (S50))), (.slice none 0 0), (by first | rfl | (simp; done) | (simp only [i64_w, i32_w]; done) | (simp [*]; done) | (simp only [i64_w, i32_w]; first | rfl | (simp; done) | (simp [*]; done))), H', ⟨Nat.le_refl _⟩, ⟨by first | exact Kd.R_nil _ _ _ _ _ | exact Kd.N_nil _ _ _ _ _ | exact Kd.V_nil _ _ _ _ _ | exact Kd.Q_nil _ _ _ _ _ | exact Kd.S_nil _ _ _ _ _⟩, ⟨by (with_reducible repeat (first | apply Kd.zR | apply Kd.zP | apply Kd.zQ)); exact Kd.R_mono HO281.out (fun _ hk => (by simp [Value.ownBlock]))⟩, ⟨by first | exact Kd.R_nil _ _ _ _ _ | exact Kd.N_nil _ _ _ _ _ | exact Kd.V_nil _ _ _ _ _ | exact Kd.Q_nil _ _ _ _ _ | exact Kd.S_nil _ _ _ _ _⟩, ⟨by (with_reducible repeat (first | refine zK ?_ _ | refine zL ?_ | refine zJ ?_ _)); exact BK262.out⟩, ⟨by (with_reducible repeat (first | refine zK ?_ _ | refine zL ?_ | refine zJ ?_ _)); exact BK272.out⟩, ⟨by repeat (first | (with_reducible first | exact HI0.out | apply zG.alloc | apply zG.drewN | apply zG.drew | refine zG.farT (t := 25) (b := gb262) ?_ (by decide) (by repeat (first | exact zA.of BK262.out | apply zA.set | apply zA.drewN | apply zA.drew | apply zA.alloc)) _ | refine zG.farT (t := 25) (b := gb272) ?_ (by decide) (by repeat (first | exact zA.of BK272.out | apply zA.set | apply zA.drewN | apply zA.drew | apply zA.alloc)) _) | exact HI0.out)⟩, ⟨by repeat (first | (with_reducible first | exact HK.out | apply zV | apply zW | apply zX | refine zY ?_ GW262.out _ | refine zY ?_ GW272.out _) | exact HK.out)⟩, ⟨by repeat (first | (with_reducible first | exact HB.out | apply zE | apply zB | apply zC | refine zD ?_ GE262.out | refine zD ?_ GE272.out) | exact HB.out)⟩⟩
                  case round =>
                    clear H'
                    try clear c1
                    try clear c2
                    try clear p2
                    try clear c3
                    try clear c4
                    try clear c6
                    try clear c6b0
                    try clear p6
                    try clear c7
                    try clear c7b0
                    try clear c8
                    try clear c8b0
                    try clear c9
                    try clear c10
                    try clear c14
                    try clear c16
                    try clear c16b0
                    try clear c16b1
                    try clear c19
                    try clear c20
                    try clear c24
                    try clear c24b0
                    try clear c24b1
                    try clear c26
                    try clear c26b0
                    try clear c26b1
                    try clear c26b2
                    try clear c28
                    try clear c29
                    try clear c30
                    try clear c32
                    try clear c33
                    try clear c36
                    try clear c40
                    try clear c41
                    try clear hcz11_0
                    try clear hcz11_1
                    try clear hcz11_2
                    try clear hcz21_0
                    try clear hcz21_1
                    try clear hcz21_2
                    try clear hcz31_0
                    try clear hcz31_1
                    try clear hcz31_2
                    try clear hcz33_0
                    try clear hcz33_1
                    try clear hcz33_2
                    try clear hcz37_0
                    try clear hcz37_1
                    try clear hcz37_2
                    try clear hcz42_0
                    try clear hcz42_1
                    try clear hcz42_2
                    try clear hcz44_0
                    try clear hcz44_1
                    try clear hcz44_2
                    try clear hfz11_0
                    try clear hfz11_1
                    try clear hfz11_2
                    try clear hfz21_0
                    try clear hfz21_1
                    try clear hfz21_2
                    try clear hfz31_0
                    try clear hfz31_1
                    try clear hfz31_2
                    try clear hfz33_0
                    try clear hfz33_1
                    try clear hfz33_2
                    try clear hfz37_0
                    try clear hfz37_1
                    try clear hfz37_2
                    try clear hfz42_0
                    try clear hfz42_1
                    try clear hfz42_2
                    try clear hfz44_0
                    try clear hfz44_1
                    try clear hfz44_2
                    try clear p2
                    obtain ⟨x12_3, x68_3, x1001_3, x1002_3, x263000_3, x263001_3, x273002_3, u273002, rfl, HA, HK3, HO_12, HO_66, HO_273002, BK262, BK272, HI0, HK, HB⟩ := hrel
                    cases gk with
                    | zero => exact absurd HA.out (by simp [section_Take.l0])
                    | succ k3 =>
                      have H := HA.out
                      clear HA
                      simp only [section_Take.l0] at H
                      by_cases c47 : x68_3 < (t279.length : Int)
                      · rw [if_pos c47] at H
                        have c47b0 : decide (x68_3 < (t279.length : Int)) = true := decide_eq_true c47
                        clear c47
                        by_cases c48 : 0 ≤ x68_3
                        · rw [if_pos c48] at H
                          have c48b0 : decide (0 ≤ x68_3) = true := decide_eq_true c48
                          clear c48
                          by_cases c49 : x68_3 < (t279.length : Int)
                          · rw [if_pos c49] at H
                            have c49b0 : decide (x68_3 < (t279.length : Int)) = true := decide_eq_true c49
                            clear c49
                            replace H := Option.bind_eq_some_iff.mp H
                            obtain ⟨⟨t283, t284, t285, t286⟩, A500, H⟩ := H
                            replace H : (if x273002_3.length < 8796093022208 then (section_Take.l1 k3 x12_3 t279 (t279.length : Int) x68_3 (rd t279 x68_3) 0 s0_0 t285 t286 (t263 == 1) (wrap64 (t269)) (x273002_3 ++ [(⟨t283, t284⟩ : S50)]) t283 t284) else (none)) = some (r1, r2, r3, r4, r5, r6, r7) := H
                            have A50 := zF.mk A500
                            clear A500
                            by_cases c51 : x273002_3.length < 8796093022208
                            · rw [if_pos c51] at H
                              have LMc51 := zF.mk c51
                              clear c51
                              obtain ⟨y288, hy288⟩ : ∃ y_ : List (S50), y_ = (x273002_3 ++ [(⟨t283, t284⟩ : S50)]) := ⟨_, rfl⟩
                              replace H : (section_Take.l1 k3 x12_3 t279 (t279.length : Int) x68_3 (rd t279 x68_3) 0 s0_0 t285 t286 (t263 == 1) (wrap64 (t269)) y288 t283 t284) = some (r1, r2, r3, r4, r5, r6, r7) := by first | (rw [hy288]; with_reducible exact H) | (have H2_ := (Option.bind_some _ _).symm.trans H; rw [hy288]; with_reducible exact H2_) | (have H2_ := (Option.bind_some _ _).symm.trans H; with_reducible exact H2_) | with_reducible exact H | (rw [hy288]; exact H) | exact H
                              have Ny288 := zF.mk hy288
                              clear hy288
                              have H' := zF.mk H
                              clear H
                              have p282 : 0 ≤ (x68_3 : Int) := of_decide_eq_true (by first | (with_reducible assumption) | assumption)
                              have q282 : x68_3 < (t279.length : Int) := of_decide_eq_true (by first | (with_reducible assumption) | assumption)
                              obtain ⟨ad282, e282, hx282_0⟩ := Kd.at_int (Kd.R_reads' HO_66.out).2.2 x68_3 p282 q282
                              cases e282
                              replace p282 := eq_true p282
                              replace q282 := eq_true q282
                              have hnb52 := NB272_262.out
                              have hnc52 := NB262_272.out
                              have hnb53 := NB272_0.out
                              have hnc53 := NB0_272.out
                              have hcz54_0 : wr.cell? ⟨gb272, 0, none⟩ = some (.bool (t263 == 1)) := (zM BK272.out 0).trans rfl
                              have hcz54_1 : wr.cell? ⟨gb272, 1, none⟩ = some (.int .i64 (wrap64 (t269))) := (zM BK272.out 1).trans rfl
                              have hcz54_2 : wr.cell? ⟨gb272, 2, none⟩ = some (u273002) := (zM BK272.out 2).trans rfl
                              have hfz54_0 := zN BK272.out 0
                              have hfz54_1 := zN BK272.out 1
                              have hfz54_2 := zN BK272.out 2
                              go_wp2_with (first | ((with_reducible refine gate_callee (f := 34) rfl ?_); refine goesL_ (some 75) rfl rfl Try.func34 (by kernel_rfl) rfl #[.pointer (some ⟨g, 0, none⟩), .bool (t263 == 1)] rfl (by (try simp only [List.map_toArray, List.map_cons, List.map_nil]); first | done | rfl | (simp only [List.length_drop, List.length_take]; rfl)) ?_; (with_reducible refine (section_part.calls k3 g s0_0 x1001_3 x1002_3 (t263 == 1) t283 t284 t285 t286 w0 _ ?side1 ?side2 A50.out).mono ?_); (case side1 => repeat (first | (with_reducible first | exact HI0.out | apply zG.alloc | apply zG.drewN | apply zG.drew | refine zG.farT (t := 25) (b := gb262) ?_ (by decide) (by repeat (first | exact zA.of BK262.out | apply zA.set | apply zA.drewN | apply zA.drew | apply zA.alloc)) _ | refine zG.farT (t := 25) (b := gb272) ?_ (by decide) (by repeat (first | exact zA.of BK272.out | apply zA.set | apply zA.drewN | apply zA.drew | apply zA.alloc)) _) | exact HI0.out)); (case side2 => repeat (first | (with_reducible first | exact HB.out | apply zE | apply zB | apply zC | refine zD ?_ GE262.out | refine zD ?_ GE272.out) | exact HB.out)); rintro e w55 ⟨rfl, hi, hb, hk⟩; refine ⟨_, rfl, ?_⟩; have n0_ := zF.mk (Kd.R_mono (Kd.R_keep (zG.apart (show zG w0 _ g s0_0 x1001_3 x1002_3 from by repeat (first | (with_reducible first | exact HI0.out | apply zG.alloc | apply zG.drewN | apply zG.drew | refine zG.farT (t := 25) (b := gb262) ?_ (by decide) (by repeat (first | exact zA.of BK262.out | apply zA.set | apply zA.drewN | apply zA.drew | apply zA.alloc)) _ | refine zG.farT (t := 25) (b := gb272) ?_ (by decide) (by repeat (first | exact zA.of BK272.out | apply zA.set | apply zA.drewN | apply zA.drew | apply zA.alloc)) _) | exact HI0.out)) (by (with_reducible repeat (first | apply Kd.zR | apply Kd.zP | apply Kd.zQ)); exact HO_12.out) (by decide)) hk (fun _ h => h.2)) (fun _ h => h.1)); have n1_ := zF.mk (Kd.R_mono (Kd.R_keep (zG.apart (show zG w0 _ g s0_0 x1001_3 x1002_3 from by repeat (first | (with_reducible first | exact HI0.out | apply zG.alloc | apply zG.drewN | apply zG.drew | refine zG.farT (t := 25) (b := gb262) ?_ (by decide) (by repeat (first | exact zA.of BK262.out | apply zA.set | apply zA.drewN | apply zA.drew | apply zA.alloc)) _ | refine zG.farT (t := 25) (b := gb272) ?_ (by decide) (by repeat (first | exact zA.of BK272.out | apply zA.set | apply zA.drewN | apply zA.drew | apply zA.alloc)) _) | exact HI0.out)) (by (with_reducible repeat (first | apply Kd.zR | apply Kd.zP | apply Kd.zQ)); exact HO_66.out) (by decide)) hk (fun _ h => h.2)) (fun _ h => h.1)); have n2_ := zF.mk (Kd.R_mono (Kd.R_keep (zG.apart (show zG w0 _ g s0_0 x1001_3 x1002_3 from by repeat (first | (with_reducible first | exact HI0.out | apply zG.alloc | apply zG.drewN | apply zG.drew | refine zG.farT (t := 25) (b := gb262) ?_ (by decide) (by repeat (first | exact zA.of BK262.out | apply zA.set | apply zA.drewN | apply zA.drew | apply zA.alloc)) _ | refine zG.farT (t := 25) (b := gb272) ?_ (by decide) (by repeat (first | exact zA.of BK272.out | apply zA.set | apply zA.drewN | apply zA.drew | apply zA.alloc)) _) | exact HI0.out)) (by (with_reducible repeat (first | apply Kd.zR | apply Kd.zP | apply Kd.zQ)); exact HO_273002.out) (by decide)) hk (fun _ h => h.2)) (fun _ h => h.1)); have n3_ := zF.mk (zI.blk hk (g' := gb262) (o := .cells #[.bool x263000_3, .int .i64 x263001_3, .slice none 0 0] 25 (0, 0)) (by (with_reducible repeat (first | refine zK ?_ _ | refine zL ?_ | refine zJ ?_ _)); exact BK262.out) NB262_0.out (by simp)); have n4_ := zF.mk (zI.blk hk (g' := gb272) (o := .cells #[.bool (t263 == 1), .int .i64 (wrap64 (t269)), u273002] 25 (0, 0)) (by (with_reducible repeat (first | refine zK ?_ _ | refine zL ?_ | refine zJ ?_ _)); exact BK272.out) NB272_0.out (by simp)); have n5_ := zF.mk (zI.trans (by repeat (first | (with_reducible first | exact HK.out | apply zV | apply zW | apply zX | refine zY ?_ GW262.out _ | refine zY ?_ GW272.out _) | exact HK.out)) hk (.inl rfl)); have n6_ := zF.mk (hb); have n7_ := zF.mk (hi); clear HO_12; clear HO_66; clear HO_273002; clear BK262; clear BK272; clear HK; clear HB; clear HI0; have HO_12 := n0_; have HO_66 := n1_; have HO_273002 := n2_; have BK262 := n3_; have BK272 := n4_; have HK := n5_; have HB := n6_; have HI0 := n7_; clear n0_ n1_ n2_ n3_ n4_ n5_ n6_ n7_; (try clear hb); (try clear hb2); (try clear hk); (try clear hi)) | ((with_reducible refine gate_dst (N := 15) rfl ?_); refine box_event ?hg (N := 15) ?hd (cs := #[.int .i64 0, .bool false]) (t := 50) ?hr ?_; (case hd => rfl); (case hg => rfl); (case hr => first | (go_simp; done) | (go_simp; rfl)); intro gb287 hg w56 hbox hb; have n0_ := zF.mk (Kd.R_below (by (with_reducible repeat (first | apply Kd.zR | apply Kd.zP | apply Kd.zQ)); exact HO_12.out) hb); have n1_ := zF.mk (Kd.R_below (by (with_reducible repeat (first | apply Kd.zR | apply Kd.zP | apply Kd.zQ)); exact HO_66.out) hb); have n2_ := zF.mk (Kd.R_below (Kd.R_elderB (by (with_reducible repeat (first | apply Kd.zR | apply Kd.zP | apply Kd.zQ)); exact HO_273002.out) gb287 (Nat.le_of_eq hg.symm)) hb); have n3_ := zF.mk (blk_below (g := gb262) (o := .cells #[.bool x263000_3, .int .i64 x263001_3, .slice none 0 0] 25 (0, 0)) (by (with_reducible repeat (first | refine zK ?_ _ | refine zL ?_ | refine zJ ?_ _)); exact BK262.out) hb); have n4_ := zF.mk (blk_below (g := gb272) (o := .cells #[.bool (t263 == 1), .int .i64 (wrap64 (t269)), u273002] 25 (0, 0)) (by (with_reducible repeat (first | refine zK ?_ _ | refine zL ?_ | refine zJ ?_ _)); exact BK272.out) hb); have n5_ := zF.mk (zG.below (by refine zG.as HI0.out ?_; repeat (first | (with_reducible first | exact HI0.out | apply zG.alloc | apply zG.drewN | apply zG.drew | refine zG.farT (t := 25) (b := gb262) ?_ (by decide) (by repeat (first | exact zA.of BK262.out | apply zA.set | apply zA.drewN | apply zA.drew | apply zA.alloc)) _ | refine zG.farT (t := 25) (b := gb272) ?_ (by decide) (by repeat (first | exact zA.of BK272.out | apply zA.set | apply zA.drewN | apply zA.drew | apply zA.alloc)) _) | exact HI0.out)) hb); have n6_ := zF.mk (zI.trans (by repeat (first | (with_reducible first | exact HK.out | apply zV | apply zW | apply zX | refine zY ?_ GW262.out _ | refine zY ?_ GW272.out _) | exact HK.out)) (zI.of_below hb g none) (.inl rfl)); have n7_ := zF.mk (below_step (by repeat (first | (with_reducible first | exact HB.out | apply zE | apply zB | apply zC | refine zD ?_ GE262.out | refine zD ?_ GE272.out) | exact HB.out)) hb); have n8_ := zF.mk (hbox); have n9_ := zF.mk ((by rw [hg]; exact (keep_size (w := w) (g := g) (row := none) (by repeat (first | (with_reducible first | exact HK.out | apply zV | apply zW | apply zX | refine zY ?_ GW262.out _ | refine zY ?_ GW272.out _) | exact HK.out))) : w.heap.size ≤ gb287)); have n10_ := zF.mk ((Nat.le_trans HW0.out (by rw [hg]; exact (keep_size (w := w) (g := g) (row := none) (by repeat (first | (with_reducible first | exact HK.out | apply zV | apply zW | apply zX | refine zY ?_ GW262.out _ | refine zY ?_ GW272.out _) | exact HK.out))) : w.heap.size ≤ gb287) : w0.heap.size ≤ gb287)); have n11_ := zF.mk ((by rw [hg]; exact Nat.ne_of_lt (blk_lt (g := gb262) (o := .cells #[.bool x263000_3, .int .i64 x263001_3, .slice none 0 0] 25 (0, 0)) (by (with_reducible repeat (first | refine zK ?_ _ | refine zL ?_ | refine zJ ?_ _)); exact BK262.out)) : gb262 ≠ gb287)); have n12_ := zF.mk ((by rw [hg]; exact Nat.ne_of_gt (blk_lt (g := gb262) (o := .cells #[.bool x263000_3, .int .i64 x263001_3, .slice none 0 0] 25 (0, 0)) (by (with_reducible repeat (first | refine zK ?_ _ | refine zL ?_ | refine zJ ?_ _)); exact BK262.out)) : gb287 ≠ gb262)); have n13_ := zF.mk ((by rw [hg]; exact Nat.ne_of_lt (blk_lt (g := gb272) (o := .cells #[.bool (t263 == 1), .int .i64 (wrap64 (t269)), u273002] 25 (0, 0)) (by (with_reducible repeat (first | refine zK ?_ _ | refine zL ?_ | refine zJ ?_ _)); exact BK272.out)) : gb272 ≠ gb287)); have n14_ := zF.mk ((by rw [hg]; exact Nat.ne_of_gt (blk_lt (g := gb272) (o := .cells #[.bool (t263 == 1), .int .i64 (wrap64 (t269)), u273002] 25 (0, 0)) (by (with_reducible repeat (first | refine zK ?_ _ | refine zL ?_ | refine zJ ?_ _)); exact BK272.out)) : gb287 ≠ gb272)); have n15_ := zF.mk ((by rw [hg]; exact Nat.ne_of_lt (zG.lt (show zG w0 _ g s0_0 t285 t286 from by repeat (first | (with_reducible first | exact HI0.out | apply zG.alloc | apply zG.drewN | apply zG.drew | refine zG.farT (t := 25) (b := gb262) ?_ (by decide) (by repeat (first | exact zA.of BK262.out | apply zA.set | apply zA.drewN | apply zA.drew | apply zA.alloc)) _ | refine zG.farT (t := 25) (b := gb272) ?_ (by decide) (by repeat (first | exact zA.of BK272.out | apply zA.set | apply zA.drewN | apply zA.drew | apply zA.alloc)) _) | exact HI0.out))) : g ≠ gb287)); have n16_ := zF.mk ((by rw [hg]; exact Nat.ne_of_gt (zG.lt (show zG w0 _ g s0_0 t285 t286 from by repeat (first | (with_reducible first | exact HI0.out | apply zG.alloc | apply zG.drewN | apply zG.drew | refine zG.farT (t := 25) (b := gb262) ?_ (by decide) (by repeat (first | exact zA.of BK262.out | apply zA.set | apply zA.drewN | apply zA.drew | apply zA.alloc)) _ | refine zG.farT (t := 25) (b := gb272) ?_ (by decide) (by repeat (first | exact zA.of BK272.out | apply zA.set | apply zA.drewN | apply zA.drew | apply zA.alloc)) _) | exact HI0.out))) : gb287 ≠ g)); clear HO_12; clear HO_66; clear HO_273002; clear BK262; clear BK272; clear HI0; clear HK; clear HB; have HO_12 := n0_; have HO_66 := n1_; have HO_273002 := n2_; have BK262 := n3_; have BK272 := n4_; have HI0 := n5_; have HK := n6_; have HB := n7_; have BK287 := n8_; have GW287 := n9_; have GE287 := n10_; have NB262_287 := n11_; have NB287_262 := n12_; have NB272_287 := n13_; have NB287_272 := n14_; have NB0_287 := n15_; have NB287_0 := n16_; clear n0_ n1_ n2_ n3_ n4_ n5_ n6_ n7_ n8_ n9_ n10_ n11_ n12_ n13_ n14_ n15_ n16_; clear hb hbox hg; have hnb57 := NB287_262.out; have hnc57 := NB262_287.out; have hnb58 := NB287_272.out; have hnc58 := NB272_287.out; have hnb59 := NB287_0.out; have hnc59 := NB0_287.out; have hcz60_0 : w56.cell? ⟨gb287, 0, none⟩ = some (.int .i64 0) := (zM BK287.out 0).trans rfl; have hcz60_1 : w56.cell? ⟨gb287, 1, none⟩ = some (.bool false) := (zM BK287.out 1).trans rfl; have hfz60_0 := zN BK287.out 0; have hfz60_1 := zN BK287.out 1; have hcz61_0 : w56.cell? ⟨gb272, 0, none⟩ = some (.bool (t263 == 1)) := (zM BK272.out 0).trans rfl; have hcz61_1 : w56.cell? ⟨gb272, 1, none⟩ = some (.int .i64 (wrap64 (t269))) := (zM BK272.out 1).trans rfl; have hcz61_2 : w56.cell? ⟨gb272, 2, none⟩ = some (u273002) := (zM BK272.out 2).trans rfl; have hfz61_0 := zN BK272.out 0; have hfz61_1 := zN BK272.out 1; have hfz61_2 := zN BK272.out 2) | ((with_reducible refine gate_builtin (b := .append) (xs := #[.tmp 77, .tmp 79]) rfl ?_); at_builtin; refine Kd.R_append k50 w.heap.size rfl (.tmp 77) (.tmp 79) 23 50 (.agg #[(.int .i64 0), (.bool false)]) 16 rfl Try.underlying23 info50 rfl (by decide) (by omega) u273002 x273002_3 (⟨t283, t284⟩ : S50) [.int .i64 t283, .bool t284] (fun k_ => k_ ≠ gb287) (fun _ => False) rfl (by first | (go_simp; done) | (go_simp; rfl)) ?aP (fun _ hk => hk.elim) ?aF ?aO (Below.refl _ _) ?aS ?aL ?_; (case aP => exact k50_mkM _ _ _ (⟨t283, t284⟩ : S50)); (case aF => exact (fun k_ hk => Kd.freshB (g := gb287) (o := .cells #[.int .i64 t283, .bool t284] 50 (0, 0)) (by (with_reducible repeat (first | refine zK ?_ _ | refine zL ?_ | refine zJ ?_ _)); refine blk_put (cs := #[.int .i64 t283, .bool false]) ?_ 1 _ rfl; (with_reducible repeat (first | refine zK ?_ _ | refine zL ?_ | refine zJ ?_ _)); refine blk_put (cs := #[.int .i64 0, .bool false]) ?_ 0 _ rfl; (with_reducible repeat (first | refine zK ?_ _ | refine zL ?_ | refine zJ ?_ _)); exact BK287.out) k_ hk)); (case aO => exact (by (with_reducible repeat (first | apply Kd.zR | apply Kd.zP | apply Kd.zQ)); exact Kd.R_mono (Kd.R_far (p := ⟨gb287, 1, none⟩) (Kd.R_far (p := ⟨gb287, 0, none⟩) (Kd.R_mono HO_273002.out (fun k_ hk => (⟨hk, hk.2⟩ : _ ∧ k_ ≠ gb287))) (fun _ hk => hk.2) (.int .i64 t283)) (fun _ hk => hk.2) (.bool t284)) (fun _ hk => hk.1.2))); (case aS => exact (keep_size (w := w) (g := g) (row := none) (by repeat (first | (with_reducible first | exact HK.out | apply zV | apply zW | apply zX | refine zY ?_ GW262.out _ | refine zY ?_ GW272.out _ | refine zY ?_ GW287.out _) | exact HK.out)))); (case aL => have := LMc51.out; omega); intro v289 w62 ho hb hg hat; rw [← Ny288.out] at ho; have n0_ := zF.mk (Kd.R_over' (by (with_reducible repeat (first | apply Kd.zR | apply Kd.zP | apply Kd.zQ)); exact (Kd.R_mono (Kd.R_far (p := ⟨gb287, 1, none⟩) (Kd.R_far (p := ⟨gb287, 0, none⟩) (Kd.R_types HO_12.out BK287.out (by decide)) (fun _ hk => hk.2) (.int .i64 t283)) (fun _ hk => hk.2) (.bool t284)) (fun _ h_ => h_.1))) (Kd.R_typed (by (with_reducible repeat (first | apply Kd.zR | apply Kd.zP | apply Kd.zQ)); exact (Kd.R_mono (Kd.R_far (p := ⟨gb287, 1, none⟩) (Kd.R_far (p := ⟨gb287, 0, none⟩) (Kd.R_mono HO_273002.out (fun k_ hk => (⟨hk, hk.2⟩ : _ ∧ k_ ≠ gb287))) (fun _ hk => hk.2) (.int .i64 t283)) (fun _ hk => hk.2) (.bool t284)) (fun _ h_ => h_.1)))) (by decide) hg); have n1_ := zF.mk (Kd.R_over' (by (with_reducible repeat (first | apply Kd.zR | apply Kd.zP | apply Kd.zQ)); exact (Kd.R_mono (Kd.R_far (p := ⟨gb287, 1, none⟩) (Kd.R_far (p := ⟨gb287, 0, none⟩) (Kd.R_types HO_66.out BK287.out (by decide)) (fun _ hk => hk.2) (.int .i64 t283)) (fun _ hk => hk.2) (.bool t284)) (fun _ h_ => h_.1))) (Kd.R_typed (by (with_reducible repeat (first | apply Kd.zR | apply Kd.zP | apply Kd.zQ)); exact (Kd.R_mono (Kd.R_far (p := ⟨gb287, 1, none⟩) (Kd.R_far (p := ⟨gb287, 0, none⟩) (Kd.R_mono HO_273002.out (fun k_ hk => (⟨hk, hk.2⟩ : _ ∧ k_ ≠ gb287))) (fun _ hk => hk.2) (.int .i64 t283)) (fun _ hk => hk.2) (.bool t284)) (fun _ h_ => h_.1)))) (by decide) hg); have n2_ := zF.mk (blk_grown (g := gb262) (o := .cells #[.bool x263000_3, .int .i64 x263001_3, .slice none 0 0] 25 (0, 0)) (by (with_reducible repeat (first | refine zK ?_ _ | refine zL ?_ | refine zJ ?_ _)); refine zO ?_ NB262_287.out _; (with_reducible repeat (first | refine zK ?_ _ | refine zL ?_ | refine zJ ?_ _)); refine zO ?_ NB262_287.out _; (with_reducible repeat (first | refine zK ?_ _ | refine zL ?_ | refine zJ ?_ _)); exact BK262.out) hg (Kd.R_ne HO_273002.out BK262.out (by decide))); have n3_ := zF.mk (blk_grown (g := gb272) (o := .cells #[.bool (t263 == 1), .int .i64 (wrap64 (t269)), u273002] 25 (0, 0)) (by (with_reducible repeat (first | refine zK ?_ _ | refine zL ?_ | refine zJ ?_ _)); refine zO ?_ NB272_287.out _; (with_reducible repeat (first | refine zK ?_ _ | refine zL ?_ | refine zJ ?_ _)); refine zO ?_ NB272_287.out _; (with_reducible repeat (first | refine zK ?_ _ | refine zL ?_ | refine zJ ?_ _)); exact BK272.out) hg (Kd.R_ne HO_273002.out BK272.out (by decide))); have n4_ := zF.mk (zG.grownR (w0 := w0) (g := g) hg (by refine zG.as HI0.out ?_; repeat (first | (with_reducible first | exact HI0.out | apply zG.alloc | apply zG.drewN | apply zG.drew | refine zG.farT (t := 25) (b := gb262) ?_ (by decide) (by repeat (first | exact zA.of BK262.out | apply zA.set | apply zA.drewN | apply zA.drew | apply zA.alloc)) _ | refine zG.farT (t := 25) (b := gb272) ?_ (by decide) (by repeat (first | exact zA.of BK272.out | apply zA.set | apply zA.drewN | apply zA.drew | apply zA.alloc)) _ | refine zG.farT (t := 50) (b := gb287) ?_ (by decide) (by repeat (first | exact zA.of BK287.out | apply zA.set | apply zA.drewN | apply zA.drew | apply zA.alloc)) _) | exact HI0.out)) (by (with_reducible repeat (first | apply Kd.zR | apply Kd.zP | apply Kd.zQ)); exact (Kd.R_mono (Kd.R_far (p := ⟨gb287, 1, none⟩) (Kd.R_far (p := ⟨gb287, 0, none⟩) (Kd.R_mono HO_273002.out (fun k_ hk => (⟨hk, hk.2⟩ : _ ∧ k_ ≠ gb287))) (fun _ hk => hk.2) (.int .i64 t283)) (fun _ hk => hk.2) (.bool t284)) (fun _ h_ => h_.1))) (by decide)); have n5_ := zF.mk (blk_grown (g := gb287) (o := .cells #[.int .i64 t283, .bool t284] 50 (0, 0)) (by (with_reducible repeat (first | refine zK ?_ _ | refine zL ?_ | refine zJ ?_ _)); refine blk_put (cs := #[.int .i64 t283, .bool false]) ?_ 1 _ rfl; (with_reducible repeat (first | refine zK ?_ _ | refine zL ?_ | refine zJ ?_ _)); refine blk_put (cs := #[.int .i64 0, .bool false]) ?_ 0 _ rfl; (with_reducible repeat (first | refine zK ?_ _ | refine zL ?_ | refine zJ ?_ _)); exact BK287.out) hg (Kd.R_away HO_273002.out (fun _ hk => hk.2))); have n6_ := zF.mk (below_weaken (by repeat (first | (with_reducible first | exact HB.out | apply zE | apply zB | apply zC | refine zD ?_ GE262.out | refine zD ?_ GE272.out | refine zD ?_ GE287.out) | exact HB.out)) HL.out hb); have n7_ := zF.mk (zI.trans (by repeat (first | (with_reducible first | exact HK.out | apply zV | apply zW | apply zX | refine zY ?_ GW262.out _ | refine zY ?_ GW272.out _ | refine zY ?_ GW287.out _) | exact HK.out)) (zI.of_grown hg g) (Kd.R_base2 HO_273002.out)); have n8_ := zF.mk (ho); clear HO_12; clear HO_66; clear BK262; clear BK272; clear HI0; clear BK287; clear HB; clear HK; clear HO_273002; have HO_12 := n0_; have HO_66 := n1_; have BK262 := n2_; have BK272 := n3_; have HI0 := n4_; have BK287 := n5_; have HB := n6_; have HK := n7_; have HO290 := n8_; clear n0_ n1_ n2_ n3_ n4_ n5_ n6_ n7_ n8_; clear ho hb hg hat; obtain ⟨Ao63, co63, eo63⟩ := Kd.R_slice HO290.out; subst eo63; have hcz64_0 : w62.cell? ⟨gb272, 0, none⟩ = some (.bool (t263 == 1)) := (zM BK272.out 0).trans rfl; have hcz64_1 : w62.cell? ⟨gb272, 1, none⟩ = some (.int .i64 (wrap64 (t269))) := (zM BK272.out 1).trans rfl; have hcz64_2 : w62.cell? ⟨gb272, 2, none⟩ = some (u273002) := (zM BK272.out 2).trans rfl; have hfz64_0 := zN BK272.out 0; have hfz64_1 := zN BK272.out 1; have hfz64_2 := zN BK272.out 2))
                              go_loopg [12, 83] k3 (fun kq v12 v83 w' => ∃ (x12_4 : List Int) (x83_4 : Int) (x1001_4 : Int) (x1002_4 : Int) (x263000_4 : Bool) (x263001_4 : Int), v83 = .int .i64 x83_4 ∧ zF (section_Take.l1 kq x12_4 t279 (t279.length : Int) x68_3 (rd t279 x68_3) x83_4 s0_0 x1001_4 x1002_4 (t263 == 1) (wrap64 (t269)) y288 t283 t284 = some (r1, r2, r3, r4, r5, r6, r7)) ∧ zF (kq ≤ k3) ∧ zF (Kd.R (Kd.int .i64) 3 w' w.heap.size (fun k_ => some k_ ≠ ((.slice (some ad282) t279.length co46) : Value).ownBlock) v12 x12_4) ∧ zF (Kd.R (Kd.int .i64) 3 w' w.heap.size (fun k_ => some k_ ≠ (v12 : Value).ownBlock) (.slice (some ad282) t279.length co46) t279) ∧ zF (Kd.R k50 50 w' w.heap.size (fun k_ => k_ ≠ gb287) (.slice Ao63 y288.length co63) y288) ∧ zF (w'.heap[gb262]? = some (.cells #[.bool x263000_4, .int .i64 x263001_4, (.slice none 0 0)] 25 (0, 0))) ∧ zF (w'.heap[gb272]? = some (.cells #[.bool (t263 == 1), .int .i64 (wrap64 (t269)), (.slice Ao63 y288.length co63)] 25 (0, 0))) ∧ zF (w'.heap[gb287]? = some (.cells #[.int .i64 t283, .bool t284] 50 (0, 0))) ∧ zF (zG w0 w' g s0_0 x1001_4 x1002_4) ∧ zF (zI w w' g none) ∧ zF (Below w0.heap.size w0 w'))
                              case atStart => exact ⟨(x12_3), (0), (t285), (t286), (x263000_3), (x263001_3), (by first | rfl | (simp; done) | (simp only [i64_w, i32_w]; done) | (simp [*]; done) | (simp only [i64_w, i32_w]; first | rfl | (simp; done) | (simp [*]; done))), H', ⟨Nat.le_refl _⟩, ⟨by (with_reducible repeat (first | apply Kd.zR | apply Kd.zP | apply Kd.zQ)); exact Kd.R_mono (Kd.R_far (p := ⟨gb272, 2, none⟩) (Kd.R_types HO_12.out BK272.out (by decide)) (fun _ hk => hk.2) (.slice Ao63 y288.length co63)) (fun _ hk => hk.1)⟩, ⟨by (with_reducible repeat (first | apply Kd.zR | apply Kd.zP | apply Kd.zQ)); exact Kd.R_mono (Kd.R_far (p := ⟨gb272, 2, none⟩) (Kd.R_types HO_66.out BK272.out (by decide)) (fun _ hk => hk.2) (.slice Ao63 y288.length co63)) (fun _ hk => hk.1)⟩, ⟨by (with_reducible repeat (first | apply Kd.zR | apply Kd.zP | apply Kd.zQ)); exact Kd.R_mono (Kd.R_far (p := ⟨gb272, 2, none⟩) (Kd.R_types HO290.out BK272.out (by decide)) (fun _ hk => hk.2) (.slice Ao63 y288.length co63)) (fun _ hk => hk.1)⟩, ⟨by (with_reducible repeat (first | refine zK ?_ _ | refine zL ?_ | refine zJ ?_ _)); refine zO ?_ NB262_272.out _; (with_reducible repeat (first | refine zK ?_ _ | refine zL ?_ | refine zJ ?_ _)); exact BK262.out⟩, ⟨by (with_reducible repeat (first | refine zK ?_ _ | refine zL ?_ | refine zJ ?_ _)); refine blk_put (cs := #[.bool (t263 == 1), .int .i64 (wrap64 (t269)), u273002]) ?_ 2 _ rfl; (with_reducible repeat (first | refine zK ?_ _ | refine zL ?_ | refine zJ ?_ _)); exact BK272.out⟩, ⟨by (with_reducible repeat (first | refine zK ?_ _ | refine zL ?_ | refine zJ ?_ _)); refine zO ?_ NB287_272.out _; (with_reducible repeat (first | refine zK ?_ _ | refine zL ?_ | refine zJ ?_ _)); exact BK287.out⟩, ⟨by repeat (first | (with_reducible first | exact HI0.out | apply zG.alloc | apply zG.drewN | apply zG.drew | refine zG.farT (t := 25) (b := gb262) ?_ (by decide) (by repeat (first | exact zA.of BK262.out | apply zA.set | apply zA.drewN | apply zA.drew | apply zA.alloc)) _ | refine zG.farT (t := 25) (b := gb272) ?_ (by decide) (by repeat (first | exact zA.of BK272.out | apply zA.set | apply zA.drewN | apply zA.drew | apply zA.alloc)) _ | refine zG.farT (t := 50) (b := gb287) ?_ (by decide) (by repeat (first | exact zA.of BK287.out | apply zA.set | apply zA.drewN | apply zA.drew | apply zA.alloc)) _) | exact HI0.out)⟩, ⟨by repeat (first | (with_reducible first | exact HK.out | apply zV | apply zW | apply zX | refine zY ?_ GW262.out _ | refine zY ?_ GW272.out _ | refine zY ?_ GW287.out _) | exact HK.out)⟩, ⟨by repeat (first | (with_reducible first | exact HB.out | apply zE | apply zB | apply zC | refine zD ?_ GE262.out | refine zD ?_ GE272.out | refine zD ?_ GE287.out) | exact HB.out)⟩⟩
                              case round =>
                                clear H'
                                try clear c1
                                try clear c2
                                try clear p2
                                try clear q2
                                try clear hx2
                                try clear c3
                                try clear c4
                                try clear c5
                                try clear c6
                                try clear c6b0
                                try clear p6
                                try clear c7
                                try clear c7b0
                                try clear c8
                                try clear c8b0
                                try clear c9
                                try clear c10
                                try clear c14
                                try clear c16
                                try clear c16b0
                                try clear c16b1
                                try clear c19
                                try clear c20
                                try clear c24
                                try clear c24b0
                                try clear c24b1
                                try clear c26
                                try clear c26b0
                                try clear c26b1
                                try clear c26b2
                                try clear c28
                                try clear p28
                                try clear q28
                                try clear hx28
                                try clear c29
                                try clear c30
                                try clear c32
                                try clear c33
                                try clear c34
                                try clear c36
                                try clear c40
                                try clear c41
                                try clear c47
                                try clear c47b0
                                try clear c48
                                try clear c48b0
                                try clear c49
                                try clear c49b0
                                try clear c51
                                try clear c52
                                try clear c53
                                try clear c57
                                try clear c58
                                try clear c59
                                try clear p64
                                try clear hcz11_0
                                try clear hcz11_1
                                try clear hcz11_2
                                try clear hcz21_0
                                try clear hcz21_1
                                try clear hcz21_2
                                try clear hcz31_0
                                try clear hcz31_1
                                try clear hcz31_2
                                try clear hcz33_0
                                try clear hcz33_1
                                try clear hcz33_2
                                try clear hcz37_0
                                try clear hcz37_1
                                try clear hcz37_2
                                try clear hcz42_0
                                try clear hcz42_1
                                try clear hcz42_2
                                try clear hcz44_0
                                try clear hcz44_1
                                try clear hcz44_2
                                try clear hcz54_0
                                try clear hcz54_1
                                try clear hcz54_2
                                try clear hcz60_0
                                try clear hcz60_1
                                try clear hcz61_0
                                try clear hcz61_1
                                try clear hcz61_2
                                try clear hcz64_0
                                try clear hcz64_1
                                try clear hcz64_2
                                try clear hfz11_0
                                try clear hfz11_1
                                try clear hfz11_2
                                try clear hfz21_0
                                try clear hfz21_1
                                try clear hfz21_2
                                try clear hfz31_0
                                try clear hfz31_1
                                try clear hfz31_2
                                try clear hfz33_0
                                try clear hfz33_1
                                try clear hfz33_2
                                try clear hfz37_0
                                try clear hfz37_1
                                try clear hfz37_2
                                try clear hfz42_0
                                try clear hfz42_1
                                try clear hfz42_2
                                try clear hfz44_0
                                try clear hfz44_1
                                try clear hfz44_2
                                try clear hfz54_0
                                try clear hfz54_1
                                try clear hfz54_2
                                try clear hfz60_0
                                try clear hfz60_1
                                try clear hfz61_0
                                try clear hfz61_1
                                try clear hfz61_2
                                try clear hfz64_0
                                try clear hfz64_1
                                try clear hfz64_2
                                try clear hx282_0
                                try clear p2
                                try clear p282
                                try clear p6
                                try clear q282
                                obtain ⟨x12_4, x83_4, x1001_4, x1002_4, x263000_4, x263001_4, rfl, HA, HK4, HO_12, HO_66, HO_273002, BK262, BK272, BK287, HI0, HK, HB⟩ := hrel
                                cases gk with
                                | zero => exact absurd HA.out (by simp [section_Take.l1])
                                | succ k4 =>
                                  have H := HA.out
                                  clear HA
                                  simp only [section_Take.l1] at H
                                  by_cases c65 : x83_4 < (rd t279 x68_3)
                                  · rw [if_pos c65] at H
                                    have c65b0 : decide (x83_4 < (rd t279 x68_3)) = true := decide_eq_true c65
                                    clear c65
                                    replace H := Option.bind_eq_some_iff.mp H
                                    obtain ⟨⟨t291, t292, t293⟩, A660, H⟩ := H
                                    replace H : ((bits_Reader_Fail.f s0_0 t292 t293).bind fun bt294 => (if bt294.1 = 0 then (if t291 ≤ (-2147483648) then (some (([] : List Int), false, 0, ([] : List (S50)), 14, bt294.2.1, bt294.2.2)) else (if t291 ≥ 2147483648 then (some (([] : List Int), false, 0, ([] : List (S50)), 14, bt294.2.1, bt294.2.2)) else (if x12_4.length < 17592186044416 then (section_Take.l1 k4 (x12_4 ++ [t291]) t279 (t279.length : Int) x68_3 (rd t279 x68_3) (wrap64 (x83_4 + 1)) s0_0 bt294.2.1 bt294.2.2 (t263 == 1) (wrap64 (t269)) y288 t283 t284) else (none)))) else ((bits_Reader_Fail.f s0_0 bt294.2.1 bt294.2.2).bind fun bt300 => (some (([] : List Int), false, 0, ([] : List (S50)), bt300.1, bt300.2.1, bt300.2.2))))) = some (r1, r2, r3, r4, r5, r6, r7) := H
                                    have A66 := zF.mk A660
                                    clear A660
                                    replace H := Option.bind_eq_some_iff.mp H
                                    obtain ⟨⟨t294, t295, t296⟩, A670, H⟩ := H
                                    replace H : (if t294 = 0 then (if t291 ≤ (-2147483648) then (some (([] : List Int), false, 0, ([] : List (S50)), 14, t295, t296)) else (if t291 ≥ 2147483648 then (some (([] : List Int), false, 0, ([] : List (S50)), 14, t295, t296)) else (if x12_4.length < 17592186044416 then (section_Take.l1 k4 (x12_4 ++ [t291]) t279 (t279.length : Int) x68_3 (rd t279 x68_3) (wrap64 (x83_4 + 1)) s0_0 t295 t296 (t263 == 1) (wrap64 (t269)) y288 t283 t284) else (none)))) else ((bits_Reader_Fail.f s0_0 t295 t296).bind fun bt300 => (some (([] : List Int), false, 0, ([] : List (S50)), bt300.1, bt300.2.1, bt300.2.2)))) = some (r1, r2, r3, r4, r5, r6, r7) := H
                                    have A67 := zF.mk A670
                                    clear A670
                                    by_cases c68 : t294 = 0
                                    · rw [if_pos c68] at H
                                      have c68b0 : (t294 == 0) = true := beq_iff_eq.mpr c68
                                      have c68b1 : (t294 != 0) = false := bne_eq_false_iff_eq.mpr c68
                                      clear c68
                                      by_cases c69 : t291 ≤ (-2147483648)
                                      · rw [if_pos c69] at H
                                        have c69b0 : decide (t291 ≤ (-2147483648)) = true := decide_eq_true c69
                                        clear c69
                                        simp only [Option.some.injEq, Prod.mk.injEq] at H
                                        obtain ⟨rfl, rfl, rfl, rfl, rfl, rfl, rfl⟩ := H
                                        have hnb70 := NB287_262.out
                                        have hnc70 := NB262_287.out
                                        have hnb71 := NB287_272.out
                                        have hnc71 := NB272_287.out
                                        have hnb72 := NB287_0.out
                                        have hnc72 := NB0_287.out
                                        have hcz73_0 : wr.cell? ⟨gb287, 0, none⟩ = some (.int .i64 t283) := (zM BK287.out 0).trans rfl
                                        have hcz73_1 : wr.cell? ⟨gb287, 1, none⟩ = some (.bool t284) := (zM BK287.out 1).trans rfl
                                        have hfz73_0 := zN BK287.out 0
                                        have hfz73_1 := zN BK287.out 1
                                        go_wp2_with (first | ((with_reducible refine gate_callee (f := 35) rfl ?_); refine goesL_ (some 87) rfl rfl Try.func35 (by kernel_rfl) rfl #[.pointer (some ⟨g, 0, none⟩), .agg #[.int .i64 t283, .bool t284]] rfl (by (try simp only [List.map_toArray, List.map_cons, List.map_nil]); first | done | rfl | (simp only [List.length_drop, List.length_take]; rfl)) ?_; (with_reducible refine (section_number.calls k4 g s0_0 x1001_4 x1002_4 t283 t284 t291 t292 t293 w0 _ ?side1 ?side2 A66.out).mono ?_); (case side1 => repeat (first | (with_reducible first | exact HI0.out | apply zG.alloc | apply zG.drewN | apply zG.drew | refine zG.farT (t := 25) (b := gb262) ?_ (by decide) (by repeat (first | exact zA.of BK262.out | apply zA.set | apply zA.drewN | apply zA.drew | apply zA.alloc)) _ | refine zG.farT (t := 25) (b := gb272) ?_ (by decide) (by repeat (first | exact zA.of BK272.out | apply zA.set | apply zA.drewN | apply zA.drew | apply zA.alloc)) _ | refine zG.farT (t := 50) (b := gb287) ?_ (by decide) (by repeat (first | exact zA.of BK287.out | apply zA.set | apply zA.drewN | apply zA.drew | apply zA.alloc)) _) | exact HI0.out)); (case side2 => repeat (first | (with_reducible first | exact HB.out | apply zE | apply zB | apply zC | refine zD ?_ GE262.out | refine zD ?_ GE272.out | refine zD ?_ GE287.out) | exact HB.out)); rintro e w74 ⟨rfl, hi, hb, hk⟩; refine ⟨_, rfl, ?_⟩; have n0_ := zF.mk (Kd.R_mono (Kd.R_keep (zG.apart (show zG w0 _ g s0_0 x1001_4 x1002_4 from by repeat (first | (with_reducible first | exact HI0.out | apply zG.alloc | apply zG.drewN | apply zG.drew | refine zG.farT (t := 25) (b := gb262) ?_ (by decide) (by repeat (first | exact zA.of BK262.out | apply zA.set | apply zA.drewN | apply zA.drew | apply zA.alloc)) _ | refine zG.farT (t := 25) (b := gb272) ?_ (by decide) (by repeat (first | exact zA.of BK272.out | apply zA.set | apply zA.drewN | apply zA.drew | apply zA.alloc)) _ | refine zG.farT (t := 50) (b := gb287) ?_ (by decide) (by repeat (first | exact zA.of BK287.out | apply zA.set | apply zA.drewN | apply zA.drew | apply zA.alloc)) _) | exact HI0.out)) (by (with_reducible repeat (first | apply Kd.zR | apply Kd.zP | apply Kd.zQ)); exact HO_12.out) (by decide)) hk (fun _ h => h.2)) (fun _ h => h.1)); have n1_ := zF.mk (Kd.R_mono (Kd.R_keep (zG.apart (show zG w0 _ g s0_0 x1001_4 x1002_4 from by repeat (first | (with_reducible first | exact HI0.out | apply zG.alloc | apply zG.drewN | apply zG.drew | refine zG.farT (t := 25) (b := gb262) ?_ (by decide) (by repeat (first | exact zA.of BK262.out | apply zA.set | apply zA.drewN | apply zA.drew | apply zA.alloc)) _ | refine zG.farT (t := 25) (b := gb272) ?_ (by decide) (by repeat (first | exact zA.of BK272.out | apply zA.set | apply zA.drewN | apply zA.drew | apply zA.alloc)) _ | refine zG.farT (t := 50) (b := gb287) ?_ (by decide) (by repeat (first | exact zA.of BK287.out | apply zA.set | apply zA.drewN | apply zA.drew | apply zA.alloc)) _) | exact HI0.out)) (by (with_reducible repeat (first | apply Kd.zR | apply Kd.zP | apply Kd.zQ)); exact HO_66.out) (by decide)) hk (fun _ h => h.2)) (fun _ h => h.1)); have n2_ := zF.mk (Kd.R_mono (Kd.R_keep (zG.apart (show zG w0 _ g s0_0 x1001_4 x1002_4 from by repeat (first | (with_reducible first | exact HI0.out | apply zG.alloc | apply zG.drewN | apply zG.drew | refine zG.farT (t := 25) (b := gb262) ?_ (by decide) (by repeat (first | exact zA.of BK262.out | apply zA.set | apply zA.drewN | apply zA.drew | apply zA.alloc)) _ | refine zG.farT (t := 25) (b := gb272) ?_ (by decide) (by repeat (first | exact zA.of BK272.out | apply zA.set | apply zA.drewN | apply zA.drew | apply zA.alloc)) _ | refine zG.farT (t := 50) (b := gb287) ?_ (by decide) (by repeat (first | exact zA.of BK287.out | apply zA.set | apply zA.drewN | apply zA.drew | apply zA.alloc)) _) | exact HI0.out)) (by (with_reducible repeat (first | apply Kd.zR | apply Kd.zP | apply Kd.zQ)); exact HO_273002.out) (by decide)) hk (fun _ h => h.2)) (fun _ h => h.1)); have n3_ := zF.mk (zI.blk hk (g' := gb262) (o := .cells #[.bool x263000_4, .int .i64 x263001_4, .slice none 0 0] 25 (0, 0)) (by (with_reducible repeat (first | refine zK ?_ _ | refine zL ?_ | refine zJ ?_ _)); exact BK262.out) NB262_0.out (by simp)); have n4_ := zF.mk (zI.blk hk (g' := gb272) (o := .cells #[.bool (t263 == 1), .int .i64 (wrap64 (t269)), .slice Ao63 y288.length co63] 25 (0, 0)) (by (with_reducible repeat (first | refine zK ?_ _ | refine zL ?_ | refine zJ ?_ _)); exact BK272.out) NB272_0.out (by simp)); have n5_ := zF.mk (zI.blk hk (g' := gb287) (o := .cells #[.int .i64 t283, .bool t284] 50 (0, 0)) (by (with_reducible repeat (first | refine zK ?_ _ | refine zL ?_ | refine zJ ?_ _)); exact BK287.out) NB287_0.out (by simp)); have n6_ := zF.mk (zI.trans (by repeat (first | (with_reducible first | exact HK.out | apply zV | apply zW | apply zX | refine zY ?_ GW262.out _ | refine zY ?_ GW272.out _ | refine zY ?_ GW287.out _) | exact HK.out)) hk (.inl rfl)); have n7_ := zF.mk (hb); have n8_ := zF.mk (hi); clear HO_12; clear HO_66; clear HO_273002; clear BK262; clear BK272; clear BK287; clear HK; clear HB; clear HI0; have HO_12 := n0_; have HO_66 := n1_; have HO_273002 := n2_; have BK262 := n3_; have BK272 := n4_; have BK287 := n5_; have HK := n6_; have HB := n7_; have HI0 := n8_; clear n0_ n1_ n2_ n3_ n4_ n5_ n6_ n7_ n8_; (try clear hb); (try clear hb2); (try clear hk); (try clear hi)) | ((with_reducible refine gate_callee (f := 33) rfl ?_); refine goesL_ (some 89) rfl rfl Try.func33 (by kernel_rfl) rfl #[.pointer (some ⟨g, 0, none⟩)] rfl (by (try simp only [List.map_toArray, List.map_cons, List.map_nil]); first | done | rfl | (simp only [List.length_drop, List.length_take]; rfl)) ?_; (with_reducible refine (bits_Reader_Fail.calls g s0_0 t292 t293 t294 t295 t296 w0 _ ?side1 ?side2 A67.out).mono ?_); (case side1 => repeat (first | (with_reducible first | exact HI0.out | apply zG.alloc | apply zG.drewN | apply zG.drew | refine zG.farT (t := 25) (b := gb262) ?_ (by decide) (by repeat (first | exact zA.of BK262.out | apply zA.set | apply zA.drewN | apply zA.drew | apply zA.alloc)) _ | refine zG.farT (t := 25) (b := gb272) ?_ (by decide) (by repeat (first | exact zA.of BK272.out | apply zA.set | apply zA.drewN | apply zA.drew | apply zA.alloc)) _ | refine zG.farT (t := 50) (b := gb287) ?_ (by decide) (by repeat (first | exact zA.of BK287.out | apply zA.set | apply zA.drewN | apply zA.drew | apply zA.alloc)) _) | exact HI0.out)); (case side2 => repeat (first | (with_reducible first | exact HB.out | apply zE | apply zB | apply zC | refine zD ?_ GE262.out | refine zD ?_ GE272.out | refine zD ?_ GE287.out) | exact HB.out)); rintro e w75 ⟨rfl, hi, hb, hk⟩; refine ⟨_, rfl, ?_⟩; have n0_ := zF.mk (Kd.R_mono (Kd.R_keep (zG.apart (show zG w0 _ g s0_0 t292 t293 from by repeat (first | (with_reducible first | exact HI0.out | apply zG.alloc | apply zG.drewN | apply zG.drew | refine zG.farT (t := 25) (b := gb262) ?_ (by decide) (by repeat (first | exact zA.of BK262.out | apply zA.set | apply zA.drewN | apply zA.drew | apply zA.alloc)) _ | refine zG.farT (t := 25) (b := gb272) ?_ (by decide) (by repeat (first | exact zA.of BK272.out | apply zA.set | apply zA.drewN | apply zA.drew | apply zA.alloc)) _ | refine zG.farT (t := 50) (b := gb287) ?_ (by decide) (by repeat (first | exact zA.of BK287.out | apply zA.set | apply zA.drewN | apply zA.drew | apply zA.alloc)) _) | exact HI0.out)) (by (with_reducible repeat (first | apply Kd.zR | apply Kd.zP | apply Kd.zQ)); exact HO_12.out) (by decide)) hk (fun _ h => h.2)) (fun _ h => h.1)); have n1_ := zF.mk (Kd.R_mono (Kd.R_keep (zG.apart (show zG w0 _ g s0_0 t292 t293 from by repeat (first | (with_reducible first | exact HI0.out | apply zG.alloc | apply zG.drewN | apply zG.drew | refine zG.farT (t := 25) (b := gb262) ?_ (by decide) (by repeat (first | exact zA.of BK262.out | apply zA.set | apply zA.drewN | apply zA.drew | apply zA.alloc)) _ | refine zG.farT (t := 25) (b := gb272) ?_ (by decide) (by repeat (first | exact zA.of BK272.out | apply zA.set | apply zA.drewN | apply zA.drew | apply zA.alloc)) _ | refine zG.farT (t := 50) (b := gb287) ?_ (by decide) (by repeat (first | exact zA.of BK287.out | apply zA.set | apply zA.drewN | apply zA.drew | apply zA.alloc)) _) | exact HI0.out)) (by (with_reducible repeat (first | apply Kd.zR | apply Kd.zP | apply Kd.zQ)); exact HO_66.out) (by decide)) hk (fun _ h => h.2)) (fun _ h => h.1)); have n2_ := zF.mk (Kd.R_mono (Kd.R_keep (zG.apart (show zG w0 _ g s0_0 t292 t293 from by repeat (first | (with_reducible first | exact HI0.out | apply zG.alloc | apply zG.drewN | apply zG.drew | refine zG.farT (t := 25) (b := gb262) ?_ (by decide) (by repeat (first | exact zA.of BK262.out | apply zA.set | apply zA.drewN | apply zA.drew | apply zA.alloc)) _ | refine zG.farT (t := 25) (b := gb272) ?_ (by decide) (by repeat (first | exact zA.of BK272.out | apply zA.set | apply zA.drewN | apply zA.drew | apply zA.alloc)) _ | refine zG.farT (t := 50) (b := gb287) ?_ (by decide) (by repeat (first | exact zA.of BK287.out | apply zA.set | apply zA.drewN | apply zA.drew | apply zA.alloc)) _) | exact HI0.out)) (by (with_reducible repeat (first | apply Kd.zR | apply Kd.zP | apply Kd.zQ)); exact HO_273002.out) (by decide)) hk (fun _ h => h.2)) (fun _ h => h.1)); have n3_ := zF.mk (zI.blk hk (g' := gb262) (o := .cells #[.bool x263000_4, .int .i64 x263001_4, .slice none 0 0] 25 (0, 0)) (by (with_reducible repeat (first | refine zK ?_ _ | refine zL ?_ | refine zJ ?_ _)); exact BK262.out) NB262_0.out (by simp)); have n4_ := zF.mk (zI.blk hk (g' := gb272) (o := .cells #[.bool (t263 == 1), .int .i64 (wrap64 (t269)), .slice Ao63 y288.length co63] 25 (0, 0)) (by (with_reducible repeat (first | refine zK ?_ _ | refine zL ?_ | refine zJ ?_ _)); exact BK272.out) NB272_0.out (by simp)); have n5_ := zF.mk (zI.blk hk (g' := gb287) (o := .cells #[.int .i64 t283, .bool t284] 50 (0, 0)) (by (with_reducible repeat (first | refine zK ?_ _ | refine zL ?_ | refine zJ ?_ _)); exact BK287.out) NB287_0.out (by simp)); have n6_ := zF.mk (zI.trans (by repeat (first | (with_reducible first | exact HK.out | apply zV | apply zW | apply zX | refine zY ?_ GW262.out _ | refine zY ?_ GW272.out _ | refine zY ?_ GW287.out _) | exact HK.out)) hk (.inl rfl)); have n7_ := zF.mk (hb); have n8_ := zF.mk (hi); clear HO_12; clear HO_66; clear HO_273002; clear BK262; clear BK272; clear BK287; clear HK; clear HB; clear HI0; have HO_12 := n0_; have HO_66 := n1_; have HO_273002 := n2_; have BK262 := n3_; have BK272 := n4_; have BK287 := n5_; have HK := n6_; have HB := n7_; have HI0 := n8_; clear n0_ n1_ n2_ n3_ n4_ n5_ n6_ n7_ n8_; (try clear hb); (try clear hb2); (try clear hk); (try clear hi); have hnb76 := NB262_272.out; have hnc76 := NB272_262.out; have hnb77 := NB262_0.out; have hnc77 := NB0_262.out; have hcz78_0 : w75.cell? ⟨gb262, 0, none⟩ = some (.bool x263000_4) := (zM BK262.out 0).trans rfl; have hcz78_1 : w75.cell? ⟨gb262, 1, none⟩ = some (.int .i64 x263001_4) := (zM BK262.out 1).trans rfl; have hcz78_2 : w75.cell? ⟨gb262, 2, none⟩ = some (.slice none 0 0) := (zM BK262.out 2).trans rfl; have hfz78_0 := zN BK262.out 0; have hfz78_1 := zN BK262.out 1; have hfz78_2 := zN BK262.out 2))
                                        refine bodyPost_ret (results_list (rs := [.tmp 6, .cell 7 25, .tmp 8]) rfl (by simp) (.tmp (.cell gb262 25 #[.bool false, .int .i64 0, .slice none 0 0] (0, 0) _ rfl (by (with_reducible repeat (first | refine zK ?_ _ | refine zL ?_ | refine zJ ?_ _)); refine blk_put (cs := #[.bool false, .int .i64 0, .slice none 0 0]) ?_ 2 _ rfl; (with_reducible repeat (first | refine zK ?_ _ | refine zL ?_ | refine zJ ?_ _)); refine blk_put (cs := #[.bool false, .int .i64 x263001_4, .slice none 0 0]) ?_ 1 _ rfl; (with_reducible repeat (first | refine zK ?_ _ | refine zL ?_ | refine zJ ?_ _)); refine blk_put (cs := #[.bool x263000_4, .int .i64 x263001_4, .slice none 0 0]) ?_ 0 _ rfl; (with_reducible repeat (first | refine zK ?_ _ | refine zL ?_ | refine zJ ?_ _)); exact BK262.out) Try.underlying25 rfl (by kernel_rfl) (.tmp .nil)))) rfl ?_
                                        exact ⟨_, _, by first | rfl | (simp [errW_none, errW_some] <;> rfl) | (simp [*, errW_none, errW_some] <;> rfl), by first | exact Kd.R_nil _ _ _ _ _ | exact Kd.N_nil _ _ _ _ _ | exact Kd.V_nil _ _ _ _ _ | exact Kd.Q_nil _ _ _ _ _ | exact Kd.S_nil _ _ _ _ _, by first | exact Kd.R_nil _ _ _ _ _ | exact Kd.N_nil _ _ _ _ _ | exact Kd.V_nil _ _ _ _ _ | exact Kd.Q_nil _ _ _ _ _ | exact Kd.S_nil _ _ _ _ _, by repeat (first | (with_reducible first | exact HI0.out | apply zG.alloc | apply zG.drewN | apply zG.drew | refine zG.farT (t := 25) (b := gb262) ?_ (by decide) (by repeat (first | exact zA.of BK262.out | apply zA.set | apply zA.drewN | apply zA.drew | apply zA.alloc)) _ | refine zG.farT (t := 25) (b := gb272) ?_ (by decide) (by repeat (first | exact zA.of BK272.out | apply zA.set | apply zA.drewN | apply zA.drew | apply zA.alloc)) _ | refine zG.farT (t := 50) (b := gb287) ?_ (by decide) (by repeat (first | exact zA.of BK287.out | apply zA.set | apply zA.drewN | apply zA.drew | apply zA.alloc)) _) | exact HI0.out), by repeat (first | (with_reducible first | exact HB.out | apply zE | apply zB | apply zC | refine zD ?_ GE262.out | refine zD ?_ GE272.out | refine zD ?_ GE287.out) | exact HB.out), by repeat (first | (with_reducible first | exact HK.out | apply zV | apply zW | apply zX | refine zY ?_ GW262.out _ | refine zY ?_ GW272.out _ | refine zY ?_ GW287.out _) | exact HK.out)⟩
                                      · rw [if_neg c69] at H
                                        have c69b0 : decide (t291 ≤ (-2147483648)) = false := decide_eq_false c69
                                        clear c69
                                        by_cases c79 : t291 ≥ 2147483648
                                        · rw [if_pos c79] at H
                                          have c79b0 : decide (2147483648 ≤ t291) = true := decide_eq_true c79
                                          clear c79
                                          simp only [Option.some.injEq, Prod.mk.injEq] at H
                                          obtain ⟨rfl, rfl, rfl, rfl, rfl, rfl, rfl⟩ := H
                                          have hnb80 := NB287_262.out
                                          have hnc80 := NB262_287.out
                                          have hnb81 := NB287_272.out
                                          have hnc81 := NB272_287.out
                                          have hnb82 := NB287_0.out
                                          have hnc82 := NB0_287.out
                                          have hcz83_0 : wr.cell? ⟨gb287, 0, none⟩ = some (.int .i64 t283) := (zM BK287.out 0).trans rfl
                                          have hcz83_1 : wr.cell? ⟨gb287, 1, none⟩ = some (.bool t284) := (zM BK287.out 1).trans rfl
                                          have hfz83_0 := zN BK287.out 0
                                          have hfz83_1 := zN BK287.out 1
                                          go_wp2_with (first | ((with_reducible refine gate_callee (f := 35) rfl ?_); refine goesL_ (some 87) rfl rfl Try.func35 (by kernel_rfl) rfl #[.pointer (some ⟨g, 0, none⟩), .agg #[.int .i64 t283, .bool t284]] rfl (by (try simp only [List.map_toArray, List.map_cons, List.map_nil]); first | done | rfl | (simp only [List.length_drop, List.length_take]; rfl)) ?_; (with_reducible refine (section_number.calls k4 g s0_0 x1001_4 x1002_4 t283 t284 t291 t292 t293 w0 _ ?side1 ?side2 A66.out).mono ?_); (case side1 => repeat (first | (with_reducible first | exact HI0.out | apply zG.alloc | apply zG.drewN | apply zG.drew | refine zG.farT (t := 25) (b := gb262) ?_ (by decide) (by repeat (first | exact zA.of BK262.out | apply zA.set | apply zA.drewN | apply zA.drew | apply zA.alloc)) _ | refine zG.farT (t := 25) (b := gb272) ?_ (by decide) (by repeat (first | exact zA.of BK272.out | apply zA.set | apply zA.drewN | apply zA.drew | apply zA.alloc)) _ | refine zG.farT (t := 50) (b := gb287) ?_ (by decide) (by repeat (first | exact zA.of BK287.out | apply zA.set | apply zA.drewN | apply zA.drew | apply zA.alloc)) _) | exact HI0.out)); (case side2 => repeat (first | (with_reducible first | exact HB.out | apply zE | apply zB | apply zC | refine zD ?_ GE262.out | refine zD ?_ GE272.out | refine zD ?_ GE287.out) | exact HB.out)); rintro e w84 ⟨rfl, hi, hb, hk⟩; refine ⟨_, rfl, ?_⟩; have n0_ := zF.mk (Kd.R_mono (Kd.R_keep (zG.apart (show zG w0 _ g s0_0 x1001_4 x1002_4 from by repeat (first | (with_reducible first | exact HI0.out | apply zG.alloc | apply zG.drewN | apply zG.drew | refine zG.farT (t := 25) (b := gb262) ?_ (by decide) (by repeat (first | exact zA.of BK262.out | apply zA.set | apply zA.drewN | apply zA.drew | apply zA.alloc)) _ | refine zG.farT (t := 25) (b := gb272) ?_ (by decide) (by repeat (first | exact zA.of BK272.out | apply zA.set | apply zA.drewN | apply zA.drew | apply zA.alloc)) _ | refine zG.farT (t := 50) (b := gb287) ?_ (by decide) (by repeat (first | exact zA.of BK287.out | apply zA.set | apply zA.drewN | apply zA.drew | apply zA.alloc)) _) | exact HI0.out)) (by (with_reducible repeat (first | apply Kd.zR | apply Kd.zP | apply Kd.zQ)); exact HO_12.out) (by decide)) hk (fun _ h => h.2)) (fun _ h => h.1)); have n1_ := zF.mk (Kd.R_mono (Kd.R_keep (zG.apart (show zG w0 _ g s0_0 x1001_4 x1002_4 from by repeat (first | (with_reducible first | exact HI0.out | apply zG.alloc | apply zG.drewN | apply zG.drew | refine zG.farT (t := 25) (b := gb262) ?_ (by decide) (by repeat (first | exact zA.of BK262.out | apply zA.set | apply zA.drewN | apply zA.drew | apply zA.alloc)) _ | refine zG.farT (t := 25) (b := gb272) ?_ (by decide) (by repeat (first | exact zA.of BK272.out | apply zA.set | apply zA.drewN | apply zA.drew | apply zA.alloc)) _ | refine zG.farT (t := 50) (b := gb287) ?_ (by decide) (by repeat (first | exact zA.of BK287.out | apply zA.set | apply zA.drewN | apply zA.drew | apply zA.alloc)) _) | exact HI0.out)) (by (with_reducible repeat (first | apply Kd.zR | apply Kd.zP | apply Kd.zQ)); exact HO_66.out) (by decide)) hk (fun _ h => h.2)) (fun _ h => h.1)); have n2_ := zF.mk (Kd.R_mono (Kd.R_keep (zG.apart (show zG w0 _ g s0_0 x1001_4 x1002_4 from by repeat (first | (with_reducible first | exact HI0.out | apply zG.alloc | apply zG.drewN | apply zG.drew | refine zG.farT (t := 25) (b := gb262) ?_ (by decide) (by repeat (first | exact zA.of BK262.out | apply zA.set | apply zA.drewN | apply zA.drew | apply zA.alloc)) _ | refine zG.farT (t := 25) (b := gb272) ?_ (by decide) (by repeat (first | exact zA.of BK272.out | apply zA.set | apply zA.drewN | apply zA.drew | apply zA.alloc)) _ | refine zG.farT (t := 50) (b := gb287) ?_ (by decide) (by repeat (first | exact zA.of BK287.out | apply zA.set | apply zA.drewN | apply zA.drew | apply zA.alloc)) _) | exact HI0.out)) (by (with_reducible repeat (first | apply Kd.zR | apply Kd.zP | apply Kd.zQ)); exact HO_273002.out) (by decide)) hk (fun _ h => h.2)) (fun _ h => h.1)); have n3_ := zF.mk (zI.blk hk (g' := gb262) (o := .cells #[.bool x263000_4, .int .i64 x263001_4, .slice none 0 0] 25 (0, 0)) (by (with_reducible repeat (first | refine zK ?_ _ | refine zL ?_ | refine zJ ?_ _)); exact BK262.out) NB262_0.out (by simp)); have n4_ := zF.mk (zI.blk hk (g' := gb272) (o := .cells #[.bool (t263 == 1), .int .i64 (wrap64 (t269)), .slice Ao63 y288.length co63] 25 (0, 0)) (by (with_reducible repeat (first | refine zK ?_ _ | refine zL ?_ | refine zJ ?_ _)); exact BK272.out) NB272_0.out (by simp)); have n5_ := zF.mk (zI.blk hk (g' := gb287) (o := .cells #[.int .i64 t283, .bool t284] 50 (0, 0)) (by (with_reducible repeat (first | refine zK ?_ _ | refine zL ?_ | refine zJ ?_ _)); exact BK287.out) NB287_0.out (by simp)); have n6_ := zF.mk (zI.trans (by repeat (first | (with_reducible first | exact HK.out | apply zV | apply zW | apply zX | refine zY ?_ GW262.out _ | refine zY ?_ GW272.out _ | refine zY ?_ GW287.out _) | exact HK.out)) hk (.inl rfl)); have n7_ := zF.mk (hb); have n8_ := zF.mk (hi); clear HO_12; clear HO_66; clear HO_273002; clear BK262; clear BK272; clear BK287; clear HK; clear HB; clear HI0; have HO_12 := n0_; have HO_66 := n1_; have HO_273002 := n2_; have BK262 := n3_; have BK272 := n4_; have BK287 := n5_; have HK := n6_; have HB := n7_; have HI0 := n8_; clear n0_ n1_ n2_ n3_ n4_ n5_ n6_ n7_ n8_; (try clear hb); (try clear hb2); (try clear hk); (try clear hi)) | ((with_reducible refine gate_callee (f := 33) rfl ?_); refine goesL_ (some 89) rfl rfl Try.func33 (by kernel_rfl) rfl #[.pointer (some ⟨g, 0, none⟩)] rfl (by (try simp only [List.map_toArray, List.map_cons, List.map_nil]); first | done | rfl | (simp only [List.length_drop, List.length_take]; rfl)) ?_; (with_reducible refine (bits_Reader_Fail.calls g s0_0 t292 t293 t294 t295 t296 w0 _ ?side1 ?side2 A67.out).mono ?_); (case side1 => repeat (first | (with_reducible first | exact HI0.out | apply zG.alloc | apply zG.drewN | apply zG.drew | refine zG.farT (t := 25) (b := gb262) ?_ (by decide) (by repeat (first | exact zA.of BK262.out | apply zA.set | apply zA.drewN | apply zA.drew | apply zA.alloc)) _ | refine zG.farT (t := 25) (b := gb272) ?_ (by decide) (by repeat (first | exact zA.of BK272.out | apply zA.set | apply zA.drewN | apply zA.drew | apply zA.alloc)) _ | refine zG.farT (t := 50) (b := gb287) ?_ (by decide) (by repeat (first | exact zA.of BK287.out | apply zA.set | apply zA.drewN | apply zA.drew | apply zA.alloc)) _) | exact HI0.out)); (case side2 => repeat (first | (with_reducible first | exact HB.out | apply zE | apply zB | apply zC | refine zD ?_ GE262.out | refine zD ?_ GE272.out | refine zD ?_ GE287.out) | exact HB.out)); rintro e w85 ⟨rfl, hi, hb, hk⟩; refine ⟨_, rfl, ?_⟩; have n0_ := zF.mk (Kd.R_mono (Kd.R_keep (zG.apart (show zG w0 _ g s0_0 t292 t293 from by repeat (first | (with_reducible first | exact HI0.out | apply zG.alloc | apply zG.drewN | apply zG.drew | refine zG.farT (t := 25) (b := gb262) ?_ (by decide) (by repeat (first | exact zA.of BK262.out | apply zA.set | apply zA.drewN | apply zA.drew | apply zA.alloc)) _ | refine zG.farT (t := 25) (b := gb272) ?_ (by decide) (by repeat (first | exact zA.of BK272.out | apply zA.set | apply zA.drewN | apply zA.drew | apply zA.alloc)) _ | refine zG.farT (t := 50) (b := gb287) ?_ (by decide) (by repeat (first | exact zA.of BK287.out | apply zA.set | apply zA.drewN | apply zA.drew | apply zA.alloc)) _) | exact HI0.out)) (by (with_reducible repeat (first | apply Kd.zR | apply Kd.zP | apply Kd.zQ)); exact HO_12.out) (by decide)) hk (fun _ h => h.2)) (fun _ h => h.1)); have n1_ := zF.mk (Kd.R_mono (Kd.R_keep (zG.apart (show zG w0 _ g s0_0 t292 t293 from by repeat (first | (with_reducible first | exact HI0.out | apply zG.alloc | apply zG.drewN | apply zG.drew | refine zG.farT (t := 25) (b := gb262) ?_ (by decide) (by repeat (first | exact zA.of BK262.out | apply zA.set | apply zA.drewN | apply zA.drew | apply zA.alloc)) _ | refine zG.farT (t := 25) (b := gb272) ?_ (by decide) (by repeat (first | exact zA.of BK272.out | apply zA.set | apply zA.drewN | apply zA.drew | apply zA.alloc)) _ | refine zG.farT (t := 50) (b := gb287) ?_ (by decide) (by repeat (first | exact zA.of BK287.out | apply zA.set | apply zA.drewN | apply zA.drew | apply zA.alloc)) _) | exact HI0.out)) (by (with_reducible repeat (first | apply Kd.zR | apply Kd.zP | apply Kd.zQ)); exact HO_66.out) (by decide)) hk (fun _ h => h.2)) (fun _ h => h.1)); have n2_ := zF.mk (Kd.R_mono (Kd.R_keep (zG.apart (show zG w0 _ g s0_0 t292 t293 from by repeat (first | (with_reducible first | exact HI0.out | apply zG.alloc | apply zG.drewN | apply zG.drew | refine zG.farT (t := 25) (b := gb262) ?_ (by decide) (by repeat (first | exact zA.of BK262.out | apply zA.set | apply zA.drewN | apply zA.drew | apply zA.alloc)) _ | refine zG.farT (t := 25) (b := gb272) ?_ (by decide) (by repeat (first | exact zA.of BK272.out | apply zA.set | apply zA.drewN | apply zA.drew | apply zA.alloc)) _ | refine zG.farT (t := 50) (b := gb287) ?_ (by decide) (by repeat (first | exact zA.of BK287.out | apply zA.set | apply zA.drewN | apply zA.drew | apply zA.alloc)) _) | exact HI0.out)) (by (with_reducible repeat (first | apply Kd.zR | apply Kd.zP | apply Kd.zQ)); exact HO_273002.out) (by decide)) hk (fun _ h => h.2)) (fun _ h => h.1)); have n3_ := zF.mk (zI.blk hk (g' := gb262) (o := .cells #[.bool x263000_4, .int .i64 x263001_4, .slice none 0 0] 25 (0, 0)) (by (with_reducible repeat (first | refine zK ?_ _ | refine zL ?_ | refine zJ ?_ _)); exact BK262.out) NB262_0.out (by simp)); have n4_ := zF.mk (zI.blk hk (g' := gb272) (o := .cells #[.bool (t263 == 1), .int .i64 (wrap64 (t269)), .slice Ao63 y288.length co63] 25 (0, 0)) (by (with_reducible repeat (first | refine zK ?_ _ | refine zL ?_ | refine zJ ?_ _)); exact BK272.out) NB272_0.out (by simp)); have n5_ := zF.mk (zI.blk hk (g' := gb287) (o := .cells #[.int .i64 t283, .bool t284] 50 (0, 0)) (by (with_reducible repeat (first | refine zK ?_ _ | refine zL ?_ | refine zJ ?_ _)); exact BK287.out) NB287_0.out (by simp)); have n6_ := zF.mk (zI.trans (by repeat (first | (with_reducible first | exact HK.out | apply zV | apply zW | apply zX | refine zY ?_ GW262.out _ | refine zY ?_ GW272.out _ | refine zY ?_ GW287.out _) | exact HK.out)) hk (.inl rfl)); have n7_ := zF.mk (hb); have n8_ := zF.mk (hi); clear HO_12; clear HO_66; clear HO_273002; clear BK262; clear BK272; clear BK287; clear HK; clear HB; clear HI0; have HO_12 := n0_; have HO_66 := n1_; have HO_273002 := n2_; have BK262 := n3_; have BK272 := n4_; have BK287 := n5_; have HK := n6_; have HB := n7_; have HI0 := n8_; clear n0_ n1_ n2_ n3_ n4_ n5_ n6_ n7_ n8_; (try clear hb); (try clear hb2); (try clear hk); (try clear hi); have hnb86 := NB262_272.out; have hnc86 := NB272_262.out; have hnb87 := NB262_0.out; have hnc87 := NB0_262.out; have hcz88_0 : w85.cell? ⟨gb262, 0, none⟩ = some (.bool x263000_4) := (zM BK262.out 0).trans rfl; have hcz88_1 : w85.cell? ⟨gb262, 1, none⟩ = some (.int .i64 x263001_4) := (zM BK262.out 1).trans rfl; have hcz88_2 : w85.cell? ⟨gb262, 2, none⟩ = some (.slice none 0 0) := (zM BK262.out 2).trans rfl; have hfz88_0 := zN BK262.out 0; have hfz88_1 := zN BK262.out 1; have hfz88_2 := zN BK262.out 2))
                                          refine bodyPost_ret (results_list (rs := [.tmp 6, .cell 7 25, .tmp 8]) rfl (by simp) (.tmp (.cell gb262 25 #[.bool false, .int .i64 0, .slice none 0 0] (0, 0) _ rfl (by (with_reducible repeat (first | refine zK ?_ _ | refine zL ?_ | refine zJ ?_ _)); refine blk_put (cs := #[.bool false, .int .i64 0, .slice none 0 0]) ?_ 2 _ rfl; (with_reducible repeat (first | refine zK ?_ _ | refine zL ?_ | refine zJ ?_ _)); refine blk_put (cs := #[.bool false, .int .i64 x263001_4, .slice none 0 0]) ?_ 1 _ rfl; (with_reducible repeat (first | refine zK ?_ _ | refine zL ?_ | refine zJ ?_ _)); refine blk_put (cs := #[.bool x263000_4, .int .i64 x263001_4, .slice none 0 0]) ?_ 0 _ rfl; (with_reducible repeat (first | refine zK ?_ _ | refine zL ?_ | refine zJ ?_ _)); exact BK262.out) Try.underlying25 rfl (by kernel_rfl) (.tmp .nil)))) rfl ?_
                                          exact ⟨_, _, by first | rfl | (simp [errW_none, errW_some] <;> rfl) | (simp [*, errW_none, errW_some] <;> rfl), by first | exact Kd.R_nil _ _ _ _ _ | exact Kd.N_nil _ _ _ _ _ | exact Kd.V_nil _ _ _ _ _ | exact Kd.Q_nil _ _ _ _ _ | exact Kd.S_nil _ _ _ _ _, by first | exact Kd.R_nil _ _ _ _ _ | exact Kd.N_nil _ _ _ _ _ | exact Kd.V_nil _ _ _ _ _ | exact Kd.Q_nil _ _ _ _ _ | exact Kd.S_nil _ _ _ _ _, by repeat (first | (with_reducible first | exact HI0.out | apply zG.alloc | apply zG.drewN | apply zG.drew | refine zG.farT (t := 25) (b := gb262) ?_ (by decide) (by repeat (first | exact zA.of BK262.out | apply zA.set | apply zA.drewN | apply zA.drew | apply zA.alloc)) _ | refine zG.farT (t := 25) (b := gb272) ?_ (by decide) (by repeat (first | exact zA.of BK272.out | apply zA.set | apply zA.drewN | apply zA.drew | apply zA.alloc)) _ | refine zG.farT (t := 50) (b := gb287) ?_ (by decide) (by repeat (first | exact zA.of BK287.out | apply zA.set | apply zA.drewN | apply zA.drew | apply zA.alloc)) _) | exact HI0.out), by repeat (first | (with_reducible first | exact HB.out | apply zE | apply zB | apply zC | refine zD ?_ GE262.out | refine zD ?_ GE272.out | refine zD ?_ GE287.out) | exact HB.out), by repeat (first | (with_reducible first | exact HK.out | apply zV | apply zW | apply zX | refine zY ?_ GW262.out _ | refine zY ?_ GW272.out _ | refine zY ?_ GW287.out _) | exact HK.out)⟩
                                        · rw [if_neg c79] at H
                                          have c79b0 : decide (2147483648 ≤ t291) = false := decide_eq_false c79
                                          clear c79
                                          by_cases c89 : x12_4.length < 17592186044416
                                          · rw [if_pos c89] at H
                                            have LMc89 := zF.mk c89
                                            clear c89
                                            obtain ⟨y297, hy297⟩ : ∃ y_ : List Int, y_ = (x12_4 ++ [t291]) := ⟨_, rfl⟩
                                            replace H : (section_Take.l1 k4 y297 t279 (t279.length : Int) x68_3 (rd t279 x68_3) (wrap64 (x83_4 + 1)) s0_0 t295 t296 (t263 == 1) (wrap64 (t269)) y288 t283 t284) = some (r1, r2, r3, r4, r5, r6, r7) := by first | (rw [hy297]; with_reducible exact H) | (have H2_ := (Option.bind_some _ _).symm.trans H; rw [hy297]; with_reducible exact H2_) | (have H2_ := (Option.bind_some _ _).symm.trans H; with_reducible exact H2_) | with_reducible exact H | (rw [hy297]; exact H) | exact H
                                            have Ny297 := zF.mk hy297
                                            clear hy297
                                            have H' := zF.mk H
                                            clear H
                                            have hnb90 := NB287_262.out
                                            have hnc90 := NB262_287.out
                                            have hnb91 := NB287_272.out
                                            have hnc91 := NB272_287.out
                                            have hnb92 := NB287_0.out
                                            have hnc92 := NB0_287.out
                                            have hcz93_0 : wr.cell? ⟨gb287, 0, none⟩ = some (.int .i64 t283) := (zM BK287.out 0).trans rfl
                                            have hcz93_1 : wr.cell? ⟨gb287, 1, none⟩ = some (.bool t284) := (zM BK287.out 1).trans rfl
                                            have hfz93_0 := zN BK287.out 0
                                            have hfz93_1 := zN BK287.out 1
                                            go_wp2_with (first | ((with_reducible refine gate_callee (f := 35) rfl ?_); refine goesL_ (some 87) rfl rfl Try.func35 (by kernel_rfl) rfl #[.pointer (some ⟨g, 0, none⟩), .agg #[.int .i64 t283, .bool t284]] rfl (by (try simp only [List.map_toArray, List.map_cons, List.map_nil]); first | done | rfl | (simp only [List.length_drop, List.length_take]; rfl)) ?_; (with_reducible refine (section_number.calls k4 g s0_0 x1001_4 x1002_4 t283 t284 t291 t292 t293 w0 _ ?side1 ?side2 A66.out).mono ?_); (case side1 => repeat (first | (with_reducible first | exact HI0.out | apply zG.alloc | apply zG.drewN | apply zG.drew | refine zG.farT (t := 25) (b := gb262) ?_ (by decide) (by repeat (first | exact zA.of BK262.out | apply zA.set | apply zA.drewN | apply zA.drew | apply zA.alloc)) _ | refine zG.farT (t := 25) (b := gb272) ?_ (by decide) (by repeat (first | exact zA.of BK272.out | apply zA.set | apply zA.drewN | apply zA.drew | apply zA.alloc)) _ | refine zG.farT (t := 50) (b := gb287) ?_ (by decide) (by repeat (first | exact zA.of BK287.out | apply zA.set | apply zA.drewN | apply zA.drew | apply zA.alloc)) _) | exact HI0.out)); (case side2 => repeat (first | (with_reducible first | exact HB.out | apply zE | apply zB | apply zC | refine zD ?_ GE262.out | refine zD ?_ GE272.out | refine zD ?_ GE287.out) | exact HB.out)); rintro e w94 ⟨rfl, hi, hb, hk⟩; refine ⟨_, rfl, ?_⟩; have n0_ := zF.mk (Kd.R_mono (Kd.R_keep (zG.apart (show zG w0 _ g s0_0 x1001_4 x1002_4 from by repeat (first | (with_reducible first | exact HI0.out | apply zG.alloc | apply zG.drewN | apply zG.drew | refine zG.farT (t := 25) (b := gb262) ?_ (by decide) (by repeat (first | exact zA.of BK262.out | apply zA.set | apply zA.drewN | apply zA.drew | apply zA.alloc)) _ | refine zG.farT (t := 25) (b := gb272) ?_ (by decide) (by repeat (first | exact zA.of BK272.out | apply zA.set | apply zA.drewN | apply zA.drew | apply zA.alloc)) _ | refine zG.farT (t := 50) (b := gb287) ?_ (by decide) (by repeat (first | exact zA.of BK287.out | apply zA.set | apply zA.drewN | apply zA.drew | apply zA.alloc)) _) | exact HI0.out)) (by (with_reducible repeat (first | apply Kd.zR | apply Kd.zP | apply Kd.zQ)); exact HO_12.out) (by decide)) hk (fun _ h => h.2)) (fun _ h => h.1)); have n1_ := zF.mk (Kd.R_mono (Kd.R_keep (zG.apart (show zG w0 _ g s0_0 x1001_4 x1002_4 from by repeat (first | (with_reducible first | exact HI0.out | apply zG.alloc | apply zG.drewN | apply zG.drew | refine zG.farT (t := 25) (b := gb262) ?_ (by decide) (by repeat (first | exact zA.of BK262.out | apply zA.set | apply zA.drewN | apply zA.drew | apply zA.alloc)) _ | refine zG.farT (t := 25) (b := gb272) ?_ (by decide) (by repeat (first | exact zA.of BK272.out | apply zA.set | apply zA.drewN | apply zA.drew | apply zA.alloc)) _ | refine zG.farT (t := 50) (b := gb287) ?_ (by decide) (by repeat (first | exact zA.of BK287.out | apply zA.set | apply zA.drewN | apply zA.drew | apply zA.alloc)) _) | exact HI0.out)) (by (with_reducible repeat (first | apply Kd.zR | apply Kd.zP | apply Kd.zQ)); exact HO_66.out) (by decide)) hk (fun _ h => h.2)) (fun _ h => h.1)); have n2_ := zF.mk (Kd.R_mono (Kd.R_keep (zG.apart (show zG w0 _ g s0_0 x1001_4 x1002_4 from by repeat (first | (with_reducible first | exact HI0.out | apply zG.alloc | apply zG.drewN | apply zG.drew | refine zG.farT (t := 25) (b := gb262) ?_ (by decide) (by repeat (first | exact zA.of BK262.out | apply zA.set | apply zA.drewN | apply zA.drew | apply zA.alloc)) _ | refine zG.farT (t := 25) (b := gb272) ?_ (by decide) (by repeat (first | exact zA.of BK272.out | apply zA.set | apply zA.drewN | apply zA.drew | apply zA.alloc)) _ | refine zG.farT (t := 50) (b := gb287) ?_ (by decide) (by repeat (first | exact zA.of BK287.out | apply zA.set | apply zA.drewN | apply zA.drew | apply zA.alloc)) _) | exact HI0.out)) (by (with_reducible repeat (first | apply Kd.zR | apply Kd.zP | apply Kd.zQ)); exact HO_273002.out) (by decide)) hk (fun _ h => h.2)) (fun _ h => h.1)); have n3_ := zF.mk (zI.blk hk (g' := gb262) (o := .cells #[.bool x263000_4, .int .i64 x263001_4, .slice none 0 0] 25 (0, 0)) (by (with_reducible repeat (first | refine zK ?_ _ | refine zL ?_ | refine zJ ?_ _)); exact BK262.out) NB262_0.out (by simp)); have n4_ := zF.mk (zI.blk hk (g' := gb272) (o := .cells #[.bool (t263 == 1), .int .i64 (wrap64 (t269)), .slice Ao63 y288.length co63] 25 (0, 0)) (by (with_reducible repeat (first | refine zK ?_ _ | refine zL ?_ | refine zJ ?_ _)); exact BK272.out) NB272_0.out (by simp)); have n5_ := zF.mk (zI.blk hk (g' := gb287) (o := .cells #[.int .i64 t283, .bool t284] 50 (0, 0)) (by (with_reducible repeat (first | refine zK ?_ _ | refine zL ?_ | refine zJ ?_ _)); exact BK287.out) NB287_0.out (by simp)); have n6_ := zF.mk (zI.trans (by repeat (first | (with_reducible first | exact HK.out | apply zV | apply zW | apply zX | refine zY ?_ GW262.out _ | refine zY ?_ GW272.out _ | refine zY ?_ GW287.out _) | exact HK.out)) hk (.inl rfl)); have n7_ := zF.mk (hb); have n8_ := zF.mk (hi); clear HO_12; clear HO_66; clear HO_273002; clear BK262; clear BK272; clear BK287; clear HK; clear HB; clear HI0; have HO_12 := n0_; have HO_66 := n1_; have HO_273002 := n2_; have BK262 := n3_; have BK272 := n4_; have BK287 := n5_; have HK := n6_; have HB := n7_; have HI0 := n8_; clear n0_ n1_ n2_ n3_ n4_ n5_ n6_ n7_ n8_; (try clear hb); (try clear hb2); (try clear hk); (try clear hi)) | ((with_reducible refine gate_callee (f := 33) rfl ?_); refine goesL_ (some 89) rfl rfl Try.func33 (by kernel_rfl) rfl #[.pointer (some ⟨g, 0, none⟩)] rfl (by (try simp only [List.map_toArray, List.map_cons, List.map_nil]); first | done | rfl | (simp only [List.length_drop, List.length_take]; rfl)) ?_; (with_reducible refine (bits_Reader_Fail.calls g s0_0 t292 t293 t294 t295 t296 w0 _ ?side1 ?side2 A67.out).mono ?_); (case side1 => repeat (first | (with_reducible first | exact HI0.out | apply zG.alloc | apply zG.drewN | apply zG.drew | refine zG.farT (t := 25) (b := gb262) ?_ (by decide) (by repeat (first | exact zA.of BK262.out | apply zA.set | apply zA.drewN | apply zA.drew | apply zA.alloc)) _ | refine zG.farT (t := 25) (b := gb272) ?_ (by decide) (by repeat (first | exact zA.of BK272.out | apply zA.set | apply zA.drewN | apply zA.drew | apply zA.alloc)) _ | refine zG.farT (t := 50) (b := gb287) ?_ (by decide) (by repeat (first | exact zA.of BK287.out | apply zA.set | apply zA.drewN | apply zA.drew | apply zA.alloc)) _) | exact HI0.out)); (case side2 => repeat (first | (with_reducible first | exact HB.out | apply zE | apply zB | apply zC | refine zD ?_ GE262.out | refine zD ?_ GE272.out | refine zD ?_ GE287.out) | exact HB.out)); rintro e w95 ⟨rfl, hi, hb, hk⟩; refine ⟨_, rfl, ?_⟩; have n0_ := zF.mk (Kd.R_mono (Kd.R_keep (zG.apart (show zG w0 _ g s0_0 t292 t293 from by repeat (first | (with_reducible first | exact HI0.out | apply zG.alloc | apply zG.drewN | apply zG.drew | refine zG.farT (t := 25) (b := gb262) ?_ (by decide) (by repeat (first | exact zA.of BK262.out | apply zA.set | apply zA.drewN | apply zA.drew | apply zA.alloc)) _ | refine zG.farT (t := 25) (b := gb272) ?_ (by decide) (by repeat (first | exact zA.of BK272.out | apply zA.set | apply zA.drewN | apply zA.drew | apply zA.alloc)) _ | refine zG.farT (t := 50) (b := gb287) ?_ (by decide) (by repeat (first | exact zA.of BK287.out | apply zA.set | apply zA.drewN | apply zA.drew | apply zA.alloc)) _) | exact HI0.out)) (by (with_reducible repeat (first | apply Kd.zR | apply Kd.zP | apply Kd.zQ)); exact HO_12.out) (by decide)) hk (fun _ h => h.2)) (fun _ h => h.1)); have n1_ := zF.mk (Kd.R_mono (Kd.R_keep (zG.apart (show zG w0 _ g s0_0 t292 t293 from by repeat (first | (with_reducible first | exact HI0.out | apply zG.alloc | apply zG.drewN | apply zG.drew | refine zG.farT (t := 25) (b := gb262) ?_ (by decide) (by repeat (first | exact zA.of BK262.out | apply zA.set | apply zA.drewN | apply zA.drew | apply zA.alloc)) _ | refine zG.farT (t := 25) (b := gb272) ?_ (by decide) (by repeat (first | exact zA.of BK272.out | apply zA.set | apply zA.drewN | apply zA.drew | apply zA.alloc)) _ | refine zG.farT (t := 50) (b := gb287) ?_ (by decide) (by repeat (first | exact zA.of BK287.out | apply zA.set | apply zA.drewN | apply zA.drew | apply zA.alloc)) _) | exact HI0.out)) (by (with_reducible repeat (first | apply Kd.zR | apply Kd.zP | apply Kd.zQ)); exact HO_66.out) (by decide)) hk (fun _ h => h.2)) (fun _ h => h.1)); have n2_ := zF.mk (Kd.R_mono (Kd.R_keep (zG.apart (show zG w0 _ g s0_0 t292 t293 from by repeat (first | (with_reducible first | exact HI0.out | apply zG.alloc | apply zG.drewN | apply zG.drew | refine zG.farT (t := 25) (b := gb262) ?_ (by decide) (by repeat (first | exact zA.of BK262.out | apply zA.set | apply zA.drewN | apply zA.drew | apply zA.alloc)) _ | refine zG.farT (t := 25) (b := gb272) ?_ (by decide) (by repeat (first | exact zA.of BK272.out | apply zA.set | apply zA.drewN | apply zA.drew | apply zA.alloc)) _ | refine zG.farT (t := 50) (b := gb287) ?_ (by decide) (by repeat (first | exact zA.of BK287.out | apply zA.set | apply zA.drewN | apply zA.drew | apply zA.alloc)) _) | exact HI0.out)) (by (with_reducible repeat (first | apply Kd.zR | apply Kd.zP | apply Kd.zQ)); exact HO_273002.out) (by decide)) hk (fun _ h => h.2)) (fun _ h => h.1)); have n3_ := zF.mk (zI.blk hk (g' := gb262) (o := .cells #[.bool x263000_4, .int .i64 x263001_4, .slice none 0 0] 25 (0, 0)) (by (with_reducible repeat (first | refine zK ?_ _ | refine zL ?_ | refine zJ ?_ _)); exact BK262.out) NB262_0.out (by simp)); have n4_ := zF.mk (zI.blk hk (g' := gb272) (o := .cells #[.bool (t263 == 1), .int .i64 (wrap64 (t269)), .slice Ao63 y288.length co63] 25 (0, 0)) (by (with_reducible repeat (first | refine zK ?_ _ | refine zL ?_ | refine zJ ?_ _)); exact BK272.out) NB272_0.out (by simp)); have n5_ := zF.mk (zI.blk hk (g' := gb287) (o := .cells #[.int .i64 t283, .bool t284] 50 (0, 0)) (by (with_reducible repeat (first | refine zK ?_ _ | refine zL ?_ | refine zJ ?_ _)); exact BK287.out) NB287_0.out (by simp)); have n6_ := zF.mk (zI.trans (by repeat (first | (with_reducible first | exact HK.out | apply zV | apply zW | apply zX | refine zY ?_ GW262.out _ | refine zY ?_ GW272.out _ | refine zY ?_ GW287.out _) | exact HK.out)) hk (.inl rfl)); have n7_ := zF.mk (hb); have n8_ := zF.mk (hi); clear HO_12; clear HO_66; clear HO_273002; clear BK262; clear BK272; clear BK287; clear HK; clear HB; clear HI0; have HO_12 := n0_; have HO_66 := n1_; have HO_273002 := n2_; have BK262 := n3_; have BK272 := n4_; have BK287 := n5_; have HK := n6_; have HB := n7_; have HI0 := n8_; clear n0_ n1_ n2_ n3_ n4_ n5_ n6_ n7_ n8_; (try clear hb); (try clear hb2); (try clear hk); (try clear hi)) | ((with_reducible refine gate_builtin (b := .append) (xs := #[.tmp 101, .tmp 103]) rfl ?_); at_builtin; refine Kd.R_append (Kd.int .i64) w.heap.size rfl (.tmp 101) (.tmp 103) 22 3 (.int .i64 0) 8 rfl Try.underlying22 info3 rfl (by decide) (by omega) u12 x12_4 t291 [.int .i64 t291] (fun k_ => some k_ ≠ (.slice (some ad282) t279.length co46 : Value).ownBlock) (fun _ => False) rfl rfl ?aP (fun _ hk => hk.elim) ?aF ?aO (Below.refl _ _) ?aS ?aL ?_; (case aP => exact rfl); (case aF => exact (fun k_ hk => Kd.fresh' (Kd.R_lt (by (with_reducible repeat (first | apply Kd.zR | apply Kd.zP | apply Kd.zQ)); exact HO_66.out)) k_ hk)); (case aO => exact (by (with_reducible repeat (first | apply Kd.zR | apply Kd.zP | apply Kd.zQ)); exact HO_12.out)); (case aS => exact (keep_size (w := w) (g := g) (row := none) (by repeat (first | (with_reducible first | exact HK.out | apply zV | apply zW | apply zX | refine zY ?_ GW262.out _ | refine zY ?_ GW272.out _ | refine zY ?_ GW287.out _) | exact HK.out)))); (case aL => have := LMc89.out; omega); intro v298 w96 ho hb hg hat; rw [← Ny297.out] at ho; have n0_ := zF.mk (Kd.R_after (ok := (fun _ => True)) (by (with_reducible repeat (first | apply Kd.zR | apply Kd.zP | apply Kd.zQ)); exact Kd.R_mono HO_66.out (fun _ hk => ⟨trivial, hk⟩)) hg hat); have n1_ := zF.mk (Kd.R_over' (by (with_reducible repeat (first | apply Kd.zR | apply Kd.zP | apply Kd.zQ)); exact HO_273002.out) (Kd.R_typed (by (with_reducible repeat (first | apply Kd.zR | apply Kd.zP | apply Kd.zQ)); exact HO_12.out)) (by decide) hg); have n2_ := zF.mk (blk_grown (g := gb262) (o := .cells #[.bool x263000_4, .int .i64 x263001_4, .slice none 0 0] 25 (0, 0)) (by (with_reducible repeat (first | refine zK ?_ _ | refine zL ?_ | refine zJ ?_ _)); exact BK262.out) hg (Kd.R_ne HO_12.out BK262.out (by decide))); have n3_ := zF.mk (blk_grown (g := gb272) (o := .cells #[.bool (t263 == 1), .int .i64 (wrap64 (t269)), .slice Ao63 y288.length co63] 25 (0, 0)) (by (with_reducible repeat (first | refine zK ?_ _ | refine zL ?_ | refine zJ ?_ _)); exact BK272.out) hg (Kd.R_ne HO_12.out BK272.out (by decide))); have n4_ := zF.mk (blk_grown (g := gb287) (o := .cells #[.int .i64 t283, .bool t284] 50 (0, 0)) (by (with_reducible repeat (first | refine zK ?_ _ | refine zL ?_ | refine zJ ?_ _)); exact BK287.out) hg (Kd.R_ne HO_12.out BK287.out (by decide))); have n5_ := zF.mk (zG.grown (by refine zG.as HI0.out ?_; repeat (first | (with_reducible first | exact HI0.out | apply zG.alloc | apply zG.drewN | apply zG.drew | refine zG.farT (t := 25) (b := gb262) ?_ (by decide) (by repeat (first | exact zA.of BK262.out | apply zA.set | apply zA.drewN | apply zA.drew | apply zA.alloc)) _ | refine zG.farT (t := 25) (b := gb272) ?_ (by decide) (by repeat (first | exact zA.of BK272.out | apply zA.set | apply zA.drewN | apply zA.drew | apply zA.alloc)) _ | refine zG.farT (t := 50) (b := gb287) ?_ (by decide) (by repeat (first | exact zA.of BK287.out | apply zA.set | apply zA.drewN | apply zA.drew | apply zA.alloc)) _) | exact HI0.out)) hg (zG.own_ne HI0.out HO_12.out (by decide))); have n6_ := zF.mk (below_weaken (by repeat (first | (with_reducible first | exact HB.out | apply zE | apply zB | apply zC | refine zD ?_ GE262.out | refine zD ?_ GE272.out | refine zD ?_ GE287.out) | exact HB.out)) HL.out hb); have n7_ := zF.mk (zI.trans (by repeat (first | (with_reducible first | exact HK.out | apply zV | apply zW | apply zX | refine zY ?_ GW262.out _ | refine zY ?_ GW272.out _ | refine zY ?_ GW287.out _) | exact HK.out)) (zI.of_grown hg g) (Kd.R_base2 HO_12.out)); have n8_ := zF.mk (ho); clear HO_66; clear HO_273002; clear BK262; clear BK272; clear BK287; clear HI0; clear HB; clear HK; clear HO_12; have HO_66 := n0_; have HO_273002 := n1_; have BK262 := n2_; have BK272 := n3_; have BK287 := n4_; have HI0 := n5_; have HB := n6_; have HK := n7_; have HO299 := n8_; clear n0_ n1_ n2_ n3_ n4_ n5_ n6_ n7_ n8_; clear ho hb hg hat))
                                            go_roundg k4
                                            case measure => have := HJ3.out; have := HJ12.out; have := HK3.out; have := HK4.out; omega
                                            case rel => exact ⟨(y297), (wrap64 (x83_4 + 1)), (t295), (t296), (x263000_4), (x263001_4), (by first | rfl | (simp; done) | (simp only [i64_w, i32_w]; done) | (simp [*]; done) | (simp only [i64_w, i32_w]; first | rfl | (simp; done) | (simp [*]; done))), H', ⟨by have := HJ3.out; have := HJ12.out; have := HK3.out; have := HK4.out; omega⟩, ⟨by (with_reducible repeat (first | apply Kd.zR | apply Kd.zP | apply Kd.zQ)); exact HO299.out⟩, ⟨by (with_reducible repeat (first | apply Kd.zR | apply Kd.zP | apply Kd.zQ)); exact Kd.R_mono HO_66.out (fun _ hk => hk.2)⟩, ⟨by (with_reducible repeat (first | apply Kd.zR | apply Kd.zP | apply Kd.zQ)); exact HO_273002.out⟩, ⟨by (with_reducible repeat (first | refine zK ?_ _ | refine zL ?_ | refine zJ ?_ _)); exact BK262.out⟩, ⟨by (with_reducible repeat (first | refine zK ?_ _ | refine zL ?_ | refine zJ ?_ _)); exact BK272.out⟩, ⟨by (with_reducible repeat (first | refine zK ?_ _ | refine zL ?_ | refine zJ ?_ _)); exact BK287.out⟩, ⟨by repeat (first | (with_reducible first | exact HI0.out | apply zG.alloc | apply zG.drewN | apply zG.drew | refine zG.farT (t := 25) (b := gb262) ?_ (by decide) (by repeat (first | exact zA.of BK262.out | apply zA.set | apply zA.drewN | apply zA.drew | apply zA.alloc)) _ | refine zG.farT (t := 25) (b := gb272) ?_ (by decide) (by repeat (first | exact zA.of BK272.out | apply zA.set | apply zA.drewN | apply zA.drew | apply zA.alloc)) _ | refine zG.farT (t := 50) (b := gb287) ?_ (by decide) (by repeat (first | exact zA.of BK287.out | apply zA.set | apply zA.drewN | apply zA.drew | apply zA.alloc)) _) | exact HI0.out)⟩, ⟨by repeat (first | (with_reducible first | exact HK.out | apply zV | apply zW | apply zX | refine zY ?_ GW262.out _ | refine zY ?_ GW272.out _ | refine zY ?_ GW287.out _) | exact HK.out)⟩, ⟨by repeat (first | (with_reducible first | exact HB.out | apply zE | apply zB | apply zC | refine zD ?_ GE262.out | refine zD ?_ GE272.out | refine zD ?_ GE287.out) | exact HB.out)⟩⟩
                                          · rw [if_neg c89] at H
                                            exact absurd H (by simp)
                                    · rw [if_neg c68] at H
                                      have c68b0 : (t294 == 0) = false := beq_eq_false_iff_ne.mpr c68
                                      have c68b1 : (t294 != 0) = true := bne_iff_ne.mpr c68
                                      replace H := Option.bind_eq_some_iff.mp H
                                      obtain ⟨⟨t300, t301, t302⟩, A970, H⟩ := H
                                      replace H : (some (([] : List Int), false, 0, ([] : List (S50)), t300, t301, t302)) = some (r1, r2, r3, r4, r5, r6, r7) := H
                                      have A97 := zF.mk A970
                                      clear A970
                                      simp only [Option.some.injEq, Prod.mk.injEq] at H
                                      obtain ⟨rfl, rfl, rfl, rfl, rfl, rfl, rfl⟩ := H
                                      have hnb98 := NB287_262.out
                                      have hnc98 := NB262_287.out
                                      have hnb99 := NB287_272.out
                                      have hnc99 := NB272_287.out
                                      have hnb100 := NB287_0.out
                                      have hnc100 := NB0_287.out
                                      have hcz101_0 : wr.cell? ⟨gb287, 0, none⟩ = some (.int .i64 t283) := (zM BK287.out 0).trans rfl
                                      have hcz101_1 : wr.cell? ⟨gb287, 1, none⟩ = some (.bool t284) := (zM BK287.out 1).trans rfl
                                      have hfz101_0 := zN BK287.out 0
                                      have hfz101_1 := zN BK287.out 1
                                      go_wp2_with (first | ((with_reducible refine gate_callee (f := 35) rfl ?_); refine goesL_ (some 87) rfl rfl Try.func35 (by kernel_rfl) rfl #[.pointer (some ⟨g, 0, none⟩), .agg #[.int .i64 t283, .bool t284]] rfl (by (try simp only [List.map_toArray, List.map_cons, List.map_nil]); first | done | rfl | (simp only [List.length_drop, List.length_take]; rfl)) ?_; (with_reducible refine (section_number.calls k4 g s0_0 x1001_4 x1002_4 t283 t284 t291 t292 t293 w0 _ ?side1 ?side2 A66.out).mono ?_); (case side1 => repeat (first | (with_reducible first | exact HI0.out | apply zG.alloc | apply zG.drewN | apply zG.drew | refine zG.farT (t := 25) (b := gb262) ?_ (by decide) (by repeat (first | exact zA.of BK262.out | apply zA.set | apply zA.drewN | apply zA.drew | apply zA.alloc)) _ | refine zG.farT (t := 25) (b := gb272) ?_ (by decide) (by repeat (first | exact zA.of BK272.out | apply zA.set | apply zA.drewN | apply zA.drew | apply zA.alloc)) _ | refine zG.farT (t := 50) (b := gb287) ?_ (by decide) (by repeat (first | exact zA.of BK287.out | apply zA.set | apply zA.drewN | apply zA.drew | apply zA.alloc)) _) | exact HI0.out)); (case side2 => repeat (first | (with_reducible first | exact HB.out | apply zE | apply zB | apply zC | refine zD ?_ GE262.out | refine zD ?_ GE272.out | refine zD ?_ GE287.out) | exact HB.out)); rintro e w102 ⟨rfl, hi, hb, hk⟩; refine ⟨_, rfl, ?_⟩; have n0_ := zF.mk (Kd.R_mono (Kd.R_keep (zG.apart (show zG w0 _ g s0_0 x1001_4 x1002_4 from by repeat (first | (with_reducible first | exact HI0.out | apply zG.alloc | apply zG.drewN | apply zG.drew | refine zG.farT (t := 25) (b := gb262) ?_ (by decide) (by repeat (first | exact zA.of BK262.out | apply zA.set | apply zA.drewN | apply zA.drew | apply zA.alloc)) _ | refine zG.farT (t := 25) (b := gb272) ?_ (by decide) (by repeat (first | exact zA.of BK272.out | apply zA.set | apply zA.drewN | apply zA.drew | apply zA.alloc)) _ | refine zG.farT (t := 50) (b := gb287) ?_ (by decide) (by repeat (first | exact zA.of BK287.out | apply zA.set | apply zA.drewN | apply zA.drew | apply zA.alloc)) _) | exact HI0.out)) (by (with_reducible repeat (first | apply Kd.zR | apply Kd.zP | apply Kd.zQ)); exact HO_12.out) (by decide)) hk (fun _ h => h.2)) (fun _ h => h.1)); have n1_ := zF.mk (Kd.R_mono (Kd.R_keep (zG.apart (show zG w0 _ g s0_0 x1001_4 x1002_4 from by repeat (first | (with_reducible first | exact HI0.out | apply zG.alloc | apply zG.drewN | apply zG.drew | refine zG.farT (t := 25) (b := gb262) ?_ (by decide) (by repeat (first | exact zA.of BK262.out | apply zA.set | apply zA.drewN | apply zA.drew | apply zA.alloc)) _ | refine zG.farT (t := 25) (b := gb272) ?_ (by decide) (by repeat (first | exact zA.of BK272.out | apply zA.set | apply zA.drewN | apply zA.drew | apply zA.alloc)) _ | refine zG.farT (t := 50) (b := gb287) ?_ (by decide) (by repeat (first | exact zA.of BK287.out | apply zA.set | apply zA.drewN | apply zA.drew | apply zA.alloc)) _) | exact HI0.out)) (by (with_reducible repeat (first | apply Kd.zR | apply Kd.zP | apply Kd.zQ)); exact HO_66.out) (by decide)) hk (fun _ h => h.2)) (fun _ h => h.1)); have n2_ := zF.mk (Kd.R_mono (Kd.R_keep (zG.apart (show zG w0 _ g s0_0 x1001_4 x1002_4 from by repeat (first | (with_reducible first | exact HI0.out | apply zG.alloc | apply zG.drewN | apply zG.drew | refine zG.farT (t := 25) (b := gb262) ?_ (by decide) (by repeat (first | exact zA.of BK262.out | apply zA.set | apply zA.drewN | apply zA.drew | apply zA.alloc)) _ | refine zG.farT (t := 25) (b := gb272) ?_ (by decide) (by repeat (first | exact zA.of BK272.out | apply zA.set | apply zA.drewN | apply zA.drew | apply zA.alloc)) _ | refine zG.farT (t := 50) (b := gb287) ?_ (by decide) (by repeat (first | exact zA.of BK287.out | apply zA.set | apply zA.drewN | apply zA.drew | apply zA.alloc)) _) | exact HI0.out)) (by (with_reducible repeat (first | apply Kd.zR | apply Kd.zP | apply Kd.zQ)); exact HO_273002.out) (by decide)) hk (fun _ h => h.2)) (fun _ h => h.1)); have n3_ := zF.mk (zI.blk hk (g' := gb262) (o := .cells #[.bool x263000_4, .int .i64 x263001_4, .slice none 0 0] 25 (0, 0)) (by (with_reducible repeat (first | refine zK ?_ _ | refine zL ?_ | refine zJ ?_ _)); exact BK262.out) NB262_0.out (by simp)); have n4_ := zF.mk (zI.blk hk (g' := gb272) (o := .cells #[.bool (t263 == 1), .int .i64 (wrap64 (t269)), .slice Ao63 y288.length co63] 25 (0, 0)) (by (with_reducible repeat (first | refine zK ?_ _ | refine zL ?_ | refine zJ ?_ _)); exact BK272.out) NB272_0.out (by simp)); have n5_ := zF.mk (zI.blk hk (g' := gb287) (o := .cells #[.int .i64 t283, .bool t284] 50 (0, 0)) (by (with_reducible repeat (first | refine zK ?_ _ | refine zL ?_ | refine zJ ?_ _)); exact BK287.out) NB287_0.out (by simp)); have n6_ := zF.mk (zI.trans (by repeat (first | (with_reducible first | exact HK.out | apply zV | apply zW | apply zX | refine zY ?_ GW262.out _ | refine zY ?_ GW272.out _ | refine zY ?_ GW287.out _) | exact HK.out)) hk (.inl rfl)); have n7_ := zF.mk (hb); have n8_ := zF.mk (hi); clear HO_12; clear HO_66; clear HO_273002; clear BK262; clear BK272; clear BK287; clear HK; clear HB; clear HI0; have HO_12 := n0_; have HO_66 := n1_; have HO_273002 := n2_; have BK262 := n3_; have BK272 := n4_; have BK287 := n5_; have HK := n6_; have HB := n7_; have HI0 := n8_; clear n0_ n1_ n2_ n3_ n4_ n5_ n6_ n7_ n8_; (try clear hb); (try clear hb2); (try clear hk); (try clear hi)) | ((with_reducible refine gate_callee (f := 33) rfl ?_); refine goesL_ (some 89) rfl rfl Try.func33 (by kernel_rfl) rfl #[.pointer (some ⟨g, 0, none⟩)] rfl (by (try simp only [List.map_toArray, List.map_cons, List.map_nil]); first | done | rfl | (simp only [List.length_drop, List.length_take]; rfl)) ?_; (with_reducible refine (bits_Reader_Fail.calls g s0_0 t292 t293 t294 t295 t296 w0 _ ?side1 ?side2 A67.out).mono ?_); (case side1 => repeat (first | (with_reducible first | exact HI0.out | apply zG.alloc | apply zG.drewN | apply zG.drew | refine zG.farT (t := 25) (b := gb262) ?_ (by decide) (by repeat (first | exact zA.of BK262.out | apply zA.set | apply zA.drewN | apply zA.drew | apply zA.alloc)) _ | refine zG.farT (t := 25) (b := gb272) ?_ (by decide) (by repeat (first | exact zA.of BK272.out | apply zA.set | apply zA.drewN | apply zA.drew | apply zA.alloc)) _ | refine zG.farT (t := 50) (b := gb287) ?_ (by decide) (by repeat (first | exact zA.of BK287.out | apply zA.set | apply zA.drewN | apply zA.drew | apply zA.alloc)) _) | exact HI0.out)); (case side2 => repeat (first | (with_reducible first | exact HB.out | apply zE | apply zB | apply zC | refine zD ?_ GE262.out | refine zD ?_ GE272.out | refine zD ?_ GE287.out) | exact HB.out)); rintro e w103 ⟨rfl, hi, hb, hk⟩; refine ⟨_, rfl, ?_⟩; have n0_ := zF.mk (Kd.R_mono (Kd.R_keep (zG.apart (show zG w0 _ g s0_0 t292 t293 from by repeat (first | (with_reducible first | exact HI0.out | apply zG.alloc | apply zG.drewN | apply zG.drew | refine zG.farT (t := 25) (b := gb262) ?_ (by decide) (by repeat (first | exact zA.of BK262.out | apply zA.set | apply zA.drewN | apply zA.drew | apply zA.alloc)) _ | refine zG.farT (t := 25) (b := gb272) ?_ (by decide) (by repeat (first | exact zA.of BK272.out | apply zA.set | apply zA.drewN | apply zA.drew | apply zA.alloc)) _ | refine zG.farT (t := 50) (b := gb287) ?_ (by decide) (by repeat (first | exact zA.of BK287.out | apply zA.set | apply zA.drewN | apply zA.drew | apply zA.alloc)) _) | exact HI0.out)) (by (with_reducible repeat (first | apply Kd.zR | apply Kd.zP | apply Kd.zQ)); exact HO_12.out) (by decide)) hk (fun _ h => h.2)) (fun _ h => h.1)); have n1_ := zF.mk (Kd.R_mono (Kd.R_keep (zG.apart (show zG w0 _ g s0_0 t292 t293 from by repeat (first | (with_reducible first | exact HI0.out | apply zG.alloc | apply zG.drewN | apply zG.drew | refine zG.farT (t := 25) (b := gb262) ?_ (by decide) (by repeat (first | exact zA.of BK262.out | apply zA.set | apply zA.drewN | apply zA.drew | apply zA.alloc)) _ | refine zG.farT (t := 25) (b := gb272) ?_ (by decide) (by repeat (first | exact zA.of BK272.out | apply zA.set | apply zA.drewN | apply zA.drew | apply zA.alloc)) _ | refine zG.farT (t := 50) (b := gb287) ?_ (by decide) (by repeat (first | exact zA.of BK287.out | apply zA.set | apply zA.drewN | apply zA.drew | apply zA.alloc)) _) | exact HI0.out)) (by (with_reducible repeat (first | apply Kd.zR | apply Kd.zP | apply Kd.zQ)); exact HO_66.out) (by decide)) hk (fun _ h => h.2)) (fun _ h => h.1)); have n2_ := zF.mk (Kd.R_mono (Kd.R_keep (zG.apart (show zG w0 _ g s0_0 t292 t293 from by repeat (first | (with_reducible first | exact HI0.out | apply zG.alloc | apply zG.drewN | apply zG.drew | refine zG.farT (t := 25) (b := gb262) ?_ (by decide) (by repeat (first | exact zA.of BK262.out | apply zA.set | apply zA.drewN | apply zA.drew | apply zA.alloc)) _ | refine zG.farT (t := 25) (b := gb272) ?_ (by decide) (by repeat (first | exact zA.of BK272.out | apply zA.set | apply zA.drewN | apply zA.drew | apply zA.alloc)) _ | refine zG.farT (t := 50) (b := gb287) ?_ (by decide) (by repeat (first | exact zA.of BK287.out | apply zA.set | apply zA.drewN | apply zA.drew | apply zA.alloc)) _) | exact HI0.out)) (by (with_reducible repeat (first | apply Kd.zR | apply Kd.zP | apply Kd.zQ)); exact HO_273002.out) (by decide)) hk (fun _ h => h.2)) (fun _ h => h.1)); have n3_ := zF.mk (zI.blk hk (g' := gb262) (o := .cells #[.bool x263000_4, .int .i64 x263001_4, .slice none 0 0] 25 (0, 0)) (by (with_reducible repeat (first | refine zK ?_ _ | refine zL ?_ | refine zJ ?_ _)); exact BK262.out) NB262_0.out (by simp)); have n4_ := zF.mk (zI.blk hk (g' := gb272) (o := .cells #[.bool (t263 == 1), .int .i64 (wrap64 (t269)), .slice Ao63 y288.length co63] 25 (0, 0)) (by (with_reducible repeat (first | refine zK ?_ _ | refine zL ?_ | refine zJ ?_ _)); exact BK272.out) NB272_0.out (by simp)); have n5_ := zF.mk (zI.blk hk (g' := gb287) (o := .cells #[.int .i64 t283, .bool t284] 50 (0, 0)) (by (with_reducible repeat (first | refine zK ?_ _ | refine zL ?_ | refine zJ ?_ _)); exact BK287.out) NB287_0.out (by simp)); have n6_ := zF.mk (zI.trans (by repeat (first | (with_reducible first | exact HK.out | apply zV | apply zW | apply zX | refine zY ?_ GW262.out _ | refine zY ?_ GW272.out _ | refine zY ?_ GW287.out _) | exact HK.out)) hk (.inl rfl)); have n7_ := zF.mk (hb); have n8_ := zF.mk (hi); clear HO_12; clear HO_66; clear HO_273002; clear BK262; clear BK272; clear BK287; clear HK; clear HB; clear HI0; have HO_12 := n0_; have HO_66 := n1_; have HO_273002 := n2_; have BK262 := n3_; have BK272 := n4_; have BK287 := n5_; have HK := n6_; have HB := n7_; have HI0 := n8_; clear n0_ n1_ n2_ n3_ n4_ n5_ n6_ n7_ n8_; (try clear hb); (try clear hb2); (try clear hk); (try clear hi)) | ((with_reducible refine gate_callee (f := 33) rfl ?_); refine goesL_ (some 93) rfl rfl Try.func33 (by kernel_rfl) rfl #[.pointer (some ⟨g, 0, none⟩)] rfl (by (try simp only [List.map_toArray, List.map_cons, List.map_nil]); first | done | rfl | (simp only [List.length_drop, List.length_take]; rfl)) ?_; (with_reducible refine (bits_Reader_Fail.calls g s0_0 t295 t296 t300 t301 t302 w0 _ ?side1 ?side2 A97.out).mono ?_); (case side1 => repeat (first | (with_reducible first | exact HI0.out | apply zG.alloc | apply zG.drewN | apply zG.drew | refine zG.farT (t := 25) (b := gb262) ?_ (by decide) (by repeat (first | exact zA.of BK262.out | apply zA.set | apply zA.drewN | apply zA.drew | apply zA.alloc)) _ | refine zG.farT (t := 25) (b := gb272) ?_ (by decide) (by repeat (first | exact zA.of BK272.out | apply zA.set | apply zA.drewN | apply zA.drew | apply zA.alloc)) _ | refine zG.farT (t := 50) (b := gb287) ?_ (by decide) (by repeat (first | exact zA.of BK287.out | apply zA.set | apply zA.drewN | apply zA.drew | apply zA.alloc)) _) | exact HI0.out)); (case side2 => repeat (first | (with_reducible first | exact HB.out | apply zE | apply zB | apply zC | refine zD ?_ GE262.out | refine zD ?_ GE272.out | refine zD ?_ GE287.out) | exact HB.out)); rintro e w104 ⟨rfl, hi, hb, hk⟩; refine ⟨_, rfl, ?_⟩; have n0_ := zF.mk (Kd.R_mono (Kd.R_keep (zG.apart (show zG w0 _ g s0_0 t295 t296 from by repeat (first | (with_reducible first | exact HI0.out | apply zG.alloc | apply zG.drewN | apply zG.drew | refine zG.farT (t := 25) (b := gb262) ?_ (by decide) (by repeat (first | exact zA.of BK262.out | apply zA.set | apply zA.drewN | apply zA.drew | apply zA.alloc)) _ | refine zG.farT (t := 25) (b := gb272) ?_ (by decide) (by repeat (first | exact zA.of BK272.out | apply zA.set | apply zA.drewN | apply zA.drew | apply zA.alloc)) _ | refine zG.farT (t := 50) (b := gb287) ?_ (by decide) (by repeat (first | exact zA.of BK287.out | apply zA.set | apply zA.drewN | apply zA.drew | apply zA.alloc)) _) | exact HI0.out)) (by (with_reducible repeat (first | apply Kd.zR | apply Kd.zP | apply Kd.zQ)); exact HO_12.out) (by decide)) hk (fun _ h => h.2)) (fun _ h => h.1)); have n1_ := zF.mk (Kd.R_mono (Kd.R_keep (zG.apart (show zG w0 _ g s0_0 t295 t296 from by repeat (first | (with_reducible first | exact HI0.out | apply zG.alloc | apply zG.drewN | apply zG.drew | refine zG.farT (t := 25) (b := gb262) ?_ (by decide) (by repeat (first | exact zA.of BK262.out | apply zA.set | apply zA.drewN | apply zA.drew | apply zA.alloc)) _ | refine zG.farT (t := 25) (b := gb272) ?_ (by decide) (by repeat (first | exact zA.of BK272.out | apply zA.set | apply zA.drewN | apply zA.drew | apply zA.alloc)) _ | refine zG.farT (t := 50) (b := gb287) ?_ (by decide) (by repeat (first | exact zA.of BK287.out | apply zA.set | apply zA.drewN | apply zA.drew | apply zA.alloc)) _) | exact HI0.out)) (by (with_reducible repeat (first | apply Kd.zR | apply Kd.zP | apply Kd.zQ)); exact HO_66.out) (by decide)) hk (fun _ h => h.2)) (fun _ h => h.1)); have n2_ := zF.mk (Kd.R_mono (Kd.R_keep (zG.apart (show zG w0 _ g s0_0 t295 t296 from by repeat (first | (with_reducible first | exact HI0.out | apply zG.alloc | apply zG.drewN | apply zG.drew | refine zG.farT (t := 25) (b := gb262) ?_ (by decide) (by repeat (first | exact zA.of BK262.out | apply zA.set | apply zA.drewN | apply zA.drew | apply zA.alloc)) _ | refine zG.farT (t := 25) (b := gb272) ?_ (by decide) (by repeat (first | exact zA.of BK272.out | apply zA.set | apply zA.drewN | apply zA.drew | apply zA.alloc)) _ | refine zG.farT (t := 50) (b := gb287) ?_ (by decide) (by repeat (first | exact zA.of BK287.out | apply zA.set | apply zA.drewN | apply zA.drew | apply zA.alloc)) _) | exact HI0.out)) (by (with_reducible repeat (first | apply Kd.zR | apply Kd.zP | apply Kd.zQ)); exact HO_273002.out) (by decide)) hk (fun _ h => h.2)) (fun _ h => h.1)); have n3_ := zF.mk (zI.blk hk (g' := gb262) (o := .cells #[.bool x263000_4, .int .i64 x263001_4, .slice none 0 0] 25 (0, 0)) (by (with_reducible repeat (first | refine zK ?_ _ | refine zL ?_ | refine zJ ?_ _)); exact BK262.out) NB262_0.out (by simp)); have n4_ := zF.mk (zI.blk hk (g' := gb272) (o := .cells #[.bool (t263 == 1), .int .i64 (wrap64 (t269)), .slice Ao63 y288.length co63] 25 (0, 0)) (by (with_reducible repeat (first | refine zK ?_ _ | refine zL ?_ | refine zJ ?_ _)); exact BK272.out) NB272_0.out (by simp)); have n5_ := zF.mk (zI.blk hk (g' := gb287) (o := .cells #[.int .i64 t283, .bool t284] 50 (0, 0)) (by (with_reducible repeat (first | refine zK ?_ _ | refine zL ?_ | refine zJ ?_ _)); exact BK287.out) NB287_0.out (by simp)); have n6_ := zF.mk (zI.trans (by repeat (first | (with_reducible first | exact HK.out | apply zV | apply zW | apply zX | refine zY ?_ GW262.out _ | refine zY ?_ GW272.out _ | refine zY ?_ GW287.out _) | exact HK.out)) hk (.inl rfl)); have n7_ := zF.mk (hb); have n8_ := zF.mk (hi); clear HO_12; clear HO_66; clear HO_273002; clear BK262; clear BK272; clear BK287; clear HK; clear HB; clear HI0; have HO_12 := n0_; have HO_66 := n1_; have HO_273002 := n2_; have BK262 := n3_; have BK272 := n4_; have BK287 := n5_; have HK := n6_; have HB := n7_; have HI0 := n8_; clear n0_ n1_ n2_ n3_ n4_ n5_ n6_ n7_ n8_; (try clear hb); (try clear hb2); (try clear hk); (try clear hi); have hnb105 := NB262_272.out; have hnc105 := NB272_262.out; have hnb106 := NB262_0.out; have hnc106 := NB0_262.out; have hcz107_0 : w104.cell? ⟨gb262, 0, none⟩ = some (.bool x263000_4) := (zM BK262.out 0).trans rfl; have hcz107_1 : w104.cell? ⟨gb262, 1, none⟩ = some (.int .i64 x263001_4) := (zM BK262.out 1).trans rfl; have hcz107_2 : w104.cell? ⟨gb262, 2, none⟩ = some (.slice none 0 0) := (zM BK262.out 2).trans rfl; have hfz107_0 := zN BK262.out 0; have hfz107_1 := zN BK262.out 1; have hfz107_2 := zN BK262.out 2))
                                      refine bodyPost_ret (results_list (rs := [.tmp 6, .cell 7 25, .tmp 8]) rfl (by simp) (.tmp (.cell gb262 25 #[.bool false, .int .i64 0, .slice none 0 0] (0, 0) _ rfl (by (with_reducible repeat (first | refine zK ?_ _ | refine zL ?_ | refine zJ ?_ _)); refine blk_put (cs := #[.bool false, .int .i64 0, .slice none 0 0]) ?_ 2 _ rfl; (with_reducible repeat (first | refine zK ?_ _ | refine zL ?_ | refine zJ ?_ _)); refine blk_put (cs := #[.bool false, .int .i64 x263001_4, .slice none 0 0]) ?_ 1 _ rfl; (with_reducible repeat (first | refine zK ?_ _ | refine zL ?_ | refine zJ ?_ _)); refine blk_put (cs := #[.bool x263000_4, .int .i64 x263001_4, .slice none 0 0]) ?_ 0 _ rfl; (with_reducible repeat (first | refine zK ?_ _ | refine zL ?_ | refine zJ ?_ _)); exact BK262.out) Try.underlying25 rfl (by kernel_rfl) (.tmp .nil)))) rfl ?_
                                      exact ⟨_, _, by first | rfl | (simp [errW_none, errW_some] <;> rfl) | (simp [*, errW_none, errW_some] <;> rfl), by first | exact Kd.R_nil _ _ _ _ _ | exact Kd.N_nil _ _ _ _ _ | exact Kd.V_nil _ _ _ _ _ | exact Kd.Q_nil _ _ _ _ _ | exact Kd.S_nil _ _ _ _ _, by first | exact Kd.R_nil _ _ _ _ _ | exact Kd.N_nil _ _ _ _ _ | exact Kd.V_nil _ _ _ _ _ | exact Kd.Q_nil _ _ _ _ _ | exact Kd.S_nil _ _ _ _ _, by repeat (first | (with_reducible first | exact HI0.out | apply zG.alloc | apply zG.drewN | apply zG.drew | refine zG.farT (t := 25) (b := gb262) ?_ (by decide) (by repeat (first | exact zA.of BK262.out | apply zA.set | apply zA.drewN | apply zA.drew | apply zA.alloc)) _ | refine zG.farT (t := 25) (b := gb272) ?_ (by decide) (by repeat (first | exact zA.of BK272.out | apply zA.set | apply zA.drewN | apply zA.drew | apply zA.alloc)) _ | refine zG.farT (t := 50) (b := gb287) ?_ (by decide) (by repeat (first | exact zA.of BK287.out | apply zA.set | apply zA.drewN | apply zA.drew | apply zA.alloc)) _) | exact HI0.out), by repeat (first | (with_reducible first | exact HB.out | apply zE | apply zB | apply zC | refine zD ?_ GE262.out | refine zD ?_ GE272.out | refine zD ?_ GE287.out) | exact HB.out), by repeat (first | (with_reducible first | exact HK.out | apply zV | apply zW | apply zX | refine zY ?_ GW262.out _ | refine zY ?_ GW272.out _ | refine zY ?_ GW287.out _) | exact HK.out)⟩
                                  · rw [if_neg c65] at H
                                    have c65b0 : decide (x83_4 < (rd t279 x68_3)) = false := decide_eq_false c65
                                    clear c65
                                    have H' := zF.mk H
                                    clear H
                                    go_wp2
                                    go_roundg k4
                                    case measure => have := HJ3.out; have := HJ12.out; have := HK3.out; have := HK4.out; omega
                                    case rel => exact ⟨(x12_4), (wrap64 (x68_3 + 1)), (x1001_4), (x1002_4), (x263000_4), (x263001_4), (y288), (.slice Ao63 y288.length co63), (by first | rfl | (simp; done) | (simp only [i64_w, i32_w]; done) | (simp [*]; done) | (simp only [i64_w, i32_w]; first | rfl | (simp; done) | (simp [*]; done))), H', ⟨by have := HJ3.out; have := HJ12.out; have := HK3.out; have := HK4.out; omega⟩, ⟨by (with_reducible repeat (first | apply Kd.zR | apply Kd.zP | apply Kd.zQ)); exact HO_12.out⟩, ⟨by (with_reducible repeat (first | apply Kd.zR | apply Kd.zP | apply Kd.zQ)); exact HO_66.out⟩, ⟨by (with_reducible repeat (first | apply Kd.zR | apply Kd.zP | apply Kd.zQ)); exact Kd.R_mono HO_273002.out (fun _ hk => trivial)⟩, ⟨by (with_reducible repeat (first | refine zK ?_ _ | refine zL ?_ | refine zJ ?_ _)); exact BK262.out⟩, ⟨by (with_reducible repeat (first | refine zK ?_ _ | refine zL ?_ | refine zJ ?_ _)); exact BK272.out⟩, ⟨by repeat (first | (with_reducible first | exact HI0.out | apply zG.alloc | apply zG.drewN | apply zG.drew | refine zG.farT (t := 25) (b := gb262) ?_ (by decide) (by repeat (first | exact zA.of BK262.out | apply zA.set | apply zA.drewN | apply zA.drew | apply zA.alloc)) _ | refine zG.farT (t := 25) (b := gb272) ?_ (by decide) (by repeat (first | exact zA.of BK272.out | apply zA.set | apply zA.drewN | apply zA.drew | apply zA.alloc)) _ | refine zG.farT (t := 50) (b := gb287) ?_ (by decide) (by repeat (first | exact zA.of BK287.out | apply zA.set | apply zA.drewN | apply zA.drew | apply zA.alloc)) _) | exact HI0.out)⟩, ⟨by repeat (first | (with_reducible first | exact HK.out | apply zV | apply zW | apply zX | refine zY ?_ GW262.out _ | refine zY ?_ GW272.out _ | refine zY ?_ GW287.out _) | exact HK.out)⟩, ⟨by repeat (first | (with_reducible first | exact HB.out | apply zE | apply zB | apply zC | refine zD ?_ GE262.out | refine zD ?_ GE272.out | refine zD ?_ GE287.out) | exact HB.out)⟩⟩
                            · rw [if_neg c51] at H
                              exact absurd H (by simp)
                          · rw [if_neg c49] at H
                            exact absurd H (by simp)
                        · rw [if_neg c48] at H
                          exact absurd H (by simp)
                      · rw [if_neg c47] at H
                        have c47b0 : decide (x68_3 < (t279.length : Int)) = false := decide_eq_false c47
                        clear c47
                        simp only [Option.some.injEq, Prod.mk.injEq] at H
                        obtain ⟨rfl, rfl, rfl, rfl, rfl, rfl, rfl⟩ := H
                        try go_wp2
                        have n0_ := zF.mk (Kd.zQ HO_12.out)
                        have n1_ := zF.mk (Kd.zQ HO_66.out)
                        have n2_ := zF.mk (Kd.zQ HO_273002.out)
                        have n3_ := zF.mk (zL BK262.out)
                        have n4_ := zF.mk (zL BK272.out)
                        have n5_ := zF.mk (zG.drew HI0.out)
                        have n6_ := zF.mk (zW HK.out)
                        have n7_ := zF.mk (zC HB.out)
                        clear HO_12
                        clear HO_66
                        clear HO_273002
                        clear BK262
                        clear BK272
                        clear HI0
                        clear HK
                        clear HB
                        have HO_12 := n0_
                        have HO_66 := n1_
                        have HO_273002 := n2_
                        have BK262 := n3_
                        have BK272 := n4_
                        have HI0 := n5_
                        have HK := n6_
                        have HB := n7_
                        clear n0_ n1_ n2_ n3_ n4_ n5_ n6_ n7_
                        obtain ⟨Ao111, co111, eo111⟩ := Kd.R_slice HO_273002.out
                        (first | subst eo111 | (injection eo111 with f1_ f2_ f3_; have f4_ := f1_.symm; have f5_ := f3_.symm; clear f1_ f2_ f3_; subst f4_; subst f5_))
                        refine start_ (n := 5) (S := fun w' => w'.cell? ⟨gb272, 0, none⟩ = some (.bool (t263 == 1)) ∧ w'.cell? ⟨gb272, 1, none⟩ = some (.int .i64 (wrap64 (t269))) ∧ w'.cell? ⟨gb272, 2, none⟩ = some (.slice Ao111 x273002_3.length co111)) (ds := []) #[false, false, false, false, false] (by kernel_rfl) rfl rfl ⟨(zM BK272.out 0).trans rfl, (zM BK272.out 1).trans rfl, (zM BK272.out 2).trans rfl⟩ (fun hHeld => ?_)
                        generalize wr.drew = w108 at HO_12 HO_66 HO_273002 BK262 BK272 HI0 HK HB hHeld ⊢
                        refine pure_ (i := 0) (N := some 107) (v := ?_) (a' := ?_) #[true, false, false, false, false] rfl rfl (by kernel_rfl) (fun _ _ _ h => h) (Or.inl ⟨by rfl, ?_⟩) ?_ ?_
                        rotate_left
                        · intro w'
                          go_simp
                          with_reducible rfl
                        rotate_left
                        · simp only [Act.put, List.setIfInBounds_toArray, List.set_cons_zero, List.set_cons_succ, i64_w, i32_w]
                          rfl
                        refine pure_ (i := 2) (N := some 6) (v := ?_) (a' := ?_) #[true, false, true, false, false] rfl rfl (by kernel_rfl) (fun _ _ _ h => h) (Or.inl ⟨by rfl, ?_⟩) ?_ ?_
                        rotate_left
                        · intro w'
                          go_simp
                          with_reducible rfl
                        rotate_left
                        · simp only [Act.put, List.setIfInBounds_toArray, List.set_cons_zero, List.set_cons_succ, i64_w, i32_w]
                          rfl
                        refine take_ (i := 1) (N := some 108) (v := ?_) (a' := ?_) #[true, true, true, false, false] rfl rfl (by kernel_rfl) (fun _ _ _ h => h) (Or.inl ⟨by rfl, ?_⟩) hHeld ?_ ?_
                        rotate_left
                        · rintro w' ⟨s0, s1, s2⟩
                          go_simp
                          with_reducible rfl
                        rotate_left
                        · simp only [Act.put, List.setIfInBounds_toArray, List.set_cons_zero, List.set_cons_succ, i64_w, i32_w]
                          rfl
                        refine one_ (i := 3) (N := none) #[true, true, true, true, false] rfl rfl (by kernel_rfl) (by decide) (fun K hK => ?_)
                        have hs109 : w108.cell? ⟨gb262, 0, none⟩ = some (.bool x263000_3) := (zM BK262.out 0).trans rfl
                        have hfs109 := zN BK262.out 0
                        have hns109_1 := NB272_262.out
                        have hms109_1 := NB262_272.out
                        have hs110 : w108.cell? ⟨gb262, 1, none⟩ = some (.int .i64 x263001_3) := (zM BK262.out 1).trans rfl
                        have hfs110 := zN BK262.out 1
                        have hns110_1 := NB272_262.out
                        have hms110_1 := NB262_272.out
                        have hs112 : w108.cell? ⟨gb262, 2, none⟩ = some (.slice none 0 0) := (zM BK262.out 2).trans rfl
                        have hfs112 := zN BK262.out 2
                        have hns112_1 := NB272_262.out
                        have hms112_1 := NB262_272.out
                        refine skip_ (w1 := ?_) (by rfl) rfl ?_ ?_
                        rotate_left
                        · go_simp
                          rfl
                        refine hK.out _ _ ⟨((cell_far (p := ⟨gb262, _, none⟩) NB272_262.out _).trans (((cell_far (p := ⟨gb262, _, none⟩) NB272_262.out _).trans (((cell_far (p := ⟨gb262, _, none⟩) NB272_262.out _).trans (hHeld.1)))))), ((cell_far (p := ⟨gb262, _, none⟩) NB272_262.out _).trans (((cell_far (p := ⟨gb262, _, none⟩) NB272_262.out _).trans (((cell_far (p := ⟨gb262, _, none⟩) NB272_262.out _).trans (hHeld.2.1)))))), ((cell_far (p := ⟨gb262, _, none⟩) NB272_262.out _).trans (((cell_far (p := ⟨gb262, _, none⟩) NB272_262.out _).trans (((cell_far (p := ⟨gb262, _, none⟩) NB272_262.out _).trans (hHeld.2.2))))))⟩ (fun hHeld => ?_)
                        clear hK K
                        refine pure_ (i := 4) (N := some 8) (v := ?_) (a' := ?_) #[true, true, true, true, true] rfl rfl (by kernel_rfl) (fun _ _ _ h => h) (Or.inl ⟨by rfl, ?_⟩) ?_ ?_
                        rotate_left
                        · intro w'
                          go_simp
                          with_reducible rfl
                        rotate_left
                        · simp only [Act.put, List.setIfInBounds_toArray, List.set_cons_zero, List.set_cons_succ, i64_w, i32_w]
                          rfl
                        refine done_ (by kernel_rfl) ?_
                        try go_wp2
                        refine bodyPost_ret (results_list (rs := [.tmp 6, .cell 7 25, .tmp 8]) rfl (by simp) (.tmp (.cell gb262 25 #[.bool (t263 == 1), .int .i64 (wrap64 (t269)), .slice Ao111 x273002_3.length co111] (0, 0) _ rfl (by (with_reducible repeat (first | refine zK ?_ _ | refine zL ?_ | refine zJ ?_ _)); refine blk_put (cs := #[.bool (t263 == 1), .int .i64 (wrap64 (t269)), .slice none 0 0]) ?_ 2 _ rfl; (with_reducible repeat (first | refine zK ?_ _ | refine zL ?_ | refine zJ ?_ _)); refine blk_put (cs := #[.bool (t263 == 1), .int .i64 x263001_3, .slice none 0 0]) ?_ 1 _ rfl; (with_reducible repeat (first | refine zK ?_ _ | refine zL ?_ | refine zJ ?_ _)); refine blk_put (cs := #[.bool x263000_3, .int .i64 x263001_3, .slice none 0 0]) ?_ 0 _ rfl; (with_reducible repeat (first | refine zK ?_ _ | refine zL ?_ | refine zJ ?_ _)); exact BK262.out) Try.underlying25 rfl (by kernel_rfl) (.tmp .nil)))) rfl ?_
                        exact ⟨_, _, by first | rfl | (simp [errW_none, errW_some] <;> rfl) | (simp [*, errW_none, errW_some] <;> rfl), by (with_reducible repeat (first | apply Kd.zR | apply Kd.zP | apply Kd.zQ)); exact Kd.R_mono (Kd.R_far (p := ⟨gb262, 2, none⟩) (Kd.R_far (p := ⟨gb262, 1, none⟩) (Kd.R_far (p := ⟨gb262, 0, none⟩) (Kd.R_types HO_12.out BK262.out (by decide)) (fun _ hk => hk.2) (.bool (t263 == 1))) (fun _ hk => hk.2) (.int .i64 (wrap64 (t269)))) (fun _ hk => hk.2) (.slice Ao111 x273002_3.length co111)) (fun _ hk => trivial), by (with_reducible repeat (first | apply Kd.zR | apply Kd.zP | apply Kd.zQ)); exact Kd.R_mono (Kd.R_far (p := ⟨gb262, 2, none⟩) (Kd.R_far (p := ⟨gb262, 1, none⟩) (Kd.R_far (p := ⟨gb262, 0, none⟩) (Kd.R_types HO_273002.out BK262.out (by decide)) (fun _ hk => hk.2) (.bool (t263 == 1))) (fun _ hk => hk.2) (.int .i64 (wrap64 (t269)))) (fun _ hk => hk.2) (.slice Ao111 x273002_3.length co111)) (fun _ hk => trivial), by repeat (first | (with_reducible first | exact HI0.out | apply zG.alloc | apply zG.drewN | apply zG.drew | refine zG.farT (t := 25) (b := gb262) ?_ (by decide) (by repeat (first | exact zA.of BK262.out | apply zA.set | apply zA.drewN | apply zA.drew | apply zA.alloc)) _ | refine zG.farT (t := 25) (b := gb272) ?_ (by decide) (by repeat (first | exact zA.of BK272.out | apply zA.set | apply zA.drewN | apply zA.drew | apply zA.alloc)) _) | exact HI0.out), by repeat (first | (with_reducible first | exact HB.out | apply zE | apply zB | apply zC | refine zD ?_ GE262.out | refine zD ?_ GE272.out) | exact HB.out), by repeat (first | (with_reducible first | exact HK.out | apply zV | apply zW | apply zX | refine zY ?_ GW262.out _ | refine zY ?_ GW272.out _) | exact HK.out)⟩
              · rw [if_neg c24] at H
                have c24b0 : (t273 == 0) = false := beq_eq_false_iff_ne.mpr c24
                have c24b1 : (t273 != 0) = true := bne_iff_ne.mpr c24
                replace H := Option.bind_eq_some_iff.mp H
                obtain ⟨⟨t276, t277, t278⟩, A1130, H⟩ := H
                replace H : (some (([] : List Int), false, 0, ([] : List (S50)), t276, t277, t278)) = some (r1, r2, r3, r4, r5, r6, r7) := H
                have A113 := zF.mk A1130
                clear A1130
                simp only [Option.some.injEq, Prod.mk.injEq] at H
                obtain ⟨rfl, rfl, rfl, rfl, rfl, rfl, rfl⟩ := H
                go_wp2_with (first | ((with_reducible refine gate_callee (f := 32) rfl ?_); refine goesL_ (some 46) rfl rfl Try.func32 (by kernel_rfl) rfl #[.pointer (some ⟨g, 0, none⟩), .int .i64 4] rfl (by (try simp only [List.map_toArray, List.map_cons, List.map_nil]); first | done | rfl | (simp only [List.length_drop, List.length_take]; rfl)) ?_; (with_reducible refine (bits_Reader_Take.calls kj12 g s0_0 x1001_12 x1002_12 4 t269 t270 t271 w0 _ ?side1 ?side2 A22.out).mono ?_); (case side1 => repeat (first | (with_reducible first | exact HI0.out | apply zG.alloc | apply zG.drewN | apply zG.drew | refine zG.farT (t := 25) (b := gb262) ?_ (by decide) (by repeat (first | exact zA.of BK262.out | apply zA.set | apply zA.drewN | apply zA.drew | apply zA.alloc)) _) | exact HI0.out)); (case side2 => repeat (first | (with_reducible first | exact HB.out | apply zE | apply zB | apply zC | refine zD ?_ GE262.out) | exact HB.out)); rintro e w114 ⟨rfl, hi, hb, hk⟩; refine ⟨_, rfl, ?_⟩; have n0_ := zF.mk (zI.blk hk (g' := gb262) (o := .cells #[.bool false, .int .i64 0, .slice none 0 0] 25 (0, 0)) (by (with_reducible repeat (first | refine zK ?_ _ | refine zL ?_ | refine zJ ?_ _)); exact BK262.out) NB262_0.out (by simp)); have n1_ := zF.mk (zI.trans (by repeat (first | (with_reducible first | exact HK.out | apply zV | apply zW | apply zX | refine zY ?_ GW262.out _) | exact HK.out)) hk (.inl rfl)); have n2_ := zF.mk (hb); have n3_ := zF.mk (hi); clear BK262; clear HK; clear HB; clear HI0; have BK262 := n0_; have HK := n1_; have HB := n2_; have HI0 := n3_; clear n0_ n1_ n2_ n3_; (try clear hb); (try clear hb2); (try clear hk); (try clear hi)) | ((with_reducible refine gate_dst (N := 10) rfl ?_); refine box_event ?hg (N := 10) ?hd (cs := #[.bool false, .int .i64 0, .slice none 0 0]) (t := 25) ?hr ?_; (case hd => rfl); (case hg => rfl); (case hr => first | (go_simp; done) | (go_simp; rfl)); intro gb272 hg w115 hbox hb; have n0_ := zF.mk (blk_below (g := gb262) (o := .cells #[.bool false, .int .i64 0, .slice none 0 0] 25 (0, 0)) (by (with_reducible repeat (first | refine zK ?_ _ | refine zL ?_ | refine zJ ?_ _)); exact BK262.out) hb); have n1_ := zF.mk (zG.below (by refine zG.as HI0.out ?_; repeat (first | (with_reducible first | exact HI0.out | apply zG.alloc | apply zG.drewN | apply zG.drew | refine zG.farT (t := 25) (b := gb262) ?_ (by decide) (by repeat (first | exact zA.of BK262.out | apply zA.set | apply zA.drewN | apply zA.drew | apply zA.alloc)) _) | exact HI0.out)) hb); have n2_ := zF.mk (zI.trans (by repeat (first | (with_reducible first | exact HK.out | apply zV | apply zW | apply zX | refine zY ?_ GW262.out _) | exact HK.out)) (zI.of_below hb g none) (.inl rfl)); have n3_ := zF.mk (below_step (by repeat (first | (with_reducible first | exact HB.out | apply zE | apply zB | apply zC | refine zD ?_ GE262.out) | exact HB.out)) hb); have n4_ := zF.mk (hbox); have n5_ := zF.mk ((by rw [hg]; exact (keep_size (w := w) (g := g) (row := none) (by repeat (first | (with_reducible first | exact HK.out | apply zV | apply zW | apply zX | refine zY ?_ GW262.out _) | exact HK.out))) : w.heap.size ≤ gb272)); have n6_ := zF.mk ((Nat.le_trans HW0.out (by rw [hg]; exact (keep_size (w := w) (g := g) (row := none) (by repeat (first | (with_reducible first | exact HK.out | apply zV | apply zW | apply zX | refine zY ?_ GW262.out _) | exact HK.out))) : w.heap.size ≤ gb272) : w0.heap.size ≤ gb272)); have n7_ := zF.mk ((by rw [hg]; exact Nat.ne_of_lt (blk_lt (g := gb262) (o := .cells #[.bool false, .int .i64 0, .slice none 0 0] 25 (0, 0)) (by (with_reducible repeat (first | refine zK ?_ _ | refine zL ?_ | refine zJ ?_ _)); exact BK262.out)) : gb262 ≠ gb272)); have n8_ := zF.mk ((by rw [hg]; exact Nat.ne_of_gt (blk_lt (g := gb262) (o := .cells #[.bool false, .int .i64 0, .slice none 0 0] 25 (0, 0)) (by (with_reducible repeat (first | refine zK ?_ _ | refine zL ?_ | refine zJ ?_ _)); exact BK262.out)) : gb272 ≠ gb262)); have n9_ := zF.mk ((by rw [hg]; exact Nat.ne_of_lt (zG.lt (show zG w0 _ g s0_0 t270 t271 from by repeat (first | (with_reducible first | exact HI0.out | apply zG.alloc | apply zG.drewN | apply zG.drew | refine zG.farT (t := 25) (b := gb262) ?_ (by decide) (by repeat (first | exact zA.of BK262.out | apply zA.set | apply zA.drewN | apply zA.drew | apply zA.alloc)) _) | exact HI0.out))) : g ≠ gb272)); have n10_ := zF.mk ((by rw [hg]; exact Nat.ne_of_gt (zG.lt (show zG w0 _ g s0_0 t270 t271 from by repeat (first | (with_reducible first | exact HI0.out | apply zG.alloc | apply zG.drewN | apply zG.drew | refine zG.farT (t := 25) (b := gb262) ?_ (by decide) (by repeat (first | exact zA.of BK262.out | apply zA.set | apply zA.drewN | apply zA.drew | apply zA.alloc)) _) | exact HI0.out))) : gb272 ≠ g)); clear BK262; clear HI0; clear HK; clear HB; have BK262 := n0_; have HI0 := n1_; have HK := n2_; have HB := n3_; have BK272 := n4_; have GW272 := n5_; have GE272 := n6_; have NB262_272 := n7_; have NB272_262 := n8_; have NB0_272 := n9_; have NB272_0 := n10_; clear n0_ n1_ n2_ n3_ n4_ n5_ n6_ n7_ n8_ n9_ n10_; clear hb hbox hg; have hnb116 := NB272_262.out; have hnc116 := NB262_272.out; have hnb117 := NB272_0.out; have hnc117 := NB0_272.out; have hcz118_0 : w115.cell? ⟨gb272, 0, none⟩ = some (.bool false) := (zM BK272.out 0).trans rfl; have hcz118_1 : w115.cell? ⟨gb272, 1, none⟩ = some (.int .i64 0) := (zM BK272.out 1).trans rfl; have hcz118_2 : w115.cell? ⟨gb272, 2, none⟩ = some (.slice none 0 0) := (zM BK272.out 2).trans rfl; have hfz118_0 := zN BK272.out 0; have hfz118_1 := zN BK272.out 1; have hfz118_2 := zN BK272.out 2) | ((with_reducible refine gate_callee (f := 33) rfl ?_); refine goesL_ (some 50) rfl rfl Try.func33 (by kernel_rfl) rfl #[.pointer (some ⟨g, 0, none⟩)] rfl (by (try simp only [List.map_toArray, List.map_cons, List.map_nil]); first | done | rfl | (simp only [List.length_drop, List.length_take]; rfl)) ?_; (with_reducible refine (bits_Reader_Fail.calls g s0_0 t270 t271 t273 t274 t275 w0 _ ?side1 ?side2 A23.out).mono ?_); (case side1 => repeat (first | (with_reducible first | exact HI0.out | apply zG.alloc | apply zG.drewN | apply zG.drew | refine zG.farT (t := 25) (b := gb262) ?_ (by decide) (by repeat (first | exact zA.of BK262.out | apply zA.set | apply zA.drewN | apply zA.drew | apply zA.alloc)) _ | refine zG.farT (t := 25) (b := gb272) ?_ (by decide) (by repeat (first | exact zA.of BK272.out | apply zA.set | apply zA.drewN | apply zA.drew | apply zA.alloc)) _) | exact HI0.out)); (case side2 => repeat (first | (with_reducible first | exact HB.out | apply zE | apply zB | apply zC | refine zD ?_ GE262.out | refine zD ?_ GE272.out) | exact HB.out)); rintro e w119 ⟨rfl, hi, hb, hk⟩; refine ⟨_, rfl, ?_⟩; have n0_ := zF.mk (zI.blk hk (g' := gb262) (o := .cells #[.bool false, .int .i64 0, .slice none 0 0] 25 (0, 0)) (by (with_reducible repeat (first | refine zK ?_ _ | refine zL ?_ | refine zJ ?_ _)); refine zO ?_ NB262_272.out _; (with_reducible repeat (first | refine zK ?_ _ | refine zL ?_ | refine zJ ?_ _)); refine zO ?_ NB262_272.out _; (with_reducible repeat (first | refine zK ?_ _ | refine zL ?_ | refine zJ ?_ _)); refine zO ?_ NB262_272.out _; (with_reducible repeat (first | refine zK ?_ _ | refine zL ?_ | refine zJ ?_ _)); exact BK262.out) NB262_0.out (by simp)); have n1_ := zF.mk (zI.blk hk (g' := gb272) (o := .cells #[.bool (t263 == 1), .int .i64 (wrap64 (t269)), .slice none 0 0] 25 (0, 0)) (by (with_reducible repeat (first | refine zK ?_ _ | refine zL ?_ | refine zJ ?_ _)); refine blk_put (cs := #[.bool (t263 == 1), .int .i64 (wrap64 (t269)), .slice none 0 0]) ?_ 2 _ rfl; (with_reducible repeat (first | refine zK ?_ _ | refine zL ?_ | refine zJ ?_ _)); refine blk_put (cs := #[.bool (t263 == 1), .int .i64 0, .slice none 0 0]) ?_ 1 _ rfl; (with_reducible repeat (first | refine zK ?_ _ | refine zL ?_ | refine zJ ?_ _)); refine blk_put (cs := #[.bool false, .int .i64 0, .slice none 0 0]) ?_ 0 _ rfl; (with_reducible repeat (first | refine zK ?_ _ | refine zL ?_ | refine zJ ?_ _)); exact BK272.out) NB272_0.out (by simp)); have n2_ := zF.mk (zI.trans (by repeat (first | (with_reducible first | exact HK.out | apply zV | apply zW | apply zX | refine zY ?_ GW262.out _ | refine zY ?_ GW272.out _) | exact HK.out)) hk (.inl rfl)); have n3_ := zF.mk (hb); have n4_ := zF.mk (hi); clear BK262; clear BK272; clear HK; clear HB; clear HI0; have BK262 := n0_; have BK272 := n1_; have HK := n2_; have HB := n3_; have HI0 := n4_; clear n0_ n1_ n2_ n3_ n4_; (try clear hb); (try clear hb2); (try clear hk); (try clear hi)) | ((with_reducible refine gate_callee (f := 33) rfl ?_); refine goesL_ (some 54) rfl rfl Try.func33 (by kernel_rfl) rfl #[.pointer (some ⟨g, 0, none⟩)] rfl (by (try simp only [List.map_toArray, List.map_cons, List.map_nil]); first | done | rfl | (simp only [List.length_drop, List.length_take]; rfl)) ?_; (with_reducible refine (bits_Reader_Fail.calls g s0_0 t274 t275 t276 t277 t278 w0 _ ?side1 ?side2 A113.out).mono ?_); (case side1 => repeat (first | (with_reducible first | exact HI0.out | apply zG.alloc | apply zG.drewN | apply zG.drew | refine zG.farT (t := 25) (b := gb262) ?_ (by decide) (by repeat (first | exact zA.of BK262.out | apply zA.set | apply zA.drewN | apply zA.drew | apply zA.alloc)) _ | refine zG.farT (t := 25) (b := gb272) ?_ (by decide) (by repeat (first | exact zA.of BK272.out | apply zA.set | apply zA.drewN | apply zA.drew | apply zA.alloc)) _) | exact HI0.out)); (case side2 => repeat (first | (with_reducible first | exact HB.out | apply zE | apply zB | apply zC | refine zD ?_ GE262.out | refine zD ?_ GE272.out) | exact HB.out)); rintro e w120 ⟨rfl, hi, hb, hk⟩; refine ⟨_, rfl, ?_⟩; have n0_ := zF.mk (zI.blk hk (g' := gb262) (o := .cells #[.bool false, .int .i64 0, .slice none 0 0] 25 (0, 0)) (by (with_reducible repeat (first | refine zK ?_ _ | refine zL ?_ | refine zJ ?_ _)); exact BK262.out) NB262_0.out (by simp)); have n1_ := zF.mk (zI.blk hk (g' := gb272) (o := .cells #[.bool (t263 == 1), .int .i64 (wrap64 (t269)), .slice none 0 0] 25 (0, 0)) (by (with_reducible repeat (first | refine zK ?_ _ | refine zL ?_ | refine zJ ?_ _)); exact BK272.out) NB272_0.out (by simp)); have n2_ := zF.mk (zI.trans (by repeat (first | (with_reducible first | exact HK.out | apply zV | apply zW | apply zX | refine zY ?_ GW262.out _ | refine zY ?_ GW272.out _) | exact HK.out)) hk (.inl rfl)); have n3_ := zF.mk (hb); have n4_ := zF.mk (hi); clear BK262; clear BK272; clear HK; clear HB; clear HI0; have BK262 := n0_; have BK272 := n1_; have HK := n2_; have HB := n3_; have HI0 := n4_; clear n0_ n1_ n2_ n3_ n4_; (try clear hb); (try clear hb2); (try clear hk); (try clear hi); have hnb121 := NB262_0.out; have hnc121 := NB0_262.out; have hcz122_0 : w120.cell? ⟨gb262, 0, none⟩ = some (.bool false) := (zM BK262.out 0).trans rfl; have hcz122_1 : w120.cell? ⟨gb262, 1, none⟩ = some (.int .i64 0) := (zM BK262.out 1).trans rfl; have hcz122_2 : w120.cell? ⟨gb262, 2, none⟩ = some (.slice none 0 0) := (zM BK262.out 2).trans rfl; have hfz122_0 := zN BK262.out 0; have hfz122_1 := zN BK262.out 1; have hfz122_2 := zN BK262.out 2))
                refine bodyPost_ret (results_list (rs := [.tmp 6, .cell 7 25, .tmp 8]) rfl (by simp) (.tmp (.cell gb262 25 #[.bool false, .int .i64 0, .slice none 0 0] (0, 0) _ rfl (by (with_reducible repeat (first | refine zK ?_ _ | refine zL ?_ | refine zJ ?_ _)); refine blk_put (cs := #[.bool false, .int .i64 0, .slice none 0 0]) ?_ 2 _ rfl; (with_reducible repeat (first | refine zK ?_ _ | refine zL ?_ | refine zJ ?_ _)); refine blk_put (cs := #[.bool false, .int .i64 0, .slice none 0 0]) ?_ 1 _ rfl; (with_reducible repeat (first | refine zK ?_ _ | refine zL ?_ | refine zJ ?_ _)); refine blk_put (cs := #[.bool false, .int .i64 0, .slice none 0 0]) ?_ 0 _ rfl; (with_reducible repeat (first | refine zK ?_ _ | refine zL ?_ | refine zJ ?_ _)); exact BK262.out) Try.underlying25 rfl (by kernel_rfl) (.tmp .nil)))) rfl ?_
                exact ⟨_, _, by first | rfl | (simp [errW_none, errW_some] <;> rfl) | (simp [*, errW_none, errW_some] <;> rfl), by first | exact Kd.R_nil _ _ _ _ _ | exact Kd.N_nil _ _ _ _ _ | exact Kd.V_nil _ _ _ _ _ | exact Kd.Q_nil _ _ _ _ _ | exact Kd.S_nil _ _ _ _ _, by first | exact Kd.R_nil _ _ _ _ _ | exact Kd.N_nil _ _ _ _ _ | exact Kd.V_nil _ _ _ _ _ | exact Kd.Q_nil _ _ _ _ _ | exact Kd.S_nil _ _ _ _ _, by repeat (first | (with_reducible first | exact HI0.out | apply zG.alloc | apply zG.drewN | apply zG.drew | refine zG.farT (t := 25) (b := gb262) ?_ (by decide) (by repeat (first | exact zA.of BK262.out | apply zA.set | apply zA.drewN | apply zA.drew | apply zA.alloc)) _ | refine zG.farT (t := 25) (b := gb272) ?_ (by decide) (by repeat (first | exact zA.of BK272.out | apply zA.set | apply zA.drewN | apply zA.drew | apply zA.alloc)) _) | exact HI0.out), by repeat (first | (with_reducible first | exact HB.out | apply zE | apply zB | apply zC | refine zD ?_ GE262.out | refine zD ?_ GE272.out) | exact HB.out), by repeat (first | (with_reducible first | exact HK.out | apply zV | apply zW | apply zX | refine zY ?_ GW262.out _ | refine zY ?_ GW272.out _) | exact HK.out)⟩
end Go.Proofs.Ytokdjeoecnnckaa.PA
end
section
namespace Go.Proofs.Ytokdjeoecnnckaa.PA
open Go.RowKit Go.Proofs.YtokdjeoecnnckaaW.PrintWords Go.Proofs.YtokdjeoecnnckaaW.PrintLast Go.Proofs.YtokdjeoecnnckaaW.PrintMore
attribute [local go_sem] max2_int min2_int max_two min_two max_three min_three max_four min_four   -- for this text's walks alone
set_option linter.unusedVariables false
set_option linter.unusedSimpArgs false

def serinetteref01_Ints.l0 : Nat → List Int → List Int → Int → Option (Bool)
  | 0, _, _, _ => none
  | k + 1, x0, x1, x5 => if x5 < (x0.length : Int) then (if 0 ≤ x5 then (if x5 < (x1.length : Int) then (if (rd x0 x5) = (rd x1 x5) then (serinetteref01_Ints.l0 k x0 x1 (wrap64 (x5 + 1))) else (some false)) else (none)) else (none)) else (some true)
def serinetteref01_Ints.f (k : Nat) (l0 : List Int) (l1 : List Int) : Option (Bool) := if (l0.length : Int) = (l1.length : Int) then (serinetteref01_Ints.l0 k l0 l1 0) else (some false)
set_option maxHeartbeats 8000000 in
set_option maxRecDepth 100000 in
theorem serinetteref01_Ints.calls (k : Nat) (A0 : Option Addr) (c0 : Nat) (l0 : List Int) (A1 : Option Addr) (c1 : Nat) (l1 : List Int) (r : Bool) (w : World) (hr0 : Kd.C (Kd.int .i64) w A0 l0.length l0) (hc0 : l0.length ≤ c0) (hr1 : Kd.C (Kd.int .i64) w A1 l1.length l1) (hc1 : l1.length ≤ c1) (h : serinetteref01_Ints.f k l0 l1 = some r) :
    Calls Try.prog 15 #[.slice A0 l0.length c0, .slice A1 l1.length c1] w fun e w' => e = .returned (.bool r) ∧ Drawn0 w w' := by
  have HR0 := zF.mk hr0
  have HC0 := zF.mk hc0
  clear hr0 hc0
  have HR1 := zF.mk hr1
  have HC1 := zF.mk hc1
  clear hr1 hc1
  have H : (if (l0.length : Int) = (l1.length : Int) then (serinetteref01_Ints.l0 k l0 l1 0) else (some false)) = some r := h
  clear h
  by_cases c3 : (l0.length : Int) = (l1.length : Int)
  · rw [if_pos c3] at H
    have c3b0 : ((l0.length : Int) == (l1.length : Int)) = true := beq_iff_eq.mpr c3
    have c3b1 : ((l0.length : Int) != (l1.length : Int)) = false := bne_eq_false_iff_eq.mpr c3
    have c3b2 : (l0.length == l1.length) = true := by first | simpa using c3 | (simp at c3 ⊢; omega)
    clear c3
    have H' := zF.mk H
    clear H
    go_enter Try.func15, Try.ntmps15
    go_wp2
    repeat (go_quiet (fail); try go_wp2)
    go_loopg [5] k (fun kq v5 w' => ∃ (x5_1 : Int), v5 = .int .i64 x5_1 ∧ zF (serinetteref01_Ints.l0 kq l0 l1 x5_1 = some r) ∧ zF (kq ≤ k) ∧ Drawn0 w w')
    case atStart => exact ⟨(0), (by first | rfl | (simp; done) | (simp only [i64_w, i32_w]; done) | (simp [*]; done) | (simp only [i64_w, i32_w]; first | rfl | (simp; done) | (simp [*]; done))), H', ⟨Nat.le_refl _⟩, by repeat (first | exact Drawn0.refl _ | apply Drawn0.step)⟩
    case round =>
      clear H'
      try clear c1
      try clear p2
      try clear c3
      try clear c3b0
      try clear c3b1
      try clear c3b2
      obtain ⟨x5_1, rfl, HA, HK1, ⟨m1, rfl⟩⟩ := hrel
      cases gk with
      | zero => exact absurd HA.out (by simp [serinetteref01_Ints.l0])
      | succ k1 =>
        have H := HA.out
        clear HA
        simp only [serinetteref01_Ints.l0] at H
        by_cases c4 : x5_1 < (l0.length : Int)
        · rw [if_pos c4] at H
          have c4b0 : decide (x5_1 < (l0.length : Int)) = true := decide_eq_true c4
          clear c4
          by_cases c5 : 0 ≤ x5_1
          · rw [if_pos c5] at H
            have c5b0 : decide (0 ≤ x5_1) = true := decide_eq_true c5
            clear c5
            by_cases c6 : x5_1 < (l1.length : Int)
            · rw [if_pos c6] at H
              have c6b0 : decide (x5_1 < (l1.length : Int)) = true := decide_eq_true c6
              clear c6
              by_cases c7 : (rd l0 x5_1) = (rd l1 x5_1)
              · rw [if_pos c7] at H
                have c7b0 : ((rd l0 x5_1) == (rd l1 x5_1)) = true := beq_iff_eq.mpr c7
                have c7b1 : ((rd l0 x5_1) != (rd l1 x5_1)) = false := bne_eq_false_iff_eq.mpr c7
                clear c7
                have H' := zF.mk H
                clear H
                have p303 : 0 ≤ (x5_1 : Int) := of_decide_eq_true (by first | (with_reducible assumption) | assumption)
                have q303 : x5_1 < (l0.length : Int) := of_decide_eq_true (by first | (with_reducible assumption) | assumption)
                obtain ⟨ad303, e303, hx303_0⟩ := Kd.at_int HR0.out x5_1 p303 q303
                cases e303
                replace p303 := eq_true p303
                replace q303 := eq_true q303
                have p304 : 0 ≤ (x5_1 : Int) := of_decide_eq_true (by first | (with_reducible assumption) | assumption)
                have q304 : x5_1 < (l1.length : Int) := of_decide_eq_true (by first | (with_reducible assumption) | assumption)
                obtain ⟨ad304, e304, hx304_0⟩ := Kd.at_int HR1.out x5_1 p304 q304
                cases e304
                replace p304 := eq_true p304
                replace q304 := eq_true q304
                go_wp2
                repeat (go_quiet (fail); try go_wp2)
                go_roundg k1
                case measure => have := HK1.out; omega
                case rel => exact ⟨(wrap64 (x5_1 + 1)), (by first | rfl | (simp; done) | (simp only [i64_w, i32_w]; done) | (simp [*]; done) | (simp only [i64_w, i32_w]; first | rfl | (simp; done) | (simp [*]; done))), H', ⟨by have := HK1.out; omega⟩, by repeat (first | exact Drawn0.refl _ | apply Drawn0.step)⟩
              · rw [if_neg c7] at H
                have c7b0 : ((rd l0 x5_1) == (rd l1 x5_1)) = false := beq_eq_false_iff_ne.mpr c7
                have c7b1 : ((rd l0 x5_1) != (rd l1 x5_1)) = true := bne_iff_ne.mpr c7
                obtain rfl := Option.some.inj H
                have p303 : 0 ≤ (x5_1 : Int) := of_decide_eq_true (by first | (with_reducible assumption) | assumption)
                have q303 : x5_1 < (l0.length : Int) := of_decide_eq_true (by first | (with_reducible assumption) | assumption)
                obtain ⟨ad303, e303, hx303_0⟩ := Kd.at_int HR0.out x5_1 p303 q303
                cases e303
                replace p303 := eq_true p303
                replace q303 := eq_true q303
                have p304 : 0 ≤ (x5_1 : Int) := of_decide_eq_true (by first | (with_reducible assumption) | assumption)
                have q304 : x5_1 < (l1.length : Int) := of_decide_eq_true (by first | (with_reducible assumption) | assumption)
                obtain ⟨ad304, e304, hx304_0⟩ := Kd.at_int HR1.out x5_1 p304 q304
                cases e304
                replace p304 := eq_true p304
                replace q304 := eq_true q304
                go_wp2
                repeat (go_quiet (fail); try go_wp2)
                go_ret
                exact ⟨by first | rfl | (simp; done) | (simp [*]; done), by repeat (first | exact Drawn0.refl _ | apply Drawn0.step)⟩
            · rw [if_neg c6] at H
              exact absurd H (by simp)
          · rw [if_neg c5] at H
            exact absurd H (by simp)
        · rw [if_neg c4] at H
          have c4b0 : decide (x5_1 < (l0.length : Int)) = false := decide_eq_false c4
          clear c4
          obtain rfl := Option.some.inj H
          go_wp2
          repeat (go_quiet (fail); try go_wp2)
          go_ret
          exact ⟨by first | rfl | (simp; done) | (simp [*]; done), by repeat (first | exact Drawn0.refl _ | apply Drawn0.step)⟩
  · rw [if_neg c3] at H
    have c3b0 : ((l0.length : Int) == (l1.length : Int)) = false := beq_eq_false_iff_ne.mpr c3
    have c3b1 : ((l0.length : Int) != (l1.length : Int)) = true := bne_iff_ne.mpr c3
    have c3b2 : (l0.length == l1.length) = false := by first | simpa using c3 | (simp at c3 ⊢; omega)
    obtain rfl := Option.some.inj H
    go_enter Try.func15, Try.ntmps15
    go_wp2
    repeat (go_quiet (fail); try go_wp2)
    go_ret
    exact ⟨by first | rfl | (simp; done) | (simp [*]; done), by repeat (first | exact Drawn0.refl _ | apply Drawn0.step)⟩
end Go.Proofs.Ytokdjeoecnnckaa.PA
end
section
namespace Go.Proofs.Ytokdjeoecnnckaa.PA
open Go.RowKit Go.Proofs.YtokdjeoecnnckaaW.PrintWords Go.Proofs.YtokdjeoecnnckaaW.PrintLast Go.Proofs.YtokdjeoecnnckaaW.PrintMore
attribute [local go_sem] max2_int min2_int max_two min_two max_three min_three max_four min_four   -- for this text's walks alone
set_option linter.unusedVariables false
set_option linter.unusedSimpArgs false
theorem eqA50 (d : Nat) (w : World) (x0 y0 : Int) (x1 y1 : Bool) :
    (Op.equalIn (d + 2) 50 (.agg #[.int .i64 x0, .bool x1]) (.agg #[.int .i64 y0, .bool y1])).run Try.prog w = .ok (x0 == y0 && (x1 == y1)) w := by
  refine eqA_of Try.underlying50 (by kernel_rfl) ?_
  refine eqf_cons (by rfl) (by go_simp; rfl) (by go_simp; rfl) (by go_simp) ?_
  exact eqf_last (by rfl) (by go_simp; rfl) (by go_simp; rfl) (by go_simp)
end Go.Proofs.Ytokdjeoecnnckaa.PA
end
section
namespace Go.Proofs.Ytokdjeoecnnckaa.PA
open Go.RowKit Go.Proofs.YtokdjeoecnnckaaW.PrintWords Go.Proofs.YtokdjeoecnnckaaW.PrintLast Go.Proofs.YtokdjeoecnnckaaW.PrintMore
attribute [local go_sem] max2_int min2_int max_two min_two max_three min_three max_four min_four   -- for this text's walks alone
set_option linter.unusedVariables false
set_option linter.unusedSimpArgs false
attribute [local go_sem high] eqA50

mutual
def serinetteref14_Same.j0 : Nat → Bool → Bool → Int → List (S50) → Bool → Int → List (S50) → Option (Bool)
  | 0, _, _, _, _, _, _, _ => none
  | k + 1, x26, x306000, x306001, x306002, x307000, x307001, x307002 => if x26 = true then (some false) else (serinetteref14_Same.l0 k 0 x306000 x306001 x306002 x307000 x307001 x307002)
def serinetteref14_Same.l0 : Nat → Int → Bool → Int → List (S50) → Bool → Int → List (S50) → Option (Bool)
  | 0, _, _, _, _, _, _, _ => none
  | k + 1, x5, x306000, x306001, x306002, x307000, x307001, x307002 => if x5 < (x306002.length : Int) then (if 0 ≤ x5 then (if x5 < (x307002.length : Int) then (if (!(((rd_T50 x306002 x5).f0) == ((rd_T50 x307002 x5).f0)) || (!(((rd_T50 x306002 x5).f1) == ((rd_T50 x307002 x5).f1)))) = true then (some false) else (serinetteref14_Same.l0 k (wrap64 (x5 + 1)) x306000 x306001 x306002 x307000 x307001 x307002)) else (none)) else (none)) else (some true)
end
def serinetteref14_Same.f (k : Nat) (a0_0 : Bool) (a0_1 : Int) (l0_2 : List (S50)) (a1_0 : Bool) (a1_1 : Int) (l1_2 : List (S50)) : Option (Bool) := if (a0_0 != a1_0) = true then (serinetteref14_Same.j0 k true a0_0 a0_1 l0_2 a1_0 a1_1 l1_2) else (if a0_1 = a1_1 then (serinetteref14_Same.j0 k ((l0_2.length : Int) != (l1_2.length : Int)) a0_0 a0_1 l0_2 a1_0 a1_1 l1_2) else (serinetteref14_Same.j0 k true a0_0 a0_1 l0_2 a1_0 a1_1 l1_2))
set_option maxHeartbeats 8000000 in
set_option maxRecDepth 100000 in
theorem serinetteref14_Same.calls (k : Nat) (a0_0 : Bool) (a0_1 : Int) (A0_2 : Option Addr) (c0_2 : Nat) (l0_2 : List (S50)) (a1_0 : Bool) (a1_1 : Int) (A1_2 : Option Addr) (c1_2 : Nat) (l1_2 : List (S50)) (r : Bool) (w : World) (hr0_2 : Kd.C k50 w A0_2 l0_2.length l0_2) (hc0_2 : l0_2.length ≤ c0_2) (hr1_2 : Kd.C k50 w A1_2 l1_2.length l1_2) (hc1_2 : l1_2.length ≤ c1_2) (h : serinetteref14_Same.f k a0_0 a0_1 l0_2 a1_0 a1_1 l1_2 = some r) :
    Calls Try.prog 16 #[.agg #[.bool a0_0, .int .i64 a0_1, .slice A0_2 l0_2.length c0_2], .agg #[.bool a1_0, .int .i64 a1_1, .slice A1_2 l1_2.length c1_2]] w fun e w' => e = .returned (.bool r) ∧ Below w.heap.size w w' := by
  have hu25 := Try.underlying25
  have hu50 := Try.underlying50
  have HR0_2 := zF.mk hr0_2
  have HC0_2 := zF.mk hc0_2
  clear hr0_2 hc0_2
  have HR1_2 := zF.mk hr1_2
  have HC1_2 := zF.mk hc1_2
  clear hr1_2 hc1_2
  have HB := zF.mk (Below.refl w.heap.size w)
  have H : (if (a0_0 != a1_0) = true then (serinetteref14_Same.j0 k true a0_0 a0_1 l0_2 a1_0 a1_1 l1_2) else (if a0_1 = a1_1 then (serinetteref14_Same.j0 k ((l0_2.length : Int) != (l1_2.length : Int)) a0_0 a0_1 l0_2 a1_0 a1_1 l1_2) else (serinetteref14_Same.j0 k true a0_0 a0_1 l0_2 a1_0 a1_1 l1_2))) = some r := h
  clear h
  have HC3 := zF.mk H
  clear H
  go_enter Try.func16, Try.ntmps16
  go_upto_region 1 with (first | ((with_reducible refine gate_dst (N := 2) rfl ?_); (try (refine gate_guard (by rfl) ?_; dsimp only)); refine box_event ?hg (N := 2) ?hd (cs := #[.bool a0_0, .int .i64 a0_1, .slice A0_2 l0_2.length c0_2]) (t := 25) ?hr ?_; (case hd => rfl); (case hg => rfl); (case hr => first | (go_simp; done) | (go_simp; rfl)); intro gb305 hg w4 hbox hb; have n0_ := zF.mk (below_step (by repeat (first | (with_reducible first | exact HB.out | apply zE | apply zB | apply zC) | exact HB.out)) hb); have n1_ := zF.mk (hbox); have n2_ := zF.mk ((by rw [hg]; exact (below_size (by repeat (first | (with_reducible first | exact HB.out | apply zE | apply zB | apply zC) | exact HB.out))) : w.heap.size ≤ gb305)); have n3_ := zF.mk ((by rw [hg]; exact (below_size (by repeat (first | (with_reducible first | exact HB.out | apply zE | apply zB | apply zC) | exact HB.out))) : w.heap.size ≤ gb305)); clear HB; have HB := n0_; have BK305 := n1_; have GW305 := n2_; have GE305 := n3_; clear n0_ n1_ n2_ n3_; clear hb hbox hg) | ((with_reducible refine gate_dst (N := 3) rfl ?_); (try (refine gate_guard (by rfl) ?_; dsimp only)); refine box_event ?hg (N := 3) ?hd (cs := #[.bool a1_0, .int .i64 a1_1, .slice A1_2 l1_2.length c1_2]) (t := 25) ?hr ?_; (case hd => rfl); (case hg => rfl); (case hr => first | (go_simp; done) | (go_simp; rfl)); intro gb306 hg w5 hbox hb; have n0_ := zF.mk (blk_below (g := gb305) (o := .cells #[.bool a0_0, .int .i64 a0_1, .slice A0_2 l0_2.length c0_2] 25 (0, 0)) (by (with_reducible repeat (first | refine zK ?_ _ | refine zL ?_ | refine zJ ?_ _)); exact BK305.out) hb); have n1_ := zF.mk (below_step (by repeat (first | (with_reducible first | exact HB.out | apply zE | apply zB | apply zC | refine zD ?_ GE305.out) | exact HB.out)) hb); have n2_ := zF.mk (hbox); have n3_ := zF.mk ((by rw [hg]; exact (below_size (by repeat (first | (with_reducible first | exact HB.out | apply zE | apply zB | apply zC | refine zD ?_ GE305.out) | exact HB.out))) : w.heap.size ≤ gb306)); have n4_ := zF.mk ((by rw [hg]; exact (below_size (by repeat (first | (with_reducible first | exact HB.out | apply zE | apply zB | apply zC | refine zD ?_ GE305.out) | exact HB.out))) : w.heap.size ≤ gb306)); have n5_ := zF.mk ((by rw [hg]; exact Nat.ne_of_lt (blk_lt (g := gb305) (o := .cells #[.bool a0_0, .int .i64 a0_1, .slice A0_2 l0_2.length c0_2] 25 (0, 0)) (by (with_reducible repeat (first | refine zK ?_ _ | refine zL ?_ | refine zJ ?_ _)); exact BK305.out)) : gb305 ≠ gb306)); have n6_ := zF.mk ((by rw [hg]; exact Nat.ne_of_gt (blk_lt (g := gb305) (o := .cells #[.bool a0_0, .int .i64 a0_1, .slice A0_2 l0_2.length c0_2] 25 (0, 0)) (by (with_reducible repeat (first | refine zK ?_ _ | refine zL ?_ | refine zJ ?_ _)); exact BK305.out)) : gb306 ≠ gb305)); clear BK305; clear HB; have BK305 := n0_; have HB := n1_; have BK306 := n2_; have GW306 := n3_; have GE306 := n4_; have NB305_306 := n5_; have NB306_305 := n6_; clear n0_ n1_ n2_ n3_ n4_ n5_ n6_; clear hb hbox hg))
  repeat (go_quiet (first | ((with_reducible refine gate_dst (N := 2) rfl ?_); (try (refine gate_guard (by rfl) ?_; dsimp only)); refine box_event ?hg (N := 2) ?hd (cs := #[.bool a0_0, .int .i64 a0_1, .slice A0_2 l0_2.length c0_2]) (t := 25) ?hr ?_; (case hd => rfl); (case hg => rfl); (case hr => first | (go_simp; done) | (go_simp; rfl)); intro gb305 hg w4 hbox hb; have n0_ := zF.mk (below_step (by repeat (first | (with_reducible first | exact HB.out | apply zE | apply zB | apply zC) | exact HB.out)) hb); have n1_ := zF.mk (hbox); have n2_ := zF.mk ((by rw [hg]; exact (below_size (by repeat (first | (with_reducible first | exact HB.out | apply zE | apply zB | apply zC) | exact HB.out))) : w.heap.size ≤ gb305)); have n3_ := zF.mk ((by rw [hg]; exact (below_size (by repeat (first | (with_reducible first | exact HB.out | apply zE | apply zB | apply zC) | exact HB.out))) : w.heap.size ≤ gb305)); clear HB; have HB := n0_; have BK305 := n1_; have GW305 := n2_; have GE305 := n3_; clear n0_ n1_ n2_ n3_; clear hb hbox hg) | ((with_reducible refine gate_dst (N := 3) rfl ?_); (try (refine gate_guard (by rfl) ?_; dsimp only)); refine box_event ?hg (N := 3) ?hd (cs := #[.bool a1_0, .int .i64 a1_1, .slice A1_2 l1_2.length c1_2]) (t := 25) ?hr ?_; (case hd => rfl); (case hg => rfl); (case hr => first | (go_simp; done) | (go_simp; rfl)); intro gb306 hg w5 hbox hb; have n0_ := zF.mk (blk_below (g := gb305) (o := .cells #[.bool a0_0, .int .i64 a0_1, .slice A0_2 l0_2.length c0_2] 25 (0, 0)) (by (with_reducible repeat (first | refine zK ?_ _ | refine zL ?_ | refine zJ ?_ _)); exact BK305.out) hb); have n1_ := zF.mk (below_step (by repeat (first | (with_reducible first | exact HB.out | apply zE | apply zB | apply zC | refine zD ?_ GE305.out) | exact HB.out)) hb); have n2_ := zF.mk (hbox); have n3_ := zF.mk ((by rw [hg]; exact (below_size (by repeat (first | (with_reducible first | exact HB.out | apply zE | apply zB | apply zC | refine zD ?_ GE305.out) | exact HB.out))) : w.heap.size ≤ gb306)); have n4_ := zF.mk ((by rw [hg]; exact (below_size (by repeat (first | (with_reducible first | exact HB.out | apply zE | apply zB | apply zC | refine zD ?_ GE305.out) | exact HB.out))) : w.heap.size ≤ gb306)); have n5_ := zF.mk ((by rw [hg]; exact Nat.ne_of_lt (blk_lt (g := gb305) (o := .cells #[.bool a0_0, .int .i64 a0_1, .slice A0_2 l0_2.length c0_2] 25 (0, 0)) (by (with_reducible repeat (first | refine zK ?_ _ | refine zL ?_ | refine zJ ?_ _)); exact BK305.out)) : gb305 ≠ gb306)); have n6_ := zF.mk ((by rw [hg]; exact Nat.ne_of_gt (blk_lt (g := gb305) (o := .cells #[.bool a0_0, .int .i64 a0_1, .slice A0_2 l0_2.length c0_2] 25 (0, 0)) (by (with_reducible repeat (first | refine zK ?_ _ | refine zL ?_ | refine zJ ?_ _)); exact BK305.out)) : gb306 ≠ gb305)); clear BK305; clear HB; have BK305 := n0_; have HB := n1_; have BK306 := n2_; have GW306 := n3_; have GE306 := n4_; have NB305_306 := n5_; have NB306_305 := n6_; clear n0_ n1_ n2_ n3_ n4_ n5_ n6_; clear hb hbox hg)); go_upto_region 1 with (first | ((with_reducible refine gate_dst (N := 2) rfl ?_); (try (refine gate_guard (by rfl) ?_; dsimp only)); refine box_event ?hg (N := 2) ?hd (cs := #[.bool a0_0, .int .i64 a0_1, .slice A0_2 l0_2.length c0_2]) (t := 25) ?hr ?_; (case hd => rfl); (case hg => rfl); (case hr => first | (go_simp; done) | (go_simp; rfl)); intro gb305 hg w4 hbox hb; have n0_ := zF.mk (below_step (by repeat (first | (with_reducible first | exact HB.out | apply zE | apply zB | apply zC) | exact HB.out)) hb); have n1_ := zF.mk (hbox); have n2_ := zF.mk ((by rw [hg]; exact (below_size (by repeat (first | (with_reducible first | exact HB.out | apply zE | apply zB | apply zC) | exact HB.out))) : w.heap.size ≤ gb305)); have n3_ := zF.mk ((by rw [hg]; exact (below_size (by repeat (first | (with_reducible first | exact HB.out | apply zE | apply zB | apply zC) | exact HB.out))) : w.heap.size ≤ gb305)); clear HB; have HB := n0_; have BK305 := n1_; have GW305 := n2_; have GE305 := n3_; clear n0_ n1_ n2_ n3_; clear hb hbox hg) | ((with_reducible refine gate_dst (N := 3) rfl ?_); (try (refine gate_guard (by rfl) ?_; dsimp only)); refine box_event ?hg (N := 3) ?hd (cs := #[.bool a1_0, .int .i64 a1_1, .slice A1_2 l1_2.length c1_2]) (t := 25) ?hr ?_; (case hd => rfl); (case hg => rfl); (case hr => first | (go_simp; done) | (go_simp; rfl)); intro gb306 hg w5 hbox hb; have n0_ := zF.mk (blk_below (g := gb305) (o := .cells #[.bool a0_0, .int .i64 a0_1, .slice A0_2 l0_2.length c0_2] 25 (0, 0)) (by (with_reducible repeat (first | refine zK ?_ _ | refine zL ?_ | refine zJ ?_ _)); exact BK305.out) hb); have n1_ := zF.mk (below_step (by repeat (first | (with_reducible first | exact HB.out | apply zE | apply zB | apply zC | refine zD ?_ GE305.out) | exact HB.out)) hb); have n2_ := zF.mk (hbox); have n3_ := zF.mk ((by rw [hg]; exact (below_size (by repeat (first | (with_reducible first | exact HB.out | apply zE | apply zB | apply zC | refine zD ?_ GE305.out) | exact HB.out))) : w.heap.size ≤ gb306)); have n4_ := zF.mk ((by rw [hg]; exact (below_size (by repeat (first | (with_reducible first | exact HB.out | apply zE | apply zB | apply zC | refine zD ?_ GE305.out) | exact HB.out))) : w.heap.size ≤ gb306)); have n5_ := zF.mk ((by rw [hg]; exact Nat.ne_of_lt (blk_lt (g := gb305) (o := .cells #[.bool a0_0, .int .i64 a0_1, .slice A0_2 l0_2.length c0_2] 25 (0, 0)) (by (with_reducible repeat (first | refine zK ?_ _ | refine zL ?_ | refine zJ ?_ _)); exact BK305.out)) : gb305 ≠ gb306)); have n6_ := zF.mk ((by rw [hg]; exact Nat.ne_of_gt (blk_lt (g := gb305) (o := .cells #[.bool a0_0, .int .i64 a0_1, .slice A0_2 l0_2.length c0_2] 25 (0, 0)) (by (with_reducible repeat (first | refine zK ?_ _ | refine zL ?_ | refine zJ ?_ _)); exact BK305.out)) : gb306 ≠ gb305)); clear BK305; clear HB; have BK305 := n0_; have HB := n1_; have BK306 := n2_; have GW306 := n3_; have GE306 := n4_; have NB305_306 := n5_; have NB306_305 := n6_; clear n0_ n1_ n2_ n3_ n4_ n5_ n6_; clear hb hbox hg)))
  (try simp only [Act.put, List.setIfInBounds_toArray, List.set_cons_zero, List.set_cons_succ])
  go_cut [26] (fun v26 wc => ∃ (kq : Nat) (x26_2 : Bool), v26 = .bool x26_2 ∧ zF (serinetteref14_Same.j0 kq x26_2 a0_0 a0_1 l0_2 a1_0 a1_1 l1_2 = some r) ∧ zF (kq ≤ k) ∧ zF (wc.heap[gb305]? = some (.cells #[.bool a0_0, .int .i64 a0_1, (.slice A0_2 l0_2.length c0_2)] 25 (0, 0))) ∧ zF (wc.heap[gb306]? = some (.cells #[.bool a1_0, .int .i64 a1_1, (.slice A1_2 l1_2.length c1_2)] 25 (0, 0))) ∧ zF (Below w.heap.size w wc))
  case first =>
    have H := HC3.out
    clear HC3
    by_cases c6 : (a0_0 != a1_0) = true
    · rw [if_pos c6] at H
      have c6b0 : (a0_0 != a1_0) = true := c6
      (try (have c6b1 : decide (a0_0 = a1_0) = false := by simpa using c6))
      (try (have c6b2 : (a0_0 == a1_0) = false := by simpa using c6))
      (try (have c6b3 : ¬ (a0_0 = a1_0) := by simpa using c6))
      clear c6
      (first | rw [c6b0] | (simp only [i64_w, i32_w]; rw [c6b0]) | skip)
      have H' := zF.mk H
      clear H
      have hnb7 := NB305_306.out
      have hnc7 := NB306_305.out
      have hcz8_0 : w5.cell? ⟨gb305, 0, none⟩ = some (.bool a0_0) := (zM BK305.out 0).trans rfl
      have hcz8_1 : w5.cell? ⟨gb305, 1, none⟩ = some (.int .i64 a0_1) := (zM BK305.out 1).trans rfl
      have hcz8_2 : w5.cell? ⟨gb305, 2, none⟩ = some (.slice A0_2 l0_2.length c0_2) := (zM BK305.out 2).trans rfl
      have hfz8_0 := zN BK305.out 0
      have hfz8_1 := zN BK305.out 1
      have hfz8_2 := zN BK305.out 2
      have hcz9_0 : w5.cell? ⟨gb306, 0, none⟩ = some (.bool a1_0) := (zM BK306.out 0).trans rfl
      have hcz9_1 : w5.cell? ⟨gb306, 1, none⟩ = some (.int .i64 a1_1) := (zM BK306.out 1).trans rfl
      have hcz9_2 : w5.cell? ⟨gb306, 2, none⟩ = some (.slice A1_2 l1_2.length c1_2) := (zM BK306.out 2).trans rfl
      have hfz9_0 := zN BK306.out 0
      have hfz9_1 := zN BK306.out 1
      have hfz9_2 := zN BK306.out 2
      go_wp2
      repeat (go_quiet (fail); try go_wp2)
      go_meet
      case rel => exact ⟨_, (true), (by first | rfl | (simp; done) | (simp only [i64_w, i32_w]; done) | (simp [*]; done) | (simp only [i64_w, i32_w]; first | rfl | (simp; done) | (simp [*]; done))), H', ⟨by first | omega | exact Nat.le_refl _⟩, ⟨by (with_reducible repeat (first | refine zK ?_ _ | refine zL ?_ | refine zJ ?_ _)); exact BK305.out⟩, ⟨by (with_reducible repeat (first | refine zK ?_ _ | refine zL ?_ | refine zJ ?_ _)); exact BK306.out⟩, ⟨by repeat (first | (with_reducible first | exact HB.out | apply zE | apply zB | apply zC | refine zD ?_ GE305.out | refine zD ?_ GE306.out) | exact HB.out)⟩⟩
    · rw [if_neg c6] at H
      have c6b0 : (a0_0 != a1_0) = false := by simpa using c6
      (try (have c6b1 : decide (a0_0 = a1_0) = true := by simpa using c6))
      (try (have c6b2 : (a0_0 == a1_0) = true := by simpa using c6))
      clear c6
      (first | rw [c6b0] | (simp only [i64_w, i32_w]; rw [c6b0]) | skip)
      by_cases c10 : a0_1 = a1_1
      · rw [if_pos c10] at H
        have c10b0 : (a0_1 == a1_1) = true := beq_iff_eq.mpr c10
        have c10b1 : (a0_1 != a1_1) = false := bne_eq_false_iff_eq.mpr c10
        clear c10
        have H' := zF.mk H
        clear H
        have hnb11 := NB305_306.out
        have hnc11 := NB306_305.out
        have hcz12_0 : w5.cell? ⟨gb305, 0, none⟩ = some (.bool a0_0) := (zM BK305.out 0).trans rfl
        have hcz12_1 : w5.cell? ⟨gb305, 1, none⟩ = some (.int .i64 a0_1) := (zM BK305.out 1).trans rfl
        have hcz12_2 : w5.cell? ⟨gb305, 2, none⟩ = some (.slice A0_2 l0_2.length c0_2) := (zM BK305.out 2).trans rfl
        have hfz12_0 := zN BK305.out 0
        have hfz12_1 := zN BK305.out 1
        have hfz12_2 := zN BK305.out 2
        have hcz13_0 : w5.cell? ⟨gb306, 0, none⟩ = some (.bool a1_0) := (zM BK306.out 0).trans rfl
        have hcz13_1 : w5.cell? ⟨gb306, 1, none⟩ = some (.int .i64 a1_1) := (zM BK306.out 1).trans rfl
        have hcz13_2 : w5.cell? ⟨gb306, 2, none⟩ = some (.slice A1_2 l1_2.length c1_2) := (zM BK306.out 2).trans rfl
        have hfz13_0 := zN BK306.out 0
        have hfz13_1 := zN BK306.out 1
        have hfz13_2 := zN BK306.out 2
        go_wp2
        repeat (go_quiet (fail); try go_wp2)
        go_meet
        case rel => exact ⟨_, (((l0_2.length : Int) != (l1_2.length : Int))), (by first | rfl | (simp; done) | (simp only [i64_w, i32_w]; done) | (simp [*]; done) | (simp only [i64_w, i32_w]; first | rfl | (simp; done) | (simp [*]; done))), H', ⟨by first | omega | exact Nat.le_refl _⟩, ⟨by (with_reducible repeat (first | refine zK ?_ _ | refine zL ?_ | refine zJ ?_ _)); exact BK305.out⟩, ⟨by (with_reducible repeat (first | refine zK ?_ _ | refine zL ?_ | refine zJ ?_ _)); exact BK306.out⟩, ⟨by repeat (first | (with_reducible first | exact HB.out | apply zE | apply zB | apply zC | refine zD ?_ GE305.out | refine zD ?_ GE306.out) | exact HB.out)⟩⟩
      · rw [if_neg c10] at H
        have c10b0 : (a0_1 == a1_1) = false := beq_eq_false_iff_ne.mpr c10
        have c10b1 : (a0_1 != a1_1) = true := bne_iff_ne.mpr c10
        have H' := zF.mk H
        clear H
        have hnb14 := NB305_306.out
        have hnc14 := NB306_305.out
        have hcz15_0 : w5.cell? ⟨gb305, 0, none⟩ = some (.bool a0_0) := (zM BK305.out 0).trans rfl
        have hcz15_1 : w5.cell? ⟨gb305, 1, none⟩ = some (.int .i64 a0_1) := (zM BK305.out 1).trans rfl
        have hcz15_2 : w5.cell? ⟨gb305, 2, none⟩ = some (.slice A0_2 l0_2.length c0_2) := (zM BK305.out 2).trans rfl
        have hfz15_0 := zN BK305.out 0
        have hfz15_1 := zN BK305.out 1
        have hfz15_2 := zN BK305.out 2
        have hcz16_0 : w5.cell? ⟨gb306, 0, none⟩ = some (.bool a1_0) := (zM BK306.out 0).trans rfl
        have hcz16_1 : w5.cell? ⟨gb306, 1, none⟩ = some (.int .i64 a1_1) := (zM BK306.out 1).trans rfl
        have hcz16_2 : w5.cell? ⟨gb306, 2, none⟩ = some (.slice A1_2 l1_2.length c1_2) := (zM BK306.out 2).trans rfl
        have hfz16_0 := zN BK306.out 0
        have hfz16_1 := zN BK306.out 1
        have hfz16_2 := zN BK306.out 2
        go_wp2
        repeat (go_quiet (fail); try go_wp2)
        go_meet
        case rel => exact ⟨_, (true), (by first | rfl | (simp; done) | (simp only [i64_w, i32_w]; done) | (simp [*]; done) | (simp only [i64_w, i32_w]; first | rfl | (simp; done) | (simp [*]; done))), H', ⟨by first | omega | exact Nat.le_refl _⟩, ⟨by (with_reducible repeat (first | refine zK ?_ _ | refine zL ?_ | refine zJ ?_ _)); exact BK305.out⟩, ⟨by (with_reducible repeat (first | refine zK ?_ _ | refine zL ?_ | refine zJ ?_ _)); exact BK306.out⟩, ⟨by repeat (first | (with_reducible first | exact HB.out | apply zE | apply zB | apply zC | refine zD ?_ GE305.out | refine zD ?_ GE306.out) | exact HB.out)⟩⟩
  case rest =>
    clear HC3
    try clear c1
    try clear p2
    try clear c6
    try clear c6b0
    try clear c6b1
    try clear c6b2
    try clear c7
    try clear c10
    try clear c10b0
    try clear c10b1
    try clear c11
    try clear c14
    try clear c16
    try clear hcz12_0
    try clear hcz12_1
    try clear hcz12_2
    try clear hcz13_0
    try clear hcz13_1
    try clear hcz13_2
    try clear hcz15_0
    try clear hcz15_1
    try clear hcz15_2
    try clear hcz16_0
    try clear hcz16_1
    try clear hcz16_2
    try clear hcz8_0
    try clear hcz8_1
    try clear hcz8_2
    try clear hcz9_0
    try clear hcz9_1
    try clear hcz9_2
    try clear hfz12_0
    try clear hfz12_1
    try clear hfz12_2
    try clear hfz13_0
    try clear hfz13_1
    try clear hfz13_2
    try clear hfz15_0
    try clear hfz15_1
    try clear hfz15_2
    try clear hfz16_0
    try clear hfz16_1
    try clear hfz16_2
    try clear hfz8_0
    try clear hfz8_1
    try clear hfz8_2
    try clear hfz9_0
    try clear hfz9_1
    try clear hfz9_2
    obtain ⟨kq, x26_2, rfl, HA, HJ2, BK305, BK306, HB⟩ := hcut
    cases kq with
    | zero => exact absurd HA.out (by simp [serinetteref14_Same.j0])
    | succ kj2 =>
      have H := HA.out
      clear HA
      simp only [serinetteref14_Same.j0] at H
      by_cases c17 : x26_2 = true
      · subst c17
        have H1 : (some false) = some r := by rw [if_pos rfl] at H; exact H
        clear H
        have H := H1
        clear H1
        obtain rfl := Option.some.inj H
        go_wp2
        repeat (go_quiet (fail); try go_wp2)
        go_ret
        exact ⟨by first | rfl | (simp [errW_none, errW_some] <;> rfl) | (simp [*, errW_none, errW_some] <;> rfl), by repeat (first | (with_reducible first | exact HB.out | apply zE | apply zB | apply zC | refine zD ?_ GE305.out | refine zD ?_ GE306.out) | exact HB.out)⟩
      · replace c17 := Bool.eq_false_iff.mpr c17
        subst c17
        have H1 : (serinetteref14_Same.l0 kj2 0 a0_0 a0_1 l0_2 a1_0 a1_1 l1_2) = some r := by rw [if_neg (show ¬ (false = true) by decide)] at H; exact H
        clear H
        have H := H1
        clear H1
        have H' := zF.mk H
        clear H
        go_wp2
        repeat (go_quiet (fail); try go_wp2)
        go_loopg [5] kj2 (fun kq v5 w' => ∃ (x5_2 : Int), v5 = .int .i64 x5_2 ∧ zF (serinetteref14_Same.l0 kq x5_2 a0_0 a0_1 l0_2 a1_0 a1_1 l1_2 = some r) ∧ zF (kq ≤ kj2) ∧ zF (w'.heap[gb305]? = some (.cells #[.bool a0_0, .int .i64 a0_1, (.slice A0_2 l0_2.length c0_2)] 25 (0, 0))) ∧ zF (w'.heap[gb306]? = some (.cells #[.bool a1_0, .int .i64 a1_1, (.slice A1_2 l1_2.length c1_2)] 25 (0, 0))) ∧ zF (Below w.heap.size w w'))
        case atStart => exact ⟨(0), (by first | rfl | (simp; done) | (simp only [i64_w, i32_w]; done) | (simp [*]; done) | (simp only [i64_w, i32_w]; first | rfl | (simp; done) | (simp [*]; done))), H', ⟨Nat.le_refl _⟩, ⟨by (with_reducible repeat (first | refine zK ?_ _ | refine zL ?_ | refine zJ ?_ _)); exact BK305.out⟩, ⟨by (with_reducible repeat (first | refine zK ?_ _ | refine zL ?_ | refine zJ ?_ _)); exact BK306.out⟩, ⟨by repeat (first | (with_reducible first | exact HB.out | apply zE | apply zB | apply zC | refine zD ?_ GE305.out | refine zD ?_ GE306.out) | exact HB.out)⟩⟩
        case round =>
          clear H'
          try clear c1
          try clear p2
          try clear c6
          try clear c6b0
          try clear c6b1
          try clear c6b2
          try clear c7
          try clear c10
          try clear c10b0
          try clear c10b1
          try clear c11
          try clear c14
          try clear c16
          try clear c17
          try clear hcz12_0
          try clear hcz12_1
          try clear hcz12_2
          try clear hcz13_0
          try clear hcz13_1
          try clear hcz13_2
          try clear hcz15_0
          try clear hcz15_1
          try clear hcz15_2
          try clear hcz16_0
          try clear hcz16_1
          try clear hcz16_2
          try clear hcz8_0
          try clear hcz8_1
          try clear hcz8_2
          try clear hcz9_0
          try clear hcz9_1
          try clear hcz9_2
          try clear hfz12_0
          try clear hfz12_1
          try clear hfz12_2
          try clear hfz13_0
          try clear hfz13_1
          try clear hfz13_2
          try clear hfz15_0
          try clear hfz15_1
          try clear hfz15_2
          try clear hfz16_0
          try clear hfz16_1
          try clear hfz16_2
          try clear hfz8_0
          try clear hfz8_1
          try clear hfz8_2
          try clear hfz9_0
          try clear hfz9_1
          try clear hfz9_2
          try clear p2
          obtain ⟨x5_2, rfl, HA, HK2, BK305, BK306, HB⟩ := hrel
          cases gk with
          | zero => exact absurd HA.out (by simp [serinetteref14_Same.l0])
          | succ k2 =>
            have H := HA.out
            clear HA
            simp only [serinetteref14_Same.l0] at H
            by_cases c18 : x5_2 < (l0_2.length : Int)
            · rw [if_pos c18] at H
              have c18b0 : decide (x5_2 < (l0_2.length : Int)) = true := decide_eq_true c18
              clear c18
              by_cases c19 : 0 ≤ x5_2
              · rw [if_pos c19] at H
                have c19b0 : decide (0 ≤ x5_2) = true := decide_eq_true c19
                clear c19
                by_cases c20 : x5_2 < (l1_2.length : Int)
                · rw [if_pos c20] at H
                  have c20b0 : decide (x5_2 < (l1_2.length : Int)) = true := decide_eq_true c20
                  clear c20
                  by_cases c21 : (!(((rd_T50 l0_2 x5_2).f0) == ((rd_T50 l1_2 x5_2).f0)) || (!(((rd_T50 l0_2 x5_2).f1) == ((rd_T50 l1_2 x5_2).f1)))) = true
                  · rw [if_pos c21] at H
                    have c21b0 : (!(((rd_T50 l0_2 x5_2).f0) == ((rd_T50 l1_2 x5_2).f0)) || (!(((rd_T50 l0_2 x5_2).f1) == ((rd_T50 l1_2 x5_2).f1)))) = true := c21
                    clear c21
                    obtain rfl := Option.some.inj H
                    have hnb22 := NB305_306.out
                    have hnc22 := NB306_305.out
                    have hcz23_0 : wr.cell? ⟨gb305, 0, none⟩ = some (.bool a0_0) := (zM BK305.out 0).trans rfl
                    have hcz23_1 : wr.cell? ⟨gb305, 1, none⟩ = some (.int .i64 a0_1) := (zM BK305.out 1).trans rfl
                    have hcz23_2 : wr.cell? ⟨gb305, 2, none⟩ = some (.slice A0_2 l0_2.length c0_2) := (zM BK305.out 2).trans rfl
                    have hfz23_0 := zN BK305.out 0
                    have hfz23_1 := zN BK305.out 1
                    have hfz23_2 := zN BK305.out 2
                    have p307 : 0 ≤ (x5_2 : Int) := of_decide_eq_true (by first | (with_reducible assumption) | assumption)
                    have q307 : x5_2 < (l0_2.length : Int) := of_decide_eq_true (by first | (with_reducible assumption) | assumption)
                    obtain ⟨ad307, e307, hx307_0, hx307_1⟩ := at_T50 HR0_2.out x5_2 p307 q307
                    cases e307
                    replace hx307_0 := (HB.out.cell (World.block_lt_of_cell? w _ hx307_0)).trans hx307_0
                    replace hx307_1 := (HB.out.cell (World.block_lt_of_cell? w _ hx307_1)).trans hx307_1
                    replace p307 := eq_true p307
                    replace q307 := eq_true q307
                    have hcz24_0 : wr.cell? ⟨gb306, 0, none⟩ = some (.bool a1_0) := (zM BK306.out 0).trans rfl
                    have hcz24_1 : wr.cell? ⟨gb306, 1, none⟩ = some (.int .i64 a1_1) := (zM BK306.out 1).trans rfl
                    have hcz24_2 : wr.cell? ⟨gb306, 2, none⟩ = some (.slice A1_2 l1_2.length c1_2) := (zM BK306.out 2).trans rfl
                    have hfz24_0 := zN BK306.out 0
                    have hfz24_1 := zN BK306.out 1
                    have hfz24_2 := zN BK306.out 2
                    have p308 : 0 ≤ (x5_2 : Int) := of_decide_eq_true (by first | (with_reducible assumption) | assumption)
                    have q308 : x5_2 < (l1_2.length : Int) := of_decide_eq_true (by first | (with_reducible assumption) | assumption)
                    obtain ⟨ad308, e308, hx308_0, hx308_1⟩ := at_T50 HR1_2.out x5_2 p308 q308
                    cases e308
                    replace hx308_0 := (HB.out.cell (World.block_lt_of_cell? w _ hx308_0)).trans hx308_0
                    replace hx308_1 := (HB.out.cell (World.block_lt_of_cell? w _ hx308_1)).trans hx308_1
                    replace p308 := eq_true p308
                    replace q308 := eq_true q308
                    go_wp2
                    repeat (go_quiet (fail); try go_wp2)
                    go_ret
                    exact ⟨by first | rfl | (simp [errW_none, errW_some] <;> rfl) | (simp [*, errW_none, errW_some] <;> rfl), by repeat (first | (with_reducible first | exact HB.out | apply zE | apply zB | apply zC | refine zD ?_ GE305.out | refine zD ?_ GE306.out) | exact HB.out)⟩
                  · rw [if_neg c21] at H
                    have c21b0 : (!(((rd_T50 l0_2 x5_2).f0) == ((rd_T50 l1_2 x5_2).f0)) || (!(((rd_T50 l0_2 x5_2).f1) == ((rd_T50 l1_2 x5_2).f1)))) = false := by simpa using c21
                    clear c21
                    have H' := zF.mk H
                    clear H
                    have hnb25 := NB305_306.out
                    have hnc25 := NB306_305.out
                    have hcz26_0 : wr.cell? ⟨gb305, 0, none⟩ = some (.bool a0_0) := (zM BK305.out 0).trans rfl
                    have hcz26_1 : wr.cell? ⟨gb305, 1, none⟩ = some (.int .i64 a0_1) := (zM BK305.out 1).trans rfl
                    have hcz26_2 : wr.cell? ⟨gb305, 2, none⟩ = some (.slice A0_2 l0_2.length c0_2) := (zM BK305.out 2).trans rfl
                    have hfz26_0 := zN BK305.out 0
                    have hfz26_1 := zN BK305.out 1
                    have hfz26_2 := zN BK305.out 2
                    have p307 : 0 ≤ (x5_2 : Int) := of_decide_eq_true (by first | (with_reducible assumption) | assumption)
                    have q307 : x5_2 < (l0_2.length : Int) := of_decide_eq_true (by first | (with_reducible assumption) | assumption)
                    obtain ⟨ad307, e307, hx307_0, hx307_1⟩ := at_T50 HR0_2.out x5_2 p307 q307
                    cases e307
                    replace hx307_0 := (HB.out.cell (World.block_lt_of_cell? w _ hx307_0)).trans hx307_0
                    replace hx307_1 := (HB.out.cell (World.block_lt_of_cell? w _ hx307_1)).trans hx307_1
                    replace p307 := eq_true p307
                    replace q307 := eq_true q307
                    have hcz27_0 : wr.cell? ⟨gb306, 0, none⟩ = some (.bool a1_0) := (zM BK306.out 0).trans rfl
                    have hcz27_1 : wr.cell? ⟨gb306, 1, none⟩ = some (.int .i64 a1_1) := (zM BK306.out 1).trans rfl
                    have hcz27_2 : wr.cell? ⟨gb306, 2, none⟩ = some (.slice A1_2 l1_2.length c1_2) := (zM BK306.out 2).trans rfl
                    have hfz27_0 := zN BK306.out 0
                    have hfz27_1 := zN BK306.out 1
                    have hfz27_2 := zN BK306.out 2
                    have p308 : 0 ≤ (x5_2 : Int) := of_decide_eq_true (by first | (with_reducible assumption) | assumption)
                    have q308 : x5_2 < (l1_2.length : Int) := of_decide_eq_true (by first | (with_reducible assumption) | assumption)
                    obtain ⟨ad308, e308, hx308_0, hx308_1⟩ := at_T50 HR1_2.out x5_2 p308 q308
                    cases e308
                    replace hx308_0 := (HB.out.cell (World.block_lt_of_cell? w _ hx308_0)).trans hx308_0
                    replace hx308_1 := (HB.out.cell (World.block_lt_of_cell? w _ hx308_1)).trans hx308_1
                    replace p308 := eq_true p308
                    replace q308 := eq_true q308
                    go_wp2
                    repeat (go_quiet (fail); try go_wp2)
                    go_roundg k2
                    case measure => have := HJ2.out; have := HK2.out; omega
                    case rel => exact ⟨(wrap64 (x5_2 + 1)), (by first | rfl | (simp; done) | (simp only [i64_w, i32_w]; done) | (simp [*]; done) | (simp only [i64_w, i32_w]; first | rfl | (simp; done) | (simp [*]; done))), H', ⟨by have := HJ2.out; have := HK2.out; omega⟩, ⟨by (with_reducible repeat (first | refine zK ?_ _ | refine zL ?_ | refine zJ ?_ _)); exact BK305.out⟩, ⟨by (with_reducible repeat (first | refine zK ?_ _ | refine zL ?_ | refine zJ ?_ _)); exact BK306.out⟩, ⟨by repeat (first | (with_reducible first | exact HB.out | apply zE | apply zB | apply zC | refine zD ?_ GE305.out | refine zD ?_ GE306.out) | exact HB.out)⟩⟩
                · rw [if_neg c20] at H
                  exact absurd H (by simp)
              · rw [if_neg c19] at H
                exact absurd H (by simp)
            · rw [if_neg c18] at H
              have c18b0 : decide (x5_2 < (l0_2.length : Int)) = false := decide_eq_false c18
              clear c18
              obtain rfl := Option.some.inj H
              have hnb28 := NB305_306.out
              have hnc28 := NB306_305.out
              have hcz29_0 : wr.cell? ⟨gb305, 0, none⟩ = some (.bool a0_0) := (zM BK305.out 0).trans rfl
              have hcz29_1 : wr.cell? ⟨gb305, 1, none⟩ = some (.int .i64 a0_1) := (zM BK305.out 1).trans rfl
              have hcz29_2 : wr.cell? ⟨gb305, 2, none⟩ = some (.slice A0_2 l0_2.length c0_2) := (zM BK305.out 2).trans rfl
              have hfz29_0 := zN BK305.out 0
              have hfz29_1 := zN BK305.out 1
              have hfz29_2 := zN BK305.out 2
              go_wp2
              repeat (go_quiet (fail); try go_wp2)
              go_ret
              exact ⟨by first | rfl | (simp [errW_none, errW_some] <;> rfl) | (simp [*, errW_none, errW_some] <;> rfl), by repeat (first | (with_reducible first | exact HB.out | apply zE | apply zB | apply zC | refine zD ?_ GE305.out | refine zD ?_ GE306.out) | exact HB.out)⟩
end Go.Proofs.Ytokdjeoecnnckaa.PA
end
section
namespace Go.Proofs.Ytokdjeoecnnckaa.PA
open Go.RowKit Go.Proofs.YtokdjeoecnnckaaW.PrintWords Go.Proofs.YtokdjeoecnnckaaW.PrintLast Go.Proofs.YtokdjeoecnnckaaW.PrintMore
attribute [local go_sem] max2_int min2_int max_two min_two max_three min_three max_four min_four   -- for this text's walks alone
set_option linter.unusedVariables false
set_option linter.unusedSimpArgs false

def bits_Reader_At.f (s0_0 : List Int) (s0_1 : Int) (s0_2 : Int) : Option (Int × Int × Int) := some (s0_1, s0_1, s0_2)
set_option maxHeartbeats 8000000 in
set_option maxRecDepth 100000 in
theorem bits_Reader_At.calls (g : Nat) (s0_0 : List Int) (s0_1 : Int) (s0_2 : Int) (r1 : Int) (r2 : Int) (r3 : Int) (w0 w : World) (hI : zG w0 w g s0_0 s0_1 s0_2) (hB : Below w0.heap.size w0 w) (h : bits_Reader_At.f s0_0 s0_1 s0_2 = some (r1, r2, r3)) :
    Calls Try.prog 17 #[.pointer (some ⟨g, 0, none⟩)] w fun e w' => e = .returned (.int .i64 r1) ∧ zG w0 w' g s0_0 r2 r3 ∧ Below w0.heap.size w0 w' ∧ zI w w' g none := by
  have HI0 := zF.mk hI
  have HK := zF.mk (zI.refl w g none)
  have HL := zF.mk hB.size
  clear hI
  have HW0 := zF.mk hB.size
  have HB := zF.mk hB
  clear hB
  have H : (some (s0_1, s0_1, s0_2)) = some (r1, r2, r3) := h
  clear h
  simp only [Option.some.injEq, Prod.mk.injEq] at H
  obtain ⟨rfl, rfl, rfl⟩ := H
  obtain ⟨ASz2_0, cSz2_0, HGz2, hgz2, HSz2_0⟩ := HI0.out
  have hcz2_0 := cellS71_0 HGz2
  have hcz2_1 := cellS71_1 HGz2
  have hcz2_2 := cellS71_2 HGz2
  have hfz2_1 := zN HGz2 1
  have hfz2_2 := zN HGz2 2
  clear HGz2 hgz2
  go_enter Try.func17, Try.ntmps17
  go_wp2
  go_ret
  exact ⟨by first | rfl | (simp [errW_none, errW_some] <;> rfl) | (simp [*, errW_none, errW_some] <;> rfl), by repeat (first | (with_reducible first | exact HI0.out | apply zG.alloc | apply zG.drewN | apply zG.drew | apply zG.set_1 | apply zG.set_2) | exact HI0.out), by repeat (first | (with_reducible first | exact HB.out | apply zE | apply zB | apply zC | refine zD ?_ (zG.ge HI0.out)) | exact HB.out), by repeat (first | (with_reducible first | exact HK.out | apply zI.set_ | apply zV | apply zW | apply zX) | exact HK.out)⟩
end Go.Proofs.Ytokdjeoecnnckaa.PA
end
