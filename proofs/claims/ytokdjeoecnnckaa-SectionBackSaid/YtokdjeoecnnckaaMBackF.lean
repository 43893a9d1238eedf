/- The row of the law SectionBack, for every input that can be read: out of its plain statement and the walk, which stand in these parts, merged; this is the last one, the 6th. No further condition. -/
import Derived.Laws.Tables
import Derived.Laws.Rows
import Derived.Laws.CopyOwn
import Derived.Deep.RegionWith
import Derived.Deep.MidRow
import Derived.ScopeJumps
import Derived.WalkMore
import Derived.Deep.LoopGhost
import Derived.Laws.BitsLemmas
import Derived.Test.YtokdjeoecnnckaaRows
import Derived.WalkKit
import Derived.ProofKit
import Derived.OpenShut
import Derived.ShutString
import Derived.ChangeOld
import Derived.Below
import Derived.SizedLaws
import Derived.Test.YtokdjeoecnnckaaMBackE
section
namespace Go.Proofs.Ytokdjeoecnnckaa.PA
open Go.RowKit Go.Proofs.YtokdjeoecnnckaaW.PrintWords Go.Proofs.YtokdjeoecnnckaaW.PrintLast Go.Proofs.YtokdjeoecnnckaaW.PrintMore
attribute [local go_sem] max2_int min2_int max_two min_two max_three min_three max_four min_four   -- for this text's walks alone
set_option linter.unusedVariables false
set_option linter.unusedSimpArgs false
theorem zH.grownB {w0 W W1 : World} {g : Nat} {f0 : ByteArray} {f1 : Int} {v : Value} {xs : List Int} {base : Nat} {ok : Nat → Prop} (h : zH w0 W g f0 f1) (hw : W.grownBy W1 v.ownBlock) (ho : Kd.R (Kd.int .u8) 5 W base ok v xs) (hs : ∀ b, rowAt W g = some b → some b ≠ v.ownBlock) : zH w0 W1 g f0 f1 := by
  obtain ⟨u, hb, hg, hr, hz⟩ := h
  have h1 : Kd.R (Kd.int .u8) 5 W w0.heap.size (fun k => u.ownBlock = some k) u (bytesOf f0) := ⟨fun k hk => hk, hr.2.imp_ (fun _ _ hp => hp)⟩
  exact ⟨u, blk_grown hb hw (Kd.R_ne ho hb (by decide)), hg, Kd.R_mono (Kd.R_grown h1 hw (fun k hk => hs k (by rw [rowAt_of hb]; exact hk))) (fun _ _ => trivial), hz⟩
set_option maxRecDepth 100000 in
theorem bits_Writer_Bytes.callsB (g : Nat) (s0_0 : ByteArray) (s0_1 : Int) (r1 : List Int) (r2 : ByteArray) (r3 : Int) (w0 w : World) (hI : zH w0 w g s0_0 s0_1) (hB : Below w0.heap.size w0 w) (h : bits_Writer_Bytes.f s0_0 s0_1 = some (r1, r2, r3)) :
    Calls Try.prog 13 #[.pointer (some ⟨g, 0, none⟩)] w fun e w' => ∃ v0_ : Value, e = .returned (v0_) ∧ Kd.R (Kd.int .u8) 5 w' w.heap.size (fun _ => True) v0_ r1 ∧ zH w0 w' g r2 r3 ∧ Below w0.heap.size w0 w' ∧ zI w w' g none ∧ ∀ b, rowAt w' g = some b → some b ≠ v0_.ownBlock := by
  have HI := zF.mk hI
  have HB := zF.mk hB
  clear hB
  obtain ⟨r, hc, he⟩ := Option.map_eq_some_iff.1 h
  simp only [Prod.mk.injEq] at he
  obtain ⟨rfl, rfl, rfl⟩ := he
  clear h
  obtain ⟨v, hb, hg, hr, hz⟩ := hI
  obtain ⟨A, c, rfl⟩ := Kd.R_slice hr
  have hc0 : w.cell? ⟨g, 0, none⟩ = some (.slice A (bytesOf s0_0).length c) := (zM hb 0).trans rfl
  have HC := zF.mk (bytes_Clone.calls A c (bytesOf s0_0) r w (Kd.R_reads' hr).2.2 (Kd.R_reads' hr).2.1 hc)
  have HS : zF (∀ b, rowAt w g = some b → b < w.heap.size) := ⟨fun b h => by rw [rowAt_of hb] at h; exact Kd.R_lt hr b h⟩
  have HG := zF.mk (blk_lt hb)
  clear hb hg hr hz hc
  go_enter Try.func13, Try.ntmps13
  go_wp2_with (go_at_call 31; (with_reducible refine HC.out.mono ?_); rintro e w' ⟨v0, rfl, ho, hb⟩; have HO := zF.mk ho; have HBB := zF.mk hb; clear ho hb)
  go_ret
  refine ⟨_, rfl, HO.out, HI.out.below HBB.out, below_step HB.out HBB.out, zI.of_below HBB.out _ _, fun b hb he => ?_⟩
  rw [rowAt_eq (HBB.out.block g HG.out)] at hb
  have he : some b = v0.ownBlock := he
  rcases Kd.R_base2 HO.out with h0 | ⟨k, h0, hk⟩
  · rw [h0] at he; cases he
  · rw [h0] at he; cases he; exact absurd hk (Nat.not_le.2 (HS.out _ hb))
theorem zH.farT {w0 W : World} {g b j : Nat} {f0 : ByteArray} {f1 : Int} {t : TypeId} (h : zH w0 W g f0 f1) (ht : t ≠ 5 ∧ t ≠ 58) (hb : zA W b t) (u : Value) : zH w0 (W.setCell ⟨b, j, none⟩ u) g f0 f1 := by
  obtain ⟨cs, hb⟩ := hb
  exact h.setOther hb ht j u
theorem zH.as {w0 W X : World} {g : Nat} {f0 : ByteArray} {f1 : Int} (_ : zH w0 W g f0 f1) (k : zH w0 X g f0 f1) : zH w0 X g f0 f1 := k

mutual
noncomputable def serinettelaw15_SectionBack.j0 : Nat → List Int → List Int → Bool → Int → Bool → Bool → Int → List (S50) → Option (Bool)
  | 0, _, _, _, _, _, _, _, _ => none
  | k + 1, x0, x3, x9, x10, x38, x310000, x310001, x310002 => if x38 = true then (some x9) else ((serinettelaw15_short.f k x0 x10 x310000 x310001 x310002).bind fun t311 => ((bits_New.f).bind fun bt312 => (if t311 = true then (serinettelaw15_SectionBack.l0 k x0 x3 x9 x10 false 0 x310000 x310001 x310002 bt312.1 bt312.2) else (some x9))))
noncomputable def serinettelaw15_SectionBack.l0 : Nat → List Int → List Int → Bool → Int → Bool → Int → Bool → Int → List (S50) → ByteArray → Int → Option (Bool)
  | 0, _, _, _, _, _, _, _, _, _, _, _ => none
  | k + 1, x0, x3, x9, x10, x13, x14, x310000, x310001, x310002, x315000, x315001 => if x14 < (x0.length : Int) then (if x13 = true then (serinettelaw15_SectionBack.l0 k x0 x3 x9 x10 true (wrap64 (x14 + 1)) x310000 x310001 x310002 x315000 x315001) else (if 0 ≤ x14 then (if (rd x0 x14) < (-2147483647) then (serinettelaw15_SectionBack.l0 k x0 x3 x9 x10 true (wrap64 (x14 + 1)) x310000 x310001 x310002 x315000 x315001) else (serinettelaw15_SectionBack.l0 k x0 x3 x9 x10 (decide ((rd x0 x14) > 2147483647)) (wrap64 (x14 + 1)) x310000 x310001 x310002 x315000 x315001)) else (none))) else ((section_Put.f x315000 x315001 x0 x10 x310000 x310001 x310002).bind fun bt317 => ((parts_Bits.f k x0 x10 x310000 x310001 x310002).bind fun t320 => (if bt317.1 = 0 then ((bits_Writer_Len.f bt317.2.1 bt317.2.2).bind fun bt324 => (if bt324.1 = t320 then ((bits_Writer_Bytes.f bt324.2.1 bt324.2.2).bind fun bt327 => (if bt327.1.length + x3.length < 140737488355328 then ((bits_Open.f (bt327.1 ++ x3)).bind fun bt335 => ((section_Take.f k bt335.1 bt335.2.1 bt335.2.2 (wrap64 ((x0.length : Int) + x10)) x10).bind fun bt339 => (if x13 = true then (if x9 = true then (if bt339.2.2.2.2.1 = 14 then (some ((bt339.1.length : Int) == 0)) else (some false)) else (some false)) else (if x9 = true then (if bt339.2.2.2.2.1 = 0 then ((serinetteref01_Ints.f k bt339.1 x0).bind fun t351 => (if t351 = true then ((serinetteref14_Same.f k x310000 x310001 x310002 bt339.2.1 bt339.2.2.1 bt339.2.2.2.1).bind fun t352 => (if t352 = true then ((bits_Reader_At.f bt335.1 bt339.2.2.2.2.2.1 bt339.2.2.2.2.2.2).bind fun bt353 => (some (bt353.1 == t320))) else (some false))) else (some false))) else (some false)) else (some false))))) else (none))) else (some false))) else (if x9 = true then ((bits_Writer_Len.f bt317.2.1 bt317.2.2).bind fun bt321 => (if bt321.1 = 0 then (some ((bt317.1 == 1) == (decide (t320 < 0)))) else (some false))) else (some false)))))
end
noncomputable def serinettelaw15_SectionBack.f (k : Nat) (l0 : List Int) (a1 : Int) (a2_0 : Bool) (a2_1 : Int) (l2_2 : List (S50)) (l3 : List Int) : Option (Bool) := (serinettelaw15_awake.f k).bind fun t310 => (if (l0.length : Int) > 60 then (serinettelaw15_SectionBack.j0 k l0 l3 t310 (wrap64 (Int.tmod a1 33)) true a2_0 a2_1 l2_2) else (if (l2_2.length : Int) > 100 then (serinettelaw15_SectionBack.j0 k l0 l3 t310 (wrap64 (Int.tmod a1 33)) true a2_0 a2_1 l2_2) else (serinettelaw15_SectionBack.j0 k l0 l3 t310 (wrap64 (Int.tmod a1 33)) (decide ((l3.length : Int) > 10)) a2_0 a2_1 l2_2)))
set_option maxHeartbeats 8000000 in
set_option maxRecDepth 100000 in
theorem serinettelaw15_SectionBack.calls (k : Nat) (A0 : Option Addr) (c0 : Nat) (l0 : List Int) (a1 : Int) (a2_0 : Bool) (a2_1 : Int) (A2_2 : Option Addr) (c2_2 : Nat) (l2_2 : List (S50)) (A3 : Option Addr) (c3 : Nat) (l3 : List Int) (r : Bool) (w : World) (hr0 : Kd.C (Kd.int .i64) w A0 l0.length l0) (hc0 : l0.length ≤ c0) (hr2_2 : Kd.C k50 w A2_2 l2_2.length l2_2) (hc2_2 : l2_2.length ≤ c2_2) (hr3 : Kd.C (Kd.int .u8) w A3 l3.length l3) (hc3 : l3.length ≤ c3) (h : serinettelaw15_SectionBack.f k l0 a1 a2_0 a2_1 l2_2 l3 = some r) :
    Calls Try.prog 3 #[.slice A0 l0.length c0, .int .u8 a1, .agg #[.bool a2_0, .int .i64 a2_1, .slice A2_2 l2_2.length c2_2], .slice A3 l3.length c3] w fun e w' => e = .returned (.bool r) ∧ Below w.heap.size w w' := by
  have hu25 := Try.underlying25
  have HR0 := zF.mk hr0
  have HC0 := zF.mk hc0
  clear hr0 hc0
  have HR2_2 := zF.mk hr2_2
  have HC2_2 := zF.mk hc2_2
  clear hr2_2 hc2_2
  have HR3 := zF.mk hr3
  have HC3 := zF.mk hc3
  clear hr3 hc3
  have HB := zF.mk (Below.refl w.heap.size w)
  have H : ((serinettelaw15_awake.f k).bind fun t310 => (if (l0.length : Int) > 60 then (serinettelaw15_SectionBack.j0 k l0 l3 t310 (wrap64 (Int.tmod a1 33)) true a2_0 a2_1 l2_2) else (if (l2_2.length : Int) > 100 then (serinettelaw15_SectionBack.j0 k l0 l3 t310 (wrap64 (Int.tmod a1 33)) true a2_0 a2_1 l2_2) else (serinettelaw15_SectionBack.j0 k l0 l3 t310 (wrap64 (Int.tmod a1 33)) (decide ((l3.length : Int) > 10)) a2_0 a2_1 l2_2)))) = some r := h
  clear h
  replace H := Option.bind_eq_some_iff.mp H
  obtain ⟨t310, A50, H⟩ := H
  replace H : (if (l0.length : Int) > 60 then (serinettelaw15_SectionBack.j0 k l0 l3 t310 (wrap64 (Int.tmod a1 33)) true a2_0 a2_1 l2_2) else (if (l2_2.length : Int) > 100 then (serinettelaw15_SectionBack.j0 k l0 l3 t310 (wrap64 (Int.tmod a1 33)) true a2_0 a2_1 l2_2) else (serinettelaw15_SectionBack.j0 k l0 l3 t310 (wrap64 (Int.tmod a1 33)) (decide ((l3.length : Int) > 10)) a2_0 a2_1 l2_2))) = some r := H
  have A5 := zF.mk A50
  clear A50
  have HC6 := zF.mk H
  clear H
  go_enter Try.func3, Try.ntmps3
  go_upto_region 3 with (first | ((with_reducible refine gate_dst (N := 6) rfl ?_); (try (refine gate_guard (by rfl) ?_; dsimp only)); refine box_event ?hg (N := 6) ?hd (cs := #[.bool a2_0, .int .i64 a2_1, .slice A2_2 l2_2.length c2_2]) (t := 25) ?hr ?_; (case hd => rfl); (case hg => rfl); (case hr => first | (go_simp; done) | (go_simp; rfl)); intro gb309 hg w7 hbox hb; have n0_ := zF.mk (below_step (by repeat (first | (with_reducible first | exact HB.out | apply zE | apply zB | apply zC) | exact HB.out)) hb); have n1_ := zF.mk (hbox); have n2_ := zF.mk ((by rw [hg]; exact (below_size (by repeat (first | (with_reducible first | exact HB.out | apply zE | apply zB | apply zC) | exact HB.out))) : w.heap.size ≤ gb309)); have n3_ := zF.mk ((by rw [hg]; exact (below_size (by repeat (first | (with_reducible first | exact HB.out | apply zE | apply zB | apply zC) | exact HB.out))) : w.heap.size ≤ gb309)); clear HB; have HB := n0_; have BK309 := n1_; have GW309 := n2_; have GE309 := n3_; clear n0_ n1_ n2_ n3_; clear hb hbox hg) | ((with_reducible refine gate_callee (f := 6) rfl ?_); refine goesL_ (some 21) rfl rfl Try.func6 (by kernel_rfl) rfl #[] rfl (by (try simp only [List.map_toArray, List.map_cons, List.map_nil]); first | done | rfl | (simp only [List.length_drop, List.length_take]; rfl)) ?_; (with_reducible refine (serinettelaw15_awake.calls k  t310 _ A5.out).mono ?_); rintro e w8 ⟨rfl, hb⟩; refine ⟨_, rfl, ?_⟩; have n0_ := zF.mk (blk_below (g := gb309) (o := .cells #[.bool a2_0, .int .i64 a2_1, .slice A2_2 l2_2.length c2_2] 25 (0, 0)) (by (with_reducible repeat (first | refine zK ?_ _ | refine zL ?_ | refine zJ ?_ _)); exact BK309.out) hb); have n1_ := zF.mk (below_step (by repeat (first | (with_reducible first | exact HB.out | apply zE | apply zB | apply zC | refine zD ?_ GE309.out) | exact HB.out)) hb); clear BK309; clear HB; have BK309 := n0_; have HB := n1_; clear n0_ n1_; (try clear hb); (try clear hb2); (try clear hk); (try clear hi)))
  (try simp only [Act.put, List.setIfInBounds_toArray, List.set_cons_zero, List.set_cons_succ])
  go_cut [38] (fun v38 wc => ∃ (kq : Nat) (x38_5 : Bool), v38 = .bool x38_5 ∧ zF (serinettelaw15_SectionBack.j0 kq l0 l3 t310 (wrap64 (Int.tmod a1 33)) x38_5 a2_0 a2_1 l2_2 = some r) ∧ zF (kq ≤ k) ∧ zF (wc.heap[gb309]? = some (.cells #[.bool a2_0, .int .i64 a2_1, (.slice A2_2 l2_2.length c2_2)] 25 (0, 0))) ∧ zF (Below w.heap.size w wc))
  case first =>
    have H := HC6.out
    clear HC6
    by_cases c9 : (l0.length : Int) > 60
    · rw [if_pos c9] at H
      have c9b0 : decide (60 < (l0.length : Int)) = true := decide_eq_true c9
      have c9b1 : decide (60 < l0.length) = true := decide_eq_true (by omega)
      clear c9
      (first | rw [c9b0] | (simp only [i64_w, i32_w]; rw [c9b0]) | skip)
      have H' := zF.mk H
      clear H
      go_wp2
      go_meet
      case rel => exact ⟨_, (true), (by first | rfl | (simp; done) | (simp only [i64_w, i32_w]; done) | (simp [*]; done) | (simp only [i64_w, i32_w]; first | rfl | (simp; done) | (simp [*]; done))), H', ⟨by first | omega | exact Nat.le_refl _⟩, ⟨by (with_reducible repeat (first | refine zK ?_ _ | refine zL ?_ | refine zJ ?_ _)); exact BK309.out⟩, ⟨by repeat (first | (with_reducible first | exact HB.out | apply zE | apply zB | apply zC | refine zD ?_ GE309.out) | exact HB.out)⟩⟩
    · rw [if_neg c9] at H
      have c9b0 : decide (60 < (l0.length : Int)) = false := decide_eq_false c9
      have c9b1 : decide (60 < l0.length) = false := decide_eq_false (by omega)
      clear c9
      (first | rw [c9b0] | (simp only [i64_w, i32_w]; rw [c9b0]) | skip)
      by_cases c10 : (l2_2.length : Int) > 100
      · rw [if_pos c10] at H
        have c10b0 : decide (100 < (l2_2.length : Int)) = true := decide_eq_true c10
        have c10b1 : decide (100 < l2_2.length) = true := decide_eq_true (by omega)
        clear c10
        have H' := zF.mk H
        clear H
        have hcz11_0 : w8.cell? ⟨gb309, 0, none⟩ = some (.bool a2_0) := (zM BK309.out 0).trans rfl
        have hcz11_1 : w8.cell? ⟨gb309, 1, none⟩ = some (.int .i64 a2_1) := (zM BK309.out 1).trans rfl
        have hcz11_2 : w8.cell? ⟨gb309, 2, none⟩ = some (.slice A2_2 l2_2.length c2_2) := (zM BK309.out 2).trans rfl
        have hfz11_0 := zN BK309.out 0
        have hfz11_1 := zN BK309.out 1
        have hfz11_2 := zN BK309.out 2
        go_wp2
        go_meet
        case rel => exact ⟨_, (true), (by first | rfl | (simp; done) | (simp only [i64_w, i32_w]; done) | (simp [*]; done) | (simp only [i64_w, i32_w]; first | rfl | (simp; done) | (simp [*]; done))), H', ⟨by first | omega | exact Nat.le_refl _⟩, ⟨by (with_reducible repeat (first | refine zK ?_ _ | refine zL ?_ | refine zJ ?_ _)); exact BK309.out⟩, ⟨by repeat (first | (with_reducible first | exact HB.out | apply zE | apply zB | apply zC | refine zD ?_ GE309.out) | exact HB.out)⟩⟩
      · rw [if_neg c10] at H
        have c10b0 : decide (100 < (l2_2.length : Int)) = false := decide_eq_false c10
        have c10b1 : decide (100 < l2_2.length) = false := decide_eq_false (by omega)
        clear c10
        have H' := zF.mk H
        clear H
        have hcz12_0 : w8.cell? ⟨gb309, 0, none⟩ = some (.bool a2_0) := (zM BK309.out 0).trans rfl
        have hcz12_1 : w8.cell? ⟨gb309, 1, none⟩ = some (.int .i64 a2_1) := (zM BK309.out 1).trans rfl
        have hcz12_2 : w8.cell? ⟨gb309, 2, none⟩ = some (.slice A2_2 l2_2.length c2_2) := (zM BK309.out 2).trans rfl
        have hfz12_0 := zN BK309.out 0
        have hfz12_1 := zN BK309.out 1
        have hfz12_2 := zN BK309.out 2
        go_wp2
        go_meet
        case rel => exact ⟨_, (decide ((l3.length : Int) > 10)), (by first | rfl | (simp; done) | (simp only [i64_w, i32_w]; done) | (simp [*]; done) | (simp only [i64_w, i32_w]; first | rfl | (simp; done) | (simp [*]; done))), H', ⟨by first | omega | exact Nat.le_refl _⟩, ⟨by (with_reducible repeat (first | refine zK ?_ _ | refine zL ?_ | refine zJ ?_ _)); exact BK309.out⟩, ⟨by repeat (first | (with_reducible first | exact HB.out | apply zE | apply zB | apply zC | refine zD ?_ GE309.out) | exact HB.out)⟩⟩
  case rest =>
    clear HC6
    try clear c1
    try clear c2
    try clear p2
    try clear c3
    try clear c6
    try clear p6
    try clear c9
    try clear c9b0
    try clear c9b1
    try clear c10
    try clear c10b0
    try clear c10b1
    try clear hcz11_0
    try clear hcz11_1
    try clear hcz11_2
    try clear hcz12_0
    try clear hcz12_1
    try clear hcz12_2
    try clear hfz11_0
    try clear hfz11_1
    try clear hfz11_2
    try clear hfz12_0
    try clear hfz12_1
    try clear hfz12_2
    obtain ⟨kq, x38_5, rfl, HA, HJ5, BK309, HB⟩ := hcut
    cases kq with
    | zero => exact absurd HA.out (by simp [serinettelaw15_SectionBack.j0])
    | succ kj5 =>
      have H := HA.out
      clear HA
      simp only [serinettelaw15_SectionBack.j0] at H
      by_cases c13 : x38_5 = true
      · subst c13
        have H1 : (some t310) = some r := by rw [if_pos rfl] at H; exact H
        clear H
        have H := H1
        clear H1
        obtain rfl := Option.some.inj H
        go_wp2
        go_ret
        exact ⟨by first | rfl | (simp [errW_none, errW_some] <;> rfl) | (simp [*, errW_none, errW_some] <;> rfl), by repeat (first | (with_reducible first | exact HB.out | apply zE | apply zB | apply zC | refine zD ?_ GE309.out) | exact HB.out)⟩
      · replace c13 := Bool.eq_false_iff.mpr c13
        subst c13
        have H1 : ((serinettelaw15_short.f kj5 l0 (wrap64 (Int.tmod a1 33)) a2_0 a2_1 l2_2).bind fun t311 => ((bits_New.f).bind fun bt312 => (if t311 = true then (serinettelaw15_SectionBack.l0 kj5 l0 l3 t310 (wrap64 (Int.tmod a1 33)) false 0 a2_0 a2_1 l2_2 bt312.1 bt312.2) else (some t310)))) = some r := by rw [if_neg (show ¬ (false = true) by decide)] at H; exact H
        clear H
        have H := H1
        clear H1
        replace H := Option.bind_eq_some_iff.mp H
        obtain ⟨t311, A140, H⟩ := H
        replace H : ((bits_New.f).bind fun bt312 => (if t311 = true then (serinettelaw15_SectionBack.l0 kj5 l0 l3 t310 (wrap64 (Int.tmod a1 33)) false 0 a2_0 a2_1 l2_2 bt312.1 bt312.2) else (some t310))) = some r := H
        have A14 := zF.mk A140
        clear A140
        replace H := Option.bind_eq_some_iff.mp H
        obtain ⟨⟨t312, t313⟩, A150, H⟩ := H
        replace H : (if t311 = true then (serinettelaw15_SectionBack.l0 kj5 l0 l3 t310 (wrap64 (Int.tmod a1 33)) false 0 a2_0 a2_1 l2_2 t312 t313) else (some t310)) = some r := H
        have A15 := zF.mk A150
        clear A150
        by_cases c16 : t311 = true
        · subst c16
          have H1 : (serinettelaw15_SectionBack.l0 kj5 l0 l3 t310 (wrap64 (Int.tmod a1 33)) false 0 a2_0 a2_1 l2_2 t312 t313) = some r := by rw [if_pos rfl] at H; exact H
          clear H
          have H := H1
          clear H1
          have H' := zF.mk H
          clear H
          have hcz17_0 : wc.cell? ⟨gb309, 0, none⟩ = some (.bool a2_0) := (zM BK309.out 0).trans rfl
          have hcz17_1 : wc.cell? ⟨gb309, 1, none⟩ = some (.int .i64 a2_1) := (zM BK309.out 1).trans rfl
          have hcz17_2 : wc.cell? ⟨gb309, 2, none⟩ = some (.slice A2_2 l2_2.length c2_2) := (zM BK309.out 2).trans rfl
          have hfz17_0 := zN BK309.out 0
          have hfz17_1 := zN BK309.out 1
          have hfz17_2 := zN BK309.out 2
          go_wp2_with (first | ((with_reducible refine gate_callee (f := 7) rfl ?_); refine goesL_ (some 43) rfl rfl Try.func7 (by kernel_rfl) rfl #[.slice A0 l0.length c0, .int .i64 (wrap64 (Int.tmod a1 33)), .agg #[.bool a2_0, .int .i64 a2_1, .slice A2_2 l2_2.length c2_2]] rfl (by (try simp only [List.map_toArray, List.map_cons, List.map_nil]); first | done | rfl | (simp only [List.length_drop, List.length_take]; rfl)) ?_; (with_reducible refine (serinettelaw15_short.calls kj5 _ _ l0 (wrap64 (Int.tmod a1 33)) a2_0 a2_1 _ _ l2_2 true _ ?side1 ?side2 ?side3 ?side4 A14.out).mono ?_); (case side1 => repeat (first | exact (Kd.C_below HR0.out HB.out) | (with_reducible refine Kd.zU ?_ _) | (with_reducible refine Kd.zS ?_ _) | (with_reducible refine Kd.zT ?_))); (case side2 => exact HC0.out); (case side3 => repeat (first | exact (Kd.C_below HR2_2.out HB.out) | (with_reducible refine Kd.zU ?_ _) | (with_reducible refine Kd.zS ?_ _) | (with_reducible refine Kd.zT ?_))); (case side4 => exact HC2_2.out); rintro e w18 ⟨rfl, hb⟩; refine ⟨_, rfl, ?_⟩; have n0_ := zF.mk (blk_below (g := gb309) (o := .cells #[.bool a2_0, .int .i64 a2_1, .slice A2_2 l2_2.length c2_2] 25 (0, 0)) (by (with_reducible repeat (first | refine zK ?_ _ | refine zL ?_ | refine zJ ?_ _)); exact BK309.out) hb); have n1_ := zF.mk (below_step (by repeat (first | (with_reducible first | exact HB.out | apply zE | apply zB | apply zC | refine zD ?_ GE309.out) | exact HB.out)) hb); clear BK309; clear HB; have BK309 := n0_; have HB := n1_; clear n0_ n1_; (try clear hb); (try clear hb2); (try clear hk); (try clear hi)) | ((with_reducible refine gate_callee (f := 8) rfl ?_); refine goesL_ (some 44) rfl rfl Try.func8 (by kernel_rfl) rfl #[] rfl (by (try simp only [List.map_toArray, List.map_cons, List.map_nil]); first | done | rfl | (simp only [List.length_drop, List.length_take]; rfl)) ?_; (with_reducible refine (bits_New.calls  t312 t313 w _ ?side1 A15.out).mono ?_); (case side1 => repeat (first | (with_reducible first | exact HB.out | apply zE | apply zB | apply zC | refine zD ?_ GE309.out) | exact HB.out)); rintro e w19 ⟨g314, rfl, hi, hb, hb2⟩; refine ⟨_, rfl, ?_⟩; have n0_ := zF.mk (blk_below (g := gb309) (o := .cells #[.bool a2_0, .int .i64 a2_1, .slice A2_2 l2_2.length c2_2] 25 (0, 0)) (by (with_reducible repeat (first | refine zK ?_ _ | refine zL ?_ | refine zJ ?_ _)); exact BK309.out) hb2); have n1_ := zF.mk (hb); have n2_ := zF.mk (hi); have n3_ := zF.mk (zH.ne_blk hi (blk_below (g := gb309) (o := .cells #[.bool a2_0, .int .i64 a2_1, .slice A2_2 l2_2.length c2_2] 25 (0, 0)) (by (with_reducible repeat (first | refine zK ?_ _ | refine zL ?_ | refine zJ ?_ _)); exact BK309.out) hb2) (by decide)); have n4_ := zF.mk (Ne.symm (zH.ne_blk hi (blk_below (g := gb309) (o := .cells #[.bool a2_0, .int .i64 a2_1, .slice A2_2 l2_2.length c2_2] 25 (0, 0)) (by (with_reducible repeat (first | refine zK ?_ _ | refine zL ?_ | refine zJ ?_ _)); exact BK309.out) hb2) (by decide))); clear BK309; clear HB; have BK309 := n0_; have HB := n1_; have HI314 := n2_; have NB314_309 := n3_; have NB309_314 := n4_; clear n0_ n1_ n2_ n3_ n4_; (try clear hb); (try clear hb2); (try clear hk); (try clear hi)))
          go_loopg [13, 14] kj5 (fun kq v13 v14 w' => ∃ (x13_2 : Bool) (x14_2 : Int), v13 = .bool x13_2 ∧ v14 = .int .i64 x14_2 ∧ zF (serinettelaw15_SectionBack.l0 kq l0 l3 t310 (wrap64 (Int.tmod a1 33)) x13_2 x14_2 a2_0 a2_1 l2_2 t312 t313 = some r) ∧ zF (kq ≤ kj5) ∧ zF (w'.heap[gb309]? = some (.cells #[.bool a2_0, .int .i64 a2_1, (.slice A2_2 l2_2.length c2_2)] 25 (0, 0))) ∧ zF (zH w w' g314 t312 t313) ∧ zF (Below w.heap.size w w'))
          case atStart => exact ⟨(false), (0), (by first | rfl | (simp; done) | (simp only [i64_w, i32_w]; done) | (simp [*]; done) | (simp only [i64_w, i32_w]; first | rfl | (simp; done) | (simp [*]; done))), (by first | rfl | (simp; done) | (simp only [i64_w, i32_w]; done) | (simp [*]; done) | (simp only [i64_w, i32_w]; first | rfl | (simp; done) | (simp [*]; done))), H', ⟨Nat.le_refl _⟩, ⟨by (with_reducible repeat (first | refine zK ?_ _ | refine zL ?_ | refine zJ ?_ _)); exact BK309.out⟩, ⟨by repeat (first | (with_reducible first | exact HI314.out | apply zH.alloc | apply zH.drewN | apply zH.drew) | exact HI314.out)⟩, ⟨by repeat (first | (with_reducible first | exact HB.out | apply zE | apply zB | apply zC | refine zD ?_ GE309.out) | exact HB.out)⟩⟩
          case round =>
            clear H'
            try clear c1
            try clear c2
            try clear p2
            try clear c3
            try clear c6
            try clear p6
            try clear c7
            try clear c8
            try clear c9
            try clear c9b0
            try clear c9b1
            try clear c10
            try clear c10b0
            try clear c10b1
            try clear c13
            try clear c16
            try clear hcz11_0
            try clear hcz11_1
            try clear hcz11_2
            try clear hcz12_0
            try clear hcz12_1
            try clear hcz12_2
            try clear hcz17_0
            try clear hcz17_1
            try clear hcz17_2
            try clear hfz11_0
            try clear hfz11_1
            try clear hfz11_2
            try clear hfz12_0
            try clear hfz12_1
            try clear hfz12_2
            try clear hfz17_0
            try clear hfz17_1
            try clear hfz17_2
            try clear p2
            try clear p6
            obtain ⟨x13_2, x14_2, rfl, rfl, HA, HK2, BK309, HI314, HB⟩ := hrel
            cases gk with
            | zero => exact absurd HA.out (by simp [serinettelaw15_SectionBack.l0])
            | succ k2 =>
              have H := HA.out
              clear HA
              simp only [serinettelaw15_SectionBack.l0] at H
              by_cases c20 : x14_2 < (l0.length : Int)
              · rw [if_pos c20] at H
                have c20b0 : decide (x14_2 < (l0.length : Int)) = true := decide_eq_true c20
                clear c20
                by_cases c21 : x13_2 = true
                · subst c21
                  have H1 : (serinettelaw15_SectionBack.l0 k2 l0 l3 t310 (wrap64 (Int.tmod a1 33)) true (wrap64 (x14_2 + 1)) a2_0 a2_1 l2_2 t312 t313) = some r := by rw [if_pos rfl] at H; exact H
                  clear H
                  have H := H1
                  clear H1
                  have H' := zF.mk H
                  clear H
                  go_wp2
                  go_roundg k2
                  case measure => have := HJ5.out; have := HK2.out; omega
                  case rel => exact ⟨(true), (wrap64 (x14_2 + 1)), (by first | rfl | (simp; done) | (simp only [i64_w, i32_w]; done) | (simp [*]; done) | (simp only [i64_w, i32_w]; first | rfl | (simp; done) | (simp [*]; done))), (by first | rfl | (simp; done) | (simp only [i64_w, i32_w]; done) | (simp [*]; done) | (simp only [i64_w, i32_w]; first | rfl | (simp; done) | (simp [*]; done))), H', ⟨by have := HJ5.out; have := HK2.out; omega⟩, ⟨by (with_reducible repeat (first | refine zK ?_ _ | refine zL ?_ | refine zJ ?_ _)); exact BK309.out⟩, ⟨by repeat (first | (with_reducible first | exact HI314.out | apply zH.alloc | apply zH.drewN | apply zH.drew) | exact HI314.out)⟩, ⟨by repeat (first | (with_reducible first | exact HB.out | apply zE | apply zB | apply zC | refine zD ?_ GE309.out) | exact HB.out)⟩⟩
                · replace c21 := Bool.eq_false_iff.mpr c21
                  subst c21
                  have H1 : (if 0 ≤ x14_2 then (if (rd l0 x14_2) < (-2147483647) then (serinettelaw15_SectionBack.l0 k2 l0 l3 t310 (wrap64 (Int.tmod a1 33)) true (wrap64 (x14_2 + 1)) a2_0 a2_1 l2_2 t312 t313) else (serinettelaw15_SectionBack.l0 k2 l0 l3 t310 (wrap64 (Int.tmod a1 33)) (decide ((rd l0 x14_2) > 2147483647)) (wrap64 (x14_2 + 1)) a2_0 a2_1 l2_2 t312 t313)) else (none)) = some r := by rw [if_neg (show ¬ (false = true) by decide)] at H; exact H
                  clear H
                  have H := H1
                  clear H1
                  by_cases c22 : 0 ≤ x14_2
                  · rw [if_pos c22] at H
                    have c22b0 : decide (0 ≤ x14_2) = true := decide_eq_true c22
                    clear c22
                    by_cases c23 : (rd l0 x14_2) < (-2147483647)
                    · rw [if_pos c23] at H
                      have c23b0 : decide ((rd l0 x14_2) < (-2147483647)) = true := decide_eq_true c23
                      clear c23
                      have H' := zF.mk H
                      clear H
                      have p315 : 0 ≤ (x14_2 : Int) := of_decide_eq_true (by first | (with_reducible assumption) | assumption)
                      have q315 : x14_2 < (l0.length : Int) := of_decide_eq_true (by first | (with_reducible assumption) | assumption)
                      obtain ⟨ad315, e315, hx315_0⟩ := Kd.at_int HR0.out x14_2 p315 q315
                      cases e315
                      replace hx315_0 := (HB.out.cell (World.block_lt_of_cell? w _ hx315_0)).trans hx315_0
                      replace p315 := eq_true p315
                      replace q315 := eq_true q315
                      go_wp2
                      go_roundg k2
                      case measure => have := HJ5.out; have := HK2.out; omega
                      case rel => exact ⟨(true), (wrap64 (x14_2 + 1)), (by first | rfl | (simp; done) | (simp only [i64_w, i32_w]; done) | (simp [*]; done) | (simp only [i64_w, i32_w]; first | rfl | (simp; done) | (simp [*]; done))), (by first | rfl | (simp; done) | (simp only [i64_w, i32_w]; done) | (simp [*]; done) | (simp only [i64_w, i32_w]; first | rfl | (simp; done) | (simp [*]; done))), H', ⟨by have := HJ5.out; have := HK2.out; omega⟩, ⟨by (with_reducible repeat (first | refine zK ?_ _ | refine zL ?_ | refine zJ ?_ _)); exact BK309.out⟩, ⟨by repeat (first | (with_reducible first | exact HI314.out | apply zH.alloc | apply zH.drewN | apply zH.drew) | exact HI314.out)⟩, ⟨by repeat (first | (with_reducible first | exact HB.out | apply zE | apply zB | apply zC | refine zD ?_ GE309.out) | exact HB.out)⟩⟩
                    · rw [if_neg c23] at H
                      have c23b0 : decide ((rd l0 x14_2) < (-2147483647)) = false := decide_eq_false c23
                      clear c23
                      have H' := zF.mk H
                      clear H
                      have p315 : 0 ≤ (x14_2 : Int) := of_decide_eq_true (by first | (with_reducible assumption) | assumption)
                      have q315 : x14_2 < (l0.length : Int) := of_decide_eq_true (by first | (with_reducible assumption) | assumption)
                      obtain ⟨ad315, e315, hx315_0⟩ := Kd.at_int HR0.out x14_2 p315 q315
                      cases e315
                      replace hx315_0 := (HB.out.cell (World.block_lt_of_cell? w _ hx315_0)).trans hx315_0
                      replace p315 := eq_true p315
                      replace q315 := eq_true q315
                      have p316 : 0 ≤ (x14_2 : Int) := of_decide_eq_true (by first | (with_reducible assumption) | assumption)
                      have q316 : x14_2 < (l0.length : Int) := of_decide_eq_true (by first | (with_reducible assumption) | assumption)
                      obtain ⟨ad316, e316, hx316_0⟩ := Kd.at_int HR0.out x14_2 p316 q316
                      obtain rfl : ad315 = ad316 := (by injection e316)
                      replace hx316_0 := (HB.out.cell (World.block_lt_of_cell? w _ hx316_0)).trans hx316_0
                      replace p316 := eq_true p316
                      replace q316 := eq_true q316
                      go_wp2
                      go_roundg k2
                      case measure => have := HJ5.out; have := HK2.out; omega
                      case rel => exact ⟨(decide ((rd l0 x14_2) > 2147483647)), (wrap64 (x14_2 + 1)), (by first | rfl | (simp; done) | (simp only [i64_w, i32_w]; done) | (simp [*]; done) | (simp only [i64_w, i32_w]; first | rfl | (simp; done) | (simp [*]; done))), (by first | rfl | (simp; done) | (simp only [i64_w, i32_w]; done) | (simp [*]; done) | (simp only [i64_w, i32_w]; first | rfl | (simp; done) | (simp [*]; done))), H', ⟨by have := HJ5.out; have := HK2.out; omega⟩, ⟨by (with_reducible repeat (first | refine zK ?_ _ | refine zL ?_ | refine zJ ?_ _)); exact BK309.out⟩, ⟨by repeat (first | (with_reducible first | exact HI314.out | apply zH.alloc | apply zH.drewN | apply zH.drew) | exact HI314.out)⟩, ⟨by repeat (first | (with_reducible first | exact HB.out | apply zE | apply zB | apply zC | refine zD ?_ GE309.out) | exact HB.out)⟩⟩
                  · rw [if_neg c22] at H
                    exact absurd H (by simp)
              · rw [if_neg c20] at H
                have c20b0 : decide (x14_2 < (l0.length : Int)) = false := decide_eq_false c20
                clear c20
                replace H := Option.bind_eq_some_iff.mp H
                obtain ⟨⟨t317, t318, t319⟩, A240, H⟩ := H
                replace H : ((parts_Bits.f k2 l0 (wrap64 (Int.tmod a1 33)) a2_0 a2_1 l2_2).bind fun t320 => (if t317 = 0 then ((bits_Writer_Len.f t318 t319).bind fun bt324 => (if bt324.1 = t320 then ((bits_Writer_Bytes.f bt324.2.1 bt324.2.2).bind fun bt327 => (if bt327.1.length + l3.length < 140737488355328 then ((bits_Open.f (bt327.1 ++ l3)).bind fun bt335 => ((section_Take.f k2 bt335.1 bt335.2.1 bt335.2.2 (wrap64 ((l0.length : Int) + (wrap64 (Int.tmod a1 33)))) (wrap64 (Int.tmod a1 33))).bind fun bt339 => (if x13_2 = true then (if t310 = true then (if bt339.2.2.2.2.1 = 14 then (some ((bt339.1.length : Int) == 0)) else (some false)) else (some false)) else (if t310 = true then (if bt339.2.2.2.2.1 = 0 then ((serinetteref01_Ints.f k2 bt339.1 l0).bind fun t351 => (if t351 = true then ((serinetteref14_Same.f k2 a2_0 a2_1 l2_2 bt339.2.1 bt339.2.2.1 bt339.2.2.2.1).bind fun t352 => (if t352 = true then ((bits_Reader_At.f bt335.1 bt339.2.2.2.2.2.1 bt339.2.2.2.2.2.2).bind fun bt353 => (some (bt353.1 == t320))) else (some false))) else (some false))) else (some false)) else (some false))))) else (none))) else (some false))) else (if t310 = true then ((bits_Writer_Len.f t318 t319).bind fun bt321 => (if bt321.1 = 0 then (some ((t317 == 1) == (decide (t320 < 0)))) else (some false))) else (some false)))) = some r := H
                have A24 := zF.mk A240
                clear A240
                replace H := Option.bind_eq_some_iff.mp H
                obtain ⟨t320, A250, H⟩ := H
                replace H : (if t317 = 0 then ((bits_Writer_Len.f t318 t319).bind fun bt324 => (if bt324.1 = t320 then ((bits_Writer_Bytes.f bt324.2.1 bt324.2.2).bind fun bt327 => (if bt327.1.length + l3.length < 140737488355328 then ((bits_Open.f (bt327.1 ++ l3)).bind fun bt335 => ((section_Take.f k2 bt335.1 bt335.2.1 bt335.2.2 (wrap64 ((l0.length : Int) + (wrap64 (Int.tmod a1 33)))) (wrap64 (Int.tmod a1 33))).bind fun bt339 => (if x13_2 = true then (if t310 = true then (if bt339.2.2.2.2.1 = 14 then (some ((bt339.1.length : Int) == 0)) else (some false)) else (some false)) else (if t310 = true then (if bt339.2.2.2.2.1 = 0 then ((serinetteref01_Ints.f k2 bt339.1 l0).bind fun t351 => (if t351 = true then ((serinetteref14_Same.f k2 a2_0 a2_1 l2_2 bt339.2.1 bt339.2.2.1 bt339.2.2.2.1).bind fun t352 => (if t352 = true then ((bits_Reader_At.f bt335.1 bt339.2.2.2.2.2.1 bt339.2.2.2.2.2.2).bind fun bt353 => (some (bt353.1 == t320))) else (some false))) else (some false))) else (some false)) else (some false))))) else (none))) else (some false))) else (if t310 = true then ((bits_Writer_Len.f t318 t319).bind fun bt321 => (if bt321.1 = 0 then (some ((t317 == 1) == (decide (t320 < 0)))) else (some false))) else (some false))) = some r := H
                have A25 := zF.mk A250
                clear A250
                by_cases c26 : t317 = 0
                focus
                  rw [if_pos c26] at H
                  have c26b0 : (t317 == 0) = true := beq_iff_eq.mpr c26
                  have c26b1 : (t317 != 0) = false := bne_eq_false_iff_eq.mpr c26
                  clear c26
                  replace H := Option.bind_eq_some_iff.mp H
                  obtain ⟨⟨t324, t325, t326⟩, A270, H⟩ := H
                  replace H : (if t324 = t320 then ((bits_Writer_Bytes.f t325 t326).bind fun bt327 => (if bt327.1.length + l3.length < 140737488355328 then ((bits_Open.f (bt327.1 ++ l3)).bind fun bt335 => ((section_Take.f k2 bt335.1 bt335.2.1 bt335.2.2 (wrap64 ((l0.length : Int) + (wrap64 (Int.tmod a1 33)))) (wrap64 (Int.tmod a1 33))).bind fun bt339 => (if x13_2 = true then (if t310 = true then (if bt339.2.2.2.2.1 = 14 then (some ((bt339.1.length : Int) == 0)) else (some false)) else (some false)) else (if t310 = true then (if bt339.2.2.2.2.1 = 0 then ((serinetteref01_Ints.f k2 bt339.1 l0).bind fun t351 => (if t351 = true then ((serinetteref14_Same.f k2 a2_0 a2_1 l2_2 bt339.2.1 bt339.2.2.1 bt339.2.2.2.1).bind fun t352 => (if t352 = true then ((bits_Reader_At.f bt335.1 bt339.2.2.2.2.2.1 bt339.2.2.2.2.2.2).bind fun bt353 => (some (bt353.1 == t320))) else (some false))) else (some false))) else (some false)) else (some false))))) else (none))) else (some false)) = some r := H
                  have A27 := zF.mk A270
                  clear A270
                  by_cases c28 : t324 = t320
                  focus
                    rw [if_pos c28] at H
                    have c28b0 : (t324 == t320) = true := beq_iff_eq.mpr c28
                    have c28b1 : (t324 != t320) = false := bne_eq_false_iff_eq.mpr c28
                    clear c28
                    replace H := Option.bind_eq_some_iff.mp H
                    obtain ⟨⟨t327, t330, t331⟩, A290, H⟩ := H
                    replace H : (if t327.length + l3.length < 140737488355328 then ((bits_Open.f (t327 ++ l3)).bind fun bt335 => ((section_Take.f k2 bt335.1 bt335.2.1 bt335.2.2 (wrap64 ((l0.length : Int) + (wrap64 (Int.tmod a1 33)))) (wrap64 (Int.tmod a1 33))).bind fun bt339 => (if x13_2 = true then (if t310 = true then (if bt339.2.2.2.2.1 = 14 then (some ((bt339.1.length : Int) == 0)) else (some false)) else (some false)) else (if t310 = true then (if bt339.2.2.2.2.1 = 0 then ((serinetteref01_Ints.f k2 bt339.1 l0).bind fun t351 => (if t351 = true then ((serinetteref14_Same.f k2 a2_0 a2_1 l2_2 bt339.2.1 bt339.2.2.1 bt339.2.2.2.1).bind fun t352 => (if t352 = true then ((bits_Reader_At.f bt335.1 bt339.2.2.2.2.2.1 bt339.2.2.2.2.2.2).bind fun bt353 => (some (bt353.1 == t320))) else (some false))) else (some false))) else (some false)) else (some false))))) else (none)) = some r := H
                    have A29 := zF.mk A290
                    clear A290
                    by_cases c30 : t327.length + l3.length < 140737488355328
                    focus
                      rw [if_pos c30] at H
                      have LMc30 := zF.mk c30
                      clear c30
                      obtain ⟨y332, hy332⟩ : ∃ y_ : List Int, y_ = (t327 ++ l3) := ⟨_, rfl⟩
                      replace H : ((bits_Open.f y332).bind fun bt335 => ((section_Take.f k2 bt335.1 bt335.2.1 bt335.2.2 (wrap64 ((l0.length : Int) + (wrap64 (Int.tmod a1 33)))) (wrap64 (Int.tmod a1 33))).bind fun bt339 => (if x13_2 = true then (if t310 = true then (if bt339.2.2.2.2.1 = 14 then (some ((bt339.1.length : Int) == 0)) else (some false)) else (some false)) else (if t310 = true then (if bt339.2.2.2.2.1 = 0 then ((serinetteref01_Ints.f k2 bt339.1 l0).bind fun t351 => (if t351 = true then ((serinetteref14_Same.f k2 a2_0 a2_1 l2_2 bt339.2.1 bt339.2.2.1 bt339.2.2.2.1).bind fun t352 => (if t352 = true then ((bits_Reader_At.f bt335.1 bt339.2.2.2.2.2.1 bt339.2.2.2.2.2.2).bind fun bt353 => (some (bt353.1 == t320))) else (some false))) else (some false))) else (some false)) else (some false))))) = some r := by first | (rw [hy332]; with_reducible exact H) | (have H2_ := (Option.bind_some _ _).symm.trans H; rw [hy332]; with_reducible exact H2_) | (have H2_ := (Option.bind_some _ _).symm.trans H; with_reducible exact H2_) | with_reducible exact H | (rw [hy332]; exact H) | exact H
                      have Ny332 := zF.mk hy332
                      clear hy332
                      replace H := Option.bind_eq_some_iff.mp H
                      obtain ⟨⟨t335, t336, t337⟩, A310, H⟩ := H
                      replace H : ((section_Take.f k2 t335 t336 t337 (wrap64 ((l0.length : Int) + (wrap64 (Int.tmod a1 33)))) (wrap64 (Int.tmod a1 33))).bind fun bt339 => (if x13_2 = true then (if t310 = true then (if bt339.2.2.2.2.1 = 14 then (some ((bt339.1.length : Int) == 0)) else (some false)) else (some false)) else (if t310 = true then (if bt339.2.2.2.2.1 = 0 then ((serinetteref01_Ints.f k2 bt339.1 l0).bind fun t351 => (if t351 = true then ((serinetteref14_Same.f k2 a2_0 a2_1 l2_2 bt339.2.1 bt339.2.2.1 bt339.2.2.2.1).bind fun t352 => (if t352 = true then ((bits_Reader_At.f t335 bt339.2.2.2.2.2.1 bt339.2.2.2.2.2.2).bind fun bt353 => (some (bt353.1 == t320))) else (some false))) else (some false))) else (some false)) else (some false)))) = some r := H
                      have A31 := zF.mk A310
                      clear A310
                      replace H := Option.bind_eq_some_iff.mp H
                      obtain ⟨⟨t339, t342, t343, t344, t347, t348, t349⟩, A320, H⟩ := H
                      replace H : (if x13_2 = true then (if t310 = true then (if t347 = 14 then (some ((t339.length : Int) == 0)) else (some false)) else (some false)) else (if t310 = true then (if t347 = 0 then ((serinetteref01_Ints.f k2 t339 l0).bind fun t351 => (if t351 = true then ((serinetteref14_Same.f k2 a2_0 a2_1 l2_2 t342 t343 t344).bind fun t352 => (if t352 = true then ((bits_Reader_At.f t335 t348 t349).bind fun bt353 => (some (bt353.1 == t320))) else (some false))) else (some false))) else (some false)) else (some false))) = some r := H
                      have A32 := zF.mk A320
                      clear A320
                      by_cases c33 : x13_2 = true
                      focus
                        subst c33
                        have H1 : (if t310 = true then (if t347 = 14 then (some ((t339.length : Int) == 0)) else (some false)) else (some false)) = some r := by rw [if_pos rfl] at H; exact H
                        clear H
                        have H := H1
                        clear H1
                        by_cases c34 : t310 = true
                        focus
                          subst c34
                          have H1 : (if t347 = 14 then (some ((t339.length : Int) == 0)) else (some false)) = some r := by rw [if_pos rfl] at H; exact H
                          clear H
                          have H := H1
                          clear H1
                          by_cases c35 : t347 = 14
                          focus
                            rw [if_pos c35] at H
                            have c35b0 : (t347 == 14) = true := beq_iff_eq.mpr c35
                            have c35b1 : (t347 != 14) = false := bne_eq_false_iff_eq.mpr c35
                            clear c35
                            obtain rfl := Option.some.inj H
                            have hnb36 := NB309_314.out
                            have hnc36 := NB314_309.out
                            have hcz37_0 : wr.cell? ⟨gb309, 0, none⟩ = some (.bool a2_0) := (zM BK309.out 0).trans rfl
                            have hcz37_1 : wr.cell? ⟨gb309, 1, none⟩ = some (.int .i64 a2_1) := (zM BK309.out 1).trans rfl
                            have hcz37_2 : wr.cell? ⟨gb309, 2, none⟩ = some (.slice A2_2 l2_2.length c2_2) := (zM BK309.out 2).trans rfl
                            have hfz37_0 := zN BK309.out 0
                            have hfz37_1 := zN BK309.out 1
                            have hfz37_2 := zN BK309.out 2
                          rotate_left 1
                          focus
                            rw [if_neg c35] at H
                            have c35b0 : (t347 == 14) = false := beq_eq_false_iff_ne.mpr c35
                            have c35b1 : (t347 != 14) = true := bne_iff_ne.mpr c35
                            obtain rfl := Option.some.inj H
                            have hnb54 := NB309_314.out
                            have hnc54 := NB314_309.out
                            have hcz55_0 : wr.cell? ⟨gb309, 0, none⟩ = some (.bool a2_0) := (zM BK309.out 0).trans rfl
                            have hcz55_1 : wr.cell? ⟨gb309, 1, none⟩ = some (.int .i64 a2_1) := (zM BK309.out 1).trans rfl
                            have hcz55_2 : wr.cell? ⟨gb309, 2, none⟩ = some (.slice A2_2 l2_2.length c2_2) := (zM BK309.out 2).trans rfl
                            have hfz55_0 := zN BK309.out 0
                            have hfz55_1 := zN BK309.out 1
                            have hfz55_2 := zN BK309.out 2
                        rotate_left 2
                        focus
                          replace c34 := Bool.eq_false_iff.mpr c34
                          subst c34
                          have H1 : (some false) = some r := by rw [if_neg (show ¬ (false = true) by decide)] at H; exact H
                          clear H
                          have H := H1
                          clear H1
                          obtain rfl := Option.some.inj H
                          have hnb71 := NB309_314.out
                          have hnc71 := NB314_309.out
                          have hcz72_0 : wr.cell? ⟨gb309, 0, none⟩ = some (.bool a2_0) := (zM BK309.out 0).trans rfl
                          have hcz72_1 : wr.cell? ⟨gb309, 1, none⟩ = some (.int .i64 a2_1) := (zM BK309.out 1).trans rfl
                          have hcz72_2 : wr.cell? ⟨gb309, 2, none⟩ = some (.slice A2_2 l2_2.length c2_2) := (zM BK309.out 2).trans rfl
                          have hfz72_0 := zN BK309.out 0
                          have hfz72_1 := zN BK309.out 1
                          have hfz72_2 := zN BK309.out 2
                      rotate_left 3
                      focus
                        replace c33 := Bool.eq_false_iff.mpr c33
                        subst c33
                        have H1 : (if t310 = true then (if t347 = 0 then ((serinetteref01_Ints.f k2 t339 l0).bind fun t351 => (if t351 = true then ((serinetteref14_Same.f k2 a2_0 a2_1 l2_2 t342 t343 t344).bind fun t352 => (if t352 = true then ((bits_Reader_At.f t335 t348 t349).bind fun bt353 => (some (bt353.1 == t320))) else (some false))) else (some false))) else (some false)) else (some false)) = some r := by rw [if_neg (show ¬ (false = true) by decide)] at H; exact H
                        clear H
                        have H := H1
                        clear H1
                        by_cases c88 : t310 = true
                        focus
                          subst c88
                          have H1 : (if t347 = 0 then ((serinetteref01_Ints.f k2 t339 l0).bind fun t351 => (if t351 = true then ((serinetteref14_Same.f k2 a2_0 a2_1 l2_2 t342 t343 t344).bind fun t352 => (if t352 = true then ((bits_Reader_At.f t335 t348 t349).bind fun bt353 => (some (bt353.1 == t320))) else (some false))) else (some false))) else (some false)) = some r := by rw [if_pos rfl] at H; exact H
                          clear H
                          have H := H1
                          clear H1
                          by_cases c89 : t347 = 0
                          focus
                            rw [if_pos c89] at H
                            have c89b0 : (t347 == 0) = true := beq_iff_eq.mpr c89
                            have c89b1 : (t347 != 0) = false := bne_eq_false_iff_eq.mpr c89
                            clear c89
                            replace H := Option.bind_eq_some_iff.mp H
                            obtain ⟨t351, A900, H⟩ := H
                            replace H : (if t351 = true then ((serinetteref14_Same.f k2 a2_0 a2_1 l2_2 t342 t343 t344).bind fun t352 => (if t352 = true then ((bits_Reader_At.f t335 t348 t349).bind fun bt353 => (some (bt353.1 == t320))) else (some false))) else (some false)) = some r := H
                            have A90 := zF.mk A900
                            clear A900
                            by_cases c91 : t351 = true
                            focus
                              subst c91
                              have H1 : ((serinetteref14_Same.f k2 a2_0 a2_1 l2_2 t342 t343 t344).bind fun t352 => (if t352 = true then ((bits_Reader_At.f t335 t348 t349).bind fun bt353 => (some (bt353.1 == t320))) else (some false))) = some r := by rw [if_pos rfl] at H; exact H
                              clear H
                              have H := H1
                              clear H1
                              replace H := Option.bind_eq_some_iff.mp H
                              obtain ⟨t352, A920, H⟩ := H
                              replace H : (if t352 = true then ((bits_Reader_At.f t335 t348 t349).bind fun bt353 => (some (bt353.1 == t320))) else (some false)) = some r := H
                              have A92 := zF.mk A920
                              clear A920
                              by_cases c93 : t352 = true
                              focus
                                subst c93
                                have H1 : ((bits_Reader_At.f t335 t348 t349).bind fun bt353 => (some (bt353.1 == t320))) = some r := by rw [if_pos rfl] at H; exact H
                                clear H
                                have H := H1
                                clear H1
                                replace H := Option.bind_eq_some_iff.mp H
                                obtain ⟨⟨t353, t354, t355⟩, A940, H⟩ := H
                                replace H : (some (t353 == t320)) = some r := H
                                have A94 := zF.mk A940
                                clear A940
                                obtain rfl := Option.some.inj H
                                have hnb95 := NB309_314.out
                                have hnc95 := NB314_309.out
                                have hcz96_0 : wr.cell? ⟨gb309, 0, none⟩ = some (.bool a2_0) := (zM BK309.out 0).trans rfl
                                have hcz96_1 : wr.cell? ⟨gb309, 1, none⟩ = some (.int .i64 a2_1) := (zM BK309.out 1).trans rfl
                                have hcz96_2 : wr.cell? ⟨gb309, 2, none⟩ = some (.slice A2_2 l2_2.length c2_2) := (zM BK309.out 2).trans rfl
                                have hfz96_0 := zN BK309.out 0
                                have hfz96_1 := zN BK309.out 1
                                have hfz96_2 := zN BK309.out 2
                              rotate_left 1
                              focus
                                replace c93 := Bool.eq_false_iff.mpr c93
                                subst c93
                                have H1 : (some false) = some r := by rw [if_neg (show ¬ (false = true) by decide)] at H; exact H
                                clear H
                                have H := H1
                                clear H1
                                obtain rfl := Option.some.inj H
                                have hnb117 := NB309_314.out
                                have hnc117 := NB314_309.out
                                have hcz118_0 : wr.cell? ⟨gb309, 0, none⟩ = some (.bool a2_0) := (zM BK309.out 0).trans rfl
                                have hcz118_1 : wr.cell? ⟨gb309, 1, none⟩ = some (.int .i64 a2_1) := (zM BK309.out 1).trans rfl
                                have hcz118_2 : wr.cell? ⟨gb309, 2, none⟩ = some (.slice A2_2 l2_2.length c2_2) := (zM BK309.out 2).trans rfl
                                have hfz118_0 := zN BK309.out 0
                                have hfz118_1 := zN BK309.out 1
                                have hfz118_2 := zN BK309.out 2
                            rotate_left 2
                            focus
                              replace c91 := Bool.eq_false_iff.mpr c91
                              subst c91
                              have H1 : (some false) = some r := by rw [if_neg (show ¬ (false = true) by decide)] at H; exact H
                              clear H
                              have H := H1
                              clear H1
                              obtain rfl := Option.some.inj H
                              have hnb138 := NB309_314.out
                              have hnc138 := NB314_309.out
                              have hcz139_0 : wr.cell? ⟨gb309, 0, none⟩ = some (.bool a2_0) := (zM BK309.out 0).trans rfl
                              have hcz139_1 : wr.cell? ⟨gb309, 1, none⟩ = some (.int .i64 a2_1) := (zM BK309.out 1).trans rfl
                              have hcz139_2 : wr.cell? ⟨gb309, 2, none⟩ = some (.slice A2_2 l2_2.length c2_2) := (zM BK309.out 2).trans rfl
                              have hfz139_0 := zN BK309.out 0
                              have hfz139_1 := zN BK309.out 1
                              have hfz139_2 := zN BK309.out 2
                          rotate_left 3
                          focus
                            rw [if_neg c89] at H
                            have c89b0 : (t347 == 0) = false := beq_eq_false_iff_ne.mpr c89
                            have c89b1 : (t347 != 0) = true := bne_iff_ne.mpr c89
                            obtain rfl := Option.some.inj H
                            have hnb156 := NB309_314.out
                            have hnc156 := NB314_309.out
                            have hcz157_0 : wr.cell? ⟨gb309, 0, none⟩ = some (.bool a2_0) := (zM BK309.out 0).trans rfl
                            have hcz157_1 : wr.cell? ⟨gb309, 1, none⟩ = some (.int .i64 a2_1) := (zM BK309.out 1).trans rfl
                            have hcz157_2 : wr.cell? ⟨gb309, 2, none⟩ = some (.slice A2_2 l2_2.length c2_2) := (zM BK309.out 2).trans rfl
                            have hfz157_0 := zN BK309.out 0
                            have hfz157_1 := zN BK309.out 1
                            have hfz157_2 := zN BK309.out 2
                        rotate_left 4
                        focus
                          replace c88 := Bool.eq_false_iff.mpr c88
                          subst c88
                          have H1 : (some false) = some r := by rw [if_neg (show ¬ (false = true) by decide)] at H; exact H
                          clear H
                          have H := H1
                          clear H1
                          obtain rfl := Option.some.inj H
                          have hnb173 := NB309_314.out
                          have hnc173 := NB314_309.out
                          have hcz174_0 : wr.cell? ⟨gb309, 0, none⟩ = some (.bool a2_0) := (zM BK309.out 0).trans rfl
                          have hcz174_1 : wr.cell? ⟨gb309, 1, none⟩ = some (.int .i64 a2_1) := (zM BK309.out 1).trans rfl
                          have hcz174_2 : wr.cell? ⟨gb309, 2, none⟩ = some (.slice A2_2 l2_2.length c2_2) := (zM BK309.out 2).trans rfl
                          have hfz174_0 := zN BK309.out 0
                          have hfz174_1 := zN BK309.out 1
                          have hfz174_2 := zN BK309.out 2
                    rotate_left 8
                    focus
                      rw [if_neg c30] at H
                      exact absurd H (by simp)
                  rotate_left 8
                  focus
                    rw [if_neg c28] at H
                    have c28b0 : (t324 == t320) = false := beq_eq_false_iff_ne.mpr c28
                    have c28b1 : (t324 != t320) = true := bne_iff_ne.mpr c28
                    obtain rfl := Option.some.inj H
                    have hnb190 := NB309_314.out
                    have hnc190 := NB314_309.out
                    have hcz191_0 : wr.cell? ⟨gb309, 0, none⟩ = some (.bool a2_0) := (zM BK309.out 0).trans rfl
                    have hcz191_1 : wr.cell? ⟨gb309, 1, none⟩ = some (.int .i64 a2_1) := (zM BK309.out 1).trans rfl
                    have hcz191_2 : wr.cell? ⟨gb309, 2, none⟩ = some (.slice A2_2 l2_2.length c2_2) := (zM BK309.out 2).trans rfl
                    have hfz191_0 := zN BK309.out 0
                    have hfz191_1 := zN BK309.out 1
                    have hfz191_2 := zN BK309.out 2
                rotate_left 9
                focus
                  rw [if_neg c26] at H
                  have c26b0 : (t317 == 0) = false := beq_eq_false_iff_ne.mpr c26
                  have c26b1 : (t317 != 0) = true := bne_iff_ne.mpr c26
                  by_cases c196 : t310 = true
                  focus
                    subst c196
                    have H1 : ((bits_Writer_Len.f t318 t319).bind fun bt321 => (if bt321.1 = 0 then (some ((t317 == 1) == (decide (t320 < 0)))) else (some false))) = some r := by rw [if_pos rfl] at H; exact H
                    clear H
                    have H := H1
                    clear H1
                    replace H := Option.bind_eq_some_iff.mp H
                    obtain ⟨⟨t321, t322, t323⟩, A1970, H⟩ := H
                    replace H : (if t321 = 0 then (some ((t317 == 1) == (decide (t320 < 0)))) else (some false)) = some r := H
                    have A197 := zF.mk A1970
                    clear A1970
                    by_cases c198 : t321 = 0
                    focus
                      rw [if_pos c198] at H
                      have c198b0 : (t321 == 0) = true := beq_iff_eq.mpr c198
                      have c198b1 : (t321 != 0) = false := bne_eq_false_iff_eq.mpr c198
                      clear c198
                      obtain rfl := Option.some.inj H
                      have hnb199 := NB309_314.out
                      have hnc199 := NB314_309.out
                      have hcz200_0 : wr.cell? ⟨gb309, 0, none⟩ = some (.bool a2_0) := (zM BK309.out 0).trans rfl
                      have hcz200_1 : wr.cell? ⟨gb309, 1, none⟩ = some (.int .i64 a2_1) := (zM BK309.out 1).trans rfl
                      have hcz200_2 : wr.cell? ⟨gb309, 2, none⟩ = some (.slice A2_2 l2_2.length c2_2) := (zM BK309.out 2).trans rfl
                      have hfz200_0 := zN BK309.out 0
                      have hfz200_1 := zN BK309.out 1
                      have hfz200_2 := zN BK309.out 2
                    rotate_left 1
                    focus
                      rw [if_neg c198] at H
                      have c198b0 : (t321 == 0) = false := beq_eq_false_iff_ne.mpr c198
                      have c198b1 : (t321 != 0) = true := bne_iff_ne.mpr c198
                      obtain rfl := Option.some.inj H
                      have hnb205 := NB309_314.out
                      have hnc205 := NB314_309.out
                      have hcz206_0 : wr.cell? ⟨gb309, 0, none⟩ = some (.bool a2_0) := (zM BK309.out 0).trans rfl
                      have hcz206_1 : wr.cell? ⟨gb309, 1, none⟩ = some (.int .i64 a2_1) := (zM BK309.out 1).trans rfl
                      have hcz206_2 : wr.cell? ⟨gb309, 2, none⟩ = some (.slice A2_2 l2_2.length c2_2) := (zM BK309.out 2).trans rfl
                      have hfz206_0 := zN BK309.out 0
                      have hfz206_1 := zN BK309.out 1
                      have hfz206_2 := zN BK309.out 2
                  rotate_left 2
                  focus
                    replace c196 := Bool.eq_false_iff.mpr c196
                    subst c196
                    have H1 : (some false) = some r := by rw [if_neg (show ¬ (false = true) by decide)] at H; exact H
                    clear H
                    have H := H1
                    clear H1
                    obtain rfl := Option.some.inj H
                    have hnb211 := NB309_314.out
                    have hnc211 := NB314_309.out
                    have hcz212_0 : wr.cell? ⟨gb309, 0, none⟩ = some (.bool a2_0) := (zM BK309.out 0).trans rfl
                    have hcz212_1 : wr.cell? ⟨gb309, 1, none⟩ = some (.int .i64 a2_1) := (zM BK309.out 1).trans rfl
                    have hcz212_2 : wr.cell? ⟨gb309, 2, none⟩ = some (.slice A2_2 l2_2.length c2_2) := (zM BK309.out 2).trans rfl
                    have hfz212_0 := zN BK309.out 0
                    have hfz212_1 := zN BK309.out 1
                    have hfz212_2 := zN BK309.out 2
                all_goals
                  go_wp2_with (first | ((with_reducible refine gate_callee (f := 9) rfl ?_); refine goesL_ (some 75) rfl rfl Try.func9 (by kernel_rfl) rfl #[.pointer (some ⟨g314, 0, none⟩), .slice A0 l0.length c0, .int .i64 (wrap64 (Int.tmod a1 33)), .agg #[.bool a2_0, .int .i64 a2_1, .slice A2_2 l2_2.length c2_2]] rfl (by (try simp only [List.map_toArray, List.map_cons, List.map_nil]); first | done | rfl | (simp only [List.length_drop, List.length_take]; rfl)) ?_; (with_reducible refine (section_Put.calls g314 t312 t313 _ _ l0 (wrap64 (Int.tmod a1 33)) a2_0 a2_1 _ _ l2_2 t317 t318 t319 w _ ?side1 ?side2 ?side3 ?side4 ?side5 ?side6 ?side7 A24.out).mono ?_); (case side1 => repeat (first | (with_reducible first | exact HI314.out | apply zH.alloc | apply zH.drewN | apply zH.drew) | exact HI314.out)); (case side2 => repeat (first | (with_reducible first | exact HB.out | apply zE | apply zB | apply zC | refine zD ?_ GE309.out) | exact HB.out)); (case side3 => repeat (first | exact (Kd.C_below HR0.out HB.out) | (with_reducible refine Kd.zU ?_ _) | (with_reducible refine Kd.zS ?_ _) | (with_reducible refine Kd.zT ?_))); (case side4 => exact HC0.out); (case side5 => exact KC.came (Kd.heap_int .i64) HR0.out (by repeat (first | (with_reducible first | exact HB.out | apply zE | apply zB | apply zC | refine zD ?_ GE309.out) | exact HB.out))); (case side6 => exact KC.came k50_heap HR2_2.out (by repeat (first | (with_reducible first | exact HB.out | apply zE | apply zB | apply zC | refine zD ?_ GE309.out) | exact HB.out))); (case side7 => exact HC2_2.out); rintro e w97 ⟨rfl, hi, hb, hk⟩; refine ⟨_, rfl, ?_⟩; have n0_ := zF.mk (KB.blk hk.1 (g' := gb309) (cs := #[.bool a2_0, .int .i64 a2_1, .slice A2_2 l2_2.length c2_2]) (t := 25) (fr := (0, 0)) (by (with_reducible repeat (first | refine zK ?_ _ | refine zL ?_ | refine zJ ?_ _)); exact BK309.out) NB309_314.out (by decide)); have n1_ := zF.mk (hb); have n2_ := zF.mk (hi); clear BK309; clear HB; clear HI314; have BK309 := n0_; have HB := n1_; have HI314 := n2_; clear n0_ n1_ n2_; (try clear hb); (try clear hb2); (try clear hk); (try clear hi); have hcz98_0 : w97.cell? ⟨gb309, 0, none⟩ = some (.bool a2_0) := (zM BK309.out 0).trans rfl; have hcz98_1 : w97.cell? ⟨gb309, 1, none⟩ = some (.int .i64 a2_1) := (zM BK309.out 1).trans rfl; have hcz98_2 : w97.cell? ⟨gb309, 2, none⟩ = some (.slice A2_2 l2_2.length c2_2) := (zM BK309.out 2).trans rfl; have hfz98_0 := zN BK309.out 0; have hfz98_1 := zN BK309.out 1; have hfz98_2 := zN BK309.out 2) | ((with_reducible refine gate_callee (f := 10) rfl ?_); refine goesL_ (some 79) rfl rfl Try.func10 (by kernel_rfl) rfl #[.slice A0 l0.length c0, .int .i64 (wrap64 (Int.tmod a1 33)), .agg #[.bool a2_0, .int .i64 a2_1, .slice A2_2 l2_2.length c2_2]] rfl (by (try simp only [List.map_toArray, List.map_cons, List.map_nil]); first | done | rfl | (simp only [List.length_drop, List.length_take]; rfl)) ?_; (with_reducible refine (parts_Bits.calls k2 (fun k_ => k_ < w.heap.size) _ _ l0 (wrap64 (Int.tmod a1 33)) a2_0 a2_1 _ _ l2_2 t320 _ ?side1 ?side2 ?side3 A25.out).mono ?_); (case side1 => exact Kd.V_mk HC0.out (Kd.F_below (Kd.C_F (Kd.heap_int .i64) HR0.out) (by repeat (first | (with_reducible first | exact HB.out | apply zE | apply zB | apply zC | refine zD ?_ GE309.out) | exact HB.out)))); (case side2 => repeat (first | exact (Kd.C_below HR2_2.out HB.out) | (with_reducible refine Kd.zU ?_ _) | (with_reducible refine Kd.zS ?_ _) | (with_reducible refine Kd.zT ?_))); (case side3 => exact HC2_2.out); rintro e w99 ⟨rfl, hb⟩; refine ⟨_, rfl, ?_⟩; have n0_ := zF.mk (blk_below (g := gb309) (o := .cells #[.bool a2_0, .int .i64 a2_1, .slice A2_2 l2_2.length c2_2] 25 (0, 0)) (by (with_reducible repeat (first | refine zK ?_ _ | refine zL ?_ | refine zJ ?_ _)); exact BK309.out) hb); have n1_ := zF.mk (zH.below (by refine zH.as HI314.out ?_; repeat (first | (with_reducible first | exact HI314.out | apply zH.alloc | apply zH.drewN | apply zH.drew) | exact HI314.out)) hb); have n2_ := zF.mk (below_step (by repeat (first | (with_reducible first | exact HB.out | apply zE | apply zB | apply zC | refine zD ?_ GE309.out) | exact HB.out)) hb); clear BK309; clear HI314; clear HB; have BK309 := n0_; have HI314 := n1_; have HB := n2_; clear n0_ n1_ n2_; (try clear hb); (try clear hb2); (try clear hk); (try clear hi)) | ((with_reducible refine gate_callee (f := 11) rfl ?_); refine goesL_ (some 96) rfl rfl Try.func11 (by kernel_rfl) rfl #[.pointer (some ⟨g314, 0, none⟩)] rfl (by (try simp only [List.map_toArray, List.map_cons, List.map_nil]); first | done | rfl | (simp only [List.length_drop, List.length_take]; rfl)) ?_; (with_reducible refine (bits_Writer_Len.calls g314 t318 t319 t324 t325 t326 w _ ?side1 ?side2 A27.out).mono ?_); (case side1 => repeat (first | (with_reducible first | exact HI314.out | apply zH.alloc | apply zH.drewN | apply zH.drew) | exact HI314.out)); (case side2 => repeat (first | (with_reducible first | exact HB.out | apply zE | apply zB | apply zC | refine zD ?_ GE309.out) | exact HB.out)); rintro e w100 ⟨rfl, hi, hb, hk⟩; refine ⟨_, rfl, ?_⟩; have n0_ := zF.mk (zI.blk hk (g' := gb309) (o := .cells #[.bool a2_0, .int .i64 a2_1, .slice A2_2 l2_2.length c2_2] 25 (0, 0)) (by (with_reducible repeat (first | refine zK ?_ _ | refine zL ?_ | refine zJ ?_ _)); exact BK309.out) NB309_314.out (by simp)); have n1_ := zF.mk (hb); have n2_ := zF.mk (hi); clear BK309; clear HB; clear HI314; have BK309 := n0_; have HB := n1_; have HI314 := n2_; clear n0_ n1_ n2_; (try clear hb); (try clear hb2); (try clear hk); (try clear hi)) | ((with_reducible refine gate_callee (f := 13) rfl ?_); refine goesL_ (some 100) rfl rfl Try.func13 (by kernel_rfl) rfl #[.pointer (some ⟨g314, 0, none⟩)] rfl (by (try simp only [List.map_toArray, List.map_cons, List.map_nil]); first | done | rfl | (simp only [List.length_drop, List.length_take]; rfl)) ?_; (with_reducible refine (bits_Writer_Bytes.callsB g314 t325 t326 t327 t330 t331 w _ ?side1 ?side2 A29.out).mono ?_); (case side1 => repeat (first | (with_reducible first | exact HI314.out | apply zH.alloc | apply zH.drewN | apply zH.drew) | exact HI314.out)); (case side2 => repeat (first | (with_reducible first | exact HB.out | apply zE | apply zB | apply zC | refine zD ?_ GE309.out) | exact HB.out)); rintro e w101 ⟨v328, rfl, ho0, hi, hb, hk, hsep⟩; refine ⟨_, rfl, ?_⟩; have hsep_ := zF.mk hsep; clear hsep; have n0_ := zF.mk (zI.blk hk (g' := gb309) (o := .cells #[.bool a2_0, .int .i64 a2_1, .slice A2_2 l2_2.length c2_2] 25 (0, 0)) (by (with_reducible repeat (first | refine zK ?_ _ | refine zL ?_ | refine zJ ?_ _)); exact BK309.out) NB309_314.out (by simp)); have n1_ := zF.mk (Kd.R_lower ho0 (below_size (by repeat (first | (with_reducible first | exact HB.out | apply zE | apply zB | apply zC | refine zD ?_ GE309.out) | exact HB.out)))); have n2_ := zF.mk (hb); have n3_ := zF.mk (hi); clear BK309; clear HB; clear HI314; have BK309 := n0_; have HO329 := n1_; have HB := n2_; have HI314 := n3_; clear n0_ n1_ n2_ n3_; (try clear hb); (try clear hb2); (try clear hk); (try clear hi); (try clear ho0)) | ((with_reducible refine gate_builtin (b := .append) (xs := #[.tmp 100, .tmp 101]) rfl ?_); (try (refine gate_guard (by rfl) ?_; dsimp only)); at_builtin; refine Kd.R_append_rows (Kd.int .u8) (w0 := w) w.heap.size rfl (.tmp 100) (.tmp 101) 26 5 (.int .u8 0) 1 rfl Try.underlying26 info5 rfl (by decide) (by omega) v328 t327 l3 _ _ _ (fun _ => True) (fun _ => False) rfl rfl ?aO ?aR (fun _ _ h => h) (fun _ h => h.elim) ?aF ?aB ?aS ?aL ?_; (case aR => repeat (first | exact (Kd.C_below HR3.out HB.out) | (with_reducible refine Kd.zU ?_ _) | (with_reducible refine Kd.zS ?_ _) | (with_reducible refine Kd.zT ?_))); (case aB => exact (by repeat (first | (with_reducible first | exact HB.out | apply zE | apply zB | apply zC | refine zD ?_ GE309.out) | exact HB.out))); (case aF => exact (fun _ _ => trivial)); (case aO => exact (by (with_reducible repeat (first | apply Kd.zR | apply Kd.zP | apply Kd.zQ)); exact HO329.out)); (case aS => exact (below_size (by repeat (first | (with_reducible first | exact HB.out | apply zE | apply zB | apply zC | refine zD ?_ GE309.out) | exact HB.out)))); (case aL => have := LMc30.out; omega); intro v333 w102 ho hb hg hat; rw [← Ny332.out] at ho; have n0_ := zF.mk (blk_grown (g := gb309) (o := .cells #[.bool a2_0, .int .i64 a2_1, .slice A2_2 l2_2.length c2_2] 25 (0, 0)) (by (with_reducible repeat (first | refine zK ?_ _ | refine zL ?_ | refine zJ ?_ _)); exact BK309.out) hg (Kd.R_ne HO329.out BK309.out (by decide))); have n1_ := zF.mk (zH.grownB (by refine zH.as HI314.out ?_; repeat (first | (with_reducible first | exact HI314.out | apply zH.alloc | apply zH.drewN | apply zH.drew) | exact HI314.out)) hg HO329.out hsep_.out); have n2_ := zF.mk (hb); have n3_ := zF.mk (ho); clear BK309; clear HI314; clear HB; clear HO329; have BK309 := n0_; have HI314 := n1_; have HB := n2_; have HO334 := n3_; clear n0_ n1_ n2_ n3_; clear ho hb hg hat; obtain ⟨Ao103, co103, eo103⟩ := Kd.R_slice HO334.out; subst eo103) | ((with_reducible refine gate_callee (f := 12) rfl ?_); refine goesL_ (some 103) rfl rfl Try.func12 (by kernel_rfl) rfl #[.slice Ao103 y332.length co103] rfl (by (try simp only [List.map_toArray, List.map_cons, List.map_nil]); first | done | rfl | (simp only [List.length_drop, List.length_take]; rfl)) ?_; (with_reducible refine (bits_Open.calls _ _ y332 t335 t336 t337 w _ ?side1 ?side2 ?side3 A31.out).mono ?_); (case side1 => repeat (first | (with_reducible first | exact HB.out | apply zE | apply zB | apply zC | refine zD ?_ GE309.out) | exact HB.out)); (case side2 => repeat (first | exact (Kd.R_reads' HO334.out).2.2 | (with_reducible refine Kd.zU ?_ _) | (with_reducible refine Kd.zS ?_ _) | (with_reducible refine Kd.zT ?_))); (case side3 => exact (Kd.R_reads' HO334.out).2.1); rintro e w104 ⟨g338, rfl, hi, hb, hb2⟩; refine ⟨_, rfl, ?_⟩; have n0_ := zF.mk (Kd.R_below (by (with_reducible repeat (first | apply Kd.zR | apply Kd.zP | apply Kd.zQ)); exact HO334.out) hb2); have n1_ := zF.mk (blk_below (g := gb309) (o := .cells #[.bool a2_0, .int .i64 a2_1, .slice A2_2 l2_2.length c2_2] 25 (0, 0)) (by (with_reducible repeat (first | refine zK ?_ _ | refine zL ?_ | refine zJ ?_ _)); exact BK309.out) hb2); have n2_ := zF.mk (zH.below (by refine zH.as HI314.out ?_; repeat (first | (with_reducible first | exact HI314.out | apply zH.alloc | apply zH.drewN | apply zH.drew) | exact HI314.out)) hb2); have n3_ := zF.mk (hb); have n4_ := zF.mk (hi); have n5_ := zF.mk (zG.ne_blk hi (blk_below (g := gb309) (o := .cells #[.bool a2_0, .int .i64 a2_1, .slice A2_2 l2_2.length c2_2] 25 (0, 0)) (by (with_reducible repeat (first | refine zK ?_ _ | refine zL ?_ | refine zJ ?_ _)); exact BK309.out) hb2) (by decide)); have n6_ := zF.mk (Ne.symm (zG.ne_blk hi (blk_below (g := gb309) (o := .cells #[.bool a2_0, .int .i64 a2_1, .slice A2_2 l2_2.length c2_2] 25 (0, 0)) (by (with_reducible repeat (first | refine zK ?_ _ | refine zL ?_ | refine zJ ?_ _)); exact BK309.out) hb2) (by decide))); clear HO334; clear BK309; clear HI314; clear HB; have HO334 := n0_; have BK309 := n1_; have HI314 := n2_; have HB := n3_; have HI338 := n4_; have NB338_309 := n5_; have NB309_338 := n6_; clear n0_ n1_ n2_ n3_ n4_ n5_ n6_; (try clear hb); (try clear hb2); (try clear hk); (try clear hi)) | ((with_reducible refine gate_callee (f := 14) rfl ?_); refine goesL_ (some 113) rfl rfl Try.func14 (by kernel_rfl) rfl #[.pointer (some ⟨g338, 0, none⟩), .int .i64 (wrap64 ((l0.length : Int) + (wrap64 (Int.tmod a1 33)))), .int .i64 (wrap64 (Int.tmod a1 33))] rfl (by (try simp only [List.map_toArray, List.map_cons, List.map_nil]); first | done | rfl | (simp only [List.length_drop, List.length_take]; rfl)) ?_; (with_reducible refine (section_Take.calls k2 g338 t335 t336 t337 (wrap64 ((l0.length : Int) + (wrap64 (Int.tmod a1 33)))) (wrap64 (Int.tmod a1 33)) t339 t342 t343 t344 t347 t348 t349 w _ ?side1 ?side2 A32.out).mono ?_); (case side1 => repeat (first | (with_reducible first | exact HI338.out | apply zG.alloc | apply zG.drewN | apply zG.drew) | exact HI338.out)); (case side2 => repeat (first | (with_reducible first | exact HB.out | apply zE | apply zB | apply zC | refine zD ?_ GE309.out) | exact HB.out)); rintro e w105 ⟨v340, v345, rfl, ho0, ho1, hi, hb, hk⟩; refine ⟨_, rfl, ?_⟩; have n0_ := zF.mk (zI.blk hk (g' := gb309) (o := .cells #[.bool a2_0, .int .i64 a2_1, .slice A2_2 l2_2.length c2_2] 25 (0, 0)) (by (with_reducible repeat (first | refine zK ?_ _ | refine zL ?_ | refine zJ ?_ _)); exact BK309.out) NB309_338.out (by simp)); have n1_ := zF.mk (zH.keepG (by refine zH.as HI314.out ?_; repeat (first | (with_reducible first | exact HI314.out | apply zH.alloc | apply zH.drewN | apply zH.drew) | exact HI314.out)) (zG.blk (show zG w _ g338 t335 t336 t337 from by repeat (first | (with_reducible first | exact HI338.out | apply zG.alloc | apply zG.drewN | apply zG.drew) | exact HI338.out))).choose_spec (by decide) hk); have n2_ := zF.mk (Kd.R_mono (Kd.R_keep (zG.apart (show zG w _ g338 t335 t336 t337 from by repeat (first | (with_reducible first | exact HI338.out | apply zG.alloc | apply zG.drewN | apply zG.drew) | exact HI338.out)) (by (with_reducible repeat (first | apply Kd.zR | apply Kd.zP | apply Kd.zQ)); exact HO334.out) (by decide)) hk (fun _ h => h.2)) (fun _ h => h.1)); have n3_ := zF.mk (Kd.R_lower ho0 (below_size (by repeat (first | (with_reducible first | exact HB.out | apply zE | apply zB | apply zC | refine zD ?_ GE309.out) | exact HB.out)))); have n4_ := zF.mk (Kd.R_lower ho1 (below_size (by repeat (first | (with_reducible first | exact HB.out | apply zE | apply zB | apply zC | refine zD ?_ GE309.out) | exact HB.out)))); have n5_ := zF.mk (hb); have n6_ := zF.mk (hi); clear BK309; clear HI314; clear HO334; clear HB; clear HI338; have BK309 := n0_; have HI314 := n1_; have HO334 := n2_; have HO341 := n3_; have HO346 := n4_; have HB := n5_; have HI338 := n6_; clear n0_ n1_ n2_ n3_ n4_ n5_ n6_; (try clear hb); (try clear hb2); (try clear hk); (try clear hi); (try clear ho0); (try clear ho1)) | ((with_reducible refine gate_dst (N := 19) rfl ?_); (try (refine gate_guard (by rfl) ?_; dsimp only)); refine box_event ?hg (N := 19) ?hd (cs := #[.bool false, .int .i64 0, .slice none 0 0]) (t := 25) ?hr ?_; (case hd => rfl); (case hg => rfl); (case hr => first | (go_simp; done) | (go_simp; rfl)); intro gb350 hg w106 hbox hb; have n0_ := zF.mk (Kd.R_below (by (with_reducible repeat (first | apply Kd.zR | apply Kd.zP | apply Kd.zQ)); exact HO334.out) hb); have n1_ := zF.mk (Kd.R_below (by (with_reducible repeat (first | apply Kd.zR | apply Kd.zP | apply Kd.zQ)); exact HO341.out) hb); have n2_ := zF.mk (Kd.R_below (by (with_reducible repeat (first | apply Kd.zR | apply Kd.zP | apply Kd.zQ)); exact HO346.out) hb); have n3_ := zF.mk (blk_below (g := gb309) (o := .cells #[.bool a2_0, .int .i64 a2_1, .slice A2_2 l2_2.length c2_2] 25 (0, 0)) (by (with_reducible repeat (first | refine zK ?_ _ | refine zL ?_ | refine zJ ?_ _)); exact BK309.out) hb); have n4_ := zF.mk (zH.below (by refine zH.as HI314.out ?_; repeat (first | (with_reducible first | exact HI314.out | apply zH.alloc | apply zH.drewN | apply zH.drew) | exact HI314.out)) hb); have n5_ := zF.mk (zG.below (by refine zG.as HI338.out ?_; repeat (first | (with_reducible first | exact HI338.out | apply zG.alloc | apply zG.drewN | apply zG.drew) | exact HI338.out)) hb); have n6_ := zF.mk (below_step (by repeat (first | (with_reducible first | exact HB.out | apply zE | apply zB | apply zC | refine zD ?_ GE309.out) | exact HB.out)) hb); have n7_ := zF.mk (hbox); have n8_ := zF.mk ((by rw [hg]; exact (below_size (by repeat (first | (with_reducible first | exact HB.out | apply zE | apply zB | apply zC | refine zD ?_ GE309.out) | exact HB.out))) : w.heap.size ≤ gb350)); have n9_ := zF.mk ((by rw [hg]; exact (below_size (by repeat (first | (with_reducible first | exact HB.out | apply zE | apply zB | apply zC | refine zD ?_ GE309.out) | exact HB.out))) : w.heap.size ≤ gb350)); have n10_ := zF.mk ((by rw [hg]; exact Nat.ne_of_lt (blk_lt (g := gb309) (o := .cells #[.bool a2_0, .int .i64 a2_1, .slice A2_2 l2_2.length c2_2] 25 (0, 0)) (by (with_reducible repeat (first | refine zK ?_ _ | refine zL ?_ | refine zJ ?_ _)); exact BK309.out)) : gb309 ≠ gb350)); have n11_ := zF.mk ((by rw [hg]; exact Nat.ne_of_gt (blk_lt (g := gb309) (o := .cells #[.bool a2_0, .int .i64 a2_1, .slice A2_2 l2_2.length c2_2] 25 (0, 0)) (by (with_reducible repeat (first | refine zK ?_ _ | refine zL ?_ | refine zJ ?_ _)); exact BK309.out)) : gb350 ≠ gb309)); have n12_ := zF.mk ((by rw [hg]; exact Nat.ne_of_lt (zH.lt (show zH w _ g314 t330 t331 from by repeat (first | (with_reducible first | exact HI314.out | apply zH.alloc | apply zH.drewN | apply zH.drew) | exact HI314.out))) : g314 ≠ gb350)); have n13_ := zF.mk ((by rw [hg]; exact Nat.ne_of_gt (zH.lt (show zH w _ g314 t330 t331 from by repeat (first | (with_reducible first | exact HI314.out | apply zH.alloc | apply zH.drewN | apply zH.drew) | exact HI314.out))) : gb350 ≠ g314)); have n14_ := zF.mk ((by rw [hg]; exact Nat.ne_of_lt (zG.lt (show zG w _ g338 t335 t348 t349 from by repeat (first | (with_reducible first | exact HI338.out | apply zG.alloc | apply zG.drewN | apply zG.drew) | exact HI338.out))) : g338 ≠ gb350)); have n15_ := zF.mk ((by rw [hg]; exact Nat.ne_of_gt (zG.lt (show zG w _ g338 t335 t348 t349 from by repeat (first | (with_reducible first | exact HI338.out | apply zG.alloc | apply zG.drewN | apply zG.drew) | exact HI338.out))) : gb350 ≠ g338)); clear HO334; clear HO341; clear HO346; clear BK309; clear HI314; clear HI338; clear HB; have HO334 := n0_; have HO341 := n1_; have HO346 := n2_; have BK309 := n3_; have HI314 := n4_; have HI338 := n5_; have HB := n6_; have BK350 := n7_; have GW350 := n8_; have GE350 := n9_; have NB309_350 := n10_; have NB350_309 := n11_; have NB314_350 := n12_; have NB350_314 := n13_; have NB338_350 := n14_; have NB350_338 := n15_; clear n0_ n1_ n2_ n3_ n4_ n5_ n6_ n7_ n8_ n9_ n10_ n11_ n12_ n13_ n14_ n15_; clear hb hbox hg; have hnb107 := NB350_309.out; have hnc107 := NB309_350.out; have hnb108 := NB350_314.out; have hnc108 := NB314_350.out; have hnb109 := NB350_338.out; have hnc109 := NB338_350.out; have hcz110_0 : w106.cell? ⟨gb350, 0, none⟩ = some (.bool false) := (zM BK350.out 0).trans rfl; have hcz110_1 : w106.cell? ⟨gb350, 1, none⟩ = some (.int .i64 0) := (zM BK350.out 1).trans rfl; have hcz110_2 : w106.cell? ⟨gb350, 2, none⟩ = some (.slice none 0 0) := (zM BK350.out 2).trans rfl; have hfz110_0 := zN BK350.out 0; have hfz110_1 := zN BK350.out 1; have hfz110_2 := zN BK350.out 2; obtain ⟨Ao111, co111, eo111⟩ := Kd.R_slice HO346.out; subst eo111; obtain ⟨Ao112, co112, eo112⟩ := Kd.R_slice HO341.out; subst eo112) | (go_at_call 15; (with_reducible refine (serinetteref01_Ints.calls k2 _ _ t339 _ _ l0 true _ ?side1 ?side2 ?side3 ?side4 A90.out).mono ?_); (case side1 => refine (Kd.R_reads' (e := 3) (base := w.heap.size) (ok := fun k_ => True) (n := t339.length) (c := co112) ?_).2.2; exact (by (with_reducible repeat (first | apply Kd.zR | apply Kd.zP | apply Kd.zQ)); exact (Kd.R_mono (Kd.R_far (p := ⟨gb350, 2, none⟩) (Kd.R_far (p := ⟨gb350, 1, none⟩) (Kd.R_far (p := ⟨gb350, 0, none⟩) (Kd.R_types HO341.out BK350.out (by decide)) (fun _ hk => hk.2) (.bool t342)) (fun _ hk => hk.2) (.int .i64 t343)) (fun _ hk => hk.2) (.slice Ao111 t344.length co111)) (fun _ h_ => h_.1)))); (case side2 => exact (Kd.R_reads' HO341.out).2.1); (case side3 => exact Kd.C_below HR0.out (by repeat (first | (with_reducible first | exact HB.out | apply zE | apply zB | apply zC | refine zD ?_ GE309.out | refine zD ?_ GE350.out) | exact HB.out))); (case side4 => exact HC0.out); rintro e w' ⟨rfl, ⟨nd, rfl⟩⟩; have hnb113 := NB309_338.out; have hnc113 := NB338_309.out; have hcz114_0 : w106.cell? ⟨gb309, 0, none⟩ = some (.bool a2_0) := (zM BK309.out 0).trans rfl; have hcz114_1 : w106.cell? ⟨gb309, 1, none⟩ = some (.int .i64 a2_1) := (zM BK309.out 1).trans rfl; have hcz114_2 : w106.cell? ⟨gb309, 2, none⟩ = some (.slice A2_2 l2_2.length c2_2) := (zM BK309.out 2).trans rfl; have hfz114_0 := zN BK309.out 0; have hfz114_1 := zN BK309.out 1; have hfz114_2 := zN BK309.out 2) | (go_at_call 16; (with_reducible refine (serinetteref14_Same.calls k2 a2_0 a2_1 _ _ l2_2 t342 t343 _ _ t344 true _ ?side1 ?side2 ?side3 ?side4 A92.out).mono ?_); (case side1 => exact Kd.C_below HR2_2.out (by repeat (first | (with_reducible first | exact HB.out | apply zE | apply zB | apply zC | refine zD ?_ GE309.out | refine zD ?_ GE350.out) | exact HB.out))); (case side2 => exact HC2_2.out); (case side3 => refine (Kd.R_reads' (e := 50) (base := w.heap.size) (ok := fun k_ => True) (n := t344.length) (c := co111) ?_).2.2; exact (by (with_reducible repeat (first | apply Kd.zR | apply Kd.zP | apply Kd.zQ)); exact (Kd.R_mono (Kd.R_far (p := ⟨gb350, 2, none⟩) (Kd.R_far (p := ⟨gb350, 1, none⟩) (Kd.R_far (p := ⟨gb350, 0, none⟩) (Kd.R_types HO346.out BK350.out (by decide)) (fun _ hk => hk.2) (.bool t342)) (fun _ hk => hk.2) (.int .i64 t343)) (fun _ hk => hk.2) (.slice Ao111 t344.length co111)) (fun _ h_ => h_.1)))); (case side4 => exact (Kd.R_reads' HO346.out).2.1); rintro e w115 ⟨rfl, hb⟩; have n0_ := zF.mk (Kd.R_below (by (with_reducible repeat (first | apply Kd.zR | apply Kd.zP | apply Kd.zQ)); exact (Kd.R_mono (Kd.R_far (p := ⟨gb350, 2, none⟩) (Kd.R_far (p := ⟨gb350, 1, none⟩) (Kd.R_far (p := ⟨gb350, 0, none⟩) (Kd.R_types HO334.out BK350.out (by decide)) (fun _ hk => hk.2) (.bool t342)) (fun _ hk => hk.2) (.int .i64 t343)) (fun _ hk => hk.2) (.slice Ao111 t344.length co111)) (fun _ h_ => h_.1))) hb); have n1_ := zF.mk (Kd.R_below (by (with_reducible repeat (first | apply Kd.zR | apply Kd.zP | apply Kd.zQ)); exact (Kd.R_mono (Kd.R_far (p := ⟨gb350, 2, none⟩) (Kd.R_far (p := ⟨gb350, 1, none⟩) (Kd.R_far (p := ⟨gb350, 0, none⟩) (Kd.R_types HO341.out BK350.out (by decide)) (fun _ hk => hk.2) (.bool t342)) (fun _ hk => hk.2) (.int .i64 t343)) (fun _ hk => hk.2) (.slice Ao111 t344.length co111)) (fun _ h_ => h_.1))) hb); have n2_ := zF.mk (Kd.R_below (by (with_reducible repeat (first | apply Kd.zR | apply Kd.zP | apply Kd.zQ)); exact (Kd.R_mono (Kd.R_far (p := ⟨gb350, 2, none⟩) (Kd.R_far (p := ⟨gb350, 1, none⟩) (Kd.R_far (p := ⟨gb350, 0, none⟩) (Kd.R_types HO346.out BK350.out (by decide)) (fun _ hk => hk.2) (.bool t342)) (fun _ hk => hk.2) (.int .i64 t343)) (fun _ hk => hk.2) (.slice Ao111 t344.length co111)) (fun _ h_ => h_.1))) hb); have n3_ := zF.mk (blk_below (g := gb309) (o := .cells #[.bool a2_0, .int .i64 a2_1, .slice A2_2 l2_2.length c2_2] 25 (0, 0)) (by (with_reducible repeat (first | refine zK ?_ _ | refine zL ?_ | refine zJ ?_ _)); refine zO ?_ NB309_350.out _; (with_reducible repeat (first | refine zK ?_ _ | refine zL ?_ | refine zJ ?_ _)); refine zO ?_ NB309_350.out _; (with_reducible repeat (first | refine zK ?_ _ | refine zL ?_ | refine zJ ?_ _)); refine zO ?_ NB309_350.out _; (with_reducible repeat (first | refine zK ?_ _ | refine zL ?_ | refine zJ ?_ _)); exact BK309.out) hb); have n4_ := zF.mk (zH.below (show zH w _ g314 t330 t331 from by repeat (first | (with_reducible first | exact HI314.out | apply zH.alloc | apply zH.drewN | apply zH.drew | refine zH.farT (t := 25) (b := gb350) ?_ (by decide) (by repeat (first | exact zA.of BK350.out | apply zA.set | apply zA.drewN | apply zA.drew | apply zA.alloc)) _) | exact HI314.out)) hb); have n5_ := zF.mk (zG.below (show zG w _ g338 t335 t348 t349 from by repeat (first | (with_reducible first | exact HI338.out | apply zG.alloc | apply zG.drewN | apply zG.drew | refine zG.farT (t := 25) (b := gb350) ?_ (by decide) (by repeat (first | exact zA.of BK350.out | apply zA.set | apply zA.drewN | apply zA.drew | apply zA.alloc)) _) | exact HI338.out)) hb); have n6_ := zF.mk (blk_below (g := gb350) (o := .cells #[.bool t342, .int .i64 t343, .slice Ao111 t344.length co111] 25 (0, 0)) (by (with_reducible repeat (first | refine zK ?_ _ | refine zL ?_ | refine zJ ?_ _)); refine blk_put (cs := #[.bool t342, .int .i64 t343, .slice none 0 0]) ?_ 2 _ rfl; (with_reducible repeat (first | refine zK ?_ _ | refine zL ?_ | refine zJ ?_ _)); refine blk_put (cs := #[.bool t342, .int .i64 0, .slice none 0 0]) ?_ 1 _ rfl; (with_reducible repeat (first | refine zK ?_ _ | refine zL ?_ | refine zJ ?_ _)); refine blk_put (cs := #[.bool false, .int .i64 0, .slice none 0 0]) ?_ 0 _ rfl; (with_reducible repeat (first | refine zK ?_ _ | refine zL ?_ | refine zJ ?_ _)); exact BK350.out) hb); have n7_ := zF.mk (below_step (by repeat (first | (with_reducible first | exact HB.out | apply zE | apply zB | apply zC | refine zD ?_ GE309.out | refine zD ?_ GE350.out) | exact HB.out)) hb); clear HO334; clear HO341; clear HO346; clear BK309; clear HI314; clear HI338; clear BK350; clear HB; have HO334 := n0_; have HO341 := n1_; have HO346 := n2_; have BK309 := n3_; have HI314 := n4_; have HI338 := n5_; have BK350 := n6_; have HB := n7_; clear n0_ n1_ n2_ n3_ n4_ n5_ n6_ n7_; (try clear hb); (try clear hb2); (try clear hk); (try clear hi)) | (go_at_call 17; (with_reducible refine (bits_Reader_At.calls g338 t335 t348 t349 t353 t354 t355 w _ ?side1 ?side2 A94.out).mono ?_); (case side1 => repeat (first | (with_reducible first | exact HI338.out | apply zG.alloc | apply zG.drewN | apply zG.drew | refine zG.farT (t := 25) (b := gb350) ?_ (by decide) (by repeat (first | exact zA.of BK350.out | apply zA.set | apply zA.drewN | apply zA.drew | apply zA.alloc)) _) | exact HI338.out)); (case side2 => repeat (first | (with_reducible first | exact HB.out | apply zE | apply zB | apply zC | refine zD ?_ GE309.out | refine zD ?_ GE350.out) | exact HB.out)); rintro e w116 ⟨rfl, hi, hb, hk⟩; have n0_ := zF.mk (zI.blk hk (g' := gb309) (o := .cells #[.bool a2_0, .int .i64 a2_1, .slice A2_2 l2_2.length c2_2] 25 (0, 0)) (by (with_reducible repeat (first | refine zK ?_ _ | refine zL ?_ | refine zJ ?_ _)); exact BK309.out) NB309_338.out (by simp)); have n1_ := zF.mk (zH.keepG (by refine zH.as HI314.out ?_; repeat (first | (with_reducible first | exact HI314.out | apply zH.alloc | apply zH.drewN | apply zH.drew | refine zH.farT (t := 25) (b := gb350) ?_ (by decide) (by repeat (first | exact zA.of BK350.out | apply zA.set | apply zA.drewN | apply zA.drew | apply zA.alloc)) _) | exact HI314.out)) (zG.blk (show zG w _ g338 t335 t348 t349 from by repeat (first | (with_reducible first | exact HI338.out | apply zG.alloc | apply zG.drewN | apply zG.drew | refine zG.farT (t := 25) (b := gb350) ?_ (by decide) (by repeat (first | exact zA.of BK350.out | apply zA.set | apply zA.drewN | apply zA.drew | apply zA.alloc)) _) | exact HI338.out))).choose_spec (by decide) hk); have n2_ := zF.mk (Kd.R_mono (Kd.R_keep (zG.apart (show zG w _ g338 t335 t348 t349 from by repeat (first | (with_reducible first | exact HI338.out | apply zG.alloc | apply zG.drewN | apply zG.drew | refine zG.farT (t := 25) (b := gb350) ?_ (by decide) (by repeat (first | exact zA.of BK350.out | apply zA.set | apply zA.drewN | apply zA.drew | apply zA.alloc)) _) | exact HI338.out)) (by (with_reducible repeat (first | apply Kd.zR | apply Kd.zP | apply Kd.zQ)); exact HO334.out) (by decide)) hk (fun _ h => h.2)) (fun _ h => h.1)); have n3_ := zF.mk (Kd.R_mono (Kd.R_keep (zG.apart (show zG w _ g338 t335 t348 t349 from by repeat (first | (with_reducible first | exact HI338.out | apply zG.alloc | apply zG.drewN | apply zG.drew | refine zG.farT (t := 25) (b := gb350) ?_ (by decide) (by repeat (first | exact zA.of BK350.out | apply zA.set | apply zA.drewN | apply zA.drew | apply zA.alloc)) _) | exact HI338.out)) (by (with_reducible repeat (first | apply Kd.zR | apply Kd.zP | apply Kd.zQ)); exact HO341.out) (by decide)) hk (fun _ h => h.2)) (fun _ h => h.1)); have n4_ := zF.mk (Kd.R_mono (Kd.R_keep (zG.apart (show zG w _ g338 t335 t348 t349 from by repeat (first | (with_reducible first | exact HI338.out | apply zG.alloc | apply zG.drewN | apply zG.drew | refine zG.farT (t := 25) (b := gb350) ?_ (by decide) (by repeat (first | exact zA.of BK350.out | apply zA.set | apply zA.drewN | apply zA.drew | apply zA.alloc)) _) | exact HI338.out)) (by (with_reducible repeat (first | apply Kd.zR | apply Kd.zP | apply Kd.zQ)); exact HO346.out) (by decide)) hk (fun _ h => h.2)) (fun _ h => h.1)); have n5_ := zF.mk (zI.blk hk (g' := gb350) (o := .cells #[.bool t342, .int .i64 t343, .slice Ao111 t344.length co111] 25 (0, 0)) (by (with_reducible repeat (first | refine zK ?_ _ | refine zL ?_ | refine zJ ?_ _)); exact BK350.out) NB350_338.out (by simp)); have n6_ := zF.mk (hb); have n7_ := zF.mk (hi); clear BK309; clear HI314; clear HO334; clear HO341; clear HO346; clear BK350; clear HB; clear HI338; have BK309 := n0_; have HI314 := n1_; have HO334 := n2_; have HO341 := n3_; have HO346 := n4_; have BK350 := n5_; have HB := n6_; have HI338 := n7_; clear n0_ n1_ n2_ n3_ n4_ n5_ n6_ n7_; (try clear hb); (try clear hb2); (try clear hk); (try clear hi)) | ((with_reducible refine gate_dst (N := 19) rfl ?_); (try (refine gate_guard (by rfl) ?_; dsimp only)); refine box_event ?hg (N := 19) ?hd (cs := #[.bool false, .int .i64 0, .slice none 0 0]) (t := 25) ?hr ?_; (case hd => rfl); (case hg => rfl); (case hr => first | (go_simp; done) | (go_simp; rfl)); intro gb350 hg w65 hbox hb; have n0_ := zF.mk (Kd.R_below (by (with_reducible repeat (first | apply Kd.zR | apply Kd.zP | apply Kd.zQ)); exact HO334.out) hb); have n1_ := zF.mk (Kd.R_below (by (with_reducible repeat (first | apply Kd.zR | apply Kd.zP | apply Kd.zQ)); exact HO341.out) hb); have n2_ := zF.mk (Kd.R_below (by (with_reducible repeat (first | apply Kd.zR | apply Kd.zP | apply Kd.zQ)); exact HO346.out) hb); have n3_ := zF.mk (blk_below (g := gb309) (o := .cells #[.bool a2_0, .int .i64 a2_1, .slice A2_2 l2_2.length c2_2] 25 (0, 0)) (by (with_reducible repeat (first | refine zK ?_ _ | refine zL ?_ | refine zJ ?_ _)); exact BK309.out) hb); have n4_ := zF.mk (zH.below (by refine zH.as HI314.out ?_; repeat (first | (with_reducible first | exact HI314.out | apply zH.alloc | apply zH.drewN | apply zH.drew) | exact HI314.out)) hb); have n5_ := zF.mk (zG.below (by refine zG.as HI338.out ?_; repeat (first | (with_reducible first | exact HI338.out | apply zG.alloc | apply zG.drewN | apply zG.drew) | exact HI338.out)) hb); have n6_ := zF.mk (below_step (by repeat (first | (with_reducible first | exact HB.out | apply zE | apply zB | apply zC | refine zD ?_ GE309.out) | exact HB.out)) hb); have n7_ := zF.mk (hbox); have n8_ := zF.mk ((by rw [hg]; exact (below_size (by repeat (first | (with_reducible first | exact HB.out | apply zE | apply zB | apply zC | refine zD ?_ GE309.out) | exact HB.out))) : w.heap.size ≤ gb350)); have n9_ := zF.mk ((by rw [hg]; exact (below_size (by repeat (first | (with_reducible first | exact HB.out | apply zE | apply zB | apply zC | refine zD ?_ GE309.out) | exact HB.out))) : w.heap.size ≤ gb350)); have n10_ := zF.mk ((by rw [hg]; exact Nat.ne_of_lt (blk_lt (g := gb309) (o := .cells #[.bool a2_0, .int .i64 a2_1, .slice A2_2 l2_2.length c2_2] 25 (0, 0)) (by (with_reducible repeat (first | refine zK ?_ _ | refine zL ?_ | refine zJ ?_ _)); exact BK309.out)) : gb309 ≠ gb350)); have n11_ := zF.mk ((by rw [hg]; exact Nat.ne_of_gt (blk_lt (g := gb309) (o := .cells #[.bool a2_0, .int .i64 a2_1, .slice A2_2 l2_2.length c2_2] 25 (0, 0)) (by (with_reducible repeat (first | refine zK ?_ _ | refine zL ?_ | refine zJ ?_ _)); exact BK309.out)) : gb350 ≠ gb309)); have n12_ := zF.mk ((by rw [hg]; exact Nat.ne_of_lt (zH.lt (show zH w _ g314 t330 t331 from by repeat (first | (with_reducible first | exact HI314.out | apply zH.alloc | apply zH.drewN | apply zH.drew) | exact HI314.out))) : g314 ≠ gb350)); have n13_ := zF.mk ((by rw [hg]; exact Nat.ne_of_gt (zH.lt (show zH w _ g314 t330 t331 from by repeat (first | (with_reducible first | exact HI314.out | apply zH.alloc | apply zH.drewN | apply zH.drew) | exact HI314.out))) : gb350 ≠ g314)); have n14_ := zF.mk ((by rw [hg]; exact Nat.ne_of_lt (zG.lt (show zG w _ g338 t335 t348 t349 from by repeat (first | (with_reducible first | exact HI338.out | apply zG.alloc | apply zG.drewN | apply zG.drew) | exact HI338.out))) : g338 ≠ gb350)); have n15_ := zF.mk ((by rw [hg]; exact Nat.ne_of_gt (zG.lt (show zG w _ g338 t335 t348 t349 from by repeat (first | (with_reducible first | exact HI338.out | apply zG.alloc | apply zG.drewN | apply zG.drew) | exact HI338.out))) : gb350 ≠ g338)); clear HO334; clear HO341; clear HO346; clear BK309; clear HI314; clear HI338; clear HB; have HO334 := n0_; have HO341 := n1_; have HO346 := n2_; have BK309 := n3_; have HI314 := n4_; have HI338 := n5_; have HB := n6_; have BK350 := n7_; have GW350 := n8_; have GE350 := n9_; have NB309_350 := n10_; have NB350_309 := n11_; have NB314_350 := n12_; have NB350_314 := n13_; have NB338_350 := n14_; have NB350_338 := n15_; clear n0_ n1_ n2_ n3_ n4_ n5_ n6_ n7_ n8_ n9_ n10_ n11_ n12_ n13_ n14_ n15_; clear hb hbox hg; have hnb66 := NB350_309.out; have hnc66 := NB309_350.out; have hnb67 := NB350_314.out; have hnc67 := NB314_350.out; have hnb68 := NB350_338.out; have hnc68 := NB338_350.out; have hcz69_0 : w65.cell? ⟨gb350, 0, none⟩ = some (.bool false) := (zM BK350.out 0).trans rfl; have hcz69_1 : w65.cell? ⟨gb350, 1, none⟩ = some (.int .i64 0) := (zM BK350.out 1).trans rfl; have hcz69_2 : w65.cell? ⟨gb350, 2, none⟩ = some (.slice none 0 0) := (zM BK350.out 2).trans rfl; have hfz69_0 := zN BK350.out 0; have hfz69_1 := zN BK350.out 1; have hfz69_2 := zN BK350.out 2; obtain ⟨Ao70, co70, eo70⟩ := Kd.R_slice HO346.out; subst eo70) | (go_at_call 16; (with_reducible refine (serinetteref14_Same.calls k2 a2_0 a2_1 _ _ l2_2 t342 t343 _ _ t344 false _ ?side1 ?side2 ?side3 ?side4 A92.out).mono ?_); (case side1 => exact Kd.C_below HR2_2.out (by repeat (first | (with_reducible first | exact HB.out | apply zE | apply zB | apply zC | refine zD ?_ GE309.out | refine zD ?_ GE350.out) | exact HB.out))); (case side2 => exact HC2_2.out); (case side3 => refine (Kd.R_reads' (e := 50) (base := w.heap.size) (ok := fun k_ => True) (n := t344.length) (c := co111) ?_).2.2; exact (by (with_reducible repeat (first | apply Kd.zR | apply Kd.zP | apply Kd.zQ)); exact (Kd.R_mono (Kd.R_far (p := ⟨gb350, 2, none⟩) (Kd.R_far (p := ⟨gb350, 1, none⟩) (Kd.R_far (p := ⟨gb350, 0, none⟩) (Kd.R_types HO346.out BK350.out (by decide)) (fun _ hk => hk.2) (.bool t342)) (fun _ hk => hk.2) (.int .i64 t343)) (fun _ hk => hk.2) (.slice Ao111 t344.length co111)) (fun _ h_ => h_.1)))); (case side4 => exact (Kd.R_reads' HO346.out).2.1); rintro e w137 ⟨rfl, hb⟩; have n0_ := zF.mk (Kd.R_below (by (with_reducible repeat (first | apply Kd.zR | apply Kd.zP | apply Kd.zQ)); exact (Kd.R_mono (Kd.R_far (p := ⟨gb350, 2, none⟩) (Kd.R_far (p := ⟨gb350, 1, none⟩) (Kd.R_far (p := ⟨gb350, 0, none⟩) (Kd.R_types HO334.out BK350.out (by decide)) (fun _ hk => hk.2) (.bool t342)) (fun _ hk => hk.2) (.int .i64 t343)) (fun _ hk => hk.2) (.slice Ao111 t344.length co111)) (fun _ h_ => h_.1))) hb); have n1_ := zF.mk (Kd.R_below (by (with_reducible repeat (first | apply Kd.zR | apply Kd.zP | apply Kd.zQ)); exact (Kd.R_mono (Kd.R_far (p := ⟨gb350, 2, none⟩) (Kd.R_far (p := ⟨gb350, 1, none⟩) (Kd.R_far (p := ⟨gb350, 0, none⟩) (Kd.R_types HO341.out BK350.out (by decide)) (fun _ hk => hk.2) (.bool t342)) (fun _ hk => hk.2) (.int .i64 t343)) (fun _ hk => hk.2) (.slice Ao111 t344.length co111)) (fun _ h_ => h_.1))) hb); have n2_ := zF.mk (Kd.R_below (by (with_reducible repeat (first | apply Kd.zR | apply Kd.zP | apply Kd.zQ)); exact (Kd.R_mono (Kd.R_far (p := ⟨gb350, 2, none⟩) (Kd.R_far (p := ⟨gb350, 1, none⟩) (Kd.R_far (p := ⟨gb350, 0, none⟩) (Kd.R_types HO346.out BK350.out (by decide)) (fun _ hk => hk.2) (.bool t342)) (fun _ hk => hk.2) (.int .i64 t343)) (fun _ hk => hk.2) (.slice Ao111 t344.length co111)) (fun _ h_ => h_.1))) hb); have n3_ := zF.mk (blk_below (g := gb309) (o := .cells #[.bool a2_0, .int .i64 a2_1, .slice A2_2 l2_2.length c2_2] 25 (0, 0)) (by (with_reducible repeat (first | refine zK ?_ _ | refine zL ?_ | refine zJ ?_ _)); refine zO ?_ NB309_350.out _; (with_reducible repeat (first | refine zK ?_ _ | refine zL ?_ | refine zJ ?_ _)); refine zO ?_ NB309_350.out _; (with_reducible repeat (first | refine zK ?_ _ | refine zL ?_ | refine zJ ?_ _)); refine zO ?_ NB309_350.out _; (with_reducible repeat (first | refine zK ?_ _ | refine zL ?_ | refine zJ ?_ _)); exact BK309.out) hb); have n4_ := zF.mk (zH.below (show zH w _ g314 t330 t331 from by repeat (first | (with_reducible first | exact HI314.out | apply zH.alloc | apply zH.drewN | apply zH.drew | refine zH.farT (t := 25) (b := gb350) ?_ (by decide) (by repeat (first | exact zA.of BK350.out | apply zA.set | apply zA.drewN | apply zA.drew | apply zA.alloc)) _) | exact HI314.out)) hb); have n5_ := zF.mk (zG.below (show zG w _ g338 t335 t348 t349 from by repeat (first | (with_reducible first | exact HI338.out | apply zG.alloc | apply zG.drewN | apply zG.drew | refine zG.farT (t := 25) (b := gb350) ?_ (by decide) (by repeat (first | exact zA.of BK350.out | apply zA.set | apply zA.drewN | apply zA.drew | apply zA.alloc)) _) | exact HI338.out)) hb); have n6_ := zF.mk (blk_below (g := gb350) (o := .cells #[.bool t342, .int .i64 t343, .slice Ao111 t344.length co111] 25 (0, 0)) (by (with_reducible repeat (first | refine zK ?_ _ | refine zL ?_ | refine zJ ?_ _)); refine blk_put (cs := #[.bool t342, .int .i64 t343, .slice none 0 0]) ?_ 2 _ rfl; (with_reducible repeat (first | refine zK ?_ _ | refine zL ?_ | refine zJ ?_ _)); refine blk_put (cs := #[.bool t342, .int .i64 0, .slice none 0 0]) ?_ 1 _ rfl; (with_reducible repeat (first | refine zK ?_ _ | refine zL ?_ | refine zJ ?_ _)); refine blk_put (cs := #[.bool false, .int .i64 0, .slice none 0 0]) ?_ 0 _ rfl; (with_reducible repeat (first | refine zK ?_ _ | refine zL ?_ | refine zJ ?_ _)); exact BK350.out) hb); have n7_ := zF.mk (below_step (by repeat (first | (with_reducible first | exact HB.out | apply zE | apply zB | apply zC | refine zD ?_ GE309.out | refine zD ?_ GE350.out) | exact HB.out)) hb); clear HO334; clear HO341; clear HO346; clear BK309; clear HI314; clear HI338; clear BK350; clear HB; have HO334 := n0_; have HO341 := n1_; have HO346 := n2_; have BK309 := n3_; have HI314 := n4_; have HI338 := n5_; have BK350 := n6_; have HB := n7_; clear n0_ n1_ n2_ n3_ n4_ n5_ n6_ n7_; (try clear hb); (try clear hb2); (try clear hk); (try clear hi)) | (go_at_call 15; (with_reducible refine (serinetteref01_Ints.calls k2 _ _ t339 _ _ l0 false _ ?side1 ?side2 ?side3 ?side4 A90.out).mono ?_); (case side1 => refine (Kd.R_reads' (e := 3) (base := w.heap.size) (ok := fun k_ => True) (n := t339.length) (c := co112) ?_).2.2; exact (by (with_reducible repeat (first | apply Kd.zR | apply Kd.zP | apply Kd.zQ)); exact (Kd.R_mono (Kd.R_far (p := ⟨gb350, 2, none⟩) (Kd.R_far (p := ⟨gb350, 1, none⟩) (Kd.R_far (p := ⟨gb350, 0, none⟩) (Kd.R_types HO341.out BK350.out (by decide)) (fun _ hk => hk.2) (.bool t342)) (fun _ hk => hk.2) (.int .i64 t343)) (fun _ hk => hk.2) (.slice Ao111 t344.length co111)) (fun _ h_ => h_.1)))); (case side2 => exact (Kd.R_reads' HO341.out).2.1); (case side3 => exact Kd.C_below HR0.out (by repeat (first | (with_reducible first | exact HB.out | apply zE | apply zB | apply zC | refine zD ?_ GE309.out | refine zD ?_ GE350.out) | exact HB.out))); (case side4 => exact HC0.out); rintro e w' ⟨rfl, ⟨nd, rfl⟩⟩) | (go_at_call 11; (with_reducible refine (bits_Writer_Len.calls g314 t318 t319 t321 t322 t323 w _ ?side1 ?side2 A197.out).mono ?_); (case side1 => repeat (first | (with_reducible first | exact HI314.out | apply zH.alloc | apply zH.drewN | apply zH.drew) | exact HI314.out)); (case side2 => repeat (first | (with_reducible first | exact HB.out | apply zE | apply zB | apply zC | refine zD ?_ GE309.out) | exact HB.out)); rintro e w204 ⟨rfl, hi, hb, hk⟩; have n0_ := zF.mk (zI.blk hk (g' := gb309) (o := .cells #[.bool a2_0, .int .i64 a2_1, .slice A2_2 l2_2.length c2_2] 25 (0, 0)) (by (with_reducible repeat (first | refine zK ?_ _ | refine zL ?_ | refine zJ ?_ _)); exact BK309.out) NB309_314.out (by simp)); have n1_ := zF.mk (hb); have n2_ := zF.mk (hi); clear BK309; clear HB; clear HI314; have BK309 := n0_; have HB := n1_; have HI314 := n2_; clear n0_ n1_ n2_; (try clear hb); (try clear hb2); (try clear hk); (try clear hi)))
                  go_ret
                  first | (exact ⟨by first | rfl | (simp [errW_none, errW_some] <;> rfl) | (simp [*, errW_none, errW_some] <;> rfl), by repeat (first | (with_reducible first | exact HB.out | apply zE | apply zB | apply zC | refine zD ?_ GE309.out | refine zD ?_ GE350.out) | exact HB.out)⟩) | (exact ⟨by first | rfl | (simp [errW_none, errW_some] <;> rfl) | (simp [*, errW_none, errW_some] <;> rfl), by repeat (first | (with_reducible first | exact HB.out | apply zE | apply zB | apply zC | refine zD ?_ GE309.out) | exact HB.out)⟩)
        · replace c16 := Bool.eq_false_iff.mpr c16
          subst c16
          have H1 : (some t310) = some r := by rw [if_neg (show ¬ (false = true) by decide)] at H; exact H
          clear H
          have H := H1
          clear H1
          obtain rfl := Option.some.inj H
          have hcz216_0 : wc.cell? ⟨gb309, 0, none⟩ = some (.bool a2_0) := (zM BK309.out 0).trans rfl
          have hcz216_1 : wc.cell? ⟨gb309, 1, none⟩ = some (.int .i64 a2_1) := (zM BK309.out 1).trans rfl
          have hcz216_2 : wc.cell? ⟨gb309, 2, none⟩ = some (.slice A2_2 l2_2.length c2_2) := (zM BK309.out 2).trans rfl
          have hfz216_0 := zN BK309.out 0
          have hfz216_1 := zN BK309.out 1
          have hfz216_2 := zN BK309.out 2
          go_wp2_with (first | ((with_reducible refine gate_callee (f := 7) rfl ?_); refine goesL_ (some 43) rfl rfl Try.func7 (by kernel_rfl) rfl #[.slice A0 l0.length c0, .int .i64 (wrap64 (Int.tmod a1 33)), .agg #[.bool a2_0, .int .i64 a2_1, .slice A2_2 l2_2.length c2_2]] rfl (by (try simp only [List.map_toArray, List.map_cons, List.map_nil]); first | done | rfl | (simp only [List.length_drop, List.length_take]; rfl)) ?_; (with_reducible refine (serinettelaw15_short.calls kj5 _ _ l0 (wrap64 (Int.tmod a1 33)) a2_0 a2_1 _ _ l2_2 false _ ?side1 ?side2 ?side3 ?side4 A14.out).mono ?_); (case side1 => repeat (first | exact (Kd.C_below HR0.out HB.out) | (with_reducible refine Kd.zU ?_ _) | (with_reducible refine Kd.zS ?_ _) | (with_reducible refine Kd.zT ?_))); (case side2 => exact HC0.out); (case side3 => repeat (first | exact (Kd.C_below HR2_2.out HB.out) | (with_reducible refine Kd.zU ?_ _) | (with_reducible refine Kd.zS ?_ _) | (with_reducible refine Kd.zT ?_))); (case side4 => exact HC2_2.out); rintro e w217 ⟨rfl, hb⟩; refine ⟨_, rfl, ?_⟩; have n0_ := zF.mk (blk_below (g := gb309) (o := .cells #[.bool a2_0, .int .i64 a2_1, .slice A2_2 l2_2.length c2_2] 25 (0, 0)) (by (with_reducible repeat (first | refine zK ?_ _ | refine zL ?_ | refine zJ ?_ _)); exact BK309.out) hb); have n1_ := zF.mk (below_step (by repeat (first | (with_reducible first | exact HB.out | apply zE | apply zB | apply zC | refine zD ?_ GE309.out) | exact HB.out)) hb); clear BK309; clear HB; have BK309 := n0_; have HB := n1_; clear n0_ n1_; (try clear hb); (try clear hb2); (try clear hk); (try clear hi)) | ((with_reducible refine gate_callee (f := 8) rfl ?_); refine goesL_ (some 44) rfl rfl Try.func8 (by kernel_rfl) rfl #[] rfl (by (try simp only [List.map_toArray, List.map_cons, List.map_nil]); first | done | rfl | (simp only [List.length_drop, List.length_take]; rfl)) ?_; (with_reducible refine (bits_New.calls  t312 t313 w _ ?side1 A15.out).mono ?_); (case side1 => repeat (first | (with_reducible first | exact HB.out | apply zE | apply zB | apply zC | refine zD ?_ GE309.out) | exact HB.out)); rintro e w218 ⟨g314, rfl, hi, hb, hb2⟩; refine ⟨_, rfl, ?_⟩; have n0_ := zF.mk (blk_below (g := gb309) (o := .cells #[.bool a2_0, .int .i64 a2_1, .slice A2_2 l2_2.length c2_2] 25 (0, 0)) (by (with_reducible repeat (first | refine zK ?_ _ | refine zL ?_ | refine zJ ?_ _)); exact BK309.out) hb2); have n1_ := zF.mk (hb); have n2_ := zF.mk (hi); have n3_ := zF.mk (zH.ne_blk hi (blk_below (g := gb309) (o := .cells #[.bool a2_0, .int .i64 a2_1, .slice A2_2 l2_2.length c2_2] 25 (0, 0)) (by (with_reducible repeat (first | refine zK ?_ _ | refine zL ?_ | refine zJ ?_ _)); exact BK309.out) hb2) (by decide)); have n4_ := zF.mk (Ne.symm (zH.ne_blk hi (blk_below (g := gb309) (o := .cells #[.bool a2_0, .int .i64 a2_1, .slice A2_2 l2_2.length c2_2] 25 (0, 0)) (by (with_reducible repeat (first | refine zK ?_ _ | refine zL ?_ | refine zJ ?_ _)); exact BK309.out) hb2) (by decide))); clear BK309; clear HB; have BK309 := n0_; have HB := n1_; have HI314 := n2_; have NB314_309 := n3_; have NB309_314 := n4_; clear n0_ n1_ n2_ n3_ n4_; (try clear hb); (try clear hb2); (try clear hk); (try clear hi)))
          go_ret
          exact ⟨by first | rfl | (simp [errW_none, errW_some] <;> rfl) | (simp [*, errW_none, errW_some] <;> rfl), by repeat (first | (with_reducible first | exact HB.out | apply zE | apply zB | apply zC | refine zD ?_ GE309.out) | exact HB.out)⟩
end Go.Proofs.Ytokdjeoecnnckaa.PA
end
section
namespace Go.Proofs.Ytokdjeoecnnckaa.PA
open Go Go.RowKit Go.Proofs.YtokdjeoecnnckaaW.PrintWords Go.Proofs.YtokdjeoecnnckaaW.PrintLast Go.Proofs.YtokdjeoecnnckaaW.PrintMore
attribute [local go_sem] max2_int min2_int max_two min_two max_three min_three max_four min_four
def sumL (n : Int) (by_ : List Int) (wd : Int) : List Int := n :: (by_ ++ [wd])
set_option linter.unusedSimpArgs false
set_option linter.unusedVariables false
set_option linter.unusedSimpArgs false
set_option linter.unusedVariables false
def bestK (ys : List Int) : Nat → Int × Int
  | 0 => (0, ys.getD 0 0)
  | k + 1 => if ys.getD (k + 1) 0 < (bestK ys k).2 then (((k + 1 : Nat) : Int), ys.getD (k + 1) 0) else bestK ys k
def bestRaw (n wd : Int) : Int := wrap64 (5 + wrap64 (n * wd))
def bestP (n : Int) (ys : List Int) (wd : Int) (m : Nat) : (Int × Bool) × Int :=
  if wd ≤ 31 ∧ bestRaw n wd < (bestK ys m).2 then ((wd, true), bestRaw n wd) else (((bestK ys m).1, false), (bestK ys m).2)
set_option linter.unusedSimpArgs false
set_option linter.unusedVariables false
structure Sm where
  n : Int
  ys : List Int
  wd : Int
def Sm.c (s : Sm) : List Value := (sumL s.n s.ys s.wd).map (Value.int .i64)
def bitsOf (s : Sm) (m : Nat) : Int := (bestP s.n s.ys s.wd m).2
def mostOf (wide : Bool) : Nat := if wide then 30 else 14
def sizeOf_ (wide : Bool) : Int := if wide then 5 else 4
end Go.Proofs.Ytokdjeoecnnckaa.PA
end
section
namespace Go.Proofs.Ytokdjeoecnnckaa.PL
open Go.RowKit Go.Proofs.Ytokdjeoecnnckaa.PA Go.Proofs.YtokdjeoecnnckaaW.PrintWords Go.Proofs.YtokdjeoecnnckaaW.PrintMore
set_option linter.unusedVariables false
set_option linter.unusedSimpArgs false
def NearAll (l : List Int) : Prop := ∀ n ∈ l, IsNear n
instance (l : List Int) : Decidable (NearAll l) := by unfold NearAll; infer_instance
theorem nearAll_cons {x : Int} {t : List Int} : NearAll (x :: t) ↔ IsNear x ∧ NearAll t := by simp [NearAll]
theorem nearAll_append {a b : List Int} : NearAll (a ++ b) ↔ NearAll a ∧ NearAll b := by
  simp only [NearAll, List.mem_append]
  exact ⟨fun h => ⟨fun n hn => h n (.inl hn), fun n hn => h n (.inr hn)⟩, fun h n hn => hn.elim (h.1 n) (h.2 n)⟩
theorem anyFar_ev (l : List Int) (hl : l.length ≤ 1000) : Ev (fun k => serinetteshadow_AnyFarCost.f k l) (!decide (NearAll l)) := by
  have key : ∀ (t p : List Int), l = p ++ t → Ev (fun k => serinetteshadow_AnyFarCost.l0 k l (l.length : Int) (p.length : Int)) (!decide (NearAll t)) := by
    intro t
    induction t with
    | nil =>
      intro p hp
      refine succ ?_
      simp only [serinetteshadow_AnyFarCost.l0]
      exact neg (by rw [hp]; simp) (cst (by simp [NearAll]))
    | cons x t ih =>
      intro p hp
      have l1 := congrArg List.length hp
      simp only [List.length_append, List.length_cons] at l1
      refine succ ?_
      simp only [serinetteshadow_AnyFarCost.l0]
      have ra : rd l (p.length : Int) = x := by rw [hp]; exact rd_at _ _ _
      rw [ra, w64 (by omega) (by omega)]
      refine pos (by omega) (pos (by omega) (pos (by omega) ?_))
      by_cases h1 : x < -8589934592
      · exact pos h1 (cst (by rw [decide_eq_false (fun h => by have := (nearAll_cons.1 h).1; unfold IsNear at this; omega)]; rfl))
      · refine neg h1 ?_
        by_cases h2 : x ≥ 8589934592
        · exact pos h2 (cst (by rw [decide_eq_false (fun h => by have := (nearAll_cons.1 h).1; unfold IsNear at this; omega)]; rfl))
        · refine neg h2 ?_
          have e : decide (NearAll (x :: t)) = decide (NearAll t) := decide_eq_decide.2 (nearAll_cons.trans ⟨fun h => h.2, fun h => ⟨by unfold IsNear; omega, h⟩⟩)
          rw [e]
          have := ih (p ++ [x]) (by simp [hp])
          simpa using this
  exact key l [] rfl
def bitsL (k : Nat) : List Int → Int
  | [] => 0
  | n :: t => sz n k + bitsL k t
theorem bitsL_append (k : Nat) : ∀ (a b : List Int), bitsL k (a ++ b) = bitsL k a + bitsL k b
  | [], b => by simp [bitsL]
  | n :: t, b => by simp only [List.cons_append, bitsL, bitsL_append k t b]; omega
theorem bitsL_bd (k : Nat) (hk : k ≤ 30) : ∀ (l : List Int), NearAll l → (1 + k) * l.length ≤ bitsL k l ∧ bitsL k l ≤ 17179869300 * l.length
  | [], _ => by simp [bitsL]
  | n :: t, h => by
    have h1 := sz_bd (nearAll_cons.1 h).1 hk
    have h2 := bitsL_bd k hk t (nearAll_cons.1 h).2
    simp only [bitsL, List.length_cons]
    have e1 : (1 + (k : Int)) * ((t.length + 1 : Nat) : Int) = (1 + (k : Int)) * t.length + (1 + k) := by rw [Int.natCast_succ, Int.mul_add, Int.mul_one]
    omega
def inn (n : Int) (w : Nat) : Prop := 1 ≤ w ∧ -(2 ^ (w - 1)) ≤ n ∧ n < 2 ^ (w - 1)
instance (n : Int) (w : Nat) : Decidable (inn n w) := by unfold inn; infer_instance
theorem inn_eq (n : Int) (w : Nat) (hw : w ≤ 62) (h : -9223372036854775808 ≤ n ∧ n < 9223372036854775808) : pcm_In.f n (w : Int) = some (decide (inn n w)) := by
  unfold pcm_In.f
  by_cases h1 : (w : Int) < 1
  · rw [if_pos h1]; congr 1; exact (decide_eq_false (fun h => by have := h.1; omega)).symm
  · have e : (w : Int) - 1 = ((w - 1 : Nat) : Int) := by omega
    rw [if_neg h1, if_neg (by omega), e, w64 (by omega) (by omega), if_pos (by omega), shr_eq' n (by omega)]
    have hp : (0 : Int) < 2 ^ (w - 1) := Int.pow_pos (by decide)
    have iff0 : n / 2 ^ (w - 1) = 0 ↔ 0 ≤ n ∧ n < 2 ^ (w - 1) := by
      constructor
      · intro h0
        have := Int.mul_ediv_add_emod n (2 ^ (w - 1))
        rw [h0, Int.mul_zero, Int.zero_add] at this
        have h2 := Int.emod_nonneg n (Int.ne_of_gt hp); have h3 := Int.emod_lt_of_pos n hp
        omega
      · intro h0; exact Int.ediv_eq_zero_of_lt h0.1 h0.2
    have iff1 : n / 2 ^ (w - 1) = -1 ↔ -(2 ^ (w - 1)) ≤ n ∧ n < 0 := by
      constructor
      · intro h0
        have := Int.mul_ediv_add_emod n (2 ^ (w - 1))
        rw [h0] at this
        have h2 := Int.emod_nonneg n (Int.ne_of_gt hp); have h3 := Int.emod_lt_of_pos n hp
        omega
      · intro h0
        refine ((Int.ediv_emod_unique (r := n + 2 ^ (w - 1)) (q := -1) hp).2 ⟨by omega, by omega, by omega⟩).1
    by_cases h0 : n / 2 ^ (w - 1) = 0
    · rw [if_pos h0]
      congr 1
      exact (decide_eq_true (by have := iff0.1 h0; exact ⟨by omega, by omega, by omega⟩)).symm
    · rw [if_neg h0]
      congr 1
      by_cases h2 : n / 2 ^ (w - 1) = -1
      · rw [h2]
        exact (decide_eq_true (by have := iff1.1 h2; exact ⟨by omega, by omega, by omega⟩)).symm
      · rw [beq_eq_false_iff_ne.2 h2]
        refine (decide_eq_false (fun hi => ?_)).symm
        rcases Int.lt_or_le n 0 with h3 | h3
        · exact h2 (iff1.2 ⟨hi.2.1, h3⟩)
        · exact h0 (iff0.2 ⟨h3, hi.2.2⟩)
theorem inn_succ {n : Int} {w : Nat} (h : inn n w) : inn n (w + 1) := by
  obtain ⟨h1, h2, h3⟩ := h
  have e : (2 : Int) ^ (w + 1 - 1) = 2 ^ (w - 1) * 2 := by rw [show w + 1 - 1 = (w - 1) + 1 by omega, Int.pow_succ]
  have hp : (0 : Int) < 2 ^ (w - 1) := Int.pow_pos (by decide)
  exact ⟨by omega, by rw [e]; omega, by rw [e]; omega⟩
def fitsW (l : List Int) (w : Nat) : Prop := ∀ n ∈ l, n = 0 ∨ inn n w
instance (l : List Int) (w : Nat) : Decidable (fitsW l w) := by unfold fitsW; infer_instance
theorem fitsW_succ {l : List Int} {w : Nat} (h : fitsW l w) : fitsW l (w + 1) := fun n hn => (h n hn).imp id inn_succ
theorem fitsW_mono {l : List Int} {v w : Nat} (h : fitsW l v) (hvw : v ≤ w) : fitsW l w := by
  obtain ⟨d, rfl⟩ : ∃ d, w = v + d := ⟨w - v, by omega⟩
  clear hvw
  induction d with
  | zero => exact h
  | succ d ih => exact fitsW_succ ih
theorem fitsW_34 {l : List Int} (h : NearAll l) : fitsW l 34 := fun n hn => by
  have := h n hn
  unfold IsNear at this
  exact .inr ⟨by omega, by simpa using this.1, by simpa using this.2⟩
def widGo (l : List Int) : Nat → Nat → Nat
  | 0, w => w
  | d + 1, w => if fitsW l w then w else widGo l d (w + 1)
def wid (l : List Int) : Nat := widGo l 34 0
theorem widGo_spec {l : List Int} (h : fitsW l 34) : ∀ d w, w + d = 34 → fitsW l (widGo l d w) ∧ widGo l d w ≤ 34 ∧ ∀ v, w ≤ v → v < widGo l d w → ¬ fitsW l v
  | 0, w, e => by
    obtain rfl : w = 34 := by omega
    exact ⟨h, Nat.le_refl _, fun v h1 h2 => by simp only [widGo] at h2; omega⟩
  | d + 1, w, e => by
    simp only [widGo]
    split
    · rename_i hf
      exact ⟨hf, by omega, fun v h1 h2 => by omega⟩
    · rename_i hf
      obtain ⟨h1, h2, h3⟩ := widGo_spec h d (w + 1) (by omega)
      refine ⟨h1, h2, fun v hv1 hv2 => ?_⟩
      rcases Nat.lt_or_ge w v with h5 | h5
      · exact h3 v h5 hv2
      · obtain rfl : v = w := by omega
        exact hf
theorem wid_spec {l : List Int} (h : NearAll l) : fitsW l (wid l) ∧ wid l ≤ 34 ∧ ∀ v, v < wid l → ¬ fitsW l v := by
  obtain ⟨h1, h2, h3⟩ := widGo_spec (fitsW_34 h) 34 0 rfl
  exact ⟨h1, h2, fun v hv => h3 v (Nat.zero_le _) hv⟩
theorem wid_eq {l : List Int} (h : NearAll l) {w : Nat} (h1 : fitsW l w) (h2 : ∀ v, v < w → ¬ fitsW l v) : wid l = w := by
  obtain ⟨g1, _, g2⟩ := wid_spec h
  rcases Nat.lt_trichotomy (wid l) w with h3 | h3 | h3
  · exact absurd g1 (h2 _ h3)
  · exact h3
  · exact absurd h1 (g2 _ h3)
theorem fitsW_append {a b : List Int} {w : Nat} : fitsW (a ++ b) w ↔ fitsW a w ∧ fitsW b w := by
  simp only [fitsW, List.mem_append]
  exact ⟨fun h => ⟨fun n hn => h n (.inl hn), fun n hn => h n (.inr hn)⟩, fun h n hn => hn.elim (h.1 n) (h.2 n)⟩
theorem width_ev (l : List Int) (hl : l.length ≤ 1000) : Ev (fun q => cost_Width.f q l) (if NearAll l then (wid l : Int) else -1) := by
  unfold cost_Width.f
  refine bnd (anyFar_ev l hl) ?_
  by_cases hn : NearAll l
  · rw [if_pos hn]
    refine neg (by simp [hn]) ?_
    have key : ∀ (t p : List Int) (W : Nat), l = p ++ t → W ≤ 34 → fitsW p W → (∀ v, v < W → ¬ fitsW p v) → Ev (fun q => cost_Width.l0 q (W : Int) l (l.length : Int) (p.length : Int)) (wid l : Int) := by
      intro t
      induction t with
      | nil =>
        intro p W hp hW h1 h2
        rw [List.append_nil] at hp
        subst hp
        refine succ ?_
        simp only [cost_Width.l0]
        exact neg (by omega) (cst (by rw [wid_eq hn h1 h2]))
      | cons x t ih =>
        intro p W hp hW h1 h2
        have l1 := congrArg List.length hp
        simp only [List.length_append, List.length_cons] at l1
        refine succ ?_
        simp only [cost_Width.l0]
        have ra : rd l (p.length : Int) = x := by rw [hp]; exact rd_at _ _ _
        have hx : IsNear x := hn x (by rw [hp]; simp)
        rw [ra]
        refine pos (by omega) (pos (by omega) (pos (by omega) ?_))
        have nxt : ∀ W : Nat, W ≤ 34 → fitsW (p ++ [x]) W → (∀ v, v < W → ¬ fitsW (p ++ [x]) v) → Ev (fun q => cost_Width.l0 q (W : Int) l (l.length : Int) (wrap64 ((p.length : Int) + 1))) (wid l : Int) := fun W hW g1 g2 => by
          rw [w64 (by omega) (by omega)]
          have := ih (p ++ [x]) W (by simp [hp]) hW g1 g2
          simpa using this
        have inner : ∀ (d W : Nat), W + d = 34 → fitsW p W → (∀ v, v < W → ¬ fitsW (p ++ [x]) v) → Ev (fun q => cost_Width.l1 q (W : Int) x l (l.length : Int) (p.length : Int)) (wid l : Int) := by
          intro d
          induction d with
          | zero =>
            intro W hWd g1 g2
            obtain rfl : W = 34 := by omega
            have hi : fitsW (p ++ [x]) 34 := fitsW_34 (nearAll_append.2 ⟨fun n h => hn n (by rw [hp]; simp [h]), fun n h => by simp at h; rw [h]; exact hx⟩)
            refine succ ?_
            simp only [cost_Width.l1]
            by_cases h0 : x = 0
            · exact pos h0 (nxt 34 (by omega) hi g2)
            · refine neg h0 ?_
              rw [inn_eq x 34 (by omega) (near_64 hx)]
              simp only [Option.bind_some]
              have := (hi x (by simp)).resolve_left h0
              exact pos (by simpa using this) (nxt 34 (by omega) hi g2)
          | succ d ihd =>
            intro W hWd g1 g2
            refine succ ?_
            simp only [cost_Width.l1]
            by_cases h0 : x = 0
            · exact pos h0 (nxt W (by omega) (fitsW_append.2 ⟨g1, fun n h => by simp at h; exact .inl (h.trans h0)⟩) g2)
            · refine neg h0 ?_
              rw [inn_eq x W (by omega) (near_64 hx)]
              simp only [Option.bind_some]
              by_cases hi : inn x W
              · exact pos (by simpa using hi) (nxt W (by omega) (fitsW_append.2 ⟨g1, fun n h => by simp at h; rw [h]; exact .inr hi⟩) g2)
              · refine neg (by simpa using hi) ?_
                rw [w64 (x := (W : Int) + 1) (by omega) (by omega)]
                refine ihd (W + 1) (by omega) (fitsW_succ g1) (fun v hv => ?_)
                rcases Nat.lt_or_ge v W with h5 | h5
                · exact g2 v h5
                · obtain rfl : v = W := by omega
                  exact fun hf => ((fitsW_append.1 hf).2 x (by simp)).elim h0 hi
        exact inner (34 - W) W (by omega) h1 (fun v hv hf => h2 v hv (fitsW_append.1 hf).1)
    exact key l [] 0 rfl (by omega) (fun n h => by simp at h) (fun v hv => by omega)
  · rw [if_neg hn]
    exact pos (by simp [hn]) (cst rfl)
end Go.Proofs.Ytokdjeoecnnckaa.PL
end
section
namespace Go.Proofs.Ytokdjeoecnnckaa.PL
open Go.RowKit Go.Proofs.Ytokdjeoecnnckaa.PA Go.Proofs.YtokdjeoecnnckaaW.PrintWords Go.Proofs.YtokdjeoecnnckaaW.PrintLast Go.Proofs.YtokdjeoecnnckaaW.PrintMore
set_option linter.unusedVariables false
set_option linter.unusedSimpArgs false
def cutsP (n order : Int) (o : Nat) : List Int :=
  if (n + order) % 2 ^ o = 0 ∧ order < (n + order) / 2 ^ o then ((n + order) / 2 ^ o - order) :: List.replicate (2 ^ o - 1) ((n + order) / 2 ^ o) else []
theorem shl_i64' {x : Int} {s : Nat} (h : s ≤ 64) (h0 : -9223372036854775808 ≤ x * 2 ^ s) (h1 : x * 2 ^ s < 9223372036854775808) : shl .i64 x (s : Int) = x * 2 ^ s := by
  unfold shl
  rw [Int.toNat_natCast, show min s IntKind.i64.bits = s by simp [IntKind.bits]; omega]
  exact (i64_w _).trans (w64 h0 h1)
theorem pow15 {o : Nat} (ho : o ≤ 15) : (1 : Int) ≤ 2 ^ o ∧ (2 : Int) ^ o ≤ 32768 := by
  have h1 : (2 : Nat) ^ o ≤ 2 ^ 15 := Nat.pow_le_pow_right (by decide) ho
  have h2 : 0 < (2 : Nat) ^ o := Nat.pow_pos (by decide)
  have h3 : ((2 ^ o : Nat) : Int) = (2 : Int) ^ o := by simp
  have h4 : (2 : Nat) ^ 15 = 32768 := by decide
  omega
theorem cuts_l0 (order share : Int) (N : Nat) (hN : 0 < N) (hN2 : N ≤ 40000) (hs : 0 ≤ share - order) (hs2 : share - order < 9223372036854775808) :
    ∀ (d i : Nat), i + d = N → Ev (fun k => parts_Cuts.l0 k order share (List.replicate i share ++ List.replicate d 0) (N : Int) (i : Int)) ((share - order) :: List.replicate (N - 1) share) := by
  intro d
  induction d with
  | zero =>
    intro i hi
    obtain rfl : i = N := by omega
    refine succ ?_
    simp only [parts_Cuts.l0]
    refine neg (by omega) (pos (by simp; omega) (cst ?_))
    obtain ⟨m, rfl⟩ : ∃ m, i = m + 1 := ⟨i - 1, by omega⟩
    have e1 : List.replicate (m + 1) share ++ List.replicate 0 0 = share :: List.replicate m share := by simp [List.replicate_succ]
    rw [e1]
    have e2 : rd (share :: List.replicate m share) 0 = share := by simp [rd]
    rw [e2, w64 (by omega) (by omega)]
    simp
  | succ d ih =>
    intro i hi
    refine succ ?_
    simp only [parts_Cuts.l0]
    refine pos (by omega) (pos (by omega) (pos (by simp; omega) ?_))
    rw [w64 (by omega) (by omega)]
    have e1 : (List.replicate i share ++ List.replicate (d + 1) 0).set ((i : Int)).toNat share = List.replicate (i + 1) share ++ List.replicate d 0 := by
      rw [Int.toNat_natCast, List.replicate_succ, List.set_append_right _ _ (by simp)]
      simp [List.replicate_succ', List.append_assoc]
    rw [e1]
    have := ih (i + 1) (by omega)
    simpa using this
theorem cuts_ev (n order : Int) (o : Nat) (hn0 : 0 ≤ n) (hn : n ≤ 100000) (ho0 : 0 ≤ order) (ho1 : order ≤ 100000) (ho : o ≤ 15) : Ev (fun k => parts_Cuts.f k n order (o : Int)) (cutsP n order o) := by
  obtain ⟨p1, p2⟩ := pow15 ho
  have hd0 : 0 ≤ (n + order) / 2 ^ o := Int.ediv_nonneg (by omega) (by omega)
  have hd1 : (n + order) / 2 ^ o ≤ n + order := Int.ediv_le_self _ (by omega)
  have hme := Int.mul_ediv_add_emod (n + order) (2 ^ o)
  have hm0 := Int.emod_nonneg (n + order) (show (2 : Int) ^ o ≠ 0 by omega)
  have hm1 := Int.emod_lt_of_pos (n + order) (show (0 : Int) < 2 ^ o by omega)
  unfold parts_Cuts.f
  refine neg (by omega) (neg (by omega) (neg (by omega) ?_))
  rw [decide_eq_false (by omega)]
  refine succ ?_
  simp only [parts_Cuts.j0]
  rw [w64 (x := n + order) (by omega) (by omega), shr_eq' _ (by omega)]
  have esh : shl .i64 ((n + order) / 2 ^ o) (o : Int) = 2 ^ o * ((n + order) / 2 ^ o) := by
    rw [Int.mul_comm] at hme
    rw [shl_i64' (by omega) (by omega) (by omega), Int.mul_comm]
  rw [esh]
  refine neg (by decide) (pos (by omega) ?_)
  have j1 : ∀ b : Bool, ((n + order) % 2 ^ o = 0) → b = decide ((n + order) / 2 ^ o ≤ order) → Ev (fun k => parts_Cuts.j1 k order (o : Int) ((n + order) / 2 ^ o) b) (cutsP n order o) := by
    intro b h0 hb
    refine succ ?_
    simp only [parts_Cuts.j1]
    by_cases hs : (n + order) / 2 ^ o ≤ order
    · refine pos (by rw [hb]; exact decide_eq_true hs) (cst ?_)
      rw [cutsP, if_neg (fun h => by omega)]
    · refine neg (by rw [hb]; simpa using hs) (pos (by omega) ?_)
      have es1 : shl .i64 1 (o : Int) = 2 ^ o := by rw [shl_i64' (by omega) (by omega) (by omega)]; omega
      rw [es1]
      have et : ((2 : Int) ^ o).toNat = 2 ^ o := by
        have h3 : ((2 ^ o : Nat) : Int) = (2 : Int) ^ o := by simp
        rw [← h3, Int.toNat_natCast]
      rw [et]
      have h3 : ((2 ^ o : Nat) : Int) = (2 : Int) ^ o := by simp
      refine pos (by omega) (pos (by omega) ?_)
      simp only [Option.bind_some]
      rw [cutsP, if_pos ⟨h0, by omega⟩]
      have := cuts_l0 order ((n + order) / 2 ^ o) (2 ^ o) (by omega) (by omega) (by omega) (by omega) (2 ^ o) 0 (by omega)
      simpa using this
  by_cases h0 : (n + order) % 2 ^ o = 0
  · exact pos (by omega) (j1 _ h0 rfl)
  · refine neg (by omega) ?_
    refine succ ?_
    simp only [parts_Cuts.j1]
    refine pos trivial (cst ?_)
    rw [cutsP, if_neg (fun h => h0 h.1)]
theorem cutsP_len {n order : Int} {o : Nat} (h : cutsP n order o ≠ []) : (cutsP n order o).length = 2 ^ o := by
  unfold cutsP at h ⊢
  split at h
  · rename_i hc
    rw [if_pos hc]
    have : 0 < 2 ^ o := Nat.pow_pos (by decide)
    rw [List.length_cons, List.length_replicate]
    omega
  · exact absurd rfl h
end Go.Proofs.Ytokdjeoecnnckaa.PL
end
section
namespace Go.Proofs.Ytokdjeoecnnckaa.PA
open Go Go.RowKit Go.Proofs.YtokdjeoecnnckaaW.PrintWords Go.Proofs.YtokdjeoecnnckaaW.PrintLast Go.Proofs.YtokdjeoecnnckaaW.PrintMore
attribute [local go_sem] max2_int min2_int max_two min_two max_three min_three max_four min_four
set_option linter.unusedSimpArgs false
set_option linter.unusedVariables false
def Fits : List Int → Nat → Prop
  | [], _ => True
  | n :: cs, r => 0 ≤ n ∧ n ≤ (r : Int) ∧ Fits cs (r - n.toNat)
set_option linter.unusedSimpArgs false
set_option linter.unusedVariables false
theorem wp_scope_ghost_k {P : Program} {Q : Exit → Act → World → Prop} {a : Act} {w : World} {c B : Code} (l : Nat) (hf : findLabel c l = some (Code.seq .skip B)) (I : Nat → Act → World → Prop)
    (round : ∀ n a w, I n a w → ∀ (J : Nat → Act → World → Prop) (K : Act → World → Prop), (∀ k a' w', I k a' w' → J k a' w') → (∀ a' w', Handed J n a' w' → K a' w') → B.wp P (Exit.jump l K Q) a w)
    (first : ∀ K : Act → World → Prop, (∀ n a w, I n a w → B.wp P (Exit.jump l K Q) a w) → c.wp P (Exit.jump l K Q) a w) : (Code.scope c).wp P Q a w := by
  have key : ∀ n a w, I n a w → B.wp P (Exit.jump l (fun a' w' => (∃ n, I n a' w') ∧ leastOf (fun n => I n a' w') < leastOf (fun n => I n a w)) Q) a w := by
    intro n a w hI
    refine wp_mono (round _ a w (leastOf_spec (p := fun n => I n a w) ⟨n, hI⟩).1 I (fun a' w' => Handed I (leastOf fun n => I n a w) a' w') (fun _ _ _ q => q) (fun _ _ q => q)) ?_
    intro e a' w' hq
    cases e with
    | goto l' =>
      obtain ⟨rfl, n', hlt, hI'⟩ := hq
      exact ⟨rfl, ⟨n', hI'⟩, Nat.lt_of_le_of_lt ((leastOf_spec (p := fun n => I n a' w') ⟨n', hI'⟩).2 n' hI') hlt⟩
    | normal => exact hq
    | exit id => exact hq
    | ret => exact hq
    | panic ch => exact hq
    | outgrown => exact hq
  refine wp_scope_jumps (rest := Code.seq .skip B) l (fun a w => ∃ n, I n a w) (fun a w => leastOf (fun n => I n a w)) hf ?_ ?_
  · refine first _ fun n a w hI => wp_mono (key n a w hI) ?_
    intro e a' w' hq
    cases e with
    | goto l' => exact ⟨hq.1, hq.2.1⟩
    | normal => exact hq
    | exit id => exact hq
    | ret => exact hq
    | panic ch => exact hq
    | outgrown => exact hq
  · rintro a w ⟨n, hI⟩
    exact wp_seq (wp_skip (key n a w hI))
structure Cur where
  f : Bool
  o : Int
  ps : List S50
  n : Int
set_option linter.unusedSimpArgs false
set_option linter.unusedVariables false
set_option linter.unusedSimpArgs false
set_option linter.unusedVariables false
theorem fits_rep (s : Int) (h : 0 ≤ s) : ∀ (m r : Nat), s * m ≤ (r : Int) → Fits (List.replicate m s) r
  | 0, r, _ => trivial
  | m + 1, r, hr => by
    have e : s * ((m + 1 : Nat) : Int) = s * m + s := by rw [Int.natCast_succ, Int.mul_add, Int.mul_one]
    have h0 : 0 ≤ s * (m : Int) := Int.mul_nonneg h (by omega)
    refine ⟨h, by omega, fits_rep s h m _ ?_⟩
    omega
theorem fits_cuts (n : Nat) (order : Int) (ho : 0 ≤ order) (o : Nat) : Fits (PL.cutsP (n : Int) order o) n := by
  unfold PL.cutsP
  split
  · rename_i h
    have hp : (0 : Int) < 2 ^ o := Int.pow_pos (by decide)
    have h3 : ((2 ^ o : Nat) : Int) = (2 : Int) ^ o := by simp
    have hme := Int.mul_ediv_add_emod ((n : Int) + order) (2 ^ o)
    have hp2 : 0 < 2 ^ o := Nat.pow_pos (by decide)
    have e : ((n : Int) + order) / 2 ^ o * ((2 ^ o - 1 : Nat) : Int) = 2 ^ o * (((n : Int) + order) / 2 ^ o) - ((n : Int) + order) / 2 ^ o := by
      rw [show ((2 ^ o - 1 : Nat) : Int) = 2 ^ o - 1 by omega, Int.mul_sub, Int.mul_one, Int.mul_comm]
    have h0 : 0 ≤ ((n : Int) + order) / 2 ^ o * ((2 ^ o - 1 : Nat) : Int) := Int.mul_nonneg (by omega) (by omega)
    exact ⟨by omega, by omega, fits_rep _ (by omega) _ _ (by omega)⟩
  · trivial
end Go.Proofs.Ytokdjeoecnnckaa.PA
end
section
namespace Go.Proofs.Ytokdjeoecnnckaa.PL
open Go.RowKit Go.Proofs.Ytokdjeoecnnckaa.PA Go.Proofs.YtokdjeoecnnckaaW.PrintWords Go.Proofs.YtokdjeoecnnckaaW.PrintLast Go.Proofs.YtokdjeoecnnckaaW.PrintMore
set_option linter.unusedVariables false
set_option linter.unusedSimpArgs false
def split : List Int → List Int → List (List Int)
  | [], _ => []
  | n :: cs, l => l.take n.toNat :: split cs (l.drop n.toNat)
theorem split_len : ∀ (cs l : List Int), (split cs l).length = cs.length
  | [], _ => rfl
  | _ :: cs, l => by simp [split, split_len cs]
theorem mostOf_le (w : Bool) : mostOf w ≤ 30 := by cases w <;> decide
theorem sizeOf_bd (w : Bool) : 4 ≤ sizeOf_ w ∧ sizeOf_ w ≤ 5 := by cases w <;> decide
end Go.Proofs.Ytokdjeoecnnckaa.PL
end
section
namespace Go.Proofs.Ytokdjeoecnnckaa.PL
open Go.RowKit Go.Proofs.Ytokdjeoecnnckaa.PA Go.Proofs.YtokdjeoecnnckaaW.PrintWords Go.Proofs.YtokdjeoecnnckaaW.PrintMore
set_option linter.unusedVariables false
set_option linter.unusedSimpArgs false
theorem bits_ev (l : List Int) (k : Int) (hl : l.length ≤ 1000) : Ev (fun q => cost_Bits.f q l k) (if NearAll l then bitsL (kk k) l else -1) := by
  unfold cost_Bits.f
  refine bnd (anyFar_ev l hl) ?_
  by_cases hn : NearAll l
  · rw [if_pos hn]
    refine neg (by simp [hn]) ?_
    have key : ∀ (t p : List Int), l = p ++ t → Ev (fun q => cost_Bits.l0 q k (bitsL (kk k) p) l (l.length : Int) (p.length : Int)) (bitsL (kk k) l) := by
      intro t
      induction t with
      | nil =>
        intro p hp
        refine succ ?_
        simp only [cost_Bits.l0]
        exact neg (by rw [hp]; simp) (cst (by rw [hp, List.append_nil]))
      | cons x t ih =>
        intro p hp
        have l1 := congrArg List.length hp
        simp only [List.length_append, List.length_cons] at l1
        refine succ ?_
        simp only [cost_Bits.l0]
        have ra : rd l (p.length : Int) = x := by rw [hp]; exact rd_at _ _ _
        have hx : IsNear x := hn x (by rw [hp]; simp)
        have hp' : NearAll p := fun n h => hn n (by rw [hp]; simp [h])
        have b1 := bitsL_bd (kk k) (kk_le k) p hp'
        have b2 := sz_bd hx (kk_le k)
        have b0 : 0 ≤ (1 + ((kk k : Nat) : Int)) * (p.length : Int) := Int.mul_nonneg (by omega) (by omega)
        rw [ra, w64 (x := (p.length : Int) + 1) (by omega) (by omega), size_eq]
        simp only [Option.bind_some]
        rw [if_pos hx, w64 (by omega) (by omega)]
        refine pos (by omega) (pos (by omega) (pos (by omega) ?_))
        have := ih (p ++ [x]) (by simp [hp])
        rw [bitsL_append] at this
        simpa [bitsL] using this
    exact key l [] rfl
  · rw [if_neg hn]
    exact pos (by simp [hn]) (cst rfl)
theorem each_ev (l : List Int) (K : Int) (raw : Bool) (hl : l.length ≤ 1000) : Ev (fun q => cost_Each.f q l K raw) (if raw = true then (if NearAll l ∧ (wid l : Int) ≤ K ∧ K ≤ 31 then 5 + K * l.length else -1) else if NearAll l then bitsL (kk K) l else -1) := by
  unfold cost_Each.f
  refine bnd (width_ev l hl) ?_
  by_cases hr : raw = true
  · rw [if_pos hr]
    refine pos hr ?_
    by_cases hn : NearAll l
    · rw [if_pos hn]
      refine neg (by omega) ?_
      by_cases h1 : K < wid l
      · exact pos h1 (cst (by rw [if_neg (fun h => by omega)]))
      · refine neg h1 ?_
        by_cases h2 : K > 31
        · exact pos h2 (cst (by rw [if_neg (fun h => by omega)]))
        · refine neg h2 (cst ?_)
          have b0 : 0 ≤ K * l.length := Int.mul_nonneg (by omega) (by omega)
          have b1 : K * l.length ≤ 31 * 1000 := Int.mul_le_mul (by omega) (by omega) (by omega) (by omega)
          unfold cost_raw.f
          simp only [Option.bind_some]
          rw [w64 (x := K * l.length) (by omega) (by omega), w64 (by omega) (by omega), if_pos ⟨hn, by omega, by omega⟩]
    · rw [if_neg hn]
      exact pos (by decide) (cst (by rw [if_neg (fun h => hn h.1)]))
  · rw [if_neg hr]
    exact neg hr (bnd (bits_ev l K hl) (now _))
end Go.Proofs.Ytokdjeoecnnckaa.PL
end
section
namespace Go.Proofs.Ytokdjeoecnnckaa.PL
open Go.RowKit Go.Proofs.Ytokdjeoecnnckaa.PA Go.Proofs.YtokdjeoecnnckaaW.PrintWords Go.Proofs.YtokdjeoecnnckaaW.PrintLast Go.Proofs.YtokdjeoecnnckaaW.PrintMore
set_option linter.unusedVariables false
def eachW (l : List Int) (p : S50) : Int := if p.f1 = true then (if NearAll l ∧ (wid l : Int) ≤ p.f0 ∧ p.f0 ≤ 31 then 5 + p.f0 * l.length else -1) else if NearAll l then bitsL (kk p.f0) l else -1
def bitsGo (w : Bool) : List (List Int) → List S50 → Int → Int
  | q :: qs, p :: ps, s => if eachW q p < 0 then -1 else if p.f1 = true ∨ (0 ≤ p.f0 ∧ p.f0 ≤ (mostOf w : Int)) then bitsGo w qs ps (s + (sizeOf_ w + eachW q p)) else -1
  | [], _, s => s
  | _ :: _, [], _ => -1
theorem eachW_le {l : List Int} (hl : l.length ≤ 1000) (p : S50) : eachW l p ≤ 5 + 17179869300 * l.length := by
  unfold eachW
  split
  · split
    · rename_i hc
      have : p.f0 * (l.length : Int) ≤ 31 * l.length := Int.mul_le_mul_of_nonneg_right hc.2.2 (by omega)
      omega
    · omega
  · split
    · rename_i h
      have := bitsL_bd (kk p.f0) (kk_le _) l h
      omega
    · omega
theorem bits_l0 (w : Bool) (o : Int) (cs : List Int) (ps : List S50) (hlen : ps.length = cs.length) (hcl : cs.length ≤ 40000) :
    ∀ (t p : List Int) (l : List Int) (s : Int), cs = p ++ t → l.length ≤ 1000 → Fits t l.length → 0 ≤ s → s + 10 * t.length + 17179869300 * l.length ≤ 1000000000000000 → Ev (fun k => parts_Bits.l0 k l (mostOf w : Int) (sizeOf_ w) s cs (cs.length : Int) (p.length : Int) w o ps) (bitsGo w (split t l) (ps.drop p.length) s) := by
  intro t
  induction t with
  | nil =>
    intro p l s hp hl hf h0 hs
    refine succ ?_
    simp only [parts_Bits.l0]
    exact neg (by rw [hp]; simp) (cst (by simp [split, bitsGo]))
  | cons c t ih =>
    intro p l s hp hl hf h0 hs
    obtain ⟨hc0, hc1, hf2⟩ := hf
    have l1 := congrArg List.length hp
    simp only [List.length_append, List.length_cons] at l1 hs
    refine succ ?_
    simp only [parts_Bits.l0]
    have ra : rd cs (p.length : Int) = c := by rw [hp]; exact rd_at _ _ _
    have hpl : p.length < ps.length := by omega
    have hd : ps.drop p.length = ps[p.length] :: ps.drop (p.length + 1) := List.drop_eq_getElem_cons hpl
    have rp : rd_T50 ps (p.length : Int) = ps[p.length] := by simp [rd_T50, List.getD_eq_getElem?_getD, hpl]
    rw [ra, rp]
    generalize ps[p.length] = q at hd
    have hlt : (l.take c.toNat).length + (l.drop c.toNat).length = l.length := by rw [List.length_take, List.length_drop]; omega
    have hev : Ev (fun k => cost_Each.f k (l.take c.toNat) q.f0 q.f1) (eachW (l.take c.toNat) q) := each_ev (l.take c.toNat) q.f0 q.f1 (by omega)
    have hle := eachW_le (l := l.take c.toNat) (by omega) q
    have hz := sizeOf_bd w
    rw [hd]
    simp only [split, bitsGo]
    refine pos (by omega) (pos (by omega) (pos (by omega) (pos (by omega) (pos (by omega) (pos (by omega) (bnd hev ?_))))))
    obtain ⟨v, hv⟩ : ∃ v, eachW (l.take c.toNat) q = v := ⟨_, rfl⟩
    rw [hv] at hle ⊢
    by_cases h1 : v < 0
    · rw [if_pos h1]
      exact pos h1 (now _)
    · rw [if_neg h1]
      refine neg h1 ?_
      have nx := ih (p ++ [c]) (l.drop c.toNat) (s + (sizeOf_ w + v)) (by simp [hp]) (by omega) (by rw [List.length_drop]; exact hf2) (by omega) (by omega)
      have e3 : (p ++ [c]).length = p.length + 1 := by simp
      rw [e3] at nx
      rw [w64 (x := sizeOf_ w + v) (by omega) (by omega), w64 (x := s + (sizeOf_ w + v)) (by omega) (by omega), w64 (x := (p.length : Int) + 1) (by omega) (by omega)]
      have e4 : ((p.length + 1 : Nat) : Int) = (p.length : Int) + 1 := by omega
      rw [e4] at nx
      by_cases hr : q.f1 = true
      · rw [if_pos (.inl hr)]
        exact pos hr nx
      · refine neg hr ?_
        by_cases h2 : q.f0 < 0
        · rw [if_neg (fun g => by have := g.resolve_left hr; omega)]
          exact pos h2 (now _)
        · refine neg h2 ?_
          by_cases h3 : q.f0 > (mostOf w : Int)
          · rw [if_neg (fun g => by have := g.resolve_left hr; omega)]
            exact pos h3 (now _)
          · rw [if_pos (.inr ⟨by omega, by omega⟩)]
            exact neg h3 nx
def cutsI (n order o : Int) : List Int := if 0 ≤ o ∧ o ≤ 15 then cutsP n order o.toNat else []
theorem cutsI_ev (n order o : Int) (hn0 : 0 ≤ n) (hn : n ≤ 100000) (ho0 : 0 ≤ order) (ho1 : order ≤ 100000) : Ev (fun k => parts_Cuts.f k n order o) (cutsI n order o) := by
  have out : Ev (fun k => parts_Cuts.j0 k n order o true) [] := by
    refine succ ?_
    simp only [parts_Cuts.j0]
    exact pos trivial (now _)
  unfold cutsI
  by_cases h : 0 ≤ o ∧ o ≤ 15
  · rw [if_pos h]
    have := cuts_ev n order o.toNat hn0 hn ho0 ho1 (by omega)
    rw [show ((o.toNat : Nat) : Int) = o by omega] at this
    exact this
  · rw [if_neg h]
    unfold parts_Cuts.f
    refine neg (by omega) (neg (by omega) ?_)
    by_cases h1 : o < 0
    · exact pos h1 out
    · refine neg h1 ?_
      rw [decide_eq_true (by omega)]
      exact out
def bitsV (l : List Int) (order : Int) (w : Bool) (o : Int) (ps : List S50) : Int :=
  if cutsI (l.length : Int) order o = [] ∨ (cutsI (l.length : Int) order o).length ≠ ps.length then -1 else bitsGo w (split (cutsI (l.length : Int) order o) l) ps 6
theorem bitsV_ev {l : List Int} (hl : l.length ≤ 1000) {order : Int} (ho : 0 ≤ order) (ho2 : order ≤ 32) (w : Bool) (o : Int) (ps : List S50) : Ev (fun k => parts_Bits.f k l order w o ps) (bitsV l order w o ps) := by
  unfold parts_Bits.f
  refine bnd (cutsI_ev (l.length : Int) order o (by omega) (by omega) (by omega) (by omega)) ?_
  unfold bitsV
  have out : ∀ cs, Ev (fun k => parts_Bits.j0 k l cs true w o ps) (-1) := fun cs => by
    refine succ ?_
    simp only [parts_Bits.j0]
    exact pos trivial (now _)
  by_cases hc : cutsI (l.length : Int) order o = []
  · rw [if_pos (.inl hc), hc]
    exact pos rfl (out _)
  refine neg (by have := List.length_pos_iff.2 hc; omega) ?_
  by_cases hl2 : (cutsI (l.length : Int) order o).length = ps.length
  · rw [if_neg (fun g => g.elim hc (fun x => x hl2))]
    have e : (((cutsI (l.length : Int) order o).length : Int) != (ps.length : Int)) = false := by rw [hl2]; simp
    rw [e]
    have hin : 0 ≤ o ∧ o ≤ 15 := by
      unfold cutsI at hc
      split at hc
      · assumption
      · exact absurd rfl hc
    have hci : cutsI (l.length : Int) order o = cutsP (l.length : Int) order o.toNat := by unfold cutsI; rw [if_pos hin]
    have hfit := fits_cuts l.length order ho o.toNat
    have hlen : (cutsI (l.length : Int) order o).length ≤ 40000 := by
      rw [hci, cutsP_len (by rw [← hci]; exact hc)]
      have h1 : (2 : Nat) ^ o.toNat ≤ 2 ^ 15 := Nat.pow_le_pow_right (by decide) (by omega)
      have h2 : (2 : Nat) ^ 15 = 32768 := by decide
      omega
    rw [← hci] at hfit
    refine succ ?_
    simp only [parts_Bits.j0]
    refine neg (by decide) ?_
    have ht : parts_top.f w = some ((mostOf w : Int), sizeOf_ w) := by cases w <;> rfl
    rw [ht]
    simp only [Option.bind_some]
    have := bits_l0 w o (cutsI (l.length : Int) order o) ps hl2.symm hlen (cutsI (l.length : Int) order o) [] l 6 rfl hl hfit (by omega) (by omega)
    simpa using this
  · rw [if_pos (.inr hl2)]
    have e : (((cutsI (l.length : Int) order o).length : Int) != (ps.length : Int)) = true := by rw [bne_iff_ne]; omega
    rw [e]
    exact out _
end Go.Proofs.Ytokdjeoecnnckaa.PL
end
section
namespace Go.Proofs.Ytokdjeoecnnckaa.PL
open Go Go.RowKit Go.Proofs.Ytokdjeoecnnckaa.PA Go.Proofs.YtokdjeoecnnckaaW.PrintWords
set_option linter.unusedVariables false
def unfold (u : Int) : Int := if u % 2 = 0 then u / 2 else -(u / 2) - 1
theorem and_one (u : Int) (h : 0 ≤ u ∧ u < 18446744073709551616) : Go.bits .and .u64 u 1 = u % 2 := by
  have hk : ∀ n : Int, 0 ≤ n → n < 2 ^ 64 → IntKind.u64.wrap n = n := by
    intro n h0 h1
    have e : (2 : Int) ^ 64 = 18446744073709551616 := by decide
    rw [e] at h1
    rw [u64_wrap]; omega
  have e : (2 : Int) ^ 64 = 18446744073709551616 := by decide
  have := bits_mask .u64 64 (by decide) hk 1 (by decide) u h.1 (by rw [e]; exact h.2)
  exact this
theorem xor_zero64 (m : Nat) (h : m < 9223372036854775808) : Go.bits .xor .i64 (m : Int) 0 = (m : Int) := by
  have e : (BitVec.ofInt 64 (m : Int) ^^^ BitVec.ofInt 64 0).toNat = m := by
    rw [BitVec.ofInt_natCast, show BitVec.ofInt 64 0 = 0#64 from rfl, BitVec.xor_zero, BitVec.toNat_ofNat]
    exact Nat.mod_eq_of_lt (by omega)
  show IntKind.i64.wrap ((BitVec.ofInt 64 (m : Int) ^^^ BitVec.ofInt 64 0).toNat : Int) = _
  rw [e, Go.IntKind.wrap_i64]; omega
theorem xor_ones64 (m : Nat) (h : m < 9223372036854775808) : Go.bits .xor .i64 (m : Int) (-1) = -(m : Int) - 1 := by
  have e : (BitVec.ofInt 64 (m : Int) ^^^ BitVec.ofInt 64 (-1)).toNat = 18446744073709551615 - m := by
    rw [BitVec.ofInt_natCast, show BitVec.ofInt 64 (-1) = BitVec.allOnes 64 by decide, BitVec.xor_allOnes, BitVec.toNat_not, BitVec.toNat_ofNat, Nat.mod_eq_of_lt (by omega)]
  show IntKind.i64.wrap ((BitVec.ofInt 64 (m : Int) ^^^ BitVec.ofInt 64 (-1)).toNat : Int) = _
  rw [e, Go.IntKind.wrap_i64]; omega
theorem unfold_eq (u : Int) (h : 0 ≤ u ∧ u < 18446744073709551616) : rice_Unfold.f u = some (unfold u) := by
  unfold rice_Unfold.f unfold
  rw [and_one u h, w64 (x := u / 2) (by omega) (by omega)]
  obtain ⟨m, hm⟩ := Int.eq_ofNat_of_zero_le (show 0 ≤ u / 2 by omega)
  have hb : m < 9223372036854775808 := by omega
  rw [hm]
  by_cases hu : u % 2 = 0
  · rw [hu, if_pos rfl, show wrap64 (-(wrap64 0)) = 0 by rw [w64 (x := 0) (by omega) (by omega), w64 (by omega) (by omega)]; rfl, xor_zero64 m hb]
  · rw [show u % 2 = 1 by omega, if_neg (by decide), show wrap64 (-(wrap64 1)) = -1 by rw [w64 (x := 1) (by omega) (by omega), w64 (by omega) (by omega)], xor_ones64 m hb]
theorem unfold_fold (n : Int) : unfold (fold n) = n := by
  unfold unfold fold; split <;> split <;> omega
end Go.Proofs.Ytokdjeoecnnckaa.PL
end
section
namespace Go.Proofs.Ytokdjeoecnnckaa.PL
open Go Go.RowKit Go.Proofs.Ytokdjeoecnnckaa.PA Go.Proofs.YtokdjeoecnnckaaW.PrintWords Go.Proofs.YtokdjeoecnnckaaW.PrintMore
set_option linter.unusedSimpArgs false
set_option linter.unusedVariables false
def cutB (b : List Int) (p n : Nat) : List Bool := ((bitsOf b).drop p).take n
theorem cutB_len {b : List Int} {p n : Nat} (h : p + n ≤ 8 * b.length) : (cutB b p n).length = n := by
  unfold cutB; rw [List.length_take, List.length_drop, bitsOf_len]; omega
theorem cutB_add (b : List Int) (p m n : Nat) : cutB b p (m + n) = cutB b p m ++ cutB b (p + m) n := by
  unfold cutB; rw [List.take_add, List.drop_drop]
theorem byte_cut (x : Int) {j m : Nat} (h : j + m ≤ 8) : ((digs x 8).drop j).take m = digs (x / 2 ^ (8 - j - m)) m := by
  have e1 := digs_add x j (8 - j)
  rw [show j + (8 - j) = 8 by omega] at e1
  have e2 := digs_add x m (8 - j - m)
  rw [show m + (8 - j - m) = 8 - j by omega] at e2
  rw [e1, List.drop_left' (digs_len _ _), e2, List.take_left' (digs_len _ _)]
theorem cut_step (b : List Int) (q j m : Nat) (hq : q < b.length) (h : j + m ≤ 8) : cutB b (8 * q + j) m = digs (rd b (q : Int) / 2 ^ (8 - j - m)) m := by
  have hb : b = b.take q ++ rd b (q : Int) :: b.drop (q + 1) := by
    have e := List.drop_eq_getElem_cons hq
    have e2 : rd b (q : Int) = b[q] := rd_lt (by omega) (by omega)
    rw [e2, ← e, List.take_append_drop]
  have hl : (bitsOf (b.take q)).length = 8 * q := by rw [bitsOf_len, List.length_take]; omega
  unfold cutB
  conv => lhs; rw [hb]
  rw [bitsOf_app, bitsOf_cons, ← List.drop_drop, List.drop_left' hl, List.drop_append_of_le_length (by rw [digs_len]; omega), List.take_append_of_le_length (by rw [List.length_drop, digs_len]; omega), byte_cut _ h]
theorem or_join (a x : Int) (m s : Nat) (ha0 : 0 ≤ a) (ha : a < 2 ^ s) (hs : s + m ≤ 64) (hx0 : 0 ≤ x) (hx : x < 2 ^ m) : Go.bits .or .u64 (shl .u64 a (m : Int)) x = a * 2 ^ m + x := by
  have hm0 := pow2_pos m
  have e : (2 : Int) ^ s * 2 ^ m = 2 ^ (s + m) := (Int.pow_add 2 s m).symm
  have h64 : (2 : Int) ^ (s + m) ≤ 2 ^ 64 := by
    have : (2 : Nat) ^ (s + m) ≤ 2 ^ 64 := Nat.pow_le_pow_right (by decide) hs
    have h := Int.ofNat_le.2 this
    simpa using h
  have hlt : a * 2 ^ m + x < 2 ^ s * 2 ^ m := by
    have h1 : (a + 1) * 2 ^ m ≤ 2 ^ s * 2 ^ m := Int.mul_le_mul_of_nonneg_right (by omega) (Int.le_of_lt hm0)
    rw [Int.add_mul, Int.one_mul] at h1
    omega
  have h0 : 0 ≤ a * 2 ^ m := Int.mul_nonneg ha0 (Int.le_of_lt hm0)
  have hb1 : a * 2 ^ m < 2 ^ 64 := by rw [e] at hlt; omega
  have hx1 : x < 2 ^ 64 := by rw [e] at hlt; omega
  have hb2 : a * 2 ^ m < 18446744073709551616 := by rw [← pow64]; exact hb1
  rw [shl_u64' (by omega) h0 hb2]
  exact bits_join .u64 64 (by decide) wraps_u64 m _ _ h0 (Int.mul_emod_left _ _) hb1 hx0 hx hx1
theorem tdiv8 (p : Nat) (h : p < 4611686018427387904) : wrap64 (Int.tdiv (p : Int) 8) = ((p / 8 : Nat) : Int) := by
  rw [Int.tdiv_eq_ediv_of_nonneg (by omega), w64 (by omega) (by omega)]; omega
theorem tmod8 (p : Nat) : Int.tmod (p : Int) 8 = ((p % 8 : Nat) : Int) := by rw [Int.tmod_eq_emod_of_nonneg (by omega)]; omega
theorem wsub {a b : Nat} (h : b ≤ a) (ha : a < 4611686018427387904) : wrap64 ((a : Int) - (b : Int)) = ((a - b : Nat) : Int) := by rw [w64 (by omega) (by omega)]; omega
theorem wadd {a b : Nat} (ha : a + b < 4611686018427387904) : wrap64 ((a : Int) + (b : Int)) = ((a + b : Nat) : Int) := by rw [w64 (by omega) (by omega)]; omega
theorem room8 (p : Nat) : wrap64 (8 - Int.tmod (p : Int) 8) = ((8 - p % 8 : Nat) : Int) := by rw [tmod8]; exact wsub (a := 8) (by omega) (by omega)
theorem mn_nat (a b : Nat) : mn (a : Int) (b : Int) = ((min a b : Nat) : Int) := by unfold mn; split <;> omega
theorem take_step (k : Nat) (b : List Int) (acc : Int) (left p s : Nat) (fl : Int) (m : Nat) (hm : m = min (8 - p % 8) left) (h1 : 1 ≤ left) (hbl : b.length < 1099511627776) (hpl : p + left ≤ 8 * b.length) (hbd : ∀ x ∈ b, 0 ≤ x ∧ x < 256)
    (ha0 : 0 ≤ acc) (ha : zF (acc < 2 ^ s)) (hs : s + left ≤ 64) :
    bits_Reader_Take.l0 (k + 1) (left : Int) acc b (p : Int) fl = bits_Reader_Take.l0 k ((left - m : Nat) : Int) (acc * 2 ^ m + num (cutB b p m)) b ((p + m : Nat) : Int) fl := by
  obtain ⟨q, hq⟩ : ∃ q, q = p / 8 := ⟨_, rfl⟩
  obtain ⟨j, hj⟩ : ∃ j, j = p % 8 := ⟨_, rfl⟩
  have hp : p = 8 * q + j := by omega
  have hj8 : j < 8 := by omega
  have hm1 : 1 ≤ m := by omega
  have hml : m ≤ left := by omega
  have hjm : j + m ≤ 8 := by omega
  have hm8 : m ≤ 8 := by omega
  have hqb : q < b.length := by omega
  have hsm : s + m ≤ 64 := by omega
  have h8m : 8 - j - m ≤ 8 := by omega
  have hp62 : p < 4611686018427387904 := by omega
  have hl62 : left < 4611686018427387904 := by omega
  have hpm62 : p + m < 4611686018427387904 := by omega
  have hroomm : m ≤ 8 - j := by omega
  have hrl : 8 - j < 4611686018427387904 := by omega
  have hqi : (q : Int) < (b.length : Int) := by omega
  have hne : ¬ ((left : Int) = 0) := by omega
  have hx := hbd (rd b (q : Int)) (rd_mem (by omega) hqi)
  have hcut : num (cutB b p m) = rd b (q : Int) / 2 ^ (8 - j - m) % 2 ^ m := by rw [hp, cut_step b q j m hqb hjm, num_digs]
  have hsr := shr_u8' (rd b (q : Int)) h8m
  have hdb := Int.ediv_nonneg hx.1 (Int.le_of_lt (pow2_pos (8 - j - m)))
  have hdl := Int.ediv_le_self (2 ^ (8 - j - m)) hx.1
  have hpe := part_eq (rd b (q : Int) / 2 ^ (8 - j - m)) hm1 hm8
  have hmod : rd b (q : Int) / 2 ^ (8 - j - m) % 256 = rd b (q : Int) / 2 ^ (8 - j - m) := Int.emod_eq_of_lt hdb (Int.lt_of_le_of_lt hdl hx.2)
  rw [hmod] at hpe
  have hb0 := num_bd (cutB b p m)
  rw [cutB_len (Nat.le_trans (Nat.add_le_add_left hml p) hpl), hcut] at hb0
  have hwr : IntKind.u64.wrap (rd b (q : Int) / 2 ^ (8 - j - m) % 2 ^ m) = rd b (q : Int) / 2 ^ (8 - j - m) % 2 ^ m :=
    wraps_u64' _ hb0.1 (Int.lt_of_lt_of_le (Int.lt_of_lt_of_le hb0.2 (pow_le_256 hm8)) (by decide))
  have hor := or_join acc (rd b (q : Int) / 2 ^ (8 - j - m) % 2 ^ m) m s ha0 ha.out hsm hb0.1 hb0.2
  have htd := tdiv8 p hp62
  rw [← hq] at htd
  have hroom := room8 p
  rw [← hj] at hroom
  have hmn : mn (wrap64 (8 - Int.tmod (p : Int) 8)) (left : Int) = (m : Int) := by rw [hroom, mn_nat, hj, ← hm]
  have hsh : wrap64 (wrap64 (8 - Int.tmod (p : Int) 8) - (m : Int)) = ((8 - j - m : Nat) : Int) := by rw [hroom]; exact wsub hroomm hrl
  have hl1 : wrap64 ((left : Int) - (m : Int)) = ((left - m : Nat) : Int) := wsub hml hl62
  have hp1 : wrap64 ((p : Int) + (m : Int)) = ((p + m : Nat) : Int) := wadd hpm62
  simp only [bits_Reader_Take.l0]
  rw [if_neg hne, htd, hmn, hsh, hl1, hp1, if_pos (Int.natCast_nonneg _), if_pos hqi, if_pos (Int.natCast_nonneg _), if_pos (Int.natCast_nonneg _), hsr, hpe, hwr, hor, hcut]
theorem take_l0 : ∀ (left fuel : Nat) (b : List Int) (acc : Int) (p s : Nat) (fl : Int), left < fuel → b.length < 1099511627776 → p + left ≤ 8 * b.length → (∀ x ∈ b, 0 ≤ x ∧ x < 256) → 0 ≤ acc → zF (acc < 2 ^ s) → s + left ≤ 64 →
    bits_Reader_Take.l0 fuel (left : Int) acc b (p : Int) fl = some (acc * 2 ^ left + num (cutB b p left), ((p + left : Nat) : Int), fl) := by
  intro left
  induction left using Nat.strongRecOn with
  | _ left ih =>
  intro fuel b acc p s fl hf hbl hpl hbd ha0 ha hs
  obtain ⟨k, rfl⟩ : ∃ k, fuel = k + 1 := ⟨fuel - 1, by omega⟩
  by_cases h0 : left = 0
  · subst h0
    have e0 : ((0 : Nat) : Int) = 0 := rfl
    simp only [bits_Reader_Take.l0]
    rw [e0, if_pos (rfl : (0 : Int) = 0)]
    simp [cutB, num_nil]
  obtain ⟨m, hm⟩ : ∃ m : Nat, m = min (8 - p % 8) left := ⟨_, rfl⟩
  have hm1 : 1 ≤ m := by omega
  have hml : m ≤ left := by omega
  have a1 : left - m < left := by omega
  have a3 : left - m < k := by omega
  have a4 : p + m + (left - m) ≤ 8 * b.length := by omega
  have a5 : s + m + (left - m) ≤ 64 := by omega
  have a6 : p + m + (left - m) = p + left := by omega
  have a7 : m + (left - m) = left := by omega
  have hb0 := num_bd (cutB b p m)
  rw [cutB_len (Nat.le_trans (Nat.add_le_add_left hml p) hpl)] at hb0
  have hm0 := pow2_pos m
  have h2 : acc * 2 ^ m + num (cutB b p m) < 2 ^ (s + m) := by
    rw [Int.pow_add]
    have h1 : (acc + 1) * 2 ^ m ≤ 2 ^ s * 2 ^ m := Int.mul_le_mul_of_nonneg_right (Int.add_one_le_of_lt ha.out) (Int.le_of_lt hm0)
    rw [Int.add_mul, Int.one_mul] at h1
    exact Int.lt_of_lt_of_le (Int.add_lt_add_left hb0.2 _) h1
  have h3 : 0 ≤ acc * 2 ^ m + num (cutB b p m) := Int.add_nonneg (Int.mul_nonneg ha0 (Int.le_of_lt hm0)) hb0.1
  rw [take_step k b acc left p s fl m hm (Nat.one_le_iff_ne_zero.2 h0) hbl hpl hbd ha0 ha hs, ih (left - m) a1 k b _ (p + m) (s + m) fl a3 hbl a4 hbd h3 ⟨h2⟩ a5, a6]
  have e : acc * 2 ^ left + num (cutB b p left) = (acc * 2 ^ m + num (cutB b p m)) * 2 ^ (left - m) + num (cutB b (p + m) (left - m)) := by
    have e1 := cutB_add b p m (left - m)
    rw [a7] at e1
    rw [e1, num_append, cutB_len a4, Int.add_mul, Int.mul_assoc, ← Int.pow_add, a7]
    exact Int.add_assoc _ _ _ |>.symm
  rw [e]
def takeR (b : List Int) (p : Nat) (fl : Int) (w : Nat) : Int × Int × Int :=
  if fl ≠ 0 then (0, (p : Int), fl) else if 8 * b.length < p + w then (0, (p : Int), 2) else (num (cutB b p w), ((p + w : Nat) : Int), 0)
theorem left_eq (b : List Int) (p : Nat) (fl : Int) (hbl : b.length < 1099511627776) (hp : p ≤ 8 * b.length) : bits_Reader_Left.f b (p : Int) fl = some (((8 * b.length - p : Nat) : Int), (p : Int), fl) := by
  unfold bits_Reader_Left.f
  rw [w64 (x := 8 * (b.length : Int)) (by omega) (by omega), w64 (by omega) (by omega)]
  congr 2; omega
theorem take_ev (b : List Int) (p : Nat) (fl w : Int) (hbl : b.length < 1099511627776) (hp : p ≤ 8 * b.length) (hbd : ∀ x ∈ b, 0 ≤ x ∧ x < 256) : Ev (fun k => bits_Reader_Take.f k b (p : Int) fl w) (takeR b p fl (hw w)) := by
  unfold bits_Reader_Take.f
  rw [held_eq]
  simp only [Option.bind_some]
  have h64 := hw_le w
  have j1no : ∀ (fl : Int) (x : Int), fl ≠ 0 → Ev (fun k => bits_Reader_Take.j1 k x b (p : Int) fl) (0, (p : Int), fl) := by
    intro fl x hfl
    refine succ ?_
    simp only [bits_Reader_Take.j1]
    exact neg hfl (now _)
  by_cases hfl : fl = 0
  · subst hfl
    refine pos rfl ?_
    rw [left_eq b p 0 hbl hp]
    simp only [Option.bind_some]
    by_cases hs : 8 * b.length < p + hw w
    · have e : takeR b p 0 (hw w) = (0, (p : Int), 2) := by unfold takeR; rw [if_neg (by simp), if_pos hs]
      rw [e, decide_eq_true (by omega)]
      refine succ ?_
      simp only [bits_Reader_Take.j0]
      exact pos trivial (j1no 2 _ (by decide))
    · have e : takeR b p 0 (hw w) = (num (cutB b p (hw w)), ((p + hw w : Nat) : Int), 0) := by unfold takeR; rw [if_neg (by simp), if_neg hs]
      rw [e, decide_eq_false (by omega)]
      refine succ ?_
      simp only [bits_Reader_Take.j0]
      refine neg (by simp) (succ ?_)
      simp only [bits_Reader_Take.j1]
      refine pos trivial ⟨hw w + 1, fun k hk => ?_⟩
      show bits_Reader_Take.l0 k ((hw w : Nat) : Int) 0 b (p : Int) 0 = _
      rw [take_l0 (hw w) k b 0 p 0 0 (by omega) hbl (by omega) hbd (by omega) ⟨by simp⟩ (by omega)]
      simp
  · have e : takeR b p fl (hw w) = (0, (p : Int), fl) := by unfold takeR; rw [if_pos hfl]
    rw [e]
    refine neg hfl (succ ?_)
    simp only [bits_Reader_Take.j0]
    exact neg (by simp) (j1no fl _ hfl)
theorem open_eq (b : List Int) (hb : b.length < 1099511627776) : bits_Open.f b = some (b, ((0 : Nat) : Int), 0) := by
  unfold bits_Open.f bytes_Clone.f
  simp only [Option.bind_some, List.length_nil, List.nil_append]
  rw [if_pos (by omega)]
  rfl
def gap (p : Nat) : Nat := (8 - p % 8) % 8
theorem takeR_ok {b : List Int} {p w : Nat} (h : p + w ≤ 8 * b.length) : takeR b p 0 w = (num (cutB b p w), ((p + w : Nat) : Int), 0) := by
  unfold takeR; rw [if_neg (by simp), if_neg (by omega)]
theorem toB_len8 (L : List Bool) : L.length ≤ 8 * (toB L).length ∧ 8 * (toB L).length ≤ L.length + 7 := by rw [toB_len]; omega
end Go.Proofs.Ytokdjeoecnnckaa.PL
end
section
namespace Go.Proofs.Ytokdjeoecnnckaa.PL
open Go Go.RowKit Go.Proofs.Ytokdjeoecnnckaa.PA Go.Proofs.YtokdjeoecnnckaaW.PrintWords Go.Proofs.YtokdjeoecnnckaaW.PrintMore
set_option linter.unusedSimpArgs false
set_option linter.unusedVariables false
theorem fail_eq (b : List Int) (p : Nat) (fl : Int) : bits_Reader_Fail.f b (p : Int) fl = some (fl, (p : Int), fl) := rfl
end Go.Proofs.Ytokdjeoecnnckaa.PL
end
section
namespace Go.Proofs.Ytokdjeoecnnckaa.PL
open Go Go.RowKit Go.Proofs.Ytokdjeoecnnckaa.PA Go.Proofs.YtokdjeoecnnckaaW.PrintWords Go.Proofs.YtokdjeoecnnckaaW.PrintLast Go.Proofs.YtokdjeoecnnckaaW.PrintMore
set_option linter.unusedSimpArgs false
set_option linter.unusedVariables false
structure GB (b : List Int) : Prop where
  len : b.length < 1099511627776
  bd : ∀ x ∈ b, 0 ≤ x ∧ x < 256
def Pre (b : List Int) (L : List Bool) : Prop := ∃ C D, bitsOf b ++ C = L ++ D
theorem pre_cut {b : List Int} {L A B R : List Bool} (h : Pre b L) (hL : L = A ++ B ++ R) (hn : (A ++ B).length ≤ 8 * b.length) : cutB b A.length B.length = B := by
  obtain ⟨C, D, e⟩ := h
  have hl : A.length + B.length ≤ (bitsOf b).length := by rw [bitsOf_len]; simpa using hn
  have e1 : ((bitsOf b ++ C).drop A.length).take B.length = ((bitsOf b).drop A.length).take B.length := by
    rw [List.drop_append_of_le_length (by omega), List.take_append_of_le_length (by rw [List.length_drop]; omega)]
  unfold cutB
  rw [← e1, e, hL]
  simp only [List.append_assoc]
  rw [List.drop_left, List.take_left]
def Got (b : List Int) (X : List Bool) (n v p f : Int) : Prop := (X.length ≤ 8 * b.length ∧ v = n ∧ p = (X.length : Int) ∧ f = 0) ∨ (8 * b.length < X.length ∧ f = 2 ∧ ∃ p' : Nat, p = (p' : Int) ∧ p' ≤ 8 * b.length)
theorem take_pre {b : List Int} (hb : GB b) {L A B R : List Bool} (h : Pre b L) (hL : L = A ++ B ++ R) (w : Int) (hw' : hw w = B.length) (hA : A.length ≤ 8 * b.length) :
    ∃ v p f, Got b (A ++ B) (num B) v p f ∧ (f = 2 → v = 0) ∧ Ev (fun q => bits_Reader_Take.f q b (A.length : Int) 0 w) (v, p, f) := by
  have ht := take_ev b A.length 0 w hb.len hA hb.bd
  rw [hw'] at ht
  by_cases hn : (A ++ B).length ≤ 8 * b.length
  · have hn' : A.length + B.length ≤ 8 * b.length := by simpa using hn
    rw [takeR_ok hn', pre_cut h hL hn] at ht
    exact ⟨_, _, _, .inl ⟨hn, rfl, by rw [List.length_append], rfl⟩, (fun h => absurd h (by decide)), ht⟩
  · have e : takeR b A.length 0 B.length = (0, (A.length : Int), 2) := by
      unfold takeR
      rw [if_neg (by simp), if_pos (by simp at hn; omega)]
    rw [e] at ht
    exact ⟨_, _, _, .inr ⟨by omega, rfl, A.length, rfl, hA⟩, fun _ => rfl, ht⟩
theorem take_dead {b : List Int} (hb : GB b) {p : Nat} (hp : p ≤ 8 * b.length) (w : Int) : Ev (fun q => bits_Reader_Take.f q b (p : Int) 2 w) (0, (p : Int), 2) := by
  have ht := take_ev b p 2 w hb.len hp hb.bd
  have e : takeR b p 2 (hw w) = (0, (p : Int), 2) := by unfold takeR; rw [if_pos (by decide)]
  rw [e] at ht
  exact ht
theorem rtake_pre {b : List Int} (hb : GB b) {L : List Bool} (h : Pre b L) (n : Int) (hn : IsNear n) (k : Nat) (hk : k ≤ 30) (z : Nat) (hz : fold n / 2 ^ k = (z : Int)) : ∀ (d i : Nat) (A R : List Bool), i + d = z →
    L = A ++ (List.replicate d false ++ (true :: digs (fold n) k)) ++ R → A.length ≤ 8 * b.length →
    ∃ v p f, Got b (A ++ (List.replicate d false ++ (true :: digs (fold n) k))) n v p f ∧ Ev (fun q => rice_Take.l0 q (k : Int) (i : Int) b (A.length : Int) 0) (v, p, f) := by
  have hf := fold_near hn
  have hd := div_pow_bd (x := fold n) (s := k) hf.1
  intro d
  induction d with
  | zero =>
    intro i A R hi hL hA
    have hiz : i = z := by omega
    have e1 : L = A ++ [true] ++ (digs (fold n) k ++ R) := by rw [hL]; simp
    have e2 : L = (A ++ [true]) ++ digs (fold n) k ++ R := by rw [hL]; simp
    have e3 : A ++ [true] ++ digs (fold n) k = A ++ (List.replicate 0 false ++ (true :: digs (fold n) k)) := by simp
    obtain ⟨v1, p1, f1, g1, _, t1⟩ := take_pre hb h e1 1 (by decide) hA
    rcases g1 with ⟨g1, rfl, rfl, rfl⟩ | ⟨g1, rfl, p', rfl, hp'⟩
    · obtain ⟨v2, p2, f2, g2, _, t2⟩ := take_pre hb h e2 (k : Int) (by rw [hw_nat (by omega), digs_len]) g1
      rcases g2 with ⟨g2, rfl, rfl, rfl⟩ | ⟨g2, rfl, p', rfl, hp'⟩
      · rw [e3] at t2 g2
        refine ⟨n, _, 0, .inl ⟨g2, rfl, rfl, rfl⟩, ?_⟩
        have eu : Go.bits .or .u64 (shl .u64 (i : Int) (k : Int)) (num (digs (fold n) k)) = fold n := by
          have hb := num_bd (digs (fold n) k)
          rw [digs_len] at hb
          have hi34 : (i : Int) < 2 ^ 34 := by
            have e : (2 : Int) ^ 34 = 17179869184 := by decide
            rw [e]; omega
          rw [or_join (i : Int) (num (digs (fold n) k)) k 34 (by omega) hi34 (by omega) hb.1 hb.2, num_digs, hiz, ← hz]
          have := Int.mul_ediv_add_emod (fold n) (2 ^ k)
          rw [Int.mul_comm]; exact this
        refine succ ?_
        simp only [rice_Take.l0]
        refine bnd t1 ?_
        rw [fail_eq]
        simp only [Option.bind_some]
        refine pos (by first | trivial | rfl) (neg (by rw [num_one]; decide) (bnd t2 ?_))
        rw [fail_eq]
        simp only [Option.bind_some]
        refine pos (by first | trivial | rfl) (pos (by omega) ?_)
        rw [eu, unfold_eq _ ⟨hf.1, by omega⟩, unfold_fold]
        exact now _
      · rw [e3] at g2
        refine ⟨0, _, 2, .inr ⟨g2, rfl, p', rfl, hp'⟩, ?_⟩
        refine succ ?_
        simp only [rice_Take.l0]
        refine bnd t1 ?_
        rw [fail_eq]
        simp only [Option.bind_some]
        refine pos (by first | trivial | rfl) (neg (by rw [num_one]; decide) (bnd t2 ?_))
        rw [fail_eq]
        simp only [Option.bind_some]
        exact neg (by decide) (now _)
    · refine ⟨0, _, 2, .inr ⟨by simp at g1 ⊢; omega, rfl, p', rfl, hp'⟩, ?_⟩
      refine succ ?_
      simp only [rice_Take.l0]
      refine bnd t1 ?_
      rw [fail_eq]
      simp only [Option.bind_some]
      exact neg (by decide) (now _)
  | succ d ih =>
    intro i A R hi hL hA
    have e1 : L = A ++ [false] ++ ((List.replicate d false ++ (true :: digs (fold n) k)) ++ R) := by rw [hL]; simp [List.replicate_succ]
    have e2 : L = (A ++ [false]) ++ (List.replicate d false ++ (true :: digs (fold n) k)) ++ R := by rw [hL]; simp [List.replicate_succ]
    have e3 : A ++ (List.replicate (d + 1) false ++ (true :: digs (fold n) k)) = (A ++ [false]) ++ (List.replicate d false ++ (true :: digs (fold n) k)) := by simp [List.replicate_succ]
    obtain ⟨v1, p1, f1, g1, _, t1⟩ := take_pre hb h e1 1 (by decide) hA
    rcases g1 with ⟨g1, rfl, rfl, rfl⟩ | ⟨g1, rfl, p', rfl, hp'⟩
    · obtain ⟨v, p, f, g, t⟩ := ih (i + 1) (A ++ [false]) R (by omega) e2 g1
      refine ⟨v, p, f, by rw [e3]; exact g, ?_⟩
      have ew : IntKind.u64.wrap ((i : Int) + 1) = ((i + 1 : Nat) : Int) := by rw [u64_wrap]; omega
      refine succ ?_
      simp only [rice_Take.l0]
      refine bnd t1 ?_
      rw [fail_eq]
      simp only [Option.bind_some]
      refine pos (by first | trivial | rfl) (pos (by rw [num_one]; rfl) ?_)
      rw [ew]
      exact t
    · refine ⟨0, _, 2, .inr ⟨by simp at g1 ⊢; omega, rfl, p', rfl, hp'⟩, ?_⟩
      refine succ ?_
      simp only [rice_Take.l0]
      refine bnd t1 ?_
      rw [fail_eq]
      simp only [Option.bind_some]
      exact neg (by decide) (now _)
theorem sext (n : Int) (K : Nat) (h2 : K ≤ 31) (hn : inn n K) : shr .i64 (shl .i64 (n % 2 ^ K) ((64 - K : Nat) : Int)) ((64 - K : Nat) : Int) = n := by
  obtain ⟨h1, h3, h4⟩ := hn
  obtain ⟨Q, hQ⟩ : ∃ Q : Int, (2 : Int) ^ (K - 1) = Q := ⟨_, rfl⟩
  obtain ⟨P, hP⟩ : ∃ P : Int, (2 : Int) ^ (64 - K) = P := ⟨_, rfl⟩
  have hQ0 : 0 < Q := by rw [← hQ]; exact pow2_pos _
  have hP0 : 0 < P := by rw [← hP]; exact pow2_pos _
  have e2 : (2 : Int) ^ K = 2 * Q := by
    obtain ⟨j, rfl⟩ : ∃ j, K = j + 1 := ⟨K - 1, by omega⟩
    rw [Int.pow_succ, Int.mul_comm, ← hQ]
    rfl
  have e64 : 2 * Q * P = 18446744073709551616 := by
    rw [← e2, ← hP, ← Int.pow_add, show K + (64 - K) = 64 by omega]
    decide
  have hQP : Q * P = 9223372036854775808 := by
    have : 2 * (Q * P) = 18446744073709551616 := by rw [← Int.mul_assoc]; exact e64
    omega
  rw [hQ] at h3 h4
  have b1 : n * P < Q * P := Int.mul_lt_mul_of_pos_right h4 hP0
  have b2 : -Q * P ≤ n * P := Int.mul_le_mul_of_nonneg_right h3 (Int.le_of_lt hP0)
  have e3 : -Q * P = -(Q * P) := Int.neg_mul Q P
  rw [shr_eq' _ (by omega)]
  have esh : ∀ x : Int, shl .i64 x ((64 - K : Nat) : Int) = wrap64 (x * P) := by
    intro x
    unfold shl
    rw [Int.toNat_natCast, show min (64 - K) IntKind.i64.bits = 64 - K by simp [IntKind.bits], hP]
    exact i64_w _
  rw [esh, hP, e2]
  have ew : wrap64 (n % (2 * Q) * P) = n * P := by
    have hm := Int.mul_ediv_add_emod n (2 * Q)
    have e5 : n % (2 * Q) * P = n * P + 18446744073709551616 * (-(n / (2 * Q))) := by
      have : n * P = (2 * Q * (n / (2 * Q)) + n % (2 * Q)) * P := by rw [hm]
      rw [this, ← e64]
      grind
    rw [e5, w64_add, w64 (by omega) (by omega)]
  rw [ew]
  exact Int.mul_ediv_cancel _ (by omega)
def szR (w : Bool) : Int := if w then 5 else 4
def numB (q : S50) (n : Int) : List Bool := if q.f1 = true then digs (IntKind.u64.wrap n) (hw q.f0) else putB n (kk q.f0)
def headP (w : Bool) (q : S50) : List Bool := if q.f1 = true then digs 31 (hw (szR w)) ++ digs (IntKind.u64.wrap q.f0) (hw 5) else digs (IntKind.u64.wrap q.f0) (hw (szR w))
def partB (w : Bool) (q : S50) (xs : List Int) : List Bool := headP w q ++ xs.flatMap (numB q)
def OkN (q : S50) (y : Int) : Prop := if q.f1 = true then 0 ≤ q.f0 ∧ q.f0 ≤ 31 ∧ (y = 0 ∨ inn y q.f0.toNat) else IsNear y
theorem wrapmod (n : Int) (K : Nat) (hK : K ≤ 31) : IntKind.u64.wrap n % 2 ^ K = n % 2 ^ K := by
  rw [wrap_u64]
  have e : (18446744073709551616 : Int) = 2 ^ K * 2 ^ (64 - K) := by rw [← Int.pow_add, show K + (64 - K) = 64 by omega]; decide
  rw [e]
  exact Int.emod_emod_of_dvd n (Int.dvd_mul_right _ _)
theorem number_pre {b : List Int} (hb : GB b) {L A R : List Bool} (h : Pre b L) (q : S50) (y : Int) (hq : OkN q y) (hL : L = A ++ numB q y ++ R) (hA : A.length ≤ 8 * b.length) :
    ∃ v p f, Got b (A ++ numB q y) y v p f ∧ Ev (fun k => section_number.f k b (A.length : Int) 0 q.f0 q.f1) (v, p, f) := by
  unfold numB at hL ⊢
  unfold OkN at hq
  unfold section_number.f
  by_cases hr : q.f1 = true
  · rw [if_pos hr] at hL hq ⊢
    obtain ⟨h0, h1, h2⟩ := hq
    obtain ⟨K, hK⟩ : ∃ K : Nat, q.f0 = (K : Int) := ⟨q.f0.toNat, by omega⟩
    rw [hK] at hL h0 h1 h2 ⊢
    rw [Int.toNat_natCast] at h2
    have hK31 : K ≤ 31 := by omega
    rw [hw_nat (by omega)] at hL ⊢
    by_cases hK0 : K = 0
    · subst hK0
      have hy : y = 0 := h2.resolve_right (fun h => by have := h.1; omega)
      refine ⟨0, (A.length : Int), 0, .inl ⟨by simpa [digs] using hA, hy.symm, by simp [digs], rfl⟩, ?_⟩
      refine pos hr (bnd (a := (0, (A.length : Int), 0)) ?_ (now _))
      unfold section_raw.f
      exact pos rfl (now _)
    · have hi : inn y K := by
        rcases h2 with rfl | h2
        · have := pow2_pos (K - 1)
          exact ⟨by omega, by omega, by omega⟩
        · exact h2
      obtain ⟨v1, p1, f1, g1, z1, t1⟩ := take_pre hb h hL (K : Int) (by rw [hw_nat (by omega), digs_len]) hA
      have e64 : wrap64 (64 - (K : Int)) = ((64 - K : Nat) : Int) := by rw [w64 (by omega) (by omega)]; omega
      have key : Ev (fun k => section_raw.f k b (A.length : Int) 0 (K : Int)) (shr .i64 (shl .i64 (wrap64 v1) ((64 - K : Nat) : Int)) ((64 - K : Nat) : Int), p1, f1) := by
        unfold section_raw.f
        refine neg (by omega) (bnd t1 ?_)
        rw [e64]
        exact pos (by omega) (now _)
      refine ⟨_, _, _, ?_, pos hr (bnd key (now _))⟩
      rcases g1 with ⟨g1, rfl, rfl, rfl⟩ | ⟨g1, rfl, p', rfl, hp'⟩
      · refine .inl ⟨g1, ?_, rfl, rfl⟩
        have hbn := num_bd (digs (IntKind.u64.wrap y) K)
        rw [digs_len] at hbn
        have h31 : (2 : Int) ^ K ≤ 2147483648 := by
          have : (2 : Nat) ^ K ≤ 2 ^ 31 := Nat.pow_le_pow_right (by decide) hK31
          have h := Int.ofNat_le.2 this
          simpa using h
        rw [w64 (by omega) (by omega), num_digs, wrapmod _ _ hK31]
        exact sext y K hK31 hi
      · exact .inr ⟨g1, rfl, p', rfl, hp'⟩
  · rw [if_neg hr] at hL hq ⊢
    have hf := fold_near hq
    have hd := div_pow_bd (x := fold y) (s := kk q.f0) hf.1
    obtain ⟨v, p, f, g, t⟩ := rtake_pre hb h y hq (kk q.f0) (kk_le _) (fold y / 2 ^ kk q.f0).toNat (Int.toNat_of_nonneg hd.1).symm (fold y / 2 ^ kk q.f0).toNat 0 A R (by omega) hL hA
    refine ⟨v, p, f, g, neg hr (bnd (a := (v, p, f)) ?_ (now _))⟩
    unfold rice_Take.f rice_held.f
    rw [kk_eq]
    simp only [Option.bind_some]
    exact t
theorem number_dead {b : List Int} (hb : GB b) {p : Nat} (hp : p ≤ 8 * b.length) (r : Bool) : ∃ v, Ev (fun k => section_number.f k b (p : Int) 2 0 r) (v, (p : Int), 2) := by
  unfold section_number.f
  cases r
  · refine ⟨0, neg (by decide) (bnd (a := (0, (p : Int), 2)) ?_ (now _))⟩
    unfold rice_Take.f rice_held.f
    rw [kk_eq]
    simp only [Option.bind_some]
    refine succ ?_
    simp only [rice_Take.l0]
    refine bnd (take_dead hb hp 1) ?_
    rw [fail_eq]
    simp only [Option.bind_some]
    exact neg (by decide) (now _)
  · refine ⟨0, pos rfl (bnd (a := (0, (p : Int), 2)) ?_ (now _))⟩
    unfold section_raw.f
    exact pos rfl (now _)
def headW (wd : Bool) (o : Int) : List Bool := digs (if wd then 1 else 0) (hw 2) ++ digs (IntKind.u64.wrap o) (hw 4)
def OkP (w : Bool) (q : S50) : Prop := 0 ≤ q.f0 ∧ if q.f1 = true then q.f0 ≤ 31 else q.f0 ≤ (mostOf w : Int)
structure OkR (w : Bool) (r : S50 × List Int) : Prop where
  ne : r.2 ≠ []
  way : OkP w r.1
  num : ∀ y ∈ r.2, OkN r.1 y
theorem size15 (w : Bool) : section_size.f w = some (szR w) := by cases w <;> rfl
theorem szR_hw (w : Bool) : hw (szR w) = if w then 5 else 4 := by cases w <;> rfl
theorem part_pre {b : List Int} (hb : GB b) {L A R : List Bool} (h : Pre b L) (w : Bool) (q : S50) (hq : OkP w q) (hL : L = A ++ headP w q ++ R) (hA : A.length ≤ 8 * b.length) :
    ∃ v r p f, ((A ++ headP w q).length ≤ 8 * b.length ∧ v = q.f0 ∧ r = q.f1 ∧ p = ((A ++ headP w q).length : Int) ∧ f = 0 ∨ 8 * b.length < (A ++ headP w q).length ∧ v = 0 ∧ f = 2 ∧ ∃ p' : Nat, p = (p' : Int) ∧ p' ≤ 8 * b.length) ∧
      Ev (fun k => section_part.f k b (A.length : Int) 0 w) (v, r, p, f) := by
  unfold headP at hL ⊢
  obtain ⟨h0, h1⟩ := hq
  unfold section_part.f
  rw [size15]
  simp only [Option.bind_some]
  have hs0 : 0 ≤ szR w := by cases w <;> decide
  by_cases hr : q.f1 = true
  · rw [if_pos hr] at hL h1 ⊢
    have e1 : L = A ++ digs 31 (hw (szR w)) ++ (digs (IntKind.u64.wrap q.f0) (hw 5) ++ R) := by rw [hL]; simp
    have e2 : L = (A ++ digs 31 (hw (szR w))) ++ digs (IntKind.u64.wrap q.f0) (hw 5) ++ R := by rw [hL]; simp
    obtain ⟨v1, p1, f1, g1, z1, t1⟩ := take_pre hb h e1 (szR w) (by rw [digs_len]) hA
    rcases g1 with ⟨g1, rfl, rfl, rfl⟩ | ⟨g1, rfl, p', rfl, hp'⟩
    · obtain ⟨v2, p2, f2, g2, z2, t2⟩ := take_pre hb h e2 5 (by rw [digs_len]) g1
      have hall : wrap64 (num (digs 31 (hw (szR w)))) = wrap64 (shl .i64 1 (szR w) - 1) := by cases w <;> decide +kernel
      rcases g2 with ⟨g2, rfl, rfl, rfl⟩ | ⟨g2, rfl, p', rfl, hp'⟩
      · refine ⟨_, true, _, _, .inl ⟨by simpa using g2, ?_, hr.symm, by simp, rfl⟩, bnd t1 (pos hs0 (pos hall (bnd t2 (now _))))⟩
        have e5 : hw 5 = 5 := rfl
        rw [e5, num_digs, wrapmod _ 5 (by decide), show (2 : Int) ^ 5 = 32 by decide, w64 (by omega) (by omega)]
        omega
      · refine ⟨_, true, _, _, .inr ⟨by simpa using g2, ?_, rfl, p', rfl, hp'⟩, bnd t1 (pos hs0 (pos hall (bnd t2 (now _))))⟩
        rw [z2 rfl]; exact w64 (x := 0) (by decide) (by decide)
    · have h0' : ¬ wrap64 v1 = wrap64 (shl .i64 1 (szR w) - 1) := by rw [z1 rfl]; cases w <;> decide +kernel
      refine ⟨_, false, _, _, .inr ⟨by simp at g1 ⊢; omega, ?_, rfl, p', rfl, hp'⟩, bnd t1 (pos hs0 (neg h0' (now _)))⟩
      rw [z1 rfl]; exact w64 (x := 0) (by decide) (by decide)
  · rw [if_neg hr] at hL h1 ⊢
    obtain ⟨v1, p1, f1, g1, z1, t1⟩ := take_pre hb h hL (szR w) (by rw [digs_len]) hA
    have hf : q.f1 = false := by cases hh : q.f1 <;> simp_all
    rcases g1 with ⟨g1, rfl, rfl, rfl⟩ | ⟨g1, rfl, p', rfl, hp'⟩
    · have hv : wrap64 (num (digs (IntKind.u64.wrap q.f0) (hw (szR w)))) = q.f0 := by
        rw [num_digs, szR_hw, wrapmod _ _ (by cases w <;> decide)]
        cases w
        · have h1 : q.f0 ≤ 14 := h1
          simp only [Bool.false_eq_true, if_false]
          rw [show (2 : Int) ^ 4 = 16 by decide, w64 (by omega) (by omega)]; omega
        · have h1 : q.f0 ≤ 30 := h1
          simp only [if_true]
          rw [show (2 : Int) ^ 5 = 32 by decide, w64 (by omega) (by omega)]; omega
      have hne : ¬ q.f0 = wrap64 (shl .i64 1 (szR w) - 1) := by
        cases w
        · have h1 : q.f0 ≤ 14 := h1
          have e : wrap64 (shl .i64 1 (szR false) - 1) = 15 := by decide +kernel
          rw [e]; omega
        · have h1 : q.f0 ≤ 30 := h1
          have e : wrap64 (shl .i64 1 (szR true) - 1) = 31 := by decide +kernel
          rw [e]; omega
      refine ⟨q.f0, false, _, _, .inl ⟨g1, rfl, hf.symm, rfl, rfl⟩, bnd t1 ?_⟩
      simp only [hv]
      exact pos hs0 (neg hne (now _))
    · have h0' : ¬ wrap64 v1 = wrap64 (shl .i64 1 (szR w) - 1) := by rw [z1 rfl]; cases w <;> decide +kernel
      refine ⟨_, false, _, _, .inr ⟨g1, ?_, rfl, p', rfl, hp'⟩, bnd t1 (pos hs0 (neg h0' (now _)))⟩
      rw [z1 rfl]; exact w64 (x := 0) (by decide) (by decide)
end Go.Proofs.Ytokdjeoecnnckaa.PL
end
section
namespace Go.Proofs.Ytokdjeoecnnckaa.PL
open Go Go.RowKit Go.Proofs.Ytokdjeoecnnckaa.PA Go.Proofs.YtokdjeoecnnckaaW.PrintWords Go.Proofs.YtokdjeoecnnckaaW.PrintLast Go.Proofs.YtokdjeoecnnckaaW.PrintMore
set_option linter.unusedSimpArgs false
set_option linter.unusedVariables false
def Whole : List Int → Nat → Prop
  | [], r => r = 0
  | n :: cs, r => 1 ≤ n ∧ n ≤ (r : Int) ∧ Whole cs (r - n.toNat)
theorem whole_rep (s : Int) (h : 1 ≤ s) : ∀ (m r : Nat), s * m = (r : Int) → Whole (List.replicate m s) r
  | 0, r, hr => by
    show r = 0
    simp at hr
    omega
  | m + 1, r, hr => by
    have e : s * ((m + 1 : Nat) : Int) = s * m + s := by rw [Int.natCast_succ, Int.mul_add, Int.mul_one]
    have h0 : 0 ≤ s * (m : Int) := Int.mul_nonneg (by omega) (by omega)
    refine ⟨h, by omega, whole_rep s h m _ ?_⟩
    omega
theorem whole_cuts (n : Nat) (order : Int) (ho : 0 ≤ order) (o : Nat) (hne : cutsP (n : Int) order o ≠ []) : Whole (cutsP (n : Int) order o) n := by
  unfold cutsP at hne ⊢
  split
  · rename_i h
    have hp : (0 : Int) < 2 ^ o := Int.pow_pos (by decide)
    have h3 : ((2 ^ o : Nat) : Int) = (2 : Int) ^ o := by simp
    have hme := Int.mul_ediv_add_emod ((n : Int) + order) (2 ^ o)
    have hp2 : 0 < 2 ^ o := Nat.pow_pos (by decide)
    have e : ((n : Int) + order) / 2 ^ o * ((2 ^ o - 1 : Nat) : Int) = 2 ^ o * (((n : Int) + order) / 2 ^ o) - ((n : Int) + order) / 2 ^ o := by
      rw [show ((2 ^ o - 1 : Nat) : Int) = 2 ^ o - 1 by omega, Int.mul_sub, Int.mul_one, Int.mul_comm]
    have h0 : 0 ≤ ((n : Int) + order) / 2 ^ o * ((2 ^ o - 1 : Nat) : Int) := Int.mul_nonneg (by omega) (by omega)
    exact ⟨by omega, by omega, whole_rep _ (by omega) _ _ (by omega)⟩
  · rename_i h
    rw [if_neg h] at hne
    exact absurd rfl hne
theorem whole_cutsI (n : Nat) (order o : Int) (ho : 0 ≤ order) (hne : cutsI (n : Int) order o ≠ []) : Whole (cutsI (n : Int) order o) n ∧ 0 ≤ o ∧ o ≤ 15 := by
  unfold cutsI at hne ⊢
  split
  · rename_i h
    rw [if_pos h] at hne
    exact ⟨whole_cuts n order ho _ hne, h⟩
  · rename_i h
    rw [if_neg h] at hne
    exact absurd rfl hne
theorem whole_sfits : ∀ (cs : List Int) (r : Nat), Whole cs r → SFits cs r
  | [], _, _ => trivial
  | _ :: cs, r, h => ⟨by have := h.1; omega, h.2.1, whole_sfits cs _ h.2.2⟩
theorem rows_whole : ∀ (cs l : List Int) (ps : List S50), Whole cs l.length → cs.length = ps.length → (rowsP cs l ps).map (·.1) = ps ∧ (rowsP cs l ps).flatMap (·.2) = l ∧ (rowsP cs l ps).map (fun r => (r.2.length : Int)) = cs ∧ ∀ r ∈ rowsP cs l ps, r.2 ≠ []
  | [], l, ps, hw, hl => by
    have hw : l.length = 0 := hw
    rw [List.eq_nil_of_length_eq_zero hw, List.eq_nil_of_length_eq_zero (by simpa using hl.symm : ps.length = 0)]
    simp [rowsP]
  | _ :: _, _, [], _, hl => by simp at hl
  | n :: cs, l, p :: ps, hw, hl => by
    obtain ⟨h1, h2, h3⟩ := hw
    have ih := rows_whole cs (l.drop n.toNat) ps (by rw [List.length_drop]; exact h3) (by simpa using hl)
    have ht : ((l.take n.toNat).length : Int) = n := by rw [List.length_take]; omega
    simp only [rowsP, List.map_cons, List.flatMap_cons]
    refine ⟨by rw [ih.1], by rw [ih.2.1, List.take_append_drop], by rw [ih.2.2.1, ht], ?_⟩
    intro r hr
    rcases List.mem_cons.1 hr with rfl | hr
    · intro he
      rw [show (l.take n.toNat) = [] from he] at ht
      simp at ht
      omega
    · exact ih.2.2.2 r hr
def rowsN (w : Bool) : List (S50 × List Int) → Int
  | [] => 0
  | r :: t => sizeOf_ w + eachW r.2 r.1 + rowsN w t
theorem go_rows (w : Bool) : ∀ (cs l : List Int) (ps : List S50) (s : Int), cs.length = ps.length → 0 ≤ bitsGo w (split cs l) ps s →
    (∀ r ∈ rowsP cs l ps, 0 ≤ eachW r.2 r.1 ∧ (r.1.f1 = true ∨ (0 ≤ r.1.f0 ∧ r.1.f0 ≤ (mostOf w : Int)))) ∧ bitsGo w (split cs l) ps s = s + rowsN w (rowsP cs l ps)
  | [], l, ps, s, hl, h => by
    rw [List.eq_nil_of_length_eq_zero (by simpa using hl.symm : ps.length = 0)]
    simp [rowsP, split, bitsGo, rowsN]
  | _ :: _, _, [], _, hl, _ => by simp at hl
  | n :: cs, l, p :: ps, s, hl, h => by
    simp only [split, bitsGo] at h ⊢
    by_cases h1 : eachW (l.take n.toNat) p < 0
    · rw [if_pos h1] at h; omega
    rw [if_neg h1] at h ⊢
    by_cases h2 : p.f1 = true ∨ (0 ≤ p.f0 ∧ p.f0 ≤ (mostOf w : Int))
    · rw [if_pos h2] at h ⊢
      obtain ⟨i1, i2⟩ := go_rows w cs (l.drop n.toNat) ps _ (by simpa using hl) h
      refine ⟨?_, ?_⟩
      · intro r hr
        simp only [rowsP, List.mem_cons] at hr
        rcases hr with rfl | hr
        · exact ⟨Int.not_lt.1 h1, h2⟩
        · exact i1 r hr
      · rw [i2]
        simp only [rowsP, rowsN]
        omega
    · rw [if_neg h2] at h; omega
theorem ok_way {w : Bool} {q : S50} {xs : List Int} (h0 : 0 ≤ eachW xs q) (h2 : q.f1 = true ∨ (0 ≤ q.f0 ∧ q.f0 ≤ (mostOf w : Int))) : NearAll xs ∧ OkP w q ∧ (∀ y ∈ xs, OkN q y) ∧ eachW xs q = (if q.f1 = true then 5 + q.f0 * xs.length else bitsL (kk q.f0) xs) := by
  unfold eachW at h0 ⊢
  by_cases hr : q.f1 = true
  · rw [if_pos hr] at h0 ⊢
    split at h0
    · rename_i hc
      obtain ⟨hn, hw, h31⟩ := hc
      obtain ⟨w1, _, _⟩ := wid_spec hn
      refine ⟨hn, ⟨by omega, by rw [if_pos hr]; exact h31⟩, fun y hy => ?_, by rw [if_pos ⟨hn, hw, h31⟩, if_pos hr]⟩
      unfold OkN
      rw [if_pos hr]
      exact ⟨by omega, h31, fitsW_mono w1 (by omega) y hy⟩
    · omega
  · rw [if_neg hr] at h0 ⊢
    split at h0
    · rename_i hn
      have h2 := h2.resolve_left hr
      refine ⟨hn, ⟨h2.1, by rw [if_neg hr]; exact h2.2⟩, fun y hy => ?_, by rw [if_pos hn, if_neg hr]⟩
      unfold OkN
      rw [if_neg hr]
      exact hn y hy
    · omega
theorem long_eq {n k : Int} (hn : IsNear n) (h0 : 0 ≤ k) (h30 : k ≤ 30) : section_long.f n k = some (decide (fold n / 2 ^ kk k > 65535)) := by
  unfold section_long.f
  unfold IsNear at hn
  rw [fold_eq n (by omega)]
  simp only [Option.bind_some]
  have e : k = ((kk k : Nat) : Int) := by unfold kk; omega
  have hk := kk_le k
  rw [if_pos h0, show shr .u64 (fold n) k = shr .u64 (fold n) ((kk k : Nat) : Int) by rw [← e], shr_u64 _ (by omega)]
theorem szW_eq (w : Bool) : szW w = szR w := rfl
theorem rice_app (K : Int) : ∀ (xs : List Int) (A : List Bool), (∀ y ∈ xs, IsNear y ∧ ¬ fold y / 2 ^ kk K > 65535) → riceAll K A xs = A ++ xs.flatMap (fun y => putB y (kk K))
  | [], A, _ => by simp [riceAll]
  | x :: t, A, h => by
    have hx := h x (by simp)
    have e : riceAll K A (x :: t) = riceAll K (rputR A x (kk K)).2 t := rfl
    have e2 : (rputR A x (kk K)).2 = A ++ putB x (kk K) := by unfold rputR; rw [if_neg (by simpa using hx.1), if_neg hx.2]
    rw [e, e2, rice_app K t _ (fun y hy => h y (by simp [hy]))]
    simp
theorem raw_app (K : Int) : ∀ (xs : List Int) (A : List Bool), rawAll K A xs = A ++ xs.flatMap (fun y => digs (IntKind.u64.wrap y) (hw K))
  | [], A => by simp [rawAll]
  | x :: t, A => by
    have e : rawAll K A (x :: t) = rawAll K (A ++ digs (IntKind.u64.wrap x) (hw K)) t := rfl
    rw [e, raw_app K t]
    simp
theorem putB_sz {n : Int} (h : IsNear n) (k : Nat) : ((putB n k).length : Int) = sz n k := by
  have hf := fold_near h
  have hd := div_pow_bd (x := fold n) (s := k) hf.1
  rw [putB_len]
  unfold sz
  omega
theorem flat_sz (k : Nat) : ∀ (xs : List Int), NearAll xs → ((xs.flatMap (fun y => putB y k)).length : Int) = bitsL k xs
  | [], _ => rfl
  | x :: t, h => by
    have h1 := putB_sz (nearAll_cons.1 h).1 k
    have h2 := flat_sz k t (nearAll_cons.1 h).2
    simp only [List.flatMap_cons, List.length_append, bitsL]
    omega
theorem flat_digs (K : Nat) : ∀ (xs : List Int), (xs.flatMap (fun y => digs (IntKind.u64.wrap y) K)).length = K * xs.length
  | [] => by simp
  | x :: t => by
    have h2 := flat_digs K t
    simp only [List.flatMap_cons, List.length_append, digs_len, List.length_cons, h2]
    rw [Nat.mul_add]
    omega
theorem szR_sz (w : Bool) : ((hw (szR w) : Nat) : Int) = sizeOf_ w := by cases w <;> rfl
theorem part_app {w : Bool} {r : S50 × List Int} (h0 : 0 ≤ eachW r.2 r.1) (h2 : r.1.f1 = true ∨ (0 ≤ r.1.f0 ∧ r.1.f0 ≤ (mostOf w : Int))) (hl : longP r = false) (A : List Bool) :
    putPart w A r.1 r.2 = A ++ partB w r.1 r.2 ∧ ((partB w r.1 r.2).length : Int) = sizeOf_ w + eachW r.2 r.1 := by
  obtain ⟨q, xs⟩ := r
  have h0 : 0 ≤ eachW xs q := h0
  have h2 : q.f1 = true ∨ (0 ≤ q.f0 ∧ q.f0 ≤ (mostOf w : Int)) := h2
  obtain ⟨hn, hp, hok, he⟩ := ok_way h0 h2
  show putPart w A q xs = A ++ partB w q xs ∧ ((partB w q xs).length : Int) = sizeOf_ w + eachW xs q
  have hm := mostOf_le w
  have hs := szR_sz w
  unfold putPart partB headP numB
  rw [he]
  by_cases hr : q.f1 = true
  · simp only [if_pos hr]
    obtain ⟨p0, p1⟩ := hp
    rw [if_pos hr] at p1
    obtain ⟨K, hK⟩ : ∃ K : Nat, q.f0 = (K : Int) := ⟨q.f0.toNat, by omega⟩
    rw [hK] at p1 ⊢
    rw [raw_app, szW_eq, hw_nat (by omega)]
    refine ⟨by simp, ?_⟩
    have h5 : hw 5 = 5 := rfl
    rw [List.length_append, List.length_append, digs_len, digs_len, flat_digs, h5]
    have : ((K * xs.length : Nat) : Int) = (K : Int) * xs.length := by simp
    omega
  · simp only [if_neg hr]
    have hK := h2.resolve_left hr
    rw [rice_app, szW_eq]
    · refine ⟨by simp, ?_⟩
      have := flat_sz (kk q.f0) xs hn
      rw [List.length_append, digs_len]
      omega
    · intro y hy
      refine ⟨hn y hy, fun hc => ?_⟩
      unfold longP at hl
      have hf : q.f1 = false := by cases hh : q.f1 <;> simp_all
      rw [hf] at hl
      simp only [Bool.not_false, Bool.true_and] at hl
      have h3 := List.any_eq_false.1 hl y hy
      rw [long_eq (hn y hy) hK.1 (by omega)] at h3
      simp only [Option.getD_some, decide_eq_true_eq] at h3
      exact h3 hc
theorem all_app (w : Bool) : ∀ (rs : List (S50 × List Int)) (A : List Bool), (∀ r ∈ rs, (0 ≤ eachW r.2 r.1 ∧ (r.1.f1 = true ∨ (0 ≤ r.1.f0 ∧ r.1.f0 ≤ (mostOf w : Int)))) ∧ longP r = false) →
    putAllP w A rs = A ++ rs.flatMap (fun r => partB w r.1 r.2) ∧ ((rs.flatMap (fun r => partB w r.1 r.2)).length : Int) = rowsN w rs
  | [], A, _ => by simp [putAllP, rowsN]
  | r :: t, A, h => by
    have hr := h r (by simp)
    obtain ⟨h1, h2⟩ := part_app hr.1.1 hr.1.2 hr.2 A
    have e : putAllP w A (r :: t) = putAllP w (putPart w A r.1 r.2) t := rfl
    obtain ⟨i1, i2⟩ := all_app w t (A ++ partB w r.1 r.2) (fun x hx => h x (by simp [hx]))
    rw [e, h1, i1]
    refine ⟨by simp, ?_⟩
    simp only [List.flatMap_cons, List.length_append, rowsN]
    omega
def secB (l : List Int) (order : Int) (wd : Bool) (o : Int) (ps : List S50) : List Bool := headW wd o ++ (rowsP (cutsI (l.length : Int) order o) l ps).flatMap (fun r => partB wd r.1 r.2)
def lonP (l : List Int) (order o : Int) (ps : List S50) : Bool := (rowsP (cutsI (l.length : Int) order o) l ps).any longP
structure Fine (l : List Int) (order : Int) (wd : Bool) (o : Int) (ps : List S50) : Prop where
  ne : cutsI (l.length : Int) order o ≠ []
  oin : 0 ≤ o ∧ o ≤ 15
  len : (cutsI (l.length : Int) order o).length = ps.length
  whole : Whole (cutsI (l.length : Int) order o) l.length
  rows : ∀ r ∈ rowsP (cutsI (l.length : Int) order o) l ps, 0 ≤ eachW r.2 r.1 ∧ (r.1.f1 = true ∨ (0 ≤ r.1.f0 ∧ r.1.f0 ≤ (mostOf wd : Int)))
  bits : bitsV l order wd o ps = 6 + rowsN wd (rowsP (cutsI (l.length : Int) order o) l ps)
theorem fine_of {l : List Int} {order : Int} {wd : Bool} {o : Int} {ps : List S50} (ho : 0 ≤ order) (h : 0 ≤ bitsV l order wd o ps) : Fine l order wd o ps := by
  unfold bitsV at h
  split at h
  · omega
  · rename_i hc
    have hc1 : cutsI (l.length : Int) order o ≠ [] := fun x => hc (.inl x)
    have hc2 : (cutsI (l.length : Int) order o).length = ps.length := Decidable.not_not.1 (fun x => hc (.inr x))
    obtain ⟨w1, w2⟩ := whole_cutsI l.length order o ho hc1
    obtain ⟨g1, g2⟩ := go_rows wd _ l ps 6 hc2 h
    exact ⟨hc1, w2, hc2, w1, g1, by unfold bitsV; rw [if_neg hc, g2]⟩
theorem Fine.okr {l : List Int} {order : Int} {wd : Bool} {o : Int} {ps : List S50} (h : Fine l order wd o ps) : ∀ r ∈ rowsP (cutsI (l.length : Int) order o) l ps, OkR wd r := fun r hr => by
  obtain ⟨h1, h2⟩ := h.rows r hr
  obtain ⟨_, k1, k2, _⟩ := ok_way h1 h2
  exact ⟨(rows_whole _ l ps h.whole h.len).2.2.2 r hr, k1, k2⟩
theorem headB_eq (wd : Bool) (o : Int) : headB [] wd o = headW wd o := by simp [headB, headW]
theorem headW_len (wd : Bool) (o : Int) : (headW wd o).length = 6 := by
  unfold headW
  rw [List.length_append, digs_len, digs_len]
  rfl
theorem Fine.put {l : List Int} {order : Int} {wd : Bool} {o : Int} {ps : List S50} (h : Fine l order wd o ps) (hl : lonP l order o ps = false) :
    putAllP wd (headB [] wd o) (rowsP (cutsI (l.length : Int) order o) l ps) = secB l order wd o ps ∧ ((secB l order wd o ps).length : Int) = bitsV l order wd o ps := by
  obtain ⟨h1, h2⟩ := all_app wd (rowsP (cutsI (l.length : Int) order o) l ps) (headB [] wd o) (fun r hr => ⟨h.rows r hr, by
    cases hh : longP r
    · rfl
    · have := List.any_eq_false.1 hl r hr
      exact absurd hh this⟩)
  rw [headB_eq] at h1 ⊢
  refine ⟨h1, ?_⟩
  unfold secB
  rw [List.length_append, headW_len, h.bits]
  omega
theorem sput_eq (l : List Int) (hl : l.length ≤ 1000) (h64 : ∀ x ∈ l, -9223372036854775808 ≤ x ∧ x < 9223372036854775808) (order : Int) (ho : 0 ≤ order) (ho2 : order ≤ 32) (wd : Bool) (o : Int) (ps : List S50) (hps : ps.length ≤ 1000) :
    section_Put.f (WB []) 0 l order wd o ps = some (if bitsV l order wd o ps < 0 then (1, WB [], 0) else if lonP l order o ps = true then (7, WB [], 0) else (0, WB (secB l order wd o ps), bitsV l order wd o ps)) := by
  unfold section_Put.f sectionPut.f
  rw [if_pos ⟨rfl, rfl, hl, hps, h64⟩, lim15_ev (bitsV_ev hl ho ho2 wd o ps)]
  simp only [Option.bind_some]
  by_cases h0 : bitsV l order wd o ps < 0
  · rw [if_pos h0, if_pos h0]
  · rw [if_neg h0, if_neg h0, lim15_ev (cutsI_ev (l.length : Int) order o (by omega) (by omega) ho (by omega))]
    simp only [Option.bind_some]
    have hf := fine_of (l := l) (wd := wd) (o := o) (ps := ps) ho (by omega)
    have hk : ∀ p ∈ ps, p.f1 = true ∨ 0 ≤ p.f0 := by
      intro p hp
      have hm := (rows_whole _ l ps hf.whole hf.len).1
      rw [← hm] at hp
      obtain ⟨r, hr, rfl⟩ := List.mem_map.1 hp
      exact (hf.rows r hr).2.imp id (fun h => h.1)
    rw [if_pos ⟨whole_sfits _ _ hf.whole, hf.len, hk⟩]
    by_cases h1 : lonP l order o ps = true
    · have h1' : (rowsP (cutsI (l.length : Int) order o) l ps).any longP = true := h1
      rw [if_pos h1, if_pos h1']
    · have h1' : ¬ (rowsP (cutsI (l.length : Int) order o) l ps).any longP = true := h1
      obtain ⟨p1, p2⟩ := hf.put (by cases hh : lonP l order o ps <;> simp_all)
      rw [if_neg h1, if_neg h1', p1, p2]
end Go.Proofs.Ytokdjeoecnnckaa.PL
end
section
namespace Go.Proofs.Ytokdjeoecnnckaa.PL
open Go.RowKit Go.Proofs.Ytokdjeoecnnckaa.PA Go.Proofs.YtokdjeoecnnckaaW.PrintWords
theorem ints_l0 (a b : List Int) (h : a.length = b.length) (ha : a.length < 1152921504606846976) : ∀ (t p q : List Int) (u : List Int), a = p ++ t → b = q ++ u → p.length = q.length → Ev (fun k => serinetteref01_Ints.l0 k a b (p.length : Int)) (decide (t = u)) := by
  intro t
  induction t with
  | nil =>
    intro p q u hp hq hl
    have hu : u = [] := by
      have := congrArg List.length hp; have := congrArg List.length hq; simp at *; apply List.eq_nil_of_length_eq_zero; omega
    subst hu
    refine succ ?_
    simp only [serinetteref01_Ints.l0]
    exact neg (by rw [hp]; simp) (cst (by simp))
  | cons x t ih =>
    intro p q u hp hq hl
    have l1 := congrArg List.length hp; have l2 := congrArg List.length hq
    cases u with
    | nil => simp at *; omega
    | cons y u =>
      simp only [List.length_append, List.length_cons] at l1 l2
      refine succ ?_
      simp only [serinetteref01_Ints.l0]
      refine pos (by omega) (pos (by omega) (pos (by omega) ?_))
      rw [w64 (by omega) (by omega)]
      have ra : rd a (p.length : Int) = x := by rw [hp]; exact rd_at _ _ _
      have rb : rd b (p.length : Int) = y := by rw [hq, hl]; exact rd_at _ _ _
      rw [ra, rb]
      by_cases hxy : x = y
      · refine pos hxy ?_
        have := ih (p ++ [x]) (q ++ [y]) u (by simp [hp]) (by simp [hq]) (by simp [hl])
        subst hxy
        simpa using this
      · exact neg hxy (cst (by simp [hxy]))
theorem ints_ev (a b : List Int) (ha : a.length < 1152921504606846976) : Ev (fun k => serinetteref01_Ints.f k a b) (decide (a = b)) := by
  unfold serinetteref01_Ints.f
  by_cases h : a.length = b.length
  · exact pos (by omega) (ints_l0 a b h ha a [] [] b rfl rfl rfl)
  · exact neg (by omega) (cst (by simp; intro e; exact h (by rw [e])))
theorem ints_refl (a : List Int) (ha : a.length < 1152921504606846976) : Ev (fun k => serinetteref01_Ints.f k a a) true := by simpa using ints_ev a a ha
end Go.Proofs.Ytokdjeoecnnckaa.PL
end
section
namespace Go.Proofs.Ytokdjeoecnnckaa.PL
open Go.RowKit Go.Proofs.Ytokdjeoecnnckaa.PA Go.Proofs.YtokdjeoecnnckaaW.PrintWords Go.Proofs.YtokdjeoecnnckaaW.PrintLast Go.Proofs.YtokdjeoecnnckaaW.PrintMore
set_option linter.unusedVariables false
set_option linter.unusedSimpArgs false
theorem pow_bd' : ∀ n : Nat, n ≤ 62 → (1 : Int) ≤ 2 ^ n ∧ (2 : Int) ^ n ≤ 4611686018427387904
  | 0, _ => by decide
  | n + 1, h => by
    constructor
    · have := (pow_bd' n (by omega)).1; rw [Int.pow_succ]; omega
    · have h1 : (2 : Int) ^ (n + 1) ≤ 2 ^ 62 := by
        have : (2 : Nat) ^ (n + 1) ≤ 2 ^ 62 := Nat.pow_le_pow_right (by decide) h
        exact_mod_cast this
      exact h1
theorem power6_ev (n : Nat) (hn : n ≤ 62) : Ev (fun k => serinetteref06_Power.f k (n : Int)) ((2 : Int) ^ n) := by
  have key : ∀ d i, i + d = n → Ev (fun k => serinetteref06_Power.l0 k (n : Int) ((2 : Int) ^ i) (i : Int)) ((2 : Int) ^ n) := by
    intro d
    induction d with
    | zero =>
      intro i hi
      obtain rfl : i = n := by omega
      refine succ ?_
      simp only [serinetteref06_Power.l0]
      exact neg (by omega) (now _)
    | succ d ih =>
      intro i hi
      refine succ ?_
      simp only [serinetteref06_Power.l0]
      have hb := pow_bd' (i + 1) (by omega)
      have e : 2 * (2 : Int) ^ i = 2 ^ (i + 1) := by rw [Int.pow_succ, Int.mul_comm]
      rw [e, w64 (x := (2 : Int) ^ (i + 1)) (by omega) (by omega), w64 (x := (i : Int) + 1) (by omega) (by omega)]
      exact pos (by omega) (ih (i + 1) (by omega))
  exact key n 0 (by omega)
theorem ref_fold_eq (n : Int) (h : -9223372036854775808 ≤ n ∧ n < 9223372036854775808) : serinetteref02_Fold.f n = some (fold n) := by
  unfold serinetteref02_Fold.f fold
  simp only [u64_wrap]
  by_cases hn : n ≥ 0
  · rw [if_pos hn, if_pos hn]; congr 1; omega
  · rw [if_neg hn, if_neg hn, w64 (x := n + 1) (by omega) (by omega), w64 (x := -(n + 1)) (by omega) (by omega)]; congr 1; omega
theorem high_ev (n k : Int) (h : -9223372036854775808 ≤ n ∧ n < 9223372036854775808) : Ev (fun q => serinetteref02_High.f q n k) (fold n / 2 ^ kk k) := by
  have hk := kk_le k
  have hf := fold_bd n h
  unfold serinetteref02_High.f
  rw [ref_fold_eq n h]
  simp only [Option.bind_some]
  have key : ∀ (d i : Nat), i + d = kk k → Ev (fun q => serinetteref02_High.l0 q k (fold n / 2 ^ i) (i : Int)) (fold n / 2 ^ kk k) := by
    intro d
    induction d with
    | zero =>
      intro i hi
      obtain rfl : i = kk k := by omega
      refine succ ?_
      simp only [serinetteref02_High.l0]
      unfold serinetteref02_K.f
      simp only [Option.bind_some]
      rw [kk_eq]
      exact neg (by omega) (now _)
    | succ d ih =>
      intro i hi
      refine succ ?_
      simp only [serinetteref02_High.l0]
      unfold serinetteref02_K.f
      simp only [Option.bind_some]
      have hd := div_pow_bd (x := fold n) (s := i) hf.1
      have hd2 := div_pow_bd (x := fold n) (s := i + 1) hf.1
      have e : (fold n / 2 ^ i).tdiv 2 = fold n / 2 ^ (i + 1) := by
        rw [Int.tdiv_eq_ediv_of_nonneg hd.1, Int.pow_succ, Int.ediv_ediv_of_nonneg (Int.pow_nonneg (by decide))]
      rw [kk_eq, e, u64_wrap, Int.emod_eq_of_lt hd2.1 (by omega), w64 (x := (i : Int) + 1) (by omega) (by omega)]
      exact pos (by omega) (ih (i + 1) (by omega))
  have := key (kk k) 0 (by omega)
  simpa using this
theorem ref_cuts_l0 (B s order : Int) (N : Nat) (hN : 0 < N) (hN2 : N ≤ 40000) (hs : wrap64 (Int.tdiv B (N : Int)) = s) :
    ∀ (d i : Nat), i + 1 + d = N → Ev (fun k => serinetteref14_Cuts.l0 k B (N : Int) ((s - order) :: List.replicate i s)) ((s - order) :: List.replicate (N - 1) s) := by
  intro d
  induction d with
  | zero =>
    intro i hi
    obtain rfl : N = i + 1 := by omega
    refine succ ?_
    simp only [serinetteref14_Cuts.l0]
    exact neg (by simp) (now _)
  | succ d ih =>
    intro i hi
    refine succ ?_
    simp only [serinetteref14_Cuts.l0]
    rw [hs]
    refine pos (by simp; omega) (neg (by omega) (pos (by simp; omega) ?_))
    have := ih (i + 1) (by omega)
    rw [List.replicate_succ'] at this
    simpa using this
theorem ref_cuts_ev (n order : Int) (o : Nat) (hn0 : 0 ≤ n) (hn : n ≤ 100000) (ho0 : 0 ≤ order) (ho1 : order ≤ 100000) (ho : o ≤ 15) : Ev (fun k => serinetteref14_Cuts.f k n order (o : Int)) (cutsP n order o) := by
  obtain ⟨p1, p2⟩ := pow15 ho
  have hd0 : 0 ≤ (n + order) / 2 ^ o := Int.ediv_nonneg (by omega) (by omega)
  have hd1 : (n + order) / 2 ^ o ≤ n + order := Int.ediv_le_self _ (by omega)
  have h3 : ((2 ^ o : Nat) : Int) = (2 : Int) ^ o := by simp
  unfold serinetteref14_Cuts.f
  refine neg (by omega) (neg (by omega) (neg (by omega) ?_))
  rw [decide_eq_false (by omega)]
  refine succ ?_
  simp only [serinetteref14_Cuts.j0]
  refine neg (by decide) (bnd (power6_ev o (by omega)) (neg (by omega) ?_))
  have et : wrap64 (Int.tdiv (n + order) (2 ^ o)) = (n + order) / 2 ^ o := by rw [Int.tdiv_eq_ediv_of_nonneg (by omega), w64 (by omega) (by omega)]
  rw [w64 (x := n + order) (by omega) (by omega), et, Int.tmod_eq_emod_of_nonneg (by omega)]
  by_cases h0 : (n + order) % 2 ^ o = 0
  · refine pos h0 ?_
    refine succ ?_
    simp only [serinetteref14_Cuts.j1]
    by_cases hs : (n + order) / 2 ^ o ≤ order
    · refine pos (decide_eq_true hs) (cst ?_)
      rw [cutsP, if_neg (fun h => by omega)]
    · refine neg (by simpa using hs) (neg (by omega) ?_)
      rw [et, cutsP, if_pos ⟨h0, by omega⟩, w64 (by omega) (by omega)]
      have := ref_cuts_l0 (n + order) ((n + order) / 2 ^ o) order (2 ^ o) (by omega) (by omega) (by rw [h3]; exact et) (2 ^ o - 1) 0 (by omega)
      rw [h3] at this
      simpa using this
  · refine neg h0 ?_
    refine succ ?_
    simp only [serinetteref14_Cuts.j1]
    refine pos trivial (cst ?_)
    rw [cutsP, if_neg (fun h => h0 h.1)]
theorem ref_split_ev (l cs : List Int) (hl : l.length ≤ 1000) (hcl : cs.length ≤ 100000) (hf : Fits cs l.length) : Ev (fun k => serinetteref14_Split.f k l cs) (split cs l) := by
  have key : ∀ (t p : List Int) (at_ : Nat) (acc : List (List Int)), cs = p ++ t → at_ ≤ l.length → acc.length = p.length → Fits t (l.length - at_) → Ev (fun k => serinetteref14_Split.l0 k l cs acc (at_ : Int) (p.length : Int)) (acc ++ split t (l.drop at_)) := by
    intro t
    induction t with
    | nil =>
      intro p at_ acc hp ha hacc hft
      refine succ ?_
      simp only [serinetteref14_Split.l0]
      refine neg (by rw [hp]; simp) (cst ?_)
      simp [split]
    | cons c t ih =>
      intro p at_ acc hp ha hacc hft
      obtain ⟨h0, h1, h2⟩ := hft
      have l1 := congrArg List.length hp
      simp only [List.length_append, List.length_cons] at l1
      refine succ ?_
      simp only [serinetteref14_Split.l0]
      have ra : rd cs (p.length : Int) = c := by rw [hp]; exact rd_at _ _ _
      obtain ⟨m, rfl⟩ : ∃ m : Nat, c = (m : Int) := ⟨c.toNat, by omega⟩
      simp only [Int.toNat_natCast] at h2
      rw [ra, w64 (x := (at_ : Int) + (m : Int)) (by omega) (by omega), w64 (x := (p.length : Int) + 1) (by omega) (by omega)]
      refine pos (by omega) (pos (by omega) (pos (by omega) (pos (by omega) (pos (by omega) (pos (by omega) ?_)))))
      have e1 : (l.take ((at_ : Int) + (m : Int)).toNat).drop (at_ : Int).toNat = (l.drop at_).take m := by
        rw [show ((at_ : Int) + (m : Int)).toNat = at_ + m by omega, Int.toNat_natCast, List.drop_take]
        congr 1
        omega
      rw [e1]
      have := ih (p ++ [(m : Int)]) (at_ + m) (acc ++ [(l.drop at_).take m]) (by simp [hp]) (by omega) (by simp [hacc]) (by rw [show l.length - (at_ + m) = l.length - at_ - m by omega]; exact h2)
      have e2 : acc ++ [(l.drop at_).take m] ++ split t (l.drop (at_ + m)) = acc ++ split ((m : Int) :: t) (l.drop at_) := by
        simp only [split, Int.toNat_natCast, List.drop_drop, List.append_assoc, List.singleton_append]
      rw [e2] at this
      simpa using this
  have := key cs [] 0 [] rfl (Nat.zero_le _) rfl (by simpa using hf)
  unfold serinetteref14_Split.f
  simpa using this
theorem same_ev (w : Bool) (o : Int) (ps : List S50) (hl : ps.length < 1000000) : Ev (fun k => serinetteref14_Same.f k w o ps w o ps) true := by
  unfold serinetteref14_Same.f
  refine neg (by simp) (pos rfl ?_)
  have e : ((ps.length : Int) != (ps.length : Int)) = false := by simp
  rw [e]
  refine succ ?_
  simp only [serinetteref14_Same.j0]
  refine neg (by decide) ?_
  have key : ∀ (d i : Nat), i + d = ps.length → Ev (fun k => serinetteref14_Same.l0 k (i : Int) w o ps w o ps) true := by
    intro d
    induction d with
    | zero =>
      intro i hi
      refine succ ?_
      simp only [serinetteref14_Same.l0]
      exact neg (by omega) (now true)
    | succ d ih =>
      intro i hi
      refine succ ?_
      simp only [serinetteref14_Same.l0]
      rw [w64 (by omega) (by omega)]
      refine pos (by omega) (pos (by omega) (pos (by omega) (neg (by simp) ?_)))
      have := ih (i + 1) (by omega)
      simpa using this
  exact key ps.length 0 (by omega)
theorem ref_cutsI_ev (n order o : Int) (hn0 : 0 ≤ n) (hn : n ≤ 100000) (ho0 : 0 ≤ order) (ho1 : order ≤ 100000) : Ev (fun k => serinetteref14_Cuts.f k n order o) (cutsI n order o) := by
  have out : Ev (fun k => serinetteref14_Cuts.j0 k n order o true) [] := by
    refine succ ?_
    simp only [serinetteref14_Cuts.j0]
    exact pos trivial (now _)
  unfold cutsI
  by_cases h : 0 ≤ o ∧ o ≤ 15
  · rw [if_pos h]
    have := ref_cuts_ev n order o.toNat hn0 hn ho0 ho1 (by omega)
    rw [show ((o.toNat : Nat) : Int) = o by omega] at this
    exact this
  · rw [if_neg h]
    unfold serinetteref14_Cuts.f
    refine neg (by omega) (neg (by omega) ?_)
    by_cases h1 : o < 0
    · exact pos h1 out
    · refine neg h1 ?_
      rw [decide_eq_true (by omega)]
      exact out
end Go.Proofs.Ytokdjeoecnnckaa.PL
end
section
namespace Go.Proofs.Ytokdjeoecnnckaa.PL
open Go Go.RowKit Go.Proofs.Ytokdjeoecnnckaa.PA Go.Proofs.YtokdjeoecnnckaaW.PrintWords Go.Proofs.YtokdjeoecnnckaaW.PrintLast Go.Proofs.YtokdjeoecnnckaaW.PrintMore
set_option linter.unusedSimpArgs false
set_option linter.unusedVariables false
def nar (n : Int) : Prop := -2147483648 < n ∧ n < 2147483648
def OutR (b : List Int) (L : List Bool) (l : List Int) (wd : Bool) (o : Int) (ps : List S50) (res : List Int × Bool × Int × List S50 × Int × Int × Int) : Prop :=
  (L.length ≤ 8 * b.length ∧ (∀ x ∈ l, nar x) ∧ res = (l, wd, o, ps, 0, (L.length : Int), 0)) ∨ ((∃ x ∈ l, ¬ nar x) ∧ ∃ p f, res = ([], false, 0, [], 14, p, f)) ∨ (8 * b.length < L.length ∧ ∃ p f, res = ([], false, 0, [], 2, p, f))
theorem nums_out {b : List Int} (hb : GB b) {L : List Bool} (hpre : Pre b L) (l : List Int) (wd : Bool) (o : Int) (ps : List S50) (q : S50) (cuts : List Int) (cl i m : Int) (Q : List S50) :
    ∀ (ys : List Int) (j : Nat) (acc : List Int) (A R : List Bool), L = A ++ ys.flatMap (numB q) ++ R → A.length ≤ 8 * b.length → m = (j : Int) + (ys.length : Int) → (∀ y ∈ ys, y ∈ l ∧ OkN q y) → acc.length + ys.length ≤ 100000 → j + ys.length ≤ 100000 →
      ((∀ y ∈ ys, nar y) → (A ++ ys.flatMap (numB q)).length ≤ 8 * b.length → ∃ res, OutR b L l wd o ps res ∧ Ev (fun k => section_Take.l0 k (acc ++ ys) cuts cl (wrap64 (i + 1)) b ((A ++ ys.flatMap (numB q)).length : Int) 0 wd o Q) res) →
      ∃ res, OutR b L l wd o ps res ∧ Ev (fun k => section_Take.l1 k acc cuts cl i m (j : Int) b (A.length : Int) 0 wd o Q q.f0 q.f1) res := by
  intro ys
  induction ys with
  | nil =>
    intro j acc A R hL hA hm hy ha hj hk
    obtain ⟨res, h1, h2⟩ := hk (by simp) (by simpa using hA)
    simp only [List.flatMap_nil, List.append_nil] at h2
    refine ⟨res, h1, succ ?_⟩
    simp only [section_Take.l1]
    exact neg (by simp at hm; omega) h2
  | cons y t ih =>
    intro j acc A R hL hA hm hy ha hj hk
    obtain ⟨hyl, hyo⟩ := hy y (by simp)
    simp only [List.length_cons] at hm ha hj
    have e1 : L = A ++ numB q y ++ (t.flatMap (numB q) ++ R) := by rw [hL]; simp
    have e2 : L = (A ++ numB q y) ++ t.flatMap (numB q) ++ R := by rw [hL]; simp
    obtain ⟨v, p, f, g, t1⟩ := number_pre hb hpre q y hyo e1 hA
    rcases g with ⟨g, rfl, rfl, rfl⟩ | ⟨g, rfl, p', rfl, hp'⟩
    · by_cases hn : nar v
      · obtain ⟨res, h1, h2⟩ := ih (j + 1) (acc ++ [v]) (A ++ numB q v) R e2 g (by omega) (fun y hh => hy y (by simp [hh])) (by simp; omega) (by omega) (fun hs hl => by
          have := hk (fun z hz => by
            rcases List.mem_cons.1 hz with rfl | hz
            · exact hn
            · exact hs z hz) (by simpa using hl)
          simpa [List.append_assoc] using this)
        refine ⟨res, h1, succ ?_⟩
        simp only [section_Take.l1]
        have ej : wrap64 ((j : Int) + 1) = ((j + 1 : Nat) : Int) := by rw [w64 (by omega) (by omega)]; omega
        refine pos (by omega) (bnd t1 ?_)
        rw [fail_eq]
        simp only [Option.bind_some]
        rw [ej]
        unfold nar at hn
        exact pos (by first | trivial | rfl) (neg (by omega) (neg (by omega) (pos (by omega) h2)))
      · refine ⟨_, .inr (.inl ⟨⟨v, hyl, hn⟩, ((A ++ numB q v).length : Int), 0, rfl⟩), succ ?_⟩
        simp only [section_Take.l1]
        refine pos (by omega) (bnd t1 ?_)
        rw [fail_eq]
        simp only [Option.bind_some]
        refine pos (by first | trivial | rfl) ?_
        by_cases h1 : v ≤ -2147483648
        · exact pos h1 (now _)
        · refine neg h1 (pos ?_ (now _))
          unfold nar at hn
          omega
    · refine ⟨_, .inr (.inr ⟨?_, (p' : Int), 2, rfl⟩), succ ?_⟩
      · rw [e1, List.length_append]
        omega
      · simp only [section_Take.l1]
        refine pos (by omega) (bnd t1 ?_)
        rw [fail_eq]
        simp only [Option.bind_some]
        refine neg (by decide) ?_
        rw [fail_eq]
        exact now _
theorem rows_out {b : List Int} (hb : GB b) {L : List Bool} (hpre : Pre b L) (l : List Int) (hl : l.length ≤ 1000) (wd : Bool) (o : Int) (ps : List S50) (hps : ps.length ≤ 40000) (cuts : List Int) (hcl : cuts.length ≤ 40000) :
    ∀ (rs : List (S50 × List Int)) (pre acc : List Int) (Q : List S50) (A : List Bool), cuts = pre ++ rs.map (fun r => (r.2.length : Int)) → L = A ++ rs.flatMap (fun r => partB wd r.1 r.2) → A.length ≤ 8 * b.length → (∀ r ∈ rs, OkR wd r) →
      (∀ y ∈ acc, nar y) → acc ++ rs.flatMap (·.2) = l → Q ++ rs.map (·.1) = ps →
      ∃ res, OutR b L l wd o ps res ∧ Ev (fun k => section_Take.l0 k acc cuts (cuts.length : Int) (pre.length : Int) b (A.length : Int) 0 wd o Q) res := by
  intro rs
  induction rs with
  | nil =>
    intro pre acc Q A hc hL hA hok hacc hall hQ
    simp only [List.flatMap_nil, List.append_nil, List.map_nil] at hc hL hall hQ
    subst hL hall hQ
    refine ⟨_, .inl ⟨hA, hacc, rfl⟩, succ ?_⟩
    simp only [section_Take.l0]
    exact neg (by rw [hc]; omega) (now _)
  | cons r t ih =>
    intro pre acc Q A hc hL hA hok hacc hall hQ
    obtain ⟨hne, hway, hnum⟩ := hok r (by simp)
    obtain ⟨q, ys⟩ := r
    simp only at hne hway hnum
    simp only [List.map_cons, List.flatMap_cons] at hc hL hall hQ
    rw [show partB wd q ys = headP wd q ++ ys.flatMap (numB q) from rfl] at hL
    have hcl2 := congrArg List.length hc
    have hql := congrArg List.length hQ
    have hal := congrArg List.length hall
    simp only [List.length_append, List.length_cons] at hcl2 hql hal
    have hys : 0 < ys.length := List.length_pos_iff.2 hne
    have e1 : L = A ++ headP wd q ++ (ys.flatMap (numB q) ++ t.flatMap (fun r => partB wd r.1 r.2)) := by rw [hL]; simp
    have e2 : L = (A ++ headP wd q) ++ ys.flatMap (numB q) ++ t.flatMap (fun r => partB wd r.1 r.2) := by rw [hL]; simp
    have hrd : rd cuts (pre.length : Int) = (ys.length : Int) := by rw [hc]; exact rd_at _ _ _
    obtain ⟨v, r, p, f, g, t1⟩ := part_pre hb hpre wd q hway e1 hA
    rcases g with ⟨g, rfl, rfl, rfl, rfl⟩ | ⟨g, rfl, rfl, p', rfl, hp'⟩
    · have nx := nums_out hb hpre l wd o ps q cuts (cuts.length : Int) (pre.length : Int) (ys.length : Int) (Q ++ [(⟨q.f0, q.f1⟩ : S50)]) ys 0 acc (A ++ headP wd q) (t.flatMap (fun r => partB wd r.1 r.2)) e2 g (by omega)
        (fun y hy => ⟨by rw [← hall]; simp [hy], hnum y hy⟩) (by omega) (by omega) (fun hs hlen => by
          have hi := ih (pre ++ [(ys.length : Int)]) (acc ++ ys) (Q ++ [q]) ((A ++ headP wd q) ++ ys.flatMap (numB q)) (by rw [hc]; simp) e2 hlen (fun r hr => hok r (by simp [hr]))
            (fun y hy => by
              rcases List.mem_append.1 hy with h | h
              · exact hacc y h
              · exact hs y h) (by rw [← hall]; simp) (by rw [← hQ]; simp)
          have ei : wrap64 ((pre.length : Int) + 1) = ((pre ++ [(ys.length : Int)]).length : Int) := by rw [w64 (by omega) (by omega), List.length_append]; simp
          rw [ei]
          exact hi)
      obtain ⟨res, h1, h2⟩ := nx
      refine ⟨res, h1, succ ?_⟩
      simp only [section_Take.l0]
      rw [hrd]
      exact pos (by omega) (pos (by omega) (pos (by omega) (bnd t1 (pos (by omega) h2))))
    · obtain ⟨v2, t2⟩ := number_dead hb hp' r
      refine ⟨_, .inr (.inr ⟨?_, (p' : Int), 2, rfl⟩), succ ?_⟩
      · rw [e1, List.length_append]
        omega
      · simp only [section_Take.l0]
        rw [hrd]
        refine pos (by omega) (pos (by omega) (pos (by omega) (bnd t1 (pos (by omega) (succ ?_)))))
        simp only [section_Take.l1]
        refine pos (by omega) (bnd t2 ?_)
        rw [fail_eq]
        simp only [Option.bind_some]
        refine neg (by decide) ?_
        rw [fail_eq]
        exact now _
theorem take15 {b : List Int} (hb : GB b) {L : List Bool} (hpre : Pre b L) (l : List Int) (hl : l.length ≤ 1000) (hl0 : l.length ≠ 0) (wd : Bool) (o order : Int) (ho : 0 ≤ o ∧ o ≤ 15) (hord : 0 ≤ order ∧ order ≤ 32) (rs : List (S50 × List Int)) (hrs : rs.length ≤ 40000)
    (hc : cutsI (l.length : Int) order o = rs.map (fun r => (r.2.length : Int))) (hne : rs ≠ []) (hL : L = headW wd o ++ rs.flatMap (fun r => partB wd r.1 r.2)) (hok : ∀ r ∈ rs, OkR wd r) (hall : rs.flatMap (·.2) = l) :
    ∃ res, OutR b L l wd o (rs.map (·.1)) res ∧ Ev (fun k => section_Take.f k b 0 0 ((l.length : Int) + order) order) res := by
  have e1 : L = [] ++ digs (if wd then 1 else 0) (hw 2) ++ (digs (IntKind.u64.wrap o) (hw 4) ++ rs.flatMap (fun r => partB wd r.1 r.2)) := by rw [hL]; simp [headW]
  have e2 : L = digs (if wd then 1 else 0) (hw 2) ++ digs (IntKind.u64.wrap o) (hw 4) ++ rs.flatMap (fun r => partB wd r.1 r.2) := by rw [hL]; rfl
  have ht : ∃ res, OutR b L l wd o (rs.map (·.1)) res ∧ Ev (fun k => section_Take.j0 k ((l.length : Int) + order) order false b 0 0) res := by
    obtain ⟨v1, p1, f1, g1, z1, t1⟩ := take_pre hb hpre e1 2 (by rw [digs_len]) (by simp)
    rw [show (([] : List Bool).length : Int) = 0 from rfl] at t1
    simp only [List.nil_append] at g1
    rcases g1 with ⟨g1, rfl, rfl, rfl⟩ | ⟨g1, rfl, p', rfl, hp'⟩
    · have hv : num (digs (if wd then 1 else 0) (hw 2)) = if wd then 1 else 0 := by cases wd <;> decide +kernel
      obtain ⟨v2, p2, f2, g2, z2, t2⟩ := take_pre hb hpre e2 4 (by rw [digs_len]) g1
      have hm : decide (num (digs (if wd then 1 else 0) (hw 2)) > 1) = false := by rw [hv]; cases wd <;> decide
      have hx : (num (digs (if wd then 1 else 0) (hw 2)) == 1) = wd := by rw [hv]; cases wd <;> decide
      rcases g2 with ⟨g2, rfl, rfl, rfl⟩ | ⟨g2, rfl, p', rfl, hp'⟩
      · have hvo : wrap64 (num (digs (IntKind.u64.wrap o) (hw 4))) = o := by
          have e4 : hw 4 = 4 := rfl
          rw [e4, num_digs, wrapmod _ 4 (by decide), show (2 : Int) ^ 4 = 16 by decide, w64 (by omega) (by omega)]
          omega
        have hcl : (cutsI (l.length : Int) order o).length = rs.length := by rw [hc, List.length_map]
        obtain ⟨res, h1, h2⟩ := rows_out hb hpre l hl wd o (rs.map (·.1)) (by rw [List.length_map]; exact hrs) (cutsI (l.length : Int) order o) (by omega) rs [] [] [] (digs (if wd then 1 else 0) (hw 2) ++ digs (IntKind.u64.wrap o) (hw 4)) (by rw [hc]; rfl) e2 g2 hok (by simp) (by simpa using hall) (by simp)
        refine ⟨res, h1, succ ?_⟩
        simp only [section_Take.j0]
        refine neg (by decide) (bnd t1 ?_)
        rw [fail_eq]
        simp only [Option.bind_some]
        rw [hm]
        refine pos (by first | trivial | rfl) (succ ?_)
        simp only [section_Take.j1]
        refine neg (by decide) (bnd t2 ?_)
        rw [fail_eq]
        simp only [Option.bind_some]
        refine pos (by first | trivial | rfl) ?_
        rw [hvo, hx, w64 (x := (l.length : Int) + order - order) (by omega) (by omega), show (l.length : Int) + order - order = l.length by omega]
        refine bnd (cutsI_ev (l.length : Int) order o (by omega) (by omega) (by omega) (by omega)) (neg ?_ h2)
        rw [hcl]
        have := List.length_pos_iff.2 hne
        omega
      · refine ⟨_, .inr (.inr ⟨?_, (p' : Int), 2, rfl⟩), succ ?_⟩
        · rw [e2, List.length_append]; omega
        · simp only [section_Take.j0]
          refine neg (by decide) (bnd t1 ?_)
          rw [fail_eq]
          simp only [Option.bind_some]
          rw [hm]
          refine pos (by first | trivial | rfl) (succ ?_)
          simp only [section_Take.j1]
          refine neg (by decide) (bnd t2 ?_)
          rw [fail_eq]
          simp only [Option.bind_some]
          refine neg (by decide) ?_
          rw [fail_eq]
          exact now _
    · have t2 := take_dead hb hp' 4
      refine ⟨_, .inr (.inr ⟨?_, (p' : Int), 2, rfl⟩), succ ?_⟩
      · rw [e2, List.length_append, List.length_append]; omega
      · simp only [section_Take.j0]
        refine neg (by decide) (bnd t1 ?_)
        rw [fail_eq]
        simp only [Option.bind_some]
        refine neg (by decide) (succ ?_)
        simp only [section_Take.j1]
        refine neg (by decide) (bnd t2 ?_)
        rw [fail_eq]
        simp only [Option.bind_some]
        refine neg (by decide) ?_
        rw [fail_eq]
        exact now _
  obtain ⟨res, h1, h2⟩ := ht
  refine ⟨res, h1, ?_⟩
  unfold section_Take.f
  rw [show (decide ((l.length : Int) + order > 65535)) = false from decide_eq_false (by omega)]
  exact neg (by omega) (neg (by omega) (neg (by omega) h2))
end Go.Proofs.Ytokdjeoecnnckaa.PL
end
section
namespace Go.Proofs.Ytokdjeoecnnckaa.PL
open Go Go.RowKit Go.Proofs.Ytokdjeoecnnckaa.PA Go.Proofs.YtokdjeoecnnckaaW.PrintWords Go.Proofs.YtokdjeoecnnckaaW.PrintLast Go.Proofs.YtokdjeoecnnckaaW.PrintMore
set_option linter.unusedSimpArgs false
set_option linter.unusedVariables false
theorem new15 : bits_New.f = some (WB [], (0 : Int)) := rfl
theorem awake_ev : Ev (fun k => serinettelaw15_awake.f k) true := by
  have hb : bitsV [0, 0] 0 false 0 [(⟨0, false⟩ : S50)] = 12 := by decide +kernel
  have hl : lonP [0, 0] 0 0 [(⟨0, false⟩ : S50)] = false := by decide +kernel
  have hs : secB [0, 0] 0 false 0 [(⟨0, false⟩ : S50)] = [false, false, false, false, false, false, false, false, false, false, true, true] := by decide +kernel
  have hp := sput_eq [0, 0] (by decide) (by decide) 0 (by decide) (by decide) false 0 [(⟨0, false⟩ : S50)] (by decide)
  rw [hb, hl, if_neg (by decide), if_neg (by decide), hs] at hp
  have hby := bytes_eq [false, false, false, false, false, false, false, false, false, false, true, true] (by decide)
  have ht : toB [false, false, false, false, false, false, false, false, false, false, true, true] = [0, 48] := by decide +kernel
  rw [ht] at hby
  unfold serinettelaw15_awake.f
  rw [new15]
  simp only [Option.bind_some]
  rw [hp]
  simp only [Option.bind_some]
  refine pos (by first | trivial | rfl) ?_
  have hlen : bits_Writer_Len.f (WB [false, false, false, false, false, false, false, false, false, false, true, true]) 12 = some (12, WB [false, false, false, false, false, false, false, false, false, false, true, true], 12) := rfl
  rw [hlen]
  simp only [Option.bind_some]
  refine pos (by first | trivial | rfl) ?_
  have hby : bits_Writer_Bytes.f (WB [false, false, false, false, false, false, false, false, false, false, true, true]) 12 = some ([0, 48], WB [false, false, false, false, false, false, false, false, false, false, true, true], 12) := hby
  rw [hby]
  simp only [Option.bind_some]
  have hsame : Ev (fun k => serinetteref01_Same.f k [0, 48] [0, 48]) true := Ev.of (fun k => serinetteref01_Same.mono _ _ k) (k := 10) (by decide +kernel)
  exact bnd hsame (now true)
theorem split_sub : ∀ (cs l : List Int), ∀ p ∈ split cs l, ∀ x ∈ p, x ∈ l
  | [], _, p, hp, _, _ => by simp [split] at hp
  | n :: cs, l, p, hp, x, hx => by
    simp only [split, List.mem_cons] at hp
    rcases hp with rfl | hp
    · exact List.mem_of_mem_take hx
    · exact List.mem_of_mem_drop (split_sub cs (l.drop n.toNat) p hp x hx)
theorem split_lens : ∀ (cs l : List Int), ∀ p ∈ split cs l, p.length ≤ l.length
  | [], _, p, hp => by simp [split] at hp
  | n :: cs, l, p, hp => by
    simp only [split, List.mem_cons] at hp
    rcases hp with rfl | hp
    · rw [List.length_take]; omega
    · have := split_lens cs (l.drop n.toNat) p hp
      rw [List.length_drop] at this
      omega
theorem rdL_of {P : List Int → Prop} {xs : List (List Int)} (h : ∀ p ∈ xs, P p) (h0 : P []) (i : Int) : P (rd_L4 xs i) := by
  unfold rd_L4
  rw [List.getD_eq_getElem?_getD]
  cases hx : xs[i.toNat]? with
  | none => exact h0
  | some y => exact h y (List.mem_of_getElem? hx)
theorem whole_fits : ∀ (cs : List Int) (r : Nat), Whole cs r → Fits cs r
  | [], _, _ => trivial
  | _ :: cs, r, h => ⟨by have := h.1; omega, h.2.1, whole_fits cs _ h.2.2⟩
theorem short_ev (l : List Int) (hl : l.length ≤ 1000) (h64 : ∀ x ∈ l, -9223372036854775808 ≤ x ∧ x < 9223372036854775808) (order : Int) (ho : 0 ≤ order) (ho2 : order ≤ 32) (wd : Bool) (o : Int) (ps : List S50) (hps : ps.length ≤ 1000) :
    ∃ v, Ev (fun k => serinettelaw15_short.f k l order wd o ps) v := by
  have hc := ref_cutsI_ev (l.length : Int) order o (by omega) (by omega) ho (by omega)
  by_cases hlen : (cutsI (l.length : Int) order o).length = ps.length
  · have hfit : Fits (cutsI (l.length : Int) order o) l.length := by
      by_cases hne : cutsI (l.length : Int) order o = []
      · rw [hne]; trivial
      · exact whole_fits _ _ (whole_cutsI l.length order o ho hne).1
    have hsp := ref_split_ev l (cutsI (l.length : Int) order o) hl (by omega) hfit
    have hsl := split_len (cutsI (l.length : Int) order o) l
    have hsub : ∀ i : Int, ∀ x ∈ rd_L4 (split (cutsI (l.length : Int) order o) l) i, -9223372036854775808 ≤ x ∧ x < 9223372036854775808 := fun i => rdL_of (P := fun p => ∀ x ∈ p, -9223372036854775808 ≤ x ∧ x < 9223372036854775808) (fun p hp x hx => h64 x (split_sub _ l p hp x hx)) (by simp) i
    have hlen2 : ∀ i : Int, (rd_L4 (split (cutsI (l.length : Int) order o) l) i).length ≤ 1000 := fun i => rdL_of (P := fun p => p.length ≤ 1000) (fun p hp => by have := split_lens _ l p hp; omega) (by simp) i
    generalize split (cutsI (l.length : Int) order o) l = all at hsp hsl hsub hlen2
    have key1 : ∀ (i : Nat), i < all.length → (∃ v, Ev (fun k => serinettelaw15_short.l0 k all ((i + 1 : Nat) : Int) wd o ps) v) → ∀ (d j : Nat), j + d = (rd_L4 all (i : Int)).length → ∃ v, Ev (fun k => serinettelaw15_short.l1 k all (i : Int) (j : Int) wd o ps) v := by
      intro i hi hnext d
      have h1000 := hlen2 (i : Int)
      induction d with
      | zero =>
        intro j hj
        obtain ⟨v, hv⟩ := hnext
        refine ⟨v, succ ?_⟩
        simp only [serinettelaw15_short.l1]
        have ei : wrap64 ((i : Int) + 1) = ((i + 1 : Nat) : Int) := by rw [w64 (by omega) (by omega)]; omega
        rw [ei]
        exact pos (by omega) (pos (by omega) (neg (by omega) hv))
      | succ d ih =>
        intro j hj
        obtain ⟨v, hv⟩ := ih (j + 1) (by omega)
        have g1 : (0 : Int) ≤ (i : Int) := by omega
        have g2 : (i : Int) < (all.length : Int) := by omega
        have g3 : (j : Int) < ((rd_L4 all (i : Int)).length : Int) := by omega
        have g4 : (0 : Int) ≤ (j : Int) := by omega
        have g5 : (i : Int) < (ps.length : Int) := by omega
        have hr := hsub (i : Int) (rd (rd_L4 all (i : Int)) (j : Int)) (rd_mem g4 g3)
        have hh := high_ev (rd (rd_L4 all (i : Int)) (j : Int)) ((rd_T50 ps (i : Int)).f0) hr
        have ej : wrap64 ((j : Int) + 1) = ((j + 1 : Nat) : Int) := by rw [w64 (by omega) (by omega)]; omega
        by_cases c1 : (rd_T50 ps (i : Int)).f1 = true
        · refine ⟨v, succ ?_⟩
          simp only [serinettelaw15_short.l1]
          rw [ej]
          exact pos g1 (pos g2 (pos g3 (pos g4 (pos g5 (bnd hh (pos c1 hv))))))
        · by_cases c2 : fold (rd (rd_L4 all (i : Int)) (j : Int)) / 2 ^ kk ((rd_T50 ps (i : Int)).f0) > 300
          · by_cases c3 : fold (rd (rd_L4 all (i : Int)) (j : Int)) / 2 ^ kk ((rd_T50 ps (i : Int)).f0) ≤ 65535
            · refine ⟨false, succ ?_⟩
              simp only [serinettelaw15_short.l1]
              exact pos g1 (pos g2 (pos g3 (pos g4 (pos g5 (bnd hh (neg c1 (pos c2 (pos c3 (now false)))))))))
            · refine ⟨v, succ ?_⟩
              simp only [serinettelaw15_short.l1]
              rw [ej]
              exact pos g1 (pos g2 (pos g3 (pos g4 (pos g5 (bnd hh (neg c1 (pos c2 (neg c3 hv))))))))
          · refine ⟨v, succ ?_⟩
            simp only [serinettelaw15_short.l1]
            rw [ej]
            exact pos g1 (pos g2 (pos g3 (pos g4 (pos g5 (bnd hh (neg c1 (neg c2 hv)))))))
    have key0 : ∀ (d i : Nat), i + d = all.length → ∃ v, Ev (fun k => serinettelaw15_short.l0 k all (i : Int) wd o ps) v := by
      intro d
      induction d with
      | zero =>
        intro i hi
        refine ⟨true, succ ?_⟩
        simp only [serinettelaw15_short.l0]
        exact neg (by omega) (now true)
      | succ d ih =>
        intro i hi
        obtain ⟨v, hv⟩ := key1 i (by omega) (ih (i + 1) (by omega)) (rd_L4 all (i : Int)).length 0 (by omega)
        refine ⟨v, succ ?_⟩
        simp only [serinettelaw15_short.l0]
        exact pos (by omega) hv
    obtain ⟨v, hv⟩ := key0 all.length 0 (by omega)
    refine ⟨v, ?_⟩
    unfold serinettelaw15_short.f
    exact bnd hc (pos (by omega) (bnd hsp hv))
  · refine ⟨true, ?_⟩
    unfold serinettelaw15_short.f
    exact bnd hc (neg (by omega) (now true))
theorem rowsN_le (w : Bool) : ∀ (rs : List (S50 × List Int)) (m : Nat), (∀ r ∈ rs, r.2.length ≤ 1000) → (rs.flatMap (·.2)).length ≤ m → rowsN w rs ≤ 10 * rs.length + 17179869300 * m
  | [], m, _, _ => by simp [rowsN]; omega
  | r :: t, m, h, hm => by
    simp only [List.flatMap_cons, List.length_append] at hm
    have h1 := eachW_le (h r (by simp)) r.1
    have h2 := rowsN_le w t (m - r.2.length) (fun x hx => h x (by simp [hx])) (by omega)
    have h3 := sizeOf_bd w
    simp only [rowsN, List.length_cons]
    omega
theorem Fine.le {l : List Int} {order : Int} {wd : Bool} {o : Int} {ps : List S50} (h : Fine l order wd o ps) (hl : l.length ≤ 100) (hps : ps.length ≤ 1000) : bitsV l order wd o ps ≤ 1800000000000 := by
  obtain ⟨w1, w2, w3, _⟩ := rows_whole _ l ps h.whole h.len
  have hrl : (rowsP (cutsI (l.length : Int) order o) l ps).length = ps.length := by rw [← List.length_map (f := (·.1)), w1]
  have h1 := rowsN_le wd (rowsP (cutsI (l.length : Int) order o) l ps) l.length (fun r hr => by
    have : r.2.length ≤ ((rowsP (cutsI (l.length : Int) order o) l ps).flatMap (·.2)).length := by
      obtain ⟨a, b, e⟩ := List.append_of_mem hr
      rw [e]
      simp only [List.flatMap_append, List.flatMap_cons, List.length_append]
      omega
    rw [w2] at this
    omega) (by rw [w2]; exact Nat.le_refl _)
  rw [h.bits]
  omega
theorem Fine.take {l : List Int} {order : Int} {wd : Bool} {o : Int} {ps : List S50} (h : Fine l order wd o ps) (hl : l.length ≤ 1000) (hl0 : l.length ≠ 0) (ho : 0 ≤ order ∧ order ≤ 32) (hps : ps.length ≤ 1000) {b : List Int} (hb : GB b) (hpre : Pre b (secB l order wd o ps)) :
    ∃ res, OutR b (secB l order wd o ps) l wd o ps res ∧ Ev (fun k => section_Take.f k b 0 0 ((l.length : Int) + order) order) res := by
  obtain ⟨w1, w2, w3, _⟩ := rows_whole _ l ps h.whole h.len
  have hrl : (rowsP (cutsI (l.length : Int) order o) l ps).length = ps.length := by rw [← List.length_map (f := (·.1)), w1]
  have := take15 hb hpre l hl hl0 wd o order h.oin ho (rowsP (cutsI (l.length : Int) order o) l ps) (by omega) w3.symm (fun e => h.ne (by rw [e] at w3; exact w3.symm)) rfl h.okr w2
  rw [w1] at this
  exact this
theorem Fine.len0 {l : List Int} {order : Int} {wd : Bool} {o : Int} {ps : List S50} (h : Fine l order wd o ps) : l.length ≠ 0 := by
  intro e
  have hw := h.whole
  have hne := h.ne
  match hc : cutsI (l.length : Int) order o with
  | [] => exact hne hc
  | n :: cs =>
    rw [hc] at hw
    have h1 := hw.1
    have h2 := hw.2.1
    omega
theorem gb_toB (L : List Bool) (hL : L.length < 4000000000000) (more : List Int) (hm : more.length ≤ 100) (hmb : ∀ x ∈ more, 0 ≤ x ∧ x < 256) : GB (toB L ++ more) := by
  have h8 := toB_len8 L
  refine ⟨by rw [List.length_append]; omega, fun x hx => ?_⟩
  rcases List.mem_append.1 hx with h | h
  · exact toB_bd L x h
  · exact hmb x h
theorem pre_more (L : List Bool) (more : List Int) : Pre (toB L ++ more) L := by
  refine ⟨[], List.replicate ((8 - L.length % 8) % 8) false ++ bitsOf more, ?_⟩
  rw [bitsOf_app, bitsOf_toB]
  simp
theorem tmod_in {x : Int} (h : 0 ≤ x) (m : Int) (hm : 0 < m) (hm2 : m < 100000) : wrap64 (Int.tmod x m) = x % m := by
  have h1 := Int.emod_nonneg x (show m ≠ 0 by omega)
  have h2 := Int.emod_lt_of_pos x hm
  rw [Int.tmod_eq_emod_of_nonneg h, w64 (by omega) (by omega)]
end Go.Proofs.Ytokdjeoecnnckaa.PL
end
section
namespace Go.Proofs.Ytokdjeoecnnckaa.Pure
open Go.RowKit Go.Proofs.Ytokdjeoecnnckaa.PA Go.Proofs.YtokdjeoecnnckaaW.PrintWords Go.Proofs.YtokdjeoecnnckaaW.PrintLast Go.Proofs.YtokdjeoecnnckaaW.PrintMore Go.Proofs.Ytokdjeoecnnckaa.PL
set_option linter.unusedVariables false
set_option linter.unusedSimpArgs false
def anyW (l : List Int) : Bool := l.any (fun x => decide (x < -2147483647) || decide (x > 2147483647))
theorem anyW_snoc (p : List Int) (x : Int) : anyW (p ++ [x]) = (anyW p || (decide (x < -2147483647) || decide (x > 2147483647))) := by simp [anyW]
theorem anyW_true {l : List Int} (h : anyW l = true) : ∃ x ∈ l, ¬ nar x := by
  obtain ⟨x, hx, h1⟩ := List.any_eq_true.1 h
  refine ⟨x, hx, ?_⟩
  unfold nar
  simp at h1
  omega
theorem anyW_false {l : List Int} (h : anyW l = false) : ∀ x ∈ l, nar x := fun x hx => by
  have h1 := List.any_eq_false.1 h x hx
  unfold nar
  simp at h1
  omega
theorem back_loop (l : List Int) (hl : l.length ≤ 1000) (more : List Int) (ok : Bool) (order : Int) (wd : Bool) (o : Int) (ps : List S50) (s0 : ByteArray) (s1 : Int) (r : Bool) :
    Ev (fun k => serinettelaw15_SectionBack.l0 k l more ok order (anyW l) (l.length : Int) wd o ps s0 s1) r →
    ∀ (t p : List Int), l = p ++ t → Ev (fun k => serinettelaw15_SectionBack.l0 k l more ok order (anyW p) (p.length : Int) wd o ps s0 s1) r := by
  intro hend t
  induction t with
  | nil =>
    intro p hp
    rw [List.append_nil] at hp
    rw [← hp]
    exact hend
  | cons x t ih =>
    intro p hp
    have l1 := congrArg List.length hp
    simp only [List.length_append, List.length_cons] at l1
    have nx := ih (p ++ [x]) (by simp [hp])
    have ra : rd l (p.length : Int) = x := by rw [hp]; exact rd_at _ _ _
    have ei : wrap64 ((p.length : Int) + 1) = ((p ++ [x]).length : Int) := by rw [w64 (by omega) (by omega), List.length_append]; simp
    have g1 : (p.length : Int) < (l.length : Int) := by omega
    rw [anyW_snoc] at nx
    refine succ ?_
    simp only [serinettelaw15_SectionBack.l0]
    rw [ra, ei]
    refine pos g1 ?_
    by_cases hb : anyW p = true
    · rw [hb] at nx
      simp only [Bool.true_or] at nx
      exact pos hb nx
    · have hb' : anyW p = false := by cases h : anyW p <;> simp_all
      rw [hb'] at nx ⊢
      simp only [Bool.false_or] at nx
      refine neg (by decide) (pos (by omega) ?_)
      by_cases h1 : x < -2147483647
      · rw [decide_eq_true h1] at nx
        simp only [Bool.true_or] at nx
        exact pos h1 nx
      · rw [decide_eq_false h1] at nx
        simp only [Bool.false_or] at nx
        exact neg h1 nx
theorem SectionBack : ∀ (l0 : List Int) (a1 : Int) (a2_0 : Bool) (a2_1 : Int) (l2_2 : List PA.S50) (l3 : List Int), l0.length ≤ maxLen → l0.length * 8 ≤ 140737488351232 → (∀ x ∈ l0, (Lit.int .i64 x).wf = true) → (Lit.int .u8 a1).wf = true → (Lit.int .i64 a2_1).wf = true → l2_2.length ≤ maxLen → (∀ x ∈ l2_2, ((Lit.int .i64 x.f0).wf = true ∧ True)) → l3.length ≤ maxLen → l3.length * 1 ≤ 140737488351232 → (∀ x ∈ l3, (Lit.int .u8 x).wf = true) → ∃ k, serinettelaw15_SectionBack.f k l0 a1 a2_0 a2_1 l2_2 l3 = some true := by
  intro l a1 wd o ps more hl0 hl1 hlw w1 wo hps0 hps1 hm0 hm1 hmw
  refine Ev.rounds ?_
  unfold serinettelaw15_SectionBack.f
  have g1 := wfu8 w1
  refine bnd awake_ev ?_
  rw [tmod_in g1.1 33 (by decide) (by decide)]
  obtain ⟨order, hord⟩ : ∃ x, a1 % 33 = x := ⟨_, rfl⟩
  rw [hord]
  have bo : 0 ≤ order ∧ order ≤ 32 := by omega
  clear hord g1 w1 wo
  have out : Ev (fun k => serinettelaw15_SectionBack.j0 k l more true order true wd o ps) true := by
    refine succ ?_
    simp only [serinettelaw15_SectionBack.j0]
    exact pos trivial (now _)
  by_cases c1 : (l.length : Int) > 60
  · exact pos c1 out
  refine neg c1 ?_
  by_cases c2 : (ps.length : Int) > 100
  · exact pos c2 out
  refine neg c2 ?_
  by_cases c3 : (more.length : Int) > 10
  · rw [decide_eq_true c3]
    exact out
  rw [decide_eq_false c3]
  have hl : l.length ≤ 60 := by omega
  have hps : ps.length ≤ 100 := by omega
  have hmore : more.length ≤ 10 := by omega
  have h64 : ∀ x ∈ l, -9223372036854775808 ≤ x ∧ x < 9223372036854775808 := fun x hx => wf64 (hlw x hx)
  clear c1 c2 c3 hl0 hl1 hlw hps0 hps1 hm0 hm1
  obtain ⟨v, hv⟩ := short_ev l (by omega) h64 order bo.1 bo.2 wd o ps (by omega)
  refine succ ?_
  simp only [serinettelaw15_SectionBack.j0]
  refine neg (by decide) (bnd hv ?_)
  rw [new15]
  simp only [Option.bind_some]
  cases v with
  | false => exact neg (by decide) (now _)
  | true =>
  refine pos (by first | trivial | rfl) ?_
  refine back_loop l (by omega) more true order wd o ps (WB []) 0 true ?_ l [] rfl
  refine succ ?_
  simp only [serinettelaw15_SectionBack.l0]
  have hput := sput_eq l (by omega) h64 order bo.1 bo.2 wd o ps (by omega)
  have hbits := bitsV_ev (l := l) (by omega) bo.1 bo.2 wd o ps
  refine neg (Int.lt_irrefl _) ?_
  rw [hput]
  simp only [Option.bind_some]
  refine bnd hbits ?_
  by_cases hneg : bitsV l order wd o ps < 0
  · rw [if_pos hneg]
    have hlen : bits_Writer_Len.f (WB []) 0 = some (0, WB [], 0) := rfl
    refine neg (by decide) (pos (by first | trivial | rfl) ?_)
    rw [hlen]
    simp only [Option.bind_some]
    refine pos (by first | trivial | rfl) (cst ?_)
    rw [decide_eq_true hneg]
    rfl
  rw [if_neg hneg]
  by_cases hlon : lonP l order o ps = true
  · rw [if_pos hlon]
    have hlen : bits_Writer_Len.f (WB []) 0 = some (0, WB [], 0) := rfl
    refine neg (by decide) (pos (by first | trivial | rfl) ?_)
    rw [hlen]
    simp only [Option.bind_some]
    refine pos (by first | trivial | rfl) (cst ?_)
    rw [decide_eq_false hneg]
    rfl
  rw [if_neg hlon]
  have hf : Fine l order wd o ps := fine_of bo.1 (by omega)
  obtain ⟨p1, p2⟩ := hf.put (by cases hh : lonP l order o ps <;> simp_all)
  have hle := hf.le (by omega) (by omega)
  have hlL : (secB l order wd o ps).length < 4000000000000 := by omega
  have hgb := gb_toB (secB l order wd o ps) hlL more (by omega) (fun x hx => wfu8 (hmw x hx))
  obtain ⟨res, ho, ht⟩ := hf.take (by omega) hf.len0 bo (by omega) hgb (pre_more _ more)
  have h8 := toB_len8 (secB l order wd o ps)
  rw [← p2]
  clear p1 hput hbits hneg hle hv h64
  generalize secB l order wd o ps = L at *
  have hfit : L.length ≤ 8 * (toB L ++ more).length := by rw [List.length_append]; omega
  refine pos (by first | trivial | rfl) ?_
  rw [len_eq]
  simp only [Option.bind_some]
  refine pos (by first | trivial | rfl) ?_
  rw [bytes_eq L (by omega)]
  simp only [Option.bind_some]
  refine pos (by omega) ?_
  rw [open_eq _ hgb.len]
  simp only [Option.bind_some]
  rw [w64 (x := (l.length : Int) + order) (by omega) (by omega)]
  refine bnd ht ?_
  rcases ho with ⟨_, h2, rfl⟩ | ⟨⟨x, hx, hnx⟩, p, f, rfl⟩ | ⟨h1, _⟩
  · have hw : anyW l = false := by
      cases hh : anyW l
      · rfl
      · obtain ⟨x, hx, hnx⟩ := anyW_true hh
        exact absurd (h2 x hx) hnx
    rw [hw]
    refine neg (by decide) (pos (by first | trivial | rfl) (pos (by first | trivial | rfl) (bnd (ints_refl l (by omega)) (pos (by first | trivial | rfl) (bnd (same_ev wd o ps (by omega)) (pos (by first | trivial | rfl) ?_))))))
    unfold bits_Reader_At.f
    simp only [Option.bind_some]
    exact cst (by simp)
  · have hw : anyW l = true := by
      cases hh : anyW l
      · exact absurd (anyW_false hh x hx) hnx
      · rfl
    rw [hw]
    exact pos (by first | trivial | rfl) (pos (by first | trivial | rfl) (pos (by first | trivial | rfl) (cst rfl)))
  · omega
end Go.Proofs.Ytokdjeoecnnckaa.Pure
end
section
namespace Go.Proofs.Ytokdjeoecnnckaa.sectionBack
open Go.ChangeShapes Go.WideShapes Go.ChangeAt Go.RowKit Go.Joins
open Go.Proofs.YtokdjeoecnnckaaW.PrintWords
open Go.Proofs.Ytokdjeoecnnckaa.Opn
set_option linter.unusedVariables false
theorem own : ownKnob Try.prog.godebug = none := by kernel_rfl
theorem laidOut : laidOutB Try.prog = true := by kernel_rfl
instance : Inhabited PA.S50 := ⟨PA.z50⟩
set_option maxRecDepth 100000 in
theorem lifted (os : Os) (started : os.Started) (H : Type) (enc : TypeId × Value → H) :
    ReturnsInHanded {} Try.checked os 3 .any (Rows.sectionBackSpec.pre6 enc Try.prog Try.f3 Rows.sectionBackRow.domain false) (Rows.sectionBackSpec.post enc Try.prog Try.f3 false true false false) := by
  refine returnsInHanded_of_change_sized (C := Try.checked) own started (by kernel_rfl) Try.func3
    (ChangeSpec.witness6 (enc := enc) (C := Try.checked) false ⟨#[], #[.slice none 0 0, .int .u8 0, .agg #[.bool false, .int .i64 0, .slice none 0 0], .slice none 0 0], []⟩ 8 (by kernel_rfl) (by kernel_rfl) (by kernel_rfl) (by kernel_rfl)) ?_
  intro W base args ds gs before hval0 hW hcnd hsz0 _
  have hsz : (DataW.weightsEach Try.prog (Try.f3.params.toList ++ Rows.sectionBackSpec.plain.varTypes Try.prog) (ds ++ gs)).all (· ≤ reachBytes) = true := hsz0
  have hval : ∀ (j : Nat) t v, Try.f3.params[j]? = some t → args[j]? = some v → Value.okWide Try.prog W .any base t v := hval0
  have hW' := hW
  obtain ⟨p, q, hA0, hV, rfl, hfz, hnd⟩ := hW
  have hA : DataW.TrodAll enc Try.prog W 0 (fun _ => true) true Try.f3.params.toList args.toList ds p := hA0
  rw [Try.params3] at hA hval hsz
  obtain ⟨v0, vs0, d0, ds0, p0, q0, hargs, rfl, rfl, h0, r0⟩ := trodAll_cons hA
  obtain ⟨v1, vs1, d1, ds1, p1, q1, rfl, rfl, rfl, h1, r1⟩ := trodAll_cons r0
  obtain ⟨v2, vs2, d2, ds2, p2, q2, rfl, rfl, rfl, h2, r2⟩ := trodAll_cons r1
  obtain ⟨v3, vs3, d3, ds3, p3, q3, rfl, rfl, rfl, h3, r3⟩ := trodAll_cons r2
  obtain ⟨rfl, rfl, rfl⟩ := trodAll_nil r3
  obtain rfl : args = #[v0, v1, v2, v3] := by cases args; simp_all
  obtain ⟨rfl, rfl⟩ := trodVars_none hV
  have k0 := h0
  have lt0 : ∀ x ∈ p0, x.block < W.heap.size := by obtain ⟨m, hm⟩ := k0; exact DataW.trod_lt m _ _ _ hm
  obtain ⟨l0, A0, c0, rfl, hc0, hr0, hm0, w0⟩ := arg_slice Try.underlying22 (by kernel_rfl) (opens_int Try.underlying3) (hval 0 22 v0 rfl rfl) h0
  have y0 : l0.length * 8 ≤ 140737488351232 := sized_ints hsz (j := 0) (t := 22) rfl rfl Try.underlying22 Try.underlying3 (by kernel_rfl) (by kernel_rfl) k0
  obtain ⟨a1, rfl, rfl, rfl, w1⟩ := open_int Try.underlying5 (hval 1 5 v1 rfl rfl) h1
  have k2 := h2
  have lt2 : ∀ x ∈ p2, x.block < W.heap.size := by obtain ⟨m, hm⟩ := k2; exact DataW.trod_lt m _ _ _ hm
  obtain ⟨v2_0, v2_1, v2_2, y2_0, y2_1, y2_2, n2, rfl, _, _, h2_0, h2_1, h2_2⟩ := open_agg3 Try.underlying25 (by kernel_rfl) (by kernel_rfl) (hval 2 25 v2 rfl rfl) h2
  obtain ⟨a2_0, rfl⟩ := field_bool Try.underlying4 h2_0
  obtain ⟨a2_1, rfl, w2_1⟩ := field_int Try.underlying3 h2_1
  obtain ⟨l2_2, A2_2, c2_2, rfl, hc2_2, hr2_2, hm2_2, w2_2⟩ := field_slice Try.underlying23 (by kernel_rfl) (opens_pair Try.underlying50 rfl (by kernel_rfl) rfl (by kernel_rfl) (by kernel_rfl) (opens_int Try.underlying3) (opens_bool Try.underlying4) PA.S50.mk (fun x : PA.S50 => (x.f0, x.f1)) (fun _ _ => rfl)) h2_2
  have k3 := h3
  have lt3 : ∀ x ∈ p3, x.block < W.heap.size := by obtain ⟨m, hm⟩ := k3; exact DataW.trod_lt m _ _ _ hm
  obtain ⟨l3, A3, c3, rfl, hc3, hr3, hm3, w3⟩ := arg_slice Try.underlying26 (by kernel_rfl) (opens_int Try.underlying5) (hval 3 26 v3 rfl rfl) h3
  have y3 : l3.length * 1 ≤ 140737488351232 := sized_ints hsz (j := 3) (t := 26) rfl rfl Try.underlying26 Try.underlying5 (by kernel_rfl) (by kernel_rfl) k3
  clear hA0 hval0 hsz0 hsz
  obtain ⟨k, hk⟩ := Pure.SectionBack l0 a1 a2_0 a2_1 l2_2 l3 hm0 y0 w0 w1 w2_1 hm2_2 w2_2 hm3 y3 w3
  refine (PA.serinettelaw15_SectionBack.calls k A0 c0 l0 a1 a2_0 a2_1 A2_2 c2_2 l2_2 A3 c3 l3 true W hr0 hc0 hr2_2 hc2_2 hr3 hc3 hk).mono ?_
  rintro e W' ⟨he, bel0⟩
  have bel : Below W.heap.size W W' := bel0
  clear bel0
  subst he
  exact ⟨_, rfl, _, _, _, [], _, [], hW', trodAll_mk1 (shut_bool Try.underlying4 _), (trodAll_cons_mk (Below.trod laidOut (by kernel_rfl) (of_decide_eq_true (by kernel_rfl)) k0 bel lt0) (trodAll_cons_mk (shut_int Try.underlying5 w1) (trodAll_cons_mk (Below.trod laidOut (by kernel_rfl) (of_decide_eq_true (by kernel_rfl)) k2 bel lt2) (trodAll_cons_mk (Below.trod laidOut (by kernel_rfl) (of_decide_eq_true (by kernel_rfl)) k3 bel lt3) trodAll_mk0)))), rfl, bel.frame _, fun h => by cases h⟩
theorem over : Rows.sectionBackRow.holds Try.pinned (OpenSpec.ofChange Rows.sectionBackSpec) :=
  OpenClaim.holds_of_wide 3 Try.f3 rfl rfl rfl rfl rfl rfl rfl ⟨rfl, rfl, rfl, rfl, rfl⟩ rfl rfl rfl rfl rfl (by kernel_rfl) Try.func3 (by kernel_rfl)
    (of_decide_eq_true (by kernel_rfl)) (by unfold Func.isWrapper; first | (rw [if_pos (by decide +kernel)]; kernel_rfl) | (rw [if_neg (by decide +kernel)]; exact ⟨rfl, rfl⟩))
    (fun os started H enc _ => lifted os started H enc)
theorem proved : Rows.SectionBackSaid := over
end Go.Proofs.Ytokdjeoecnnckaa.sectionBack
namespace Go.Proofs.Ytokdjeoecnnckaa
theorem sectionBack_holds : Rows.SectionBackSaid := sectionBack.proved
end Go.Proofs.Ytokdjeoecnnckaa
end
