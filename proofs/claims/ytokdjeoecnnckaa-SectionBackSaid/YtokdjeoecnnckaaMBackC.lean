/- What the law SectionBack needs, part 3: texts of this claim, merged; the row itself stands in the last part. Conditions: as each theorem says. -/
import Derived.RangeFuncNested
import Derived.RangeFuncBound
import Derived.RangeFuncCalls
import Derived.RangeFuncLeaves
import Derived.Shelf.Abstract
import Derived.Shelf.RegionOpen
import Derived.WalkKit
import Derived.OwnWalkIn
import Derived.TacticsInMore
import Derived.LoopNIn
import Derived.LoopIn
import Derived.Maps.AppendAt
import Derived.Laws.Bits64
import Derived.Lib.SliceRun
import Derived.Laws.BitsLemmas
import Derived.Test.YtokdjeoecnnckaaMBackB
section
namespace Go.Proofs.Ytokdjeoecnnckaa.PA
open Go Go.RowKit Go.Proofs.YtokdjeoecnnckaaW.PrintWords Go.Proofs.YtokdjeoecnnckaaW.PrintLast Go.Proofs.YtokdjeoecnnckaaW.PrintMore
attribute [local go_sem] max2_int min2_int max_two min_two max_three min_three max_four min_four Oper.semAt_some
set_option linter.unusedSimpArgs false
set_option linter.unusedVariables false
def KC (w0 W W' : World) : Prop := W.heap.size ≤ W'.heap.size ∧ (∀ i, i < w0.heap.size → W'.heap[i]? = W.heap[i]?) ∧ ∀ (i : Nat) (cs : Array Value) (t : TypeId) (f : Nat × Nat), W.heap[i]? = some (.cells cs t f) → t ≠ 5 → t ≠ 58 → t ≠ 22 → W'.heap[i]? = some (.cells cs t f)
theorem KC.refl (w0 W : World) : KC w0 W W := ⟨Nat.le_refl _, fun _ _ => rfl, fun _ _ _ _ h _ _ _ => h⟩
theorem KC.trans {w0 X Y Z : World} (h : KC w0 X Y) (k : KC w0 Y Z) : KC w0 X Z := ⟨Nat.le_trans h.1 k.1, fun i hi => (k.2.1 i hi).trans (h.2.1 i hi), fun i cs t f hb a b c => k.2.2 i cs t f (h.2.2 i cs t f hb a b c) a b c⟩
theorem KC.of_below {w0 X Y : World} (hs : w0.heap.size ≤ X.heap.size) (h : Below X.heap.size X Y) : KC w0 X Y :=
  ⟨h.size, fun i hi => h.block i (by omega), fun i cs t f hb _ _ _ => (h.block i (blk_lt hb)).trans hb⟩
theorem KC.set {w0 X : World} {B : Nat} {cs : Array Value} {t : TypeId} {f : Nat × Nat} (hb : X.heap[B]? = some (.cells cs t f)) (ht : t = 22) (h0 : w0.heap.size ≤ B) (j : Nat) (v : Value) : KC w0 X (X.setCell ⟨B, j, none⟩ v) :=
  ⟨by simp [World.setCell], fun i hi => Below.heap_setCell X ⟨B, j, none⟩ v i (by simp; omega), fun i cs' t' f' hb' _ _ h22 => (Below.heap_setCell X ⟨B, j, none⟩ v i (by rintro rfl; rw [hb] at hb'; cases hb'; exact h22 ht)).trans hb'⟩
theorem KC.R {w0 W W1 : World} {α : Type} {d : Kd α} {e : Nat} {base : Nat} {ok : Nat → Prop} {v : Value} {xs : List α} (ho : d.R e W base ok v xs) (ht : ∀ q, q ∈ e :: d.E → q ≠ 5 ∧ q ≠ 58 ∧ q ≠ 22) (hk : KC w0 W W1) : d.R e W1 base ok v xs :=
  Kd.R_mono (Kd.R_step (Kd.R_bound ho) (fun k h hlt => by
    obtain ⟨h0, _, _, q, hq, cs, hc⟩ := h
    obtain ⟨a, b, c⟩ := ht q hq
    exact (hk.2.2 k cs q (0, 0) hc a b c).trans hc.symm)) (fun _ h => h.1)
theorem KC.own {w0 W : World} {α : Type} {d : Kd α} {e : Nat} {base : Nat} {ok : Nat → Prop} {A : Option Addr} {n c : Nat} {xs : List α} (ho : d.R e W base ok (.slice A n c) xs) (ht : ∀ q, q ∈ e :: d.E → q ≠ 5 ∧ q ≠ 58 ∧ q ≠ 22) : ∀ W', KC w0 W W' → d.C W' A n xs := fun W' hk => by
  have h2 := Kd.R_reads' (KC.R ho ht hk)
  rw [h2.1]
  exact h2.2.2
theorem KC.came {w0 W : World} {α : Type} {d : Kd α} (hd : Kd.Heap d) {A : Option Addr} {n : Nat} {xs : List α} (h : d.C w0 A n xs) (hb : Below w0.heap.size w0 W) : ∀ W', KC w0 W W' → d.C W' A n xs := fun W' hk =>
  hd.C (fun k hlt => (hk.2.1 k hlt).trans (hb.block k hlt)) h
def Kp15 (w0 : World) (B : Nat) (W W' : World) : Prop := KC w0 W W' ∧ ∀ cs t f, W.heap[B]? = some (.cells cs t f) → W'.heap[B]? = some (.cells cs t f)
theorem Kp15.trans {w0 X Y Z : World} {B : Nat} (h : Kp15 w0 B X Y) (k : Kp15 w0 B Y Z) : Kp15 w0 B X Z := ⟨h.1.trans k.1, fun cs t f e => k.2 cs t f (h.2 cs t f e)⟩
theorem Kp15.book {w0 w : World} {B : Nat} (hs : w0.heap.size ≤ w.heap.size) (W : World) (l : Nat) (o o' : Obj) (hl : w.heap.size ≤ l) (h : W.heap[l]? = some o) (hc : o.isCells = false) (hw : o.isWalk = false) : Kp15 w0 B W (W.putObj l o') := by
  have key : ∀ (k : Nat) (cs : Array Value) (t : TypeId) (f : Nat × Nat), W.heap[k]? = some (.cells cs t f) → (W.putObj l o').heap[k]? = some (.cells cs t f) := fun k cs t f hk =>
    (World.putObj_heap_other (fun e => by rw [e, h] at hk; cases hk; cases hc)).trans hk
  exact ⟨⟨(grownBy_putObj' W l o').size, fun i hi => World.putObj_heap_other (by omega), fun i cs t f hb _ _ _ => key i cs t f hb⟩, fun cs t f e => key B cs t f e⟩
def Turn15 (B : Nat) (X Y : World) : Prop := ∃ (v u : Value), X.heap[B]? = some (.cells #[u] 22 (0, 0)) ∧ Y = X.setCell ⟨B, 0, none⟩ v
abbrev El := S50 × Option Addr × Nat × List Int
def encE (x : El) : Array Value := #[.agg #[.int .i64 x.1.f0, .bool x.1.f1], .slice x.2.1 x.2.2.2.length x.2.2.1]
def SFits : List Int → Nat → Prop
  | [], _ => True
  | n :: cs, r => 0 ≤ n ∧ n ≤ (r : Int) ∧ SFits cs (r - n.toNat)
def rows15 : List Int → Option Addr → Nat → List Int → List S50 → List El
  | n :: cs, A, c, l, p :: ps => (p, A, c, l.take n.toNat) :: rows15 cs (if n.toNat = c then A else A.map (·.add n.toNat)) (if n.toNat = c then 0 else c - n.toNat) (l.drop n.toNat) ps
  | _, _, _, _, _ => []
theorem prefix_mid {α : Type} {dn full rest : List α} {x : α} (h : dn ++ x :: rest = full) : dn ++ [x] <+: full := ⟨rest, by rw [← h]; simp⟩
set_option maxRecDepth 100000 in
set_option maxHeartbeats 8000000 in
theorem sec_each1 (n : Nat) (hn : 2 ≤ n) (k : Nat) (w0 w : World) (B1 B2 B3 : Nat) (A : Option Addr) (c : Nat) (l : List Int) (order : Int) (wd : Bool) (o : Int) (A3 : Option Addr) (c3 : Nat) (ps : List S50) (cuts : List Int)
    (hcut : parts_Cuts.f k (l.length : Int) order o = some cuts) (hfit : SFits cuts l.length) (hlen : cuts.length = ps.length) (hbig : cuts.length < 1000000) (hcap : l.length ≤ c) (hs0 : w0.heap.size ≤ w.heap.size) (hB1 : w0.heap.size ≤ B1)
    (hC3 : ∀ W', KC w0 w W' → Kd.C k50 W' A3 ps.length ps)
    (b1 : w.heap[B1]? = some (.cells #[.slice A l.length c] 22 (0, 0))) (b2 : w.heap[B2]? = some (.cells #[.int .i64 order] 3 (0, 0))) (b3 : w.heap[B3]? = some (.cells #[.bool wd, .int .i64 o, .slice A3 ps.length c3] 25 (0, 0))) :
    TurnGives Fence.wide n Try.prog 43 #[.pointer (some ⟨B1, 0, none⟩), .pointer (some ⟨B2, 0, none⟩), .pointer (some ⟨B3, 0, none⟩)] encE (Kp15 w0 B1) (Turn15 B1) (rows15 cuts A c l ps) w := by
  intro lp J Jx W hW hJ hT hY hJ0
  obtain ⟨full, hfull⟩ : ∃ full, rows15 cuts A c l ps = full := ⟨_, rfl⟩
  rw [hfull] at hY ⊢
  have HF := zF.mk hfull
  clear hfull
  have hu25 := Try.underlying25
  have hu50 := Try.underlying50
  have h1 : 1 ≤ n - 1 := by omega
  have hn1 : 1 ≤ n := by omega
  have HB1 := zF.mk hB1
  have HCUT := zF.mk hcut
  have HLEN := zF.mk hlen
  have HBIG := zF.mk hbig
  have HCAP := zF.mk hcap
  have HFIT := zF.mk hfit
  have HC3 := zF.mk hC3
  have hz1 : W.cell? ⟨B1, 0, none⟩ = some (.slice A l.length c) := (zM (blk_below b1 hW) 0).trans rfl
  have hz2 : W.cell? ⟨B2, 0, none⟩ = some (.int .i64 order) := (zM (blk_below b2 hW) 0).trans rfl
  have hz3 : W.cell? ⟨B3, 1, none⟩ = some (.int .i64 o) := (zM (blk_below b3 hW) 1).trans rfl
  have X1 := zF.mk (blk_below (g := B1) b1 hW)
  have X3 := zF.mk (blk_below (g := B3) b3 hW)
  have hsW : w0.heap.size ≤ W.heap.size := Nat.le_trans hs0 hW.size
  have KW := zF.mk (KC.of_below hs0 hW)
  have HSW := zF.mk hsW
  clear hB1 hcut hlen hbig hcap hfit hC3 b1 b2 b3 hW
  refine callsIn_of_wp Try.func43 rfl trivial ?_ rfl
  simp only [Try.ntmps43, List.size_toArray, List.length_cons, List.length_nil, Nat.reduceAdd, Nat.reduceSub, Array.replicate_succ, Array.replicate_zero, List.push_toArray, List.append_toArray, List.nil_append, List.cons_append]
  gi_wp2_with (refine ⟨trivial, ?_⟩; gi_at_call 28; refine (callsIn_wide.2 (parts_Cuts.calls k _ _ _ cuts _ HCUT.out)).mono ?_; rintro e w1 ⟨vC, rfl, hR, hb1⟩; have HRC := zF.mk hR; have HBW := zF.mk hb1; obtain ⟨Ac, cc, hvC, hcc, hCc⟩ := Kd.R_reads hR; subst hvC; clear hR hb1 hcc hCc)
  have hJ1 : J [] w1 := hJ [] _ _ none hJ0 (grown_of_below HBW.out none) (fun r e => by cases e)
  have hX1 := zF.mk (blk_below (g := B1) X1.out HBW.out)
  have hX3 := zF.mk (blk_below (g := B3) X3.out HBW.out)
  have K1 := zF.mk (KW.out.trans (KC.of_below HSW.out HBW.out))
  have KR := zF.mk (KC.refl w0 w1)
  clear hz1 hz2 hz3 X1 X3 hJ0
  gi_loopw [14] (fun v wr => ∃ (i : Nat) (A' : Option Addr) (c' : Nat) (l' : List Int) (dn : List El), i ≤ cuts.length ∧ v = .int .i64 (i : Int) ∧ J dn wr ∧ zF (dn ++ rows15 (cuts.drop i) A' c' l' (ps.drop i) = full) ∧ zF (l'.length ≤ c') ∧ zF (SFits (cuts.drop i) l'.length) ∧ zF (KC w0 w1 wr) ∧ zF (wr.heap[B1]? = some (.cells #[.slice A' l'.length c'] 22 (0, 0))))
    (fun v _ => cuts.length - (intOf v).toNat)
  case atStart => exact ⟨0, A, c, l, [], Nat.zero_le _, rfl, hJ1, ⟨by simpa using HF.out⟩, HCAP, HFIT, KR, hX1⟩
  case round =>
    clear hJ1 hX1 KR
    obtain ⟨i, A', c', l', dn, hi, rfl, hJd, HD, HCAP', HFIT', KR, X1⟩ := hrel
    by_cases hlt : i < cuts.length
    · have hd : decide ((i : Int) < (cuts.length : Int)) = true := decide_eq_true (by omega)
      obtain ⟨adc, hA, hcell⟩ := Kd.at_int (Kd.R_reads' (KC.R HRC.out (by decide) KR.out)).2.2 (i : Int) (by omega) (by omega)
      subst hA
      have hrd : rd cuts (i : Int) = cuts.getD i 0 := by unfold rd; simp
      rw [hrd] at hcell
      have hdr : cuts.drop i = cuts.getD i 0 :: cuts.drop (i + 1) := by rw [List.drop_eq_getElem_cons hlt, List.getD_eq_getElem?_getD, List.getElem?_eq_getElem hlt]; rfl
      have hip : i < ps.length := by have := HLEN.out; omega
      have hdp : ps.drop i = ps.getD i z50 :: ps.drop (i + 1) := by rw [List.drop_eq_getElem_cons hip, List.getD_eq_getElem?_getD, List.getElem?_eq_getElem hip]; rfl
      have hft := HFIT'.out
      have hdn := HD.out
      rw [hdr] at hft hdn
      rw [hdp] at hdn
      obtain ⟨nI, hn_⟩ : ∃ nI, cuts.getD i 0 = nI := ⟨_, rfl⟩
      rw [hn_] at hft hdn hcell
      obtain ⟨hn0, hn1', hft⟩ := hft
      obtain ⟨m, rfl⟩ : ∃ m : Nat, nI = (m : Int) := ⟨nI.toNat, by omega⟩
      simp only [Int.toNat_natCast, rows15] at hft hdn hcell
      have p1 : 0 ≤ (i : Int) := by omega
      have q1 : (i : Int) < (ps.length : Int) := by omega
      obtain ⟨ad3, hA3, hp0, hp1⟩ := at_T50 (HC3.out _ (K1.out.trans KR.out)) (i : Int) p1 q1
      subst hA3
      have hrp : rd_T50 ps (i : Int) = ps.getD i z50 := by unfold rd_T50; rw [Int.toNat_natCast]
      rw [hrp] at hp0 hp1
      obtain ⟨q, hq_⟩ : ∃ q, ps.getD i z50 = q := ⟨_, rfl⟩
      rw [hq_] at hp0 hp1 hdn
      simp only [Int.toNat_natCast] at hp0 hp1 hcell
      have hz1 : wr.cell? ⟨B1, 0, none⟩ = some (.slice A' l'.length c') := (zM X1.out 0).trans rfl
      have hX3' := KR.out.2.2 B3 _ _ _ hX3.out (by decide) (by decide) (by decide)
      have hz3 : wr.cell? ⟨B3, 2, none⟩ = some (.slice (some ad3) ps.length c3) := (zM hX3' 2).trans rfl
      have hml : m ≤ l'.length := by omega
      have hmc : m ≤ c' := by have := HCAP'.out; omega
      have hk1 : decide ((m : Int) ≤ (c' : Int)) = true := decide_eq_true (by omega)
      have hk2 : decide ((m : Int) ≤ (l'.length : Int)) = true := decide_eq_true (by omega)
      have hkq : decide ((i : Int) < (ps.length : Int)) = true := decide_eq_true q1
      replace q1 := eq_true q1
      have q2 := eq_true (show (i : Int) < (cuts.length : Int) by omega)
      replace p1 := eq_true p1
      have hlt' : (l'.take m).length = m := by rw [List.length_take]; omega
      obtain ⟨fn, tmps, assign, body, hy, hR⟩ := hY dn (q, A', c', l'.take m) wr.drew (hJ dn _ _ none hJd (grown_of_below (zC (Below.refl wr.heap.size wr)) none) (fun r e => by cases e)) (prefix_mid hdn)
      simp only [encE, hlt'] at hy
      have HDN := zF.mk hdn
      have HFT := zF.mk hft
      have HM := zF.mk (And.intro hml hmc)
      clear hdn hft hdr hdp hrd hn_ hn0 hn1' hX3' hrp hq_
      gi_wp2
      refine wpIn_region_any (by kernel_rfl) ?_
      change wpAnyIn _ _ _ _ _ _ _ _ _ (World.drew _)
      refine wpAnyIn_take (i := 0) (v := ?_) rfl rfl (by kernel_rfl) (by kernel_rfl) (by kernel_rfl) (fun _ _ _ h => h) ⟨Or.inl ⟨by rfl, ?_⟩, fun _ => rfl⟩ ?_
      rotate_left
      · intro w'; go_simp; first | done | (with_reducible rfl)
      refine wpAnyIn_take (i := 1) (v := ?_) rfl rfl (by kernel_rfl) (by kernel_rfl) (by kernel_rfl) (fun _ _ _ h => h) ⟨Or.inl ⟨by rfl, ?_⟩, fun _ => rfl⟩ ?_
      rotate_left
      · intro w'; go_simp; first | done | (with_reducible rfl)
      refine wpAnyIn_take (i := 3) (v := ?_) rfl rfl (by kernel_rfl) (by kernel_rfl) (by kernel_rfl) (fun _ _ _ h => h) ⟨Or.inl ⟨by rfl, ?_⟩, fun _ => rfl⟩ ?_
      rotate_left
      · intro w'; go_simp; first | done | (with_reducible rfl)
      refine wpAnyIn_take (i := 7) (v := ?_) rfl rfl (by kernel_rfl) (by kernel_rfl) (by kernel_rfl) (fun _ _ _ h => h) ⟨Or.inl ⟨by rfl, ?_⟩, fun _ => rfl⟩ ?_
      rotate_left
      · intro w'; go_simp; first | done | (with_reducible rfl)
      refine wpAnyIn_ready (rs := [2, 6]) (by kernel_rfl) (by simp) ?_
      refine AllReadyIn.cons rfl (fun K hK => ?_) ?_
      · go_simp
        refine hK _ _ ?_
        clear hK K
        refine wpAnyIn_take (i := 4) (v := ?_) rfl rfl (by kernel_rfl) (by kernel_rfl) (by kernel_rfl) (fun _ _ _ h => h) ⟨Or.inl ⟨by rfl, ?_⟩, fun _ => rfl⟩ ?_
        rotate_left
        · intro w'; go_simp; first | done | (with_reducible rfl)
        refine wpAnyIn_ready (rs := [5, 6]) (by kernel_rfl) (by simp) ?_
        refine AllReadyIn.cons rfl (fun K hK => ?_) ?_
        · go_simp
          refine hK _ _ ?_
          clear hK K
          refine wpAnyIn_ready (rs := [6]) (by kernel_rfl) (by simp) ?_
          refine AllReadyIn.cons rfl (fun K hK => ?_) AllReadyIn.nil
          go_simp
          refine hK _ _ ?_
          clear hK K
          refine wpAnyIn_take (i := 8) (v := ?_) rfl rfl (by kernel_rfl) (by kernel_rfl) (by kernel_rfl) (fun _ _ _ h => h) ⟨Or.inl ⟨by rfl, ?_⟩, fun _ => rfl⟩ ?_
          rotate_left
          · intro w'; go_simp; first | done | (with_reducible rfl)
          refine wpAnyIn_ready (rs := [9]) (by kernel_rfl) (by simp) ?_
          refine AllReadyIn.cons rfl (fun K hK => ?_) AllReadyIn.nil
          go_simp
          gi_wp2
          refine hR.mono ?_
          rintro e W3 (⟨rfl, hJ3, hk3⟩ | ⟨rfl, hJx3⟩)
          · dsimp only
            refine hK _ _ ?_
            clear hK K
            refine wpAnyIn_take (i := 10) (v := ?_) rfl rfl (by kernel_rfl) (by kernel_rfl) (by kernel_rfl) (fun _ _ _ h => h) ⟨Or.inl ⟨by rfl, ?_⟩, fun _ => rfl⟩ ?_
            rotate_left
            · intro w'; go_simp; first | done | (with_reducible rfl)
            refine wpAnyIn_done (by kernel_rfl) ?_ _
            have hX1' : W3.heap[B1]? = some (.cells #[.slice A' l'.length c'] 22 (0, 0)) := hk3.2 _ _ _ X1.out
            have KR3 := zF.mk (KR.out.trans hk3.1)
            clear hz1 hz3 hp0 hp1 hcell
            have hz1 : W3.cell? ⟨B1, 0, none⟩ = some (.slice A' l'.length c') := (zM hX1' 0).trans rfl
            have hf1 := zN hX1' 0
            have HX1' := zF.mk hX1'
            clear hX1' hk3
            obtain ⟨hml', hmc'⟩ := HM.out
            have hlow : (0 ≤ (m : Int)) = True := eq_true (by omega)
            have hbig := HBIG.out
            have hfit := HFT.out
            have hdn := HDN.out
            have hcap := HCAP'.out
            by_cases hmeq : m = c'
            · rw [if_pos hmeq, if_pos hmeq] at hdn
              subst hmeq
              have hz0 : l'.length - m = 0 := by omega
              have hJ4 := hT _ _ _ hJ3 ⟨.slice A' 0 0, _, HX1'.out, rfl⟩
              have hK4 := KR3.out.trans (KC.set HX1'.out rfl HB1.out 0 (.slice A' 0 0))
              have hX4 := blk_set HX1'.out 0 (.slice A' 0 0)
              have HJ4 := zF.mk (And.intro hJ4 (And.intro hK4 (And.intro hX4 (And.intro hfit hdn))))
              clear hJ4 hK4 hX4 hfit hdn
              gi_wp2
              go_roundw
              case rel =>
                obtain ⟨hJ4, hK4, hX4, hfit, hdn⟩ := HJ4.out
                exact ⟨i + 1, A', 0, l'.drop m, dn ++ [(q, A', m, l'.take m)], hlt, by simp, hJ4, ⟨by rw [← hdn, List.append_assoc, List.singleton_append]⟩, ⟨by rw [List.length_drop]; omega⟩, ⟨by rw [List.length_drop]; exact hfit⟩, ⟨hK4⟩, ⟨by rw [List.length_drop, hz0]; exact hX4⟩⟩
              case measure => simp [intOf]; omega
            · have hJ4 := hT _ _ _ hJ3 ⟨.slice (A'.map (·.add m)) (l'.length - m) (c' - m), _, HX1'.out, rfl⟩
              have hK4 := KR3.out.trans (KC.set HX1'.out rfl HB1.out 0 (.slice (A'.map (·.add m)) (l'.length - m) (c' - m)))
              have hX4 := blk_set HX1'.out 0 (.slice (A'.map (·.add m)) (l'.length - m) (c' - m))
              rw [if_neg hmeq, if_neg hmeq] at hdn
              have HJ4 := zF.mk (And.intro hJ4 (And.intro hK4 (And.intro hX4 (And.intro hfit hdn))))
              clear hJ4 hK4 hX4 hfit hdn
              gi_wp2
              go_roundw
              case rel =>
                obtain ⟨hJ4, hK4, hX4, hfit, hdn⟩ := HJ4.out
                exact ⟨i + 1, A'.map (·.add m), c' - m, l'.drop m, dn ++ [(q, A', c', l'.take m)], hlt, by simp, hJ4, ⟨by rw [← hdn, List.append_assoc, List.singleton_append]⟩, ⟨by rw [List.length_drop]; omega⟩, ⟨by rw [List.length_drop]; exact hfit⟩, ⟨hK4⟩, ⟨by rw [List.length_drop]; exact hX4⟩⟩
              case measure => simp [intOf]; omega
          · dsimp only
            refine hK _ _ ?_
            clear hK K
            refine wpAnyIn_take (i := 10) (v := ?_) rfl rfl (by kernel_rfl) (by kernel_rfl) (by kernel_rfl) (fun _ _ _ h => h) ⟨Or.inl ⟨by rfl, ?_⟩, fun _ => rfl⟩ ?_
            rotate_left
            · intro w'; go_simp; first | done | (with_reducible rfl)
            refine wpAnyIn_done (by kernel_rfl) ?_ _
            gi_wp2
            refine bodyPost_ret (results_none rfl _ _ _) rfl ?_
            exact ⟨⟨_, rfl⟩, .inr ⟨_, prefix_mid HDN.out, hJx3⟩⟩
        · refine AllReadyIn.cons rfl (fun K hK => ?_) ?_
          · go_simp
            refine hK _ _ ?_
            clear hK K
            refine wpAnyIn_take (i := 8) (v := ?_) rfl rfl (by kernel_rfl) (by kernel_rfl) (by kernel_rfl) (fun _ _ _ h => h) ⟨Or.inl ⟨by rfl, ?_⟩, fun _ => rfl⟩ ?_
            rotate_left
            · intro w'; go_simp; first | done | (with_reducible rfl)
            refine wpAnyIn_ready (rs := [5]) (by kernel_rfl) (by simp) ?_
            refine AllReadyIn.cons rfl (fun K hK => ?_) AllReadyIn.nil
            go_simp
            refine hK _ _ ?_
            clear hK K
            refine wpAnyIn_ready (rs := [9]) (by kernel_rfl) (by simp) ?_
            refine AllReadyIn.cons rfl (fun K hK => ?_) AllReadyIn.nil
            go_simp
            gi_wp2
            refine hR.mono ?_
            rintro e W3 (⟨rfl, hJ3, hk3⟩ | ⟨rfl, hJx3⟩)
            · dsimp only
              refine hK _ _ ?_
              clear hK K
              refine wpAnyIn_take (i := 10) (v := ?_) rfl rfl (by kernel_rfl) (by kernel_rfl) (by kernel_rfl) (fun _ _ _ h => h) ⟨Or.inl ⟨by rfl, ?_⟩, fun _ => rfl⟩ ?_
              rotate_left
              · intro w'; go_simp; first | done | (with_reducible rfl)
              refine wpAnyIn_done (by kernel_rfl) ?_ _
              have hX1' : W3.heap[B1]? = some (.cells #[.slice A' l'.length c'] 22 (0, 0)) := hk3.2 _ _ _ X1.out
              have KR3 := zF.mk (KR.out.trans hk3.1)
              clear hz1 hz3 hp0 hp1 hcell
              have hz1 : W3.cell? ⟨B1, 0, none⟩ = some (.slice A' l'.length c') := (zM hX1' 0).trans rfl
              have hf1 := zN hX1' 0
              have HX1' := zF.mk hX1'
              clear hX1' hk3
              obtain ⟨hml', hmc'⟩ := HM.out
              have hlow : (0 ≤ (m : Int)) = True := eq_true (by omega)
              have hbig := HBIG.out
              have hfit := HFT.out
              have hdn := HDN.out
              have hcap := HCAP'.out
              by_cases hmeq : m = c'
              · rw [if_pos hmeq, if_pos hmeq] at hdn
                subst hmeq
                have hz0 : l'.length - m = 0 := by omega
                have hJ4 := hT _ _ _ hJ3 ⟨.slice A' 0 0, _, HX1'.out, rfl⟩
                have hK4 := KR3.out.trans (KC.set HX1'.out rfl HB1.out 0 (.slice A' 0 0))
                have hX4 := blk_set HX1'.out 0 (.slice A' 0 0)
                have HJ4 := zF.mk (And.intro hJ4 (And.intro hK4 (And.intro hX4 (And.intro hfit hdn))))
                clear hJ4 hK4 hX4 hfit hdn
                gi_wp2
                go_roundw
                case rel =>
                  obtain ⟨hJ4, hK4, hX4, hfit, hdn⟩ := HJ4.out
                  exact ⟨i + 1, A', 0, l'.drop m, dn ++ [(q, A', m, l'.take m)], hlt, by simp, hJ4, ⟨by rw [← hdn, List.append_assoc, List.singleton_append]⟩, ⟨by rw [List.length_drop]; omega⟩, ⟨by rw [List.length_drop]; exact hfit⟩, ⟨hK4⟩, ⟨by rw [List.length_drop, hz0]; exact hX4⟩⟩
                case measure => simp [intOf]; omega
              · have hJ4 := hT _ _ _ hJ3 ⟨.slice (A'.map (·.add m)) (l'.length - m) (c' - m), _, HX1'.out, rfl⟩
                have hK4 := KR3.out.trans (KC.set HX1'.out rfl HB1.out 0 (.slice (A'.map (·.add m)) (l'.length - m) (c' - m)))
                have hX4 := blk_set HX1'.out 0 (.slice (A'.map (·.add m)) (l'.length - m) (c' - m))
                rw [if_neg hmeq, if_neg hmeq] at hdn
                have HJ4 := zF.mk (And.intro hJ4 (And.intro hK4 (And.intro hX4 (And.intro hfit hdn))))
                clear hJ4 hK4 hX4 hfit hdn
                gi_wp2
                go_roundw
                case rel =>
                  obtain ⟨hJ4, hK4, hX4, hfit, hdn⟩ := HJ4.out
                  exact ⟨i + 1, A'.map (·.add m), c' - m, l'.drop m, dn ++ [(q, A', c', l'.take m)], hlt, by simp, hJ4, ⟨by rw [← hdn, List.append_assoc, List.singleton_append]⟩, ⟨by rw [List.length_drop]; omega⟩, ⟨by rw [List.length_drop]; exact hfit⟩, ⟨hK4⟩, ⟨by rw [List.length_drop]; exact hX4⟩⟩
                case measure => simp [intOf]; omega
            · dsimp only
              refine hK _ _ ?_
              clear hK K
              refine wpAnyIn_take (i := 10) (v := ?_) rfl rfl (by kernel_rfl) (by kernel_rfl) (by kernel_rfl) (fun _ _ _ h => h) ⟨Or.inl ⟨by rfl, ?_⟩, fun _ => rfl⟩ ?_
              rotate_left
              · intro w'; go_simp; first | done | (with_reducible rfl)
              refine wpAnyIn_done (by kernel_rfl) ?_ _
              gi_wp2
              refine bodyPost_ret (results_none rfl _ _ _) rfl ?_
              exact ⟨⟨_, rfl⟩, .inr ⟨_, prefix_mid HDN.out, hJx3⟩⟩
          · exact AllReadyIn.nil
      · refine AllReadyIn.cons rfl (fun K hK => ?_) ?_
        · go_simp
          refine hK _ _ ?_
          clear hK K
          refine wpAnyIn_take (i := 8) (v := ?_) rfl rfl (by kernel_rfl) (by kernel_rfl) (by kernel_rfl) (fun _ _ _ h => h) ⟨Or.inl ⟨by rfl, ?_⟩, fun _ => rfl⟩ ?_
          rotate_left
          · intro w'; go_simp; first | done | (with_reducible rfl)
          refine wpAnyIn_ready (rs := [2]) (by kernel_rfl) (by simp) ?_
          refine AllReadyIn.cons rfl (fun K hK => ?_) AllReadyIn.nil
          go_simp
          refine hK _ _ ?_
          clear hK K
          refine wpAnyIn_take (i := 4) (v := ?_) rfl rfl (by kernel_rfl) (by kernel_rfl) (by kernel_rfl) (fun _ _ _ h => h) ⟨Or.inl ⟨by rfl, ?_⟩, fun _ => rfl⟩ ?_
          rotate_left
          · intro w'; go_simp; first | done | (with_reducible rfl)
          refine wpAnyIn_ready (rs := [5]) (by kernel_rfl) (by simp) ?_
          refine AllReadyIn.cons rfl (fun K hK => ?_) AllReadyIn.nil
          go_simp
          refine hK _ _ ?_
          clear hK K
          refine wpAnyIn_ready (rs := [9]) (by kernel_rfl) (by simp) ?_
          refine AllReadyIn.cons rfl (fun K hK => ?_) AllReadyIn.nil
          go_simp
          gi_wp2
          refine hR.mono ?_
          rintro e W3 (⟨rfl, hJ3, hk3⟩ | ⟨rfl, hJx3⟩)
          · dsimp only
            refine hK _ _ ?_
            clear hK K
            refine wpAnyIn_take (i := 10) (v := ?_) rfl rfl (by kernel_rfl) (by kernel_rfl) (by kernel_rfl) (fun _ _ _ h => h) ⟨Or.inl ⟨by rfl, ?_⟩, fun _ => rfl⟩ ?_
            rotate_left
            · intro w'; go_simp; first | done | (with_reducible rfl)
            refine wpAnyIn_done (by kernel_rfl) ?_ _
            have hX1' : W3.heap[B1]? = some (.cells #[.slice A' l'.length c'] 22 (0, 0)) := hk3.2 _ _ _ X1.out
            have KR3 := zF.mk (KR.out.trans hk3.1)
            clear hz1 hz3 hp0 hp1 hcell
            have hz1 : W3.cell? ⟨B1, 0, none⟩ = some (.slice A' l'.length c') := (zM hX1' 0).trans rfl
            have hf1 := zN hX1' 0
            have HX1' := zF.mk hX1'
            clear hX1' hk3
            obtain ⟨hml', hmc'⟩ := HM.out
            have hlow : (0 ≤ (m : Int)) = True := eq_true (by omega)
            have hbig := HBIG.out
            have hfit := HFT.out
            have hdn := HDN.out
            have hcap := HCAP'.out
            by_cases hmeq : m = c'
            · rw [if_pos hmeq, if_pos hmeq] at hdn
              subst hmeq
              have hz0 : l'.length - m = 0 := by omega
              have hJ4 := hT _ _ _ hJ3 ⟨.slice A' 0 0, _, HX1'.out, rfl⟩
              have hK4 := KR3.out.trans (KC.set HX1'.out rfl HB1.out 0 (.slice A' 0 0))
              have hX4 := blk_set HX1'.out 0 (.slice A' 0 0)
              have HJ4 := zF.mk (And.intro hJ4 (And.intro hK4 (And.intro hX4 (And.intro hfit hdn))))
              clear hJ4 hK4 hX4 hfit hdn
              gi_wp2
              go_roundw
              case rel =>
                obtain ⟨hJ4, hK4, hX4, hfit, hdn⟩ := HJ4.out
                exact ⟨i + 1, A', 0, l'.drop m, dn ++ [(q, A', m, l'.take m)], hlt, by simp, hJ4, ⟨by rw [← hdn, List.append_assoc, List.singleton_append]⟩, ⟨by rw [List.length_drop]; omega⟩, ⟨by rw [List.length_drop]; exact hfit⟩, ⟨hK4⟩, ⟨by rw [List.length_drop, hz0]; exact hX4⟩⟩
              case measure => simp [intOf]; omega
            · have hJ4 := hT _ _ _ hJ3 ⟨.slice (A'.map (·.add m)) (l'.length - m) (c' - m), _, HX1'.out, rfl⟩
              have hK4 := KR3.out.trans (KC.set HX1'.out rfl HB1.out 0 (.slice (A'.map (·.add m)) (l'.length - m) (c' - m)))
              have hX4 := blk_set HX1'.out 0 (.slice (A'.map (·.add m)) (l'.length - m) (c' - m))
              rw [if_neg hmeq, if_neg hmeq] at hdn
              have HJ4 := zF.mk (And.intro hJ4 (And.intro hK4 (And.intro hX4 (And.intro hfit hdn))))
              clear hJ4 hK4 hX4 hfit hdn
              gi_wp2
              go_roundw
              case rel =>
                obtain ⟨hJ4, hK4, hX4, hfit, hdn⟩ := HJ4.out
                exact ⟨i + 1, A'.map (·.add m), c' - m, l'.drop m, dn ++ [(q, A', c', l'.take m)], hlt, by simp, hJ4, ⟨by rw [← hdn, List.append_assoc, List.singleton_append]⟩, ⟨by rw [List.length_drop]; omega⟩, ⟨by rw [List.length_drop]; exact hfit⟩, ⟨hK4⟩, ⟨by rw [List.length_drop]; exact hX4⟩⟩
              case measure => simp [intOf]; omega
          · dsimp only
            refine hK _ _ ?_
            clear hK K
            refine wpAnyIn_take (i := 10) (v := ?_) rfl rfl (by kernel_rfl) (by kernel_rfl) (by kernel_rfl) (fun _ _ _ h => h) ⟨Or.inl ⟨by rfl, ?_⟩, fun _ => rfl⟩ ?_
            rotate_left
            · intro w'; go_simp; first | done | (with_reducible rfl)
            refine wpAnyIn_done (by kernel_rfl) ?_ _
            gi_wp2
            refine bodyPost_ret (results_none rfl _ _ _) rfl ?_
            exact ⟨⟨_, rfl⟩, .inr ⟨_, prefix_mid HDN.out, hJx3⟩⟩
        · exact AllReadyIn.nil
    · obtain rfl : i = cuts.length := by omega
      have hd : decide (((cuts.length : Nat) : Int) < (cuts.length : Int)) = false := decide_eq_false (by omega)
      have hdn := HD.out
      have hnil : ∀ (A : Option Addr) (c : Nat) (l : List Int) (ps : List S50), rows15 [] A c l ps = [] := fun _ _ _ _ => by simp [rows15]
      rw [List.drop_length, hnil, List.append_nil] at hdn
      subst hdn
      gi_wp2
      go_end0
      exact ⟨⟨_, rfl⟩, .inl hJd⟩
set_option maxHeartbeats 1000000 in
theorem sec_each_in (n : Nat) (A : Option Addr) (len c : Nat) (order : Int) (wd : Bool) (o : Int) (A3 : Option Addr) (n3 c3 : Nat) (w : World) :
    CallsIn Fence.wide n Try.prog 23 #[.slice A len c, .int .i64 order, .agg #[.bool wd, .int .i64 o, .slice A3 n3 c3]] w fun e w' => e = .returned (.func (.func 43) #[] #[.pointer (some ⟨w.heap.size, 0, none⟩), .pointer (some ⟨w.heap.size + 1, 0, none⟩), .pointer (some ⟨w.heap.size + 2, 0, none⟩)]) ∧
      w' = ((w.alloc (.cells #[.slice A len c] 22)).alloc (.cells #[.int .i64 order] 3)).alloc (.cells #[.bool wd, .int .i64 o, .slice A3 n3 c3] 25) := by
  have hu25 := Try.underlying25
  refine callsIn_of_wp Try.func23 rfl trivial ?_ rfl
  simp only [Try.ntmps23, List.size_toArray, List.length_cons, List.length_nil, Nat.reduceAdd, Nat.reduceSub, Array.replicate_succ, Array.replicate_zero, List.push_toArray, List.append_toArray, List.nil_append, List.cons_append]
  gi_wp2
  go_ret
  exact ⟨rfl, rfl⟩
end Go.Proofs.Ytokdjeoecnnckaa.PA
end
section
namespace Go.Proofs.Ytokdjeoecnnckaa.PL
open Go.RowKit Go.Proofs.Ytokdjeoecnnckaa.PA Go.Proofs.YtokdjeoecnnckaaW.PrintWords Go.Proofs.YtokdjeoecnnckaaW.PrintMore
set_option linter.unusedVariables false
set_option linter.unusedSimpArgs false
theorem u64_wrap (x : Int) : IntKind.u64.wrap x = x % 18446744073709551616 := by
  simp [IntKind.wrap, IntKind.signed, IntKind.bits]
def fold (n : Int) : Int := if n ≥ 0 then 2 * n else -2 * n - 1
theorem xor_ones (a : Nat) (h : a < 18446744073709551616) : a ^^^ 18446744073709551615 = 18446744073709551615 - a := by
  have e : (18446744073709551615 - a : Nat) = 2 ^ 64 - (a + 1) := by omega
  rw [e]
  apply Nat.eq_of_testBit_eq
  intro i
  rw [Nat.testBit_two_pow_sub_succ (by simpa using h), Nat.testBit_xor, show (18446744073709551615 : Nat) = 2 ^ 64 - 1 by decide, Nat.testBit_two_pow_sub_one]
  by_cases hi : i < 64
  · simp [hi]
  · have : a.testBit i = false := Nat.testBit_lt_two_pow (Nat.lt_of_lt_of_le h (by
      have : (2 : Nat) ^ 64 ≤ 2 ^ i := Nat.pow_le_pow_right (by decide) (by omega)
      simpa using this))
    simp [hi, this]
theorem fold_eq (n : Int) (h : -9223372036854775808 ≤ n ∧ n < 9223372036854775808) : rice_Fold.f n = some (fold n) := by
  unfold rice_Fold.f fold
  simp only [u64_wrap]
  congr 1
  by_cases hn : n ≥ 0
  · obtain ⟨m, rfl⟩ := Int.eq_ofNat_of_zero_le hn
    have e1 : ((m : Int) % 18446744073709551616 * 2) % 18446744073709551616 = ((2 * m : Nat) : Int) := by omega
    have e2 : ((m : Int) / 9223372036854775808) % 18446744073709551616 = ((0 : Nat) : Int) := by omega
    rw [e1, e2, bits_xor_u64_nat _ _ (by omega) (by omega), if_pos hn, Nat.xor_zero]; omega
  · obtain ⟨m, hm⟩ := Int.eq_ofNat_of_zero_le (show 0 ≤ -n - 1 by omega)
    have e1 : (n % 18446744073709551616 * 2) % 18446744073709551616 = ((18446744073709551616 - 2 * m - 2 : Nat) : Int) := by omega
    have e2 : (n / 9223372036854775808) % 18446744073709551616 = ((18446744073709551615 : Nat) : Int) := by omega
    rw [e1, e2, bits_xor_u64_nat _ _ (by omega) (by omega), xor_ones _ (by omega), if_neg hn]; omega
theorem fold_bd (n : Int) (h : -9223372036854775808 ≤ n ∧ n < 9223372036854775808) : 0 ≤ fold n ∧ fold n < 18446744073709551616 := by unfold fold; split <;> omega
def IsNear (n : Int) : Prop := -8589934592 ≤ n ∧ n < 8589934592
instance (n : Int) : Decidable (IsNear n) := by unfold IsNear; infer_instance
theorem near_eq (n : Int) : rice_Near.f n = some (decide (IsNear n)) := by
  unfold rice_Near.f IsNear
  by_cases h : n ≥ -8589934592
  · rw [if_pos h]; congr 1; exact decide_eq_decide.2 ⟨fun g => ⟨h, g⟩, fun g => g.2⟩
  · rw [if_neg h]; congr 1; exact (decide_eq_false (by omega)).symm
theorem fold_near {n : Int} (h : IsNear n) : 0 ≤ fold n ∧ fold n < 17179869184 := by unfold IsNear at h; unfold fold; split <;> omega
def kk (k : Int) : Nat := (max 0 (min k 30)).toNat
theorem kk_le (k : Int) : kk k ≤ 30 := by unfold kk; omega
theorem kk_eq (k : Int) : (mx 0 (mn k 30)) = (kk k : Int) := by unfold mx mn kk; split <;> split <;> omega
def sz (n : Int) (k : Nat) : Int := fold n / 2 ^ k + 1 + k
theorem shr_u64 (x : Int) {s : Nat} (h : s ≤ 64) : shr .u64 x (s : Int) = x / 2 ^ s := by
  unfold shr
  rw [Int.toNat_natCast, show min s IntKind.u64.bits = s by simp [IntKind.bits]; omega]
theorem shr_eq' (x : Int) {s : Nat} (h : s ≤ 64) : shr .i64 x (s : Int) = x / 2 ^ s := by
  unfold shr
  rw [Int.toNat_natCast, show min s IntKind.i64.bits = s by simp [IntKind.bits]; omega]
theorem div_pow_bd {x : Int} {s : Nat} (h : 0 ≤ x) : 0 ≤ x / 2 ^ s ∧ x / 2 ^ s ≤ x := by
  have hp : (0 : Int) < 2 ^ s := Int.pow_pos (by decide)
  exact ⟨Int.ediv_nonneg h (Int.le_of_lt hp), Int.ediv_le_self _ h⟩
theorem sz_bd {n : Int} {k : Nat} (h : IsNear n) (hk : k ≤ 30) : 1 + k ≤ sz n k ∧ sz n k ≤ 17179869300 := by
  have := fold_near h
  have := div_pow_bd (x := fold n) (s := k) this.1
  unfold sz; omega
theorem near_64 {n : Int} (h : IsNear n) : -9223372036854775808 ≤ n ∧ n < 9223372036854775808 := by unfold IsNear at h; omega
theorem size_eq (n k : Int) : rice_Size.f n k = some (if IsNear n then sz n (kk k) else -1) := by
  unfold rice_Size.f
  rw [near_eq]
  simp only [Option.bind_some]
  by_cases h : IsNear n
  · have hf := fold_near h
    have hd := div_pow_bd (x := fold n) (s := kk k) hf.1
    have hk := kk_le k
    rw [if_pos (by simpa using h), if_pos h]
    unfold rice_held.f
    rw [fold_eq n (near_64 h)]
    simp only [Option.bind_some]
    rw [kk_eq, if_pos (by omega), shr_u64 _ (by omega), w64 (x := fold n / 2 ^ kk k) (by omega) (by omega), w64 (x := fold n / 2 ^ kk k + 1) (by omega) (by omega), w64 (by omega) (by omega)]
    rfl
  · rw [if_neg (by simpa using h), if_neg h]
end Go.Proofs.Ytokdjeoecnnckaa.PL
end
section
namespace Go.Proofs.Ytokdjeoecnnckaa.PA
open Go.RowKit Go.Proofs.YtokdjeoecnnckaaW.PrintWords Go.Proofs.YtokdjeoecnnckaaW.PrintLast Go.Proofs.YtokdjeoecnnckaaW.PrintMore
attribute [local go_sem] max2_int min2_int max_two min_two max_three min_three max_four min_four   -- for this text's walks alone
set_option linter.unusedVariables false
set_option linter.unusedSimpArgs false

def bits_Writer_Len.f (s0_0 : ByteArray) (s0_1 : Int) : Option (Int × ByteArray × Int) := some (s0_1, s0_0, s0_1)
theorem bits_Writer_Len.calls (g : Nat) (s0_0 : ByteArray) (s0_1 : Int) (r1 : Int) (r2 : ByteArray) (r3 : Int) (w0 w : World) (hI : zH w0 w g s0_0 s0_1) (hB : Below w0.heap.size w0 w) (h : bits_Writer_Len.f s0_0 s0_1 = some (r1, r2, r3)) :
    Calls Try.prog 11 #[.pointer (some ⟨g, 0, none⟩)] w fun e w' => e = .returned (.int .i64 r1) ∧ zH w0 w' g r2 r3 ∧ Below w0.heap.size w0 w' ∧ zI w w' g none := by
  have HI := zF.mk hI
  have HK := zF.mk (zI.refl w g none)
  have HB := zF.mk hB
  clear hB
  simp only [bits_Writer_Len.f, Option.some.injEq, Prod.mk.injEq] at h
  obtain ⟨rfl, rfl, rfl⟩ := h
  obtain ⟨v, hb, hg, hr, hz⟩ := hI
  have hc1 : w.cell? ⟨g, 1, none⟩ = some (.int .i64 s0_1) := (zM hb 1).trans rfl
  clear hb hg hr hz
  go_enter Try.func11, Try.ntmps11
  go_wp2
  go_ret
  exact ⟨rfl, HI.out, HB.out, HK.out⟩

def bytes_Clone.f (l0 : List Int) : Option (List Int) := (some (([] : List Int) : List Int)).bind fun y160 => (if y160.length + l0.length < 140737488355328 then (some (y160 ++ l0)) else (none))
set_option maxHeartbeats 8000000 in
set_option maxRecDepth 100000 in
theorem bytes_Clone.calls (A0 : Option Addr) (c0 : Nat) (l0 : List Int) (r : List Int) (w : World) (hr0 : Kd.C (Kd.int .u8) w A0 l0.length l0) (hc0 : l0.length ≤ c0) (h : bytes_Clone.f l0 = some r) :
    Calls Try.prog 31 #[.slice A0 l0.length c0] w fun e w' => ∃ v0_ : Value, e = .returned (v0_) ∧ Kd.R (Kd.int .u8) 5 w' w.heap.size (fun _ => True) v0_ r ∧ Below w.heap.size w w' := by
  have ue : ∀ w : World, (binOp .eql 26 (.slice A0 l0.length c0) (.slice none 0 0)).run Try.prog w = .ok (.bool A0.isNone) w := fun w => Lib.run_eql_slice_nil w _ _ _ _ _ _ _ Try.underlying26
  cases A0 with
  | none =>
    have hn : l0 = [] := by
      obtain ⟨h1, h2, h3⟩ := hr0
      cases l0 with
      | nil => rfl
      | cons a t => obtain ⟨ad, e, _⟩ := h3 (by simp); cases e
    subst hn
    have hr : r = [] := by
      have H : (if ([] : List Int).length + ([] : List Int).length < 140737488355328 then (some (([] : List Int) ++ [])) else none) = some r := h
      rw [if_pos (by simp)] at H
      exact (Option.some.inj H).symm
    subst hr
    clear h hr0 hc0
    simp only [Option.isNone_none, List.length_nil] at ue
    go_enter Try.func31, Try.ntmps31
    go_wp2
    go_ret
    exact ⟨_, rfl, Kd.R_nil _ _ _ _ _, Below.refl _ _⟩
  | some ad0 =>
    simp only [Option.isNone_some] at ue
    have HR0 := zF.mk hr0
    have HC0 := zF.mk hc0
    clear hr0 hc0
    have HB := zF.mk (Below.refl w.heap.size w)
    have H : ((some (([] : List Int) : List Int)).bind fun y160 => (if y160.length + l0.length < 140737488355328 then (some (y160 ++ l0)) else (none))) = some r := h
    clear h
    obtain ⟨y160, hy160⟩ : ∃ y_ : List Int, y_ = (([] : List Int)) := ⟨_, rfl⟩
    replace H : (if y160.length + l0.length < 140737488355328 then (some (y160 ++ l0)) else (none)) = some r := by first | (rw [hy160]; with_reducible exact H) | (have H2_ := (Option.bind_some _ _).symm.trans H; rw [hy160]; with_reducible exact H2_) | (have H2_ := (Option.bind_some _ _).symm.trans H; with_reducible exact H2_) | with_reducible exact H | (rw [hy160]; exact H) | exact H
    have Ny160 := zF.mk hy160
    clear hy160
    by_cases c2 : y160.length + l0.length < 140737488355328
    · rw [if_pos c2] at H
      have LMc2 := zF.mk c2
      clear c2
      obtain ⟨y163, hy163⟩ : ∃ y_ : List Int, y_ = (y160 ++ l0) := ⟨_, rfl⟩
      replace H : (some y163) = some r := by first | (rw [hy163]; with_reducible exact H) | (have H2_ := (Option.bind_some _ _).symm.trans H; rw [hy163]; with_reducible exact H2_) | (have H2_ := (Option.bind_some _ _).symm.trans H; with_reducible exact H2_) | with_reducible exact H | (rw [hy163]; exact H) | exact H
      have Ny163 := zF.mk hy163
      clear hy163
      obtain rfl := Option.some.inj H
      go_enter Try.func31, Try.ntmps31
      go_wp2_with (first | ((with_reducible refine gate_dst (N := 5) rfl ?_); refine Kd.R_lit (Kd.int .u8) _ 5 ?hg (N := 5) ?hd (xs := ([] : List Int)) (inner := []) (ok := fun _ => True) (okp := fun _ => True) ?hr ?hp (fun _ hk => hk) trivial (Below.refl _ _) (Nat.le_refl _) (by simp) ?_; (case hd => rfl); (case hg => rfl); (case hr => first | (go_simp; done) | (go_simp; rfl)); (case hp => exact (Reps.none _ _)); intro v161 w3 ho4 hb hg_ hnew_; clear hg_ hnew_; (first | rw [← Ny160.out] at ho4 | (simp only [Int.reduceToNat] at ho4; rw [← Ny160.out] at ho4)); have n0_ := zF.mk (Kd.R_lower ho4 (below_size (by repeat (first | (with_reducible first | exact HB.out | apply zE | apply zB | apply zC) | exact HB.out)))); have n1_ := zF.mk (below_step (by repeat (first | (with_reducible first | exact HB.out | apply zE | apply zB | apply zC) | exact HB.out)) hb); clear HB; have HO162 := n0_; have HB := n1_; clear n0_ n1_; clear hb ho4) | ((with_reducible refine gate_builtin (b := .append) (xs := #[.tmp 5, .tmp 6]) rfl ?_); at_builtin; refine Kd.R_append_rows (Kd.int .u8) (w0 := w) w.heap.size rfl (.tmp 5) (.tmp 6) 26 5 (.int .u8 0) 1 rfl Try.underlying26 info5 rfl (by decide) (by omega) v161 y160 l0 _ _ _ (fun _ => True) (fun _ => False) rfl rfl ?aO ?aR (fun _ _ h => h) (fun _ h => h.elim) ?aF ?aB ?aS ?aL ?_; (case aR => repeat (first | exact (Kd.C_below HR0.out HB.out) | (with_reducible refine Kd.zU ?_ _) | (with_reducible refine Kd.zS ?_ _) | (with_reducible refine Kd.zT ?_))); (case aB => exact (by repeat (first | (with_reducible first | exact HB.out | apply zE | apply zB | apply zC) | exact HB.out))); (case aF => exact (fun _ _ => trivial)); (case aO => exact (by (with_reducible repeat (first | apply Kd.zR | apply Kd.zP | apply Kd.zQ)); exact HO162.out)); (case aS => exact (below_size (by repeat (first | (with_reducible first | exact HB.out | apply zE | apply zB | apply zC) | exact HB.out)))); (case aL => have := LMc2.out; omega); intro v164 w5 ho hb hg hat; rw [← Ny163.out] at ho; have n0_ := zF.mk (hb); have n1_ := zF.mk (ho); clear HB; clear HO162; have HB := n0_; have HO165 := n1_; clear n0_ n1_; clear ho hb hg hat))
      go_ret
      exact ⟨_, by first | rfl | (simp [errW_none, errW_some] <;> rfl) | (simp [*, errW_none, errW_some] <;> rfl), by (with_reducible repeat (first | apply Kd.zR | apply Kd.zP | apply Kd.zQ)); exact HO165.out, by repeat (first | (with_reducible first | exact HB.out | apply zE | apply zB | apply zC) | exact HB.out)⟩
    · rw [if_neg c2] at H
      exact absurd H (by simp)

def bits_Writer_Bytes.f (s0_0 : ByteArray) (s0_1 : Int) : Option (List Int × ByteArray × Int) := (bytes_Clone.f (bytesOf s0_0)).map fun r => (r, s0_0, s0_1)
set_option maxRecDepth 100000 in
theorem bits_Writer_Bytes.calls (g : Nat) (s0_0 : ByteArray) (s0_1 : Int) (r1 : List Int) (r2 : ByteArray) (r3 : Int) (w0 w : World) (hI : zH w0 w g s0_0 s0_1) (hB : Below w0.heap.size w0 w) (h : bits_Writer_Bytes.f s0_0 s0_1 = some (r1, r2, r3)) :
    Calls Try.prog 13 #[.pointer (some ⟨g, 0, none⟩)] w fun e w' => ∃ v0_ : Value, e = .returned (v0_) ∧ Kd.R (Kd.int .u8) 5 w' w.heap.size (fun _ => True) v0_ r1 ∧ zH w0 w' g r2 r3 ∧ Below w0.heap.size w0 w' ∧ zI w w' g none := by
  have HI := zF.mk hI
  have HB := zF.mk hB
  clear hB
  obtain ⟨r, hc, he⟩ := Option.map_eq_some_iff.1 h
  simp only [Prod.mk.injEq] at he
  obtain ⟨rfl, rfl, rfl⟩ := he
  clear h
  obtain ⟨v, hb, hg, hr, hz⟩ := hI
  obtain ⟨A, c, rfl⟩ := Kd.R_slice hr
  have hc0 : w.cell? ⟨g, 0, none⟩ = some (.slice A (bytesOf s0_0).length c) := (zM hb 0).trans rfl
  have HC := zF.mk (bytes_Clone.calls A c (bytesOf s0_0) r w (Kd.R_reads' hr).2.2 (Kd.R_reads' hr).2.1 hc)
  clear hb hg hr hz hc
  go_enter Try.func13, Try.ntmps13
  go_wp2_with (go_at_call 31; (with_reducible refine HC.out.mono ?_); rintro e w' ⟨v0, rfl, ho, hb⟩; have HO := zF.mk ho; have HBB := zF.mk hb; clear ho hb)
  go_ret
  exact ⟨_, rfl, HO.out, HI.out.below HBB.out, below_step HB.out HBB.out, zI.of_below HBB.out _ _⟩

def serinetteref01_Same.l0 : Nat → List Int → List Int → Int → Option (Bool)
  | 0, _, _, _ => none
  | k + 1, x0, x1, x5 => if x5 < (x0.length : Int) then (if 0 ≤ x5 then (if x5 < (x1.length : Int) then (if (rd x0 x5) = (rd x1 x5) then (serinetteref01_Same.l0 k x0 x1 (wrap64 (x5 + 1))) else (some false)) else (none)) else (none)) else (some true)
def serinetteref01_Same.f (k : Nat) (l0 : List Int) (l1 : List Int) : Option (Bool) := if (l0.length : Int) = (l1.length : Int) then (serinetteref01_Same.l0 k l0 l1 0) else (some false)
theorem serinetteref01_Same.mono_l : ∀ k, (∀ y0 y1 y2, LeO (serinetteref01_Same.l0 k y0 y1 y2) (serinetteref01_Same.l0 (k + 1) y0 y1 y2))
  | 0 => fun _ _ _ r h => by simp [serinetteref01_Same.l0] at h
  | k + 1 => by
    have ih0 := serinetteref01_Same.mono_l k
    · intro y0 y1 y2
      unfold serinetteref01_Same.l0
      repeat' first
      | (with_reducible exact ih0 _ _ _)
      | (with_reducible exact LeO.refl _)
      | (with_reducible exact LeO.none _)
      | (with_reducible refine LeO.ite ?_ ?_)
      | (with_reducible refine LeO.bind ?_ (fun _ => ?_))
      | exact ih0 _ _ _
      | exact LeO.none _
      | refine LeO.ite ?_ ?_
      | refine LeO.bind ?_ (fun _ => ?_)
theorem serinetteref01_Same.mono : ∀ a0 a1 k, LeO (serinetteref01_Same.f k a0 a1) (serinetteref01_Same.f (k + 1) a0 a1) := by
  intro a0 a1 k
  have ih0 := serinetteref01_Same.mono_l k
  unfold serinetteref01_Same.f
  repeat' first
      | (with_reducible exact ih0 _ _ _)
      | (with_reducible exact LeO.refl _)
      | (with_reducible exact LeO.none _)
      | (with_reducible refine LeO.ite ?_ ?_)
      | (with_reducible refine LeO.bind ?_ (fun _ => ?_))
      | exact ih0 _ _ _
      | exact LeO.none _
      | refine LeO.ite ?_ ?_
      | refine LeO.bind ?_ (fun _ => ?_)
set_option maxHeartbeats 8000000 in
set_option maxRecDepth 100000 in
theorem serinetteref01_Same.calls (k : Nat) (A0 : Option Addr) (c0 : Nat) (l0 : List Int) (A1 : Option Addr) (c1 : Nat) (l1 : List Int) (r : Bool) (w : World) (hr0 : Kd.C (Kd.int .u8) w A0 l0.length l0) (hc0 : l0.length ≤ c0) (hr1 : Kd.C (Kd.int .u8) w A1 l1.length l1) (hc1 : l1.length ≤ c1) (h : serinetteref01_Same.f k l0 l1 = some r) :
    Calls Try.prog 19 #[.slice A0 l0.length c0, .slice A1 l1.length c1] w fun e w' => e = .returned (.bool r) ∧ Drawn0 w w' := by
  have HR0 := zF.mk hr0
  have HC0 := zF.mk hc0
  clear hr0 hc0
  have HR1 := zF.mk hr1
  have HC1 := zF.mk hc1
  clear hr1 hc1
  have H : (if (l0.length : Int) = (l1.length : Int) then (serinetteref01_Same.l0 k l0 l1 0) else (some false)) = some r := h
  clear h
  by_cases c3 : (l0.length : Int) = (l1.length : Int)
  · rw [if_pos c3] at H
    have c3b0 : ((l0.length : Int) == (l1.length : Int)) = true := beq_iff_eq.mpr c3
    have c3b1 : ((l0.length : Int) != (l1.length : Int)) = false := bne_eq_false_iff_eq.mpr c3
    have c3b2 : (l0.length == l1.length) = true := by first | simpa using c3 | (simp at c3 ⊢; omega)
    clear c3
    have H' := zF.mk H
    clear H
    go_enter Try.func19, Try.ntmps19
    go_wp2
    repeat (go_quiet (fail); try go_wp2)
    go_loopg [5] k (fun kq v5 w' => ∃ (x5_1 : Int), v5 = .int .i64 x5_1 ∧ zF (serinetteref01_Same.l0 kq l0 l1 x5_1 = some r) ∧ zF (kq ≤ k) ∧ Drawn0 w w')
    case atStart => exact ⟨(0), (by first | rfl | (simp; done) | (simp only [i64_w, i32_w]; done) | (simp [*]; done) | (simp only [i64_w, i32_w]; first | rfl | (simp; done) | (simp [*]; done))), H', ⟨Nat.le_refl _⟩, by repeat (first | exact Drawn0.refl _ | apply Drawn0.step)⟩
    case round =>
      clear H'
      try clear c1
      try clear p2
      try clear c3
      try clear c3b0
      try clear c3b1
      try clear c3b2
      obtain ⟨x5_1, rfl, HA, HK1, ⟨m1, rfl⟩⟩ := hrel
      cases gk with
      | zero => exact absurd HA.out (by simp [serinetteref01_Same.l0])
      | succ k1 =>
        have H := HA.out
        clear HA
        simp only [serinetteref01_Same.l0] at H
        by_cases c4 : x5_1 < (l0.length : Int)
        · rw [if_pos c4] at H
          have c4b0 : decide (x5_1 < (l0.length : Int)) = true := decide_eq_true c4
          clear c4
          by_cases c5 : 0 ≤ x5_1
          · rw [if_pos c5] at H
            have c5b0 : decide (0 ≤ x5_1) = true := decide_eq_true c5
            clear c5
            by_cases c6 : x5_1 < (l1.length : Int)
            · rw [if_pos c6] at H
              have c6b0 : decide (x5_1 < (l1.length : Int)) = true := decide_eq_true c6
              clear c6
              by_cases c7 : (rd l0 x5_1) = (rd l1 x5_1)
              · rw [if_pos c7] at H
                have c7b0 : ((rd l0 x5_1) == (rd l1 x5_1)) = true := beq_iff_eq.mpr c7
                have c7b1 : ((rd l0 x5_1) != (rd l1 x5_1)) = false := bne_eq_false_iff_eq.mpr c7
                clear c7
                have H' := zF.mk H
                clear H
                have p166 : 0 ≤ (x5_1 : Int) := of_decide_eq_true (by first | (with_reducible assumption) | assumption)
                have q166 : x5_1 < (l0.length : Int) := of_decide_eq_true (by first | (with_reducible assumption) | assumption)
                obtain ⟨ad166, e166, hx166_0⟩ := Kd.at_int HR0.out x5_1 p166 q166
                cases e166
                replace p166 := eq_true p166
                replace q166 := eq_true q166
                have p167 : 0 ≤ (x5_1 : Int) := of_decide_eq_true (by first | (with_reducible assumption) | assumption)
                have q167 : x5_1 < (l1.length : Int) := of_decide_eq_true (by first | (with_reducible assumption) | assumption)
                obtain ⟨ad167, e167, hx167_0⟩ := Kd.at_int HR1.out x5_1 p167 q167
                cases e167
                replace p167 := eq_true p167
                replace q167 := eq_true q167
                go_wp2
                repeat (go_quiet (fail); try go_wp2)
                go_roundg k1
                case measure => have := HK1.out; omega
                case rel => exact ⟨(wrap64 (x5_1 + 1)), (by first | rfl | (simp; done) | (simp only [i64_w, i32_w]; done) | (simp [*]; done) | (simp only [i64_w, i32_w]; first | rfl | (simp; done) | (simp [*]; done))), H', ⟨by have := HK1.out; omega⟩, by repeat (first | exact Drawn0.refl _ | apply Drawn0.step)⟩
              · rw [if_neg c7] at H
                have c7b0 : ((rd l0 x5_1) == (rd l1 x5_1)) = false := beq_eq_false_iff_ne.mpr c7
                have c7b1 : ((rd l0 x5_1) != (rd l1 x5_1)) = true := bne_iff_ne.mpr c7
                obtain rfl := Option.some.inj H
                have p166 : 0 ≤ (x5_1 : Int) := of_decide_eq_true (by first | (with_reducible assumption) | assumption)
                have q166 : x5_1 < (l0.length : Int) := of_decide_eq_true (by first | (with_reducible assumption) | assumption)
                obtain ⟨ad166, e166, hx166_0⟩ := Kd.at_int HR0.out x5_1 p166 q166
                cases e166
                replace p166 := eq_true p166
                replace q166 := eq_true q166
                have p167 : 0 ≤ (x5_1 : Int) := of_decide_eq_true (by first | (with_reducible assumption) | assumption)
                have q167 : x5_1 < (l1.length : Int) := of_decide_eq_true (by first | (with_reducible assumption) | assumption)
                obtain ⟨ad167, e167, hx167_0⟩ := Kd.at_int HR1.out x5_1 p167 q167
                cases e167
                replace p167 := eq_true p167
                replace q167 := eq_true q167
                go_wp2
                repeat (go_quiet (fail); try go_wp2)
                go_ret
                exact ⟨by first | rfl | (simp; done) | (simp [*]; done), by repeat (first | exact Drawn0.refl _ | apply Drawn0.step)⟩
            · rw [if_neg c6] at H
              exact absurd H (by simp)
          · rw [if_neg c5] at H
            exact absurd H (by simp)
        · rw [if_neg c4] at H
          have c4b0 : decide (x5_1 < (l0.length : Int)) = false := decide_eq_false c4
          clear c4
          obtain rfl := Option.some.inj H
          go_wp2
          repeat (go_quiet (fail); try go_wp2)
          go_ret
          exact ⟨by first | rfl | (simp; done) | (simp [*]; done), by repeat (first | exact Drawn0.refl _ | apply Drawn0.step)⟩
  · rw [if_neg c3] at H
    have c3b0 : ((l0.length : Int) == (l1.length : Int)) = false := beq_eq_false_iff_ne.mpr c3
    have c3b1 : ((l0.length : Int) != (l1.length : Int)) = true := bne_iff_ne.mpr c3
    have c3b2 : (l0.length == l1.length) = false := by first | simpa using c3 | (simp at c3 ⊢; omega)
    obtain rfl := Option.some.inj H
    go_enter Try.func19, Try.ntmps19
    go_wp2
    repeat (go_quiet (fail); try go_wp2)
    go_ret
    exact ⟨by first | rfl | (simp; done) | (simp [*]; done), by repeat (first | exact Drawn0.refl _ | apply Drawn0.step)⟩
end Go.Proofs.Ytokdjeoecnnckaa.PA
end
section
namespace Go.Proofs.Ytokdjeoecnnckaa.PL
open Go Go.RowKit Go.Proofs.Ytokdjeoecnnckaa.PA Go.Proofs.YtokdjeoecnnckaaW.PrintWords Go.Proofs.YtokdjeoecnnckaaW.PrintMore
set_option linter.unusedSimpArgs false
set_option linter.unusedVariables false
def hw (w : Int) : Nat := if w < 0 then 0 else if w > 64 then 64 else w.toNat
theorem hw_le (w : Int) : hw w ≤ 64 := by unfold hw; split <;> (try split) <;> omega
theorem hw_eq (w : Int) : mx 0 (mn w 64) = (hw w : Int) := by unfold mx mn hw; split <;> split <;> (try split) <;> omega
theorem hw_nat {w : Nat} (h : w ≤ 64) : hw (w : Int) = w := by unfold hw; rw [if_neg (by omega)]; split <;> omega
theorem held_eq (w : Int) : bits_held.f w = some (hw w : Int) := by unfold bits_held.f; rw [hw_eq]
theorem shr_u64' (x : Int) {s : Nat} (h : s ≤ 64) : shr .u64 x (s : Int) = x / 2 ^ s := by
  unfold shr
  rw [Int.toNat_natCast, show min s IntKind.u64.bits = s by simp [IntKind.bits]; omega]
theorem shr_u8' (x : Int) {s : Nat} (h : s ≤ 8) : shr .u8 x (s : Int) = x / 2 ^ s := by
  unfold shr
  rw [Int.toNat_natCast, show min s IntKind.u8.bits = s by simp [IntKind.bits]; omega]
theorem shl_u8' {x : Int} {s : Nat} (h : s ≤ 8) (h0 : 0 ≤ x * 2 ^ s) (h1 : x * 2 ^ s < 256) : shl .u8 x (s : Int) = x * 2 ^ s := by
  unfold shl
  rw [Int.toNat_natCast, show min s IntKind.u8.bits = s by simp [IntKind.bits]; omega]
  exact wraps_u8 _ h0 h1
theorem wrap_u64 (n : Int) : IntKind.u64.wrap n = n % 18446744073709551616 := by simp [IntKind.wrap, IntKind.bits, IntKind.signed]
theorem wraps_u64' (n : Int) (h₀ : 0 ≤ n) (h₁ : n < 18446744073709551616) : IntKind.u64.wrap n = n := by rw [wrap_u64]; omega
theorem pow64 : (2 : Int) ^ 64 = 18446744073709551616 := by decide
theorem wraps_u64 (n : Int) (h₀ : 0 ≤ n) (h₁ : n < 2 ^ 64) : IntKind.u64.wrap n = n := wraps_u64' n h₀ (by rw [← pow64]; exact h₁)
theorem shl_u64' {x : Int} {s : Nat} (h : s ≤ 64) (h0 : 0 ≤ x * 2 ^ s) (h1 : x * 2 ^ s < 18446744073709551616) : shl .u64 x (s : Int) = x * 2 ^ s := by
  unfold shl
  rw [Int.toNat_natCast, show min s IntKind.u64.bits = s by simp [IntKind.bits]; omega]
  exact wraps_u64' _ h0 h1
theorem mask8 {m : Nat} (h1 : 1 ≤ m) (h8 : m ≤ 8) : (shl .u8 1 (m : Int) - 1) % 256 = 2 ^ m - 1 := by
  have : m = 1 ∨ m = 2 ∨ m = 3 ∨ m = 4 ∨ m = 5 ∨ m = 6 ∨ m = 7 ∨ m = 8 := by omega
  rcases this with rfl | rfl | rfl | rfl | rfl | rfl | rfl | rfl <;> decide
theorem pow_le_256 {m : Nat} (h8 : m ≤ 8) : (2 : Int) ^ m ≤ 256 := by
  have : m = 0 ∨ m = 1 ∨ m = 2 ∨ m = 3 ∨ m = 4 ∨ m = 5 ∨ m = 6 ∨ m = 7 ∨ m = 8 := by omega
  rcases this with rfl | rfl | rfl | rfl | rfl | rfl | rfl | rfl | rfl <;> decide
theorem part_eq (x : Int) {m : Nat} (h1 : 1 ≤ m) (h8 : m ≤ 8) : Go.bits .and .u8 (x % 256) ((shl .u8 1 (m : Int) - 1) % 256) = x % 2 ^ m := by
  rw [mask8 h1 h8, bits_mask .u8 8 (by decide) wraps_u8 m h8 (x % 256) (by omega) (by omega)]
  refine Int.emod_emod_of_dvd x ?_
  have : m = 1 ∨ m = 2 ∨ m = 3 ∨ m = 4 ∨ m = 5 ∨ m = 6 ∨ m = 7 ∨ m = 8 := by omega
  rcases this with rfl | rfl | rfl | rfl | rfl | rfl | rfl | rfl <;> decide
theorem put_or (r : List Bool) (x : Int) (m : Nat) (hm : 1 ≤ m) (hr : r.length + m ≤ 8) (hx : 0 ≤ x ∧ x < 2 ^ m) : Go.bits .or .u8 (num (pad8 r)) (shl .u8 x ((8 - r.length - m : Nat) : Int)) = num (pad8 (r ++ digs x m)) := by
  have hl : (r ++ digs x m).length = r.length + m := by simp [digs_len]
  have hb := num_bd r
  have hs := pow2_pos (8 - r.length - m)
  have hm0 := pow2_pos m
  have e1 : (2 : Int) ^ (8 - r.length) = 2 ^ m * 2 ^ (8 - r.length - m) := by rw [← Int.pow_add]; congr 1; omega
  have e2 : (2 : Int) ^ r.length * (2 ^ m * 2 ^ (8 - r.length - m)) = 256 := by rw [← Int.pow_add, ← Int.pow_add, show r.length + (m + (8 - r.length - m)) = 8 by omega]; rfl
  have hx2 : x * 2 ^ (8 - r.length - m) < 2 ^ m * 2 ^ (8 - r.length - m) := Int.mul_lt_mul_of_pos_right hx.2 hs
  have hx0 : 0 ≤ x * 2 ^ (8 - r.length - m) := Int.mul_nonneg hx.1 (Int.le_of_lt hs)
  have h256 : (2 : Int) ^ m * 2 ^ (8 - r.length - m) ≤ 256 := by rw [← e1]; exact pow_le_256 (by omega)
  rw [shl_u8' (by omega) hx0 (by omega), num_pad8 (by omega), num_pad8 (by omega), num_append, num_digs, digs_len, hl, e1]
  have e3 : x % 2 ^ m = x := Int.emod_eq_of_lt hx.1 hx.2
  have hq : num r * (2 ^ m * 2 ^ (8 - r.length - m)) ≤ (2 ^ r.length - 1) * (2 ^ m * 2 ^ (8 - r.length - m)) := Int.mul_le_mul_of_nonneg_right (by omega) (Int.le_of_lt (Int.mul_pos hm0 hs))
  rw [Int.sub_mul, e2, Int.one_mul] at hq
  have hq0 : 0 ≤ num r * (2 ^ m * 2 ^ (8 - r.length - m)) := Int.mul_nonneg hb.1 (Int.le_of_lt (Int.mul_pos hm0 hs))
  have hpos := Int.mul_pos hm0 hs
  rw [bits_join .u8 8 (by decide) wraps_u8 (8 - r.length) _ _ hq0 (by rw [e1]; exact Int.mul_emod_left _ _) (by omega) hx0 (by rw [e1]; exact hx2) (by omega), e3, Int.add_mul, show 8 - (r.length + m) = 8 - r.length - m by omega, Int.mul_assoc]
theorem put_step (k : Nat) (n : Int) (left : Nat) (l : List Bool) (m : Nat) (hm : m = min (8 - l.length % 8) left) (h1 : 1 ≤ left) (h64 : left ≤ 64) (hll : l.length < 70368744177664) :
    bits_Writer_Put.l0 (k + 1) n (left : Int) (toB l) (l.length : Int) = bits_Writer_Put.l0 k n ((left - m : Nat) : Int) (toB (l ++ digs (n / 2 ^ (left - m)) m)) ((l ++ digs (n / 2 ^ (left - m)) m).length : Int) := by
  obtain ⟨f, r, rfl, hfl, hrl⟩ := split8 l
  have hlen : (f ++ r).length = f.length + r.length := by simp
  have hr8 : r.length < 8 := by omega
  have hm1 : 1 ≤ m := by omega
  have hm8 : m ≤ 8 - r.length := by omega
  have hm9 : m ≤ 8 := by omega
  have hrm : r.length + m ≤ 8 := by omega
  have hll2 : left - m ≤ 64 := by omega
  have htm : Int.tmod ((f ++ r).length : Int) 8 = (r.length : Int) := by rw [Int.tmod_eq_emod_of_nonneg (by omega)]; omega
  have htl : (toB f).length < 8796093022208 := by rw [toB_len]; omega
  have hy : bits_Writer_Put.grow (toB (f ++ r)) ((f ++ r).length : Int) = some (toB f ++ [num (pad8 r)]) := by
    unfold bits_Writer_Put.grow
    rw [htm, toB_app _ f r hfl]
    by_cases hr0 : r = []
    · subst hr0
      rw [if_pos (by simp), toB_nil, List.append_nil, if_pos (by omega)]
      rfl
    · have : 0 < r.length := List.length_pos_iff.2 hr0
      rw [if_neg (by omega), toB_short hr0 (by omega)]
  have hroom : wrap64 (8 - Int.tmod ((f ++ r).length : Int) 8) = ((8 - r.length : Nat) : Int) := by rw [htm, w64 (by omega) (by omega)]; omega
  have hmn : mn (wrap64 (8 - Int.tmod ((f ++ r).length : Int) 8)) (left : Int) = (m : Int) := by rw [hroom]; unfold mn; split <;> omega
  have hl1 : wrap64 ((left : Int) - (m : Int)) = ((left - m : Nat) : Int) := by rw [w64 (by omega) (by omega)]; omega
  have hylen : ((toB f ++ [num (pad8 r)]).length : Int) = ((toB f).length : Int) + 1 := by simp
  have hl2 : wrap64 (((toB f ++ [num (pad8 r)]).length : Int) - 1) = ((toB f).length : Int) := by
    rw [hylen, w64 (by omega) (by omega)]; omega
  have hsh : wrap64 (wrap64 (8 - Int.tmod ((f ++ r).length : Int) 8) - (m : Int)) = ((8 - r.length - m : Nat) : Int) := by rw [hroom, w64 (by omega) (by omega)]; omega
  have hp : wrap64 (((f ++ r).length : Int) + (m : Int)) = (((f ++ r).length + m : Nat) : Int) := by rw [w64 (by omega) (by omega)]; omega
  have hrd : rd (toB f ++ [num (pad8 r)]) ((toB f).length : Int) = num (pad8 r) := rd_at _ _ _
  have hset : ∀ z : Int, (toB f ++ [num (pad8 r)]).set (((toB f).length : Int)).toNat z = toB f ++ [z] := fun z => by rw [Int.toNat_natCast]; exact set_at _ _ _ _
  have hlt : ((toB f).length : Int) < ((toB f ++ [num (pad8 r)]).length : Int) := by rw [hylen]; omega
  have hne : ¬ ((left : Int) = 0) := by omega
  have e2 : (((f ++ r).length + m : Nat) : Int) = ((f ++ r ++ digs (n / 2 ^ (left - m)) m).length : Int) := by simp only [List.length_append, digs_len]
  have hne2 : r ++ digs (n / 2 ^ (left - m)) m ≠ [] := by
    intro e
    have h := congrArg List.length e
    rw [List.length_append, digs_len] at h
    exact absurd (Nat.add_eq_zero_iff.1 h).2 (Nat.one_le_iff_ne_zero.1 hm1)
  have hl9 : (r ++ digs (n / 2 ^ (left - m)) m).length ≤ 8 := by rw [List.length_append, digs_len]; exact hrm
  have e1 : toB f ++ [num (pad8 (r ++ digs (n / 2 ^ (left - m)) m))] = toB (f ++ r ++ digs (n / 2 ^ (left - m)) m) := by
    rw [List.append_assoc, toB_app _ f _ hfl, toB_short hne2 hl9]
  have hpart := part_eq (n / 2 ^ (left - m)) (m := m) hm1 hm9
  have hs64 := shr_u64' n (s := left - m) hll2
  have hx : 0 ≤ n / 2 ^ (left - m) % 2 ^ m ∧ n / 2 ^ (left - m) % 2 ^ m < 2 ^ m := ⟨Int.emod_nonneg _ (Int.ne_of_gt (pow2_pos m)), Int.emod_lt_of_pos _ (pow2_pos m)⟩
  simp only [bits_Writer_Put.l0]
  rw [if_neg hne, hy]
  simp only [Option.bind_some]
  rw [hmn, hl1, hl2, hsh, hp]
  rw [if_pos (Int.natCast_nonneg _), if_pos (Int.natCast_nonneg _), if_pos (Int.natCast_nonneg _), if_pos hlt, if_pos (Int.natCast_nonneg _), hrd, hset, hs64, hpart, put_or r _ m hm1 hrm hx, digs_mod, e1, e2]
theorem put_l0 : ∀ (left fuel : Nat) (n : Int) (l : List Bool), left ≤ 64 → left < fuel → l.length + left < 70368744177664 → bits_Writer_Put.l0 fuel n (left : Int) (toB l) (l.length : Int) = some (toB (l ++ digs n left), ((l.length + left : Nat) : Int)) := by
  intro left
  induction left using Nat.strongRecOn with
  | _ left ih =>
  intro fuel n l hl hf hll
  obtain ⟨k, rfl⟩ : ∃ k, fuel = k + 1 := ⟨fuel - 1, by omega⟩
  by_cases h0 : left = 0
  · subst h0
    have e0 : ((0 : Nat) : Int) = 0 := rfl
    simp only [bits_Writer_Put.l0]
    rw [e0, if_pos (rfl : (0 : Int) = 0)]
    simp [digs]
  obtain ⟨m, hm⟩ : ∃ m : Nat, m = min (8 - l.length % 8) left := ⟨_, rfl⟩
  have hm1 : 1 ≤ m := by omega
  have hm2 : m ≤ left := by omega
  have a1 : left - m < left := by omega
  have a2 : left - m ≤ 64 := by omega
  have a3 : left - m < k := by omega
  have a5 : l.length + m + (left - m) < 70368744177664 := by omega
  have a6 : l.length + m + (left - m) = l.length + left := by omega
  have a7 : m + (left - m) = left := by omega
  have hlen : (l ++ digs (n / 2 ^ (left - m)) m).length = l.length + m := by rw [List.length_append, digs_len]
  rw [put_step k n left l m hm (by omega) hl (by omega), ih (left - m) a1 k n _ a2 a3 (by rw [hlen]; exact a5), hlen, a6, List.append_assoc, ← digs_add, a7]
def WB (l : List Bool) : ByteArray := ofB (toB l)
theorem bytes_WB (l : List Bool) : bytesOf (WB l) = toB l := bytes_ofB (toB_bd l)
theorem WB_nil : WB [] = ⟨#[]⟩ := rfl
theorem put_eq (l : List Bool) (n w : Int) (hl : l.length < 70368744177600) : bits_Writer_Put.f (WB l) (l.length : Int) n w = some (WB (l ++ digs n (hw w)), ((l ++ digs n (hw w)).length : Int)) := by
  unfold bits_Writer_Put.f
  rw [held_eq, bytes_WB]
  simp only [Option.bind_some]
  rw [put_l0 (hw w) 80 n l (hw_le w) (by have := hw_le w; omega) (by have := hw_le w; omega)]
  simp [WB, digs_len]
theorem len_eq (l : List Bool) : bits_Writer_Len.f (WB l) (l.length : Int) = some ((l.length : Int), WB l, (l.length : Int)) := rfl
theorem bytes_eq (l : List Bool) (hl : l.length < 70368744177664) : bits_Writer_Bytes.f (WB l) (l.length : Int) = some (toB l, WB l, (l.length : Int)) := by
  unfold bits_Writer_Bytes.f bytes_Clone.f
  rw [bytes_WB]
  simp only [Option.bind_some, List.length_nil, List.nil_append]
  rw [if_pos (by rw [toB_len]; omega)]
  rfl
end Go.Proofs.Ytokdjeoecnnckaa.PL
end
section
namespace Go.Proofs.Ytokdjeoecnnckaa.PA
open Go.RowKit Go.Proofs.YtokdjeoecnnckaaW.PrintWords Go.Proofs.YtokdjeoecnnckaaW.PrintLast Go.Proofs.YtokdjeoecnnckaaW.PrintMore
attribute [local go_sem] max2_int min2_int max_two min_two max_three min_three max_four min_four   -- for this text's walks alone
set_option linter.unusedVariables false
set_option linter.unusedSimpArgs false

def section_size.f (a0 : Bool) : Option (Int) := if a0 = true then (some 5) else (some 4)
set_option maxHeartbeats 8000000 in
set_option maxRecDepth 100000 in
theorem section_size.calls (a0 : Bool) (r : Int) (w : World) (h : section_size.f a0 = some r) :
    Calls Try.prog 26 #[.bool a0] w fun e w' => e = .returned (.int .i64 r) ∧ Drawn0 w w' := by
  have H : (if a0 = true then (some 5) else (some 4)) = some r := h
  clear h
  by_cases c2 : a0 = true
  · subst c2
    have H1 : (some 5) = some r := by rw [if_pos rfl] at H; exact H
    clear H
    have H := H1
    clear H1
    obtain rfl := Option.some.inj H
    go_enter Try.func26, Try.ntmps26
    go_wp2
    go_ret
    exact ⟨by first | rfl | (simp; done) | (simp [*]; done), by repeat (first | exact Drawn0.refl _ | apply Drawn0.step)⟩
  · replace c2 := Bool.eq_false_iff.mpr c2
    subst c2
    have H1 : (some 4) = some r := by rw [if_neg (show ¬ (false = true) by decide)] at H; exact H
    clear H
    have H := H1
    clear H1
    obtain rfl := Option.some.inj H
    go_enter Try.func26, Try.ntmps26
    go_wp2
    go_ret
    exact ⟨by first | rfl | (simp; done) | (simp [*]; done), by repeat (first | exact Drawn0.refl _ | apply Drawn0.step)⟩

def rice_Put.l0 : Nat → Int → Int → Int → ByteArray → Int → Option (Int × ByteArray × Int)
  | 0, _, _, _, _, _ => none
  | k + 1, x2, x7, x8, x1000, x1001 => if x8 > 64 then ((bits_Writer_Put.f x1000 x1001 0 64).bind fun bt152 => (rice_Put.l0 k x2 x7 (wrap64 (x8 - 64)) bt152.1 bt152.2)) else ((bits_Writer_Put.f x1000 x1001 0 x8).bind fun bt154 => ((bits_Writer_Put.f bt154.1 bt154.2 1 1).bind fun bt156 => ((bits_Writer_Put.f bt156.1 bt156.2 x7 x2).bind fun bt158 => (some (0, bt158.1, bt158.2)))))
def rice_Put.f (k : Nat) (s0_0 : ByteArray) (s0_1 : Int) (a1 : Int) (a2 : Int) : Option (Int × ByteArray × Int) := (rice_held.f a2).bind fun t149 => ((rice_Fold.f a1).bind fun t150 => (if 0 ≤ t149 then ((rice_Near.f a1).bind fun t151 => (if t151 = true then (if (wrap64 (shr .u64 t150 t149)) > 65535 then (some (7, s0_0, s0_1)) else (rice_Put.l0 k t149 t150 (wrap64 (shr .u64 t150 t149)) s0_0 s0_1)) else (some (6, s0_0, s0_1)))) else (none)))
set_option maxHeartbeats 8000000 in
set_option maxRecDepth 100000 in
theorem rice_Put.calls (k : Nat) (g : Nat) (s0_0 : ByteArray) (s0_1 : Int) (a1 : Int) (a2 : Int) (r1 : Int) (r2 : ByteArray) (r3 : Int) (w0 w : World) (hI : zH w0 w g s0_0 s0_1) (hB : Below w0.heap.size w0 w) (h : rice_Put.f k s0_0 s0_1 a1 a2 = some (r1, r2, r3)) :
    Calls Try.prog 27 #[.pointer (some ⟨g, 0, none⟩), .int .i64 a1, .int .i64 a2] w fun e w' => e = .returned (.int .i64 r1) ∧ zH w0 w' g r2 r3 ∧ Below w0.heap.size w0 w' ∧ KBe w0 w w' g := by
  have HI0 := zF.mk hI
  have HK := zF.mk (KBe.refl w0 hI)
  have HL := zF.mk hB.size
  clear hI
  have HW0 := zF.mk hB.size
  have HB := zF.mk hB
  clear hB
  have H : ((rice_held.f a2).bind fun t101 => ((rice_Fold.f a1).bind fun t102 => (if 0 ≤ t101 then ((rice_Near.f a1).bind fun t103 => (if t103 = true then (if (wrap64 (shr .u64 t102 t101)) > 65535 then (some (7, s0_0, s0_1)) else (rice_Put.l0 k t101 t102 (wrap64 (shr .u64 t102 t101)) s0_0 s0_1)) else (some (6, s0_0, s0_1)))) else (none)))) = some (r1, r2, r3) := h
  clear h
  replace H := Option.bind_eq_some_iff.mp H
  obtain ⟨t101, A40, H⟩ := H
  replace H : ((rice_Fold.f a1).bind fun t102 => (if 0 ≤ t101 then ((rice_Near.f a1).bind fun t103 => (if t103 = true then (if (wrap64 (shr .u64 t102 t101)) > 65535 then (some (7, s0_0, s0_1)) else (rice_Put.l0 k t101 t102 (wrap64 (shr .u64 t102 t101)) s0_0 s0_1)) else (some (6, s0_0, s0_1)))) else (none))) = some (r1, r2, r3) := H
  have A4 := zF.mk A40
  clear A40
  replace H := Option.bind_eq_some_iff.mp H
  obtain ⟨t102, A50, H⟩ := H
  replace H : (if 0 ≤ t101 then ((rice_Near.f a1).bind fun t103 => (if t103 = true then (if (wrap64 (shr .u64 t102 t101)) > 65535 then (some (7, s0_0, s0_1)) else (rice_Put.l0 k t101 t102 (wrap64 (shr .u64 t102 t101)) s0_0 s0_1)) else (some (6, s0_0, s0_1)))) else (none)) = some (r1, r2, r3) := H
  have A5 := zF.mk A50
  clear A50
  go_enter Try.func27, Try.ntmps27
  go_wp2
  refine wp_scope_ghost_k 0 rfl (fun kq a_ w' => ∃ v1_ v3_ v4_ v5_ v6_ v8 v9_ v10_ v11_ v12_ v13_ v14_ v15_ v16_ v17_ v18_ v19_ v20_ v21_ v22_ v23_ v24_ v25_ v26_ v27_ v28_ v29_ v30_ v31_ v32_ v33_ v34_ v35_ v36_ v37_ v38_ : Value, (∃ (x8_1 : Int) (x1000_1 : ByteArray) (x1001_1 : Int), v8 = .int .i64 x8_1 ∧ zF (rice_Put.l0 kq t101 t102 x8_1 x1000_1 x1001_1 = some (r1, r2, r3)) ∧ zF (kq ≤ kq) ∧ zF (zH w0 w' g x1000_1 x1001_1) ∧ zF (KBe w0 w w' g) ∧ zF (Below w0.heap.size w0 w')) ∧ a_ = { tmps := #[.pointer (some ⟨g, 0, none⟩), v1_, .int .i64 t101, v3_, v4_, v5_, v6_, .int .u64 t102, v8, v9_, v10_, v11_, v12_, v13_, v14_, v15_, v16_, v17_, v18_, v19_, v20_, v21_, v22_, v23_, v24_, v25_, v26_, v27_, v28_, v29_, v30_, v31_, v32_, v33_, v34_, v35_, v36_, v37_, v38_], defers := [] }) ?round ?first
  case round =>
    rintro gk a_ wr ⟨u1_, u3_, u4_, u5_, u6_, u8, u9_, u10_, u11_, u12_, u13_, u14_, u15_, u16_, u17_, u18_, u19_, u20_, u21_, u22_, u23_, u24_, u25_, u26_, u27_, u28_, u29_, u30_, u31_, u32_, u33_, u34_, u35_, u36_, u37_, u38_, hrel, rfl⟩ J_ K_ hJ_ hK_
    try clear c1
    try clear c2
    try clear p2
    try clear c3
    try clear c6
    try clear c6b0
    try clear c6b1
    try clear p6
    try clear c9
    try clear c10
    try clear c10b0
    obtain ⟨x8_1, x1000_1, x1001_1, rfl, HA, HK1, HI0, HK, HB⟩ := hrel
    cases gk with
    | zero => exact absurd HA.out (by simp [rice_Put.l0])
    | succ k1 =>
      have H := HA.out
      clear HA
      simp only [rice_Put.l0] at H
      by_cases c13 : x8_1 > 64
      · rw [if_pos c13] at H
        have c13b0 : decide (64 < x8_1) = true := decide_eq_true c13
        clear c13
        replace H := Option.bind_eq_some_iff.mp H
        obtain ⟨⟨t104, t105⟩, A140, H⟩ := H
        replace H : (rice_Put.l0 k1 t101 t102 (wrap64 (x8_1 - 64)) t104 t105) = some (r1, r2, r3) := H
        have A14 := zF.mk A140
        clear A140
        have H' := zF.mk H
        clear H
        go_wp2_with (first | ((with_reducible refine gate_callee (f := 25) rfl ?_); refine goesL_ (some 27) rfl rfl Try.func25 (by kernel_rfl) rfl #[.pointer (some ⟨g, 0, none⟩), .int .u64 0, .int .i64 64] rfl (by (try simp only [List.map_toArray, List.map_cons, List.map_nil]); first | done | rfl | (simp only [List.length_drop, List.length_take]; rfl)) ?_; (with_reducible refine (bits_Writer_Put.calls g x1000_1 x1001_1 0 64 t104 t105 w0 _ ?side1 ?side2 A14.out).mono ?_); (case side1 => repeat (first | (with_reducible first | exact HI0.out | apply zH.alloc | apply zH.drewN | apply zH.drew | apply zH.set_0 | apply zH.set_1) | exact HI0.out)); (case side2 => repeat (first | (with_reducible first | exact HB.out | apply zE | apply zB | apply zC | refine zD ?_ (zH.ge HI0.out)) | exact HB.out)); rintro e w15 ⟨rfl, hi, hb, hk⟩; refine ⟨_, rfl, ?_⟩; have n0_ := zF.mk (KBe.trans (by repeat (first | (with_reducible first | exact HK.out | apply KBe.drewN | apply KBe.drew | apply KBe.alloc) | exact HK.out)) hk); have n1_ := zF.mk (hb); have n2_ := zF.mk (hi); clear HK; clear HB; clear HI0; have HK := n0_; have HB := n1_; have HI0 := n2_; clear n0_ n1_ n2_; (try clear hb); (try clear hb2); (try clear hk); (try clear hi)))
        go_step3
        refine ⟨rfl, hK_ _ _ ?_⟩
        go_roundg k1
        case measure => have := HK1.out; omega
        case rel => exact ⟨(wrap64 (x8_1 - 64)), (t104), (t105), (by first | rfl | (simp; done) | (simp only [i64_w, i32_w]; done) | (simp [*]; done) | (simp only [i64_w, i32_w]; first | rfl | (simp; done) | (simp [*]; done))), H', ⟨by have := HK1.out; omega⟩, ⟨by repeat (first | (with_reducible first | exact HI0.out | apply zH.alloc | apply zH.drewN | apply zH.drew | apply zH.set_0 | apply zH.set_1) | exact HI0.out)⟩, ⟨by repeat (first | (with_reducible first | exact HK.out | apply KBe.drewN | apply KBe.drew | apply KBe.alloc) | exact HK.out)⟩, ⟨by repeat (first | (with_reducible first | exact HB.out | apply zE | apply zB | apply zC | refine zD ?_ (zH.ge HI0.out)) | exact HB.out)⟩⟩
      · rw [if_neg c13] at H
        have c13b0 : decide (64 < x8_1) = false := decide_eq_false c13
        clear c13
        replace H := Option.bind_eq_some_iff.mp H
        obtain ⟨⟨t106, t107⟩, A160, H⟩ := H
        replace H : ((bits_Writer_Put.f t106 t107 1 1).bind fun bt108 => ((bits_Writer_Put.f bt108.1 bt108.2 t102 t101).bind fun bt110 => (some (0, bt110.1, bt110.2)))) = some (r1, r2, r3) := H
        have A16 := zF.mk A160
        clear A160
        replace H := Option.bind_eq_some_iff.mp H
        obtain ⟨⟨t108, t109⟩, A170, H⟩ := H
        replace H : ((bits_Writer_Put.f t108 t109 t102 t101).bind fun bt110 => (some (0, bt110.1, bt110.2))) = some (r1, r2, r3) := H
        have A17 := zF.mk A170
        clear A170
        replace H := Option.bind_eq_some_iff.mp H
        obtain ⟨⟨t110, t111⟩, A180, H⟩ := H
        replace H : (some (0, t110, t111)) = some (r1, r2, r3) := H
        have A18 := zF.mk A180
        clear A180
        simp only [Option.some.injEq, Prod.mk.injEq] at H
        obtain ⟨rfl, rfl, rfl⟩ := H
        go_wp2_with (first | ((with_reducible refine gate_callee (f := 25) rfl ?_); refine goesL_ (some 32) rfl rfl Try.func25 (by kernel_rfl) rfl #[.pointer (some ⟨g, 0, none⟩), .int .u64 0, .int .i64 x8_1] rfl (by (try simp only [List.map_toArray, List.map_cons, List.map_nil]); first | done | rfl | (simp only [List.length_drop, List.length_take]; rfl)) ?_; (with_reducible refine (bits_Writer_Put.calls g x1000_1 x1001_1 0 x8_1 t106 t107 w0 _ ?side1 ?side2 A16.out).mono ?_); (case side1 => repeat (first | (with_reducible first | exact HI0.out | apply zH.alloc | apply zH.drewN | apply zH.drew | apply zH.set_0 | apply zH.set_1) | exact HI0.out)); (case side2 => repeat (first | (with_reducible first | exact HB.out | apply zE | apply zB | apply zC | refine zD ?_ (zH.ge HI0.out)) | exact HB.out)); rintro e w19 ⟨rfl, hi, hb, hk⟩; refine ⟨_, rfl, ?_⟩; have n0_ := zF.mk (KBe.trans (by repeat (first | (with_reducible first | exact HK.out | apply KBe.drewN | apply KBe.drew | apply KBe.alloc) | exact HK.out)) hk); have n1_ := zF.mk (hb); have n2_ := zF.mk (hi); clear HK; clear HB; clear HI0; have HK := n0_; have HB := n1_; have HI0 := n2_; clear n0_ n1_ n2_; (try clear hb); (try clear hb2); (try clear hk); (try clear hi)) | ((with_reducible refine gate_callee (f := 25) rfl ?_); refine goesL_ (some 34) rfl rfl Try.func25 (by kernel_rfl) rfl #[.pointer (some ⟨g, 0, none⟩), .int .u64 1, .int .i64 1] rfl (by (try simp only [List.map_toArray, List.map_cons, List.map_nil]); first | done | rfl | (simp only [List.length_drop, List.length_take]; rfl)) ?_; (with_reducible refine (bits_Writer_Put.calls g t106 t107 1 1 t108 t109 w0 _ ?side1 ?side2 A17.out).mono ?_); (case side1 => repeat (first | (with_reducible first | exact HI0.out | apply zH.alloc | apply zH.drewN | apply zH.drew | apply zH.set_0 | apply zH.set_1) | exact HI0.out)); (case side2 => repeat (first | (with_reducible first | exact HB.out | apply zE | apply zB | apply zC | refine zD ?_ (zH.ge HI0.out)) | exact HB.out)); rintro e w20 ⟨rfl, hi, hb, hk⟩; refine ⟨_, rfl, ?_⟩; have n0_ := zF.mk (KBe.trans (by repeat (first | (with_reducible first | exact HK.out | apply KBe.drewN | apply KBe.drew | apply KBe.alloc) | exact HK.out)) hk); have n1_ := zF.mk (hb); have n2_ := zF.mk (hi); clear HK; clear HB; clear HI0; have HK := n0_; have HB := n1_; have HI0 := n2_; clear n0_ n1_ n2_; (try clear hb); (try clear hb2); (try clear hk); (try clear hi)) | ((with_reducible refine gate_callee (f := 25) rfl ?_); refine goesL_ (some 38) rfl rfl Try.func25 (by kernel_rfl) rfl #[.pointer (some ⟨g, 0, none⟩), .int .u64 t102, .int .i64 t101] rfl (by (try simp only [List.map_toArray, List.map_cons, List.map_nil]); first | done | rfl | (simp only [List.length_drop, List.length_take]; rfl)) ?_; (with_reducible refine (bits_Writer_Put.calls g t108 t109 t102 t101 t110 t111 w0 _ ?side1 ?side2 A18.out).mono ?_); (case side1 => repeat (first | (with_reducible first | exact HI0.out | apply zH.alloc | apply zH.drewN | apply zH.drew | apply zH.set_0 | apply zH.set_1) | exact HI0.out)); (case side2 => repeat (first | (with_reducible first | exact HB.out | apply zE | apply zB | apply zC | refine zD ?_ (zH.ge HI0.out)) | exact HB.out)); rintro e w21 ⟨rfl, hi, hb, hk⟩; refine ⟨_, rfl, ?_⟩; have n0_ := zF.mk (KBe.trans (by repeat (first | (with_reducible first | exact HK.out | apply KBe.drewN | apply KBe.drew | apply KBe.alloc) | exact HK.out)) hk); have n1_ := zF.mk (hb); have n2_ := zF.mk (hi); clear HK; clear HB; clear HI0; have HK := n0_; have HB := n1_; have HI0 := n2_; clear n0_ n1_ n2_; (try clear hb); (try clear hb2); (try clear hk); (try clear hi)))
        (try simp only [Exit.jump])
        go_ret
        exact ⟨by first | rfl | (simp [errW_none, errW_some] <;> rfl) | (simp only [← hji7]; first | rfl | (simp [errW_none, errW_some] <;> rfl)) | (simp [*, errW_none, errW_some] <;> rfl), by repeat (first | (with_reducible first | exact HI0.out | apply zH.alloc | apply zH.drewN | apply zH.drew | apply zH.set_0 | apply zH.set_1) | exact HI0.out), by repeat (first | (with_reducible first | exact HB.out | apply zE | apply zB | apply zC | refine zD ?_ (zH.ge HI0.out)) | exact HB.out), by repeat (first | (with_reducible first | exact HK.out | apply KBe.drewN | apply KBe.drew | apply KBe.alloc) | exact HK.out)⟩
  case first =>
    intro K_ hR_
    by_cases c6 : 0 ≤ t101
    · rw [if_pos c6] at H
      have c6b0 := eq_true c6
      have c6b1 : decide (0 ≤ t101) = true := decide_eq_true c6
      clear c6
      obtain ⟨ji7, hji7⟩ : ∃ j_ : Int, (shr .u64 t102 t101) = j_ := ⟨_, rfl⟩
      replace H : ((rice_Near.f a1).bind fun t103 => (if t103 = true then (if (wrap64 (ji7)) > 65535 then (some (7, s0_0, s0_1)) else (rice_Put.l0 k t101 t102 (wrap64 (ji7)) s0_0 s0_1)) else (some (6, s0_0, s0_1)))) = some (r1, r2, r3) := by first | (rw [hji7] at H; exact H) | (simp only [hji7] at H ⊢; exact H)
      (try rw [hji7] at A4)
      (try rw [hji7] at A5)
      have hji7_ : (t102 / 2 ^ min t101.toNat 64) = ji7 := hji7
      have hji7z : t101 ≤ 64 → (t102 / 2 ^ t101.toNat) = ji7 := shr_small hji7
      replace H := Option.bind_eq_some_iff.mp H
      obtain ⟨t103, A80, H⟩ := H
      replace H : (if t103 = true then (if (wrap64 (ji7)) > 65535 then (some (7, s0_0, s0_1)) else (rice_Put.l0 k t101 t102 (wrap64 (ji7)) s0_0 s0_1)) else (some (6, s0_0, s0_1))) = some (r1, r2, r3) := H
      have A8 := zF.mk A80
      clear A80
      by_cases c9 : t103 = true
      · subst c9
        have H1 : (if (wrap64 (ji7)) > 65535 then (some (7, s0_0, s0_1)) else (rice_Put.l0 k t101 t102 (wrap64 (ji7)) s0_0 s0_1)) = some (r1, r2, r3) := by rw [if_pos rfl] at H; exact H
        clear H
        have H := H1
        clear H1
        by_cases c10 : (wrap64 (ji7)) > 65535
        · rw [if_pos c10] at H
          have c10b0 : decide (65535 < (wrap64 (ji7))) = true := decide_eq_true c10
          clear c10
          simp only [Option.some.injEq, Prod.mk.injEq] at H
          obtain ⟨rfl, rfl, rfl⟩ := H
          go_wp2_with (first | ((with_reducible refine gate_callee (f := 46) rfl ?_); refine goesL_ (some 10) rfl rfl Try.func46 (by kernel_rfl) rfl #[.int .i64 a2] rfl (by (try simp only [List.map_toArray, List.map_cons, List.map_nil]); first | done | rfl | (simp only [List.length_drop, List.length_take]; rfl)) ?_; (with_reducible refine (rice_held.calls a2 t101 _ A4.out).mono ?_); rintro e w11 ⟨rfl, hb⟩; refine ⟨_, rfl, ?_⟩; have n0_ := zF.mk (zH.below (by repeat (first | (with_reducible first | exact HI0.out | apply zH.alloc | apply zH.drewN | apply zH.drew | apply zH.set_0 | apply zH.set_1) | exact HI0.out)) hb); have n1_ := zF.mk (KBe.below (by repeat (first | (with_reducible first | exact HK.out | apply KBe.drewN | apply KBe.drew | apply KBe.alloc) | exact HK.out)) hb); have n2_ := zF.mk (below_step (by repeat (first | (with_reducible first | exact HB.out | apply zE | apply zB | apply zC | refine zD ?_ (zH.ge HI0.out)) | exact HB.out)) hb); clear HI0; clear HK; clear HB; have HI0 := n0_; have HK := n1_; have HB := n2_; clear n0_ n1_ n2_; (try clear hb); (try clear hb2); (try clear hk); (try clear hi)) | ((with_reducible refine gate_callee (f := 44) rfl ?_); refine goesL_ (some 12) rfl rfl Try.func44 (by kernel_rfl) rfl #[.int .i64 a1] rfl (by (try simp only [List.map_toArray, List.map_cons, List.map_nil]); first | done | rfl | (simp only [List.length_drop, List.length_take]; rfl)) ?_; (with_reducible refine (rice_Fold.calls a1 t102 _ A5.out).mono ?_); rintro e w' ⟨rfl, ⟨nd, rfl⟩⟩; refine ⟨_, rfl, ?_⟩) | ((with_reducible refine gate_callee (f := 47) rfl ?_); refine goesL_ (some 19) rfl rfl Try.func47 (by kernel_rfl) rfl #[.int .i64 a1] rfl (by (try simp only [List.map_toArray, List.map_cons, List.map_nil]); first | done | rfl | (simp only [List.length_drop, List.length_take]; rfl)) ?_; (with_reducible refine (rice_Near.calls a1 true _ A8.out).mono ?_); rintro e w' ⟨rfl, ⟨nd, rfl⟩⟩; refine ⟨_, rfl, ?_⟩))
          (try simp only [Exit.jump])
          go_ret
          exact ⟨by first | rfl | (simp [errW_none, errW_some] <;> rfl) | (simp only [← hji7]; first | rfl | (simp [errW_none, errW_some] <;> rfl)) | (simp [*, errW_none, errW_some] <;> rfl), by repeat (first | (with_reducible first | exact HI0.out | apply zH.alloc | apply zH.drewN | apply zH.drew | apply zH.set_0 | apply zH.set_1) | exact HI0.out), by repeat (first | (with_reducible first | exact HB.out | apply zE | apply zB | apply zC | refine zD ?_ (zH.ge HI0.out)) | exact HB.out), by repeat (first | (with_reducible first | exact HK.out | apply KBe.drewN | apply KBe.drew | apply KBe.alloc) | exact HK.out)⟩
        · rw [if_neg c10] at H
          have c10b0 : decide (65535 < (wrap64 (ji7))) = false := decide_eq_false c10
          clear c10
          have H' := zF.mk H
          clear H
          go_wp2_with (first | ((with_reducible refine gate_callee (f := 46) rfl ?_); refine goesL_ (some 10) rfl rfl Try.func46 (by kernel_rfl) rfl #[.int .i64 a2] rfl (by (try simp only [List.map_toArray, List.map_cons, List.map_nil]); first | done | rfl | (simp only [List.length_drop, List.length_take]; rfl)) ?_; (with_reducible refine (rice_held.calls a2 t101 _ A4.out).mono ?_); rintro e w12 ⟨rfl, hb⟩; refine ⟨_, rfl, ?_⟩; have n0_ := zF.mk (zH.below (by repeat (first | (with_reducible first | exact HI0.out | apply zH.alloc | apply zH.drewN | apply zH.drew | apply zH.set_0 | apply zH.set_1) | exact HI0.out)) hb); have n1_ := zF.mk (KBe.below (by repeat (first | (with_reducible first | exact HK.out | apply KBe.drewN | apply KBe.drew | apply KBe.alloc) | exact HK.out)) hb); have n2_ := zF.mk (below_step (by repeat (first | (with_reducible first | exact HB.out | apply zE | apply zB | apply zC | refine zD ?_ (zH.ge HI0.out)) | exact HB.out)) hb); clear HI0; clear HK; clear HB; have HI0 := n0_; have HK := n1_; have HB := n2_; clear n0_ n1_ n2_; (try clear hb); (try clear hb2); (try clear hk); (try clear hi)) | ((with_reducible refine gate_callee (f := 44) rfl ?_); refine goesL_ (some 12) rfl rfl Try.func44 (by kernel_rfl) rfl #[.int .i64 a1] rfl (by (try simp only [List.map_toArray, List.map_cons, List.map_nil]); first | done | rfl | (simp only [List.length_drop, List.length_take]; rfl)) ?_; (with_reducible refine (rice_Fold.calls a1 t102 _ A5.out).mono ?_); rintro e w' ⟨rfl, ⟨nd, rfl⟩⟩; refine ⟨_, rfl, ?_⟩) | ((with_reducible refine gate_callee (f := 47) rfl ?_); refine goesL_ (some 19) rfl rfl Try.func47 (by kernel_rfl) rfl #[.int .i64 a1] rfl (by (try simp only [List.map_toArray, List.map_cons, List.map_nil]); first | done | rfl | (simp only [List.length_drop, List.length_take]; rfl)) ?_; (with_reducible refine (rice_Near.calls a1 true _ A8.out).mono ?_); rintro e w' ⟨rfl, ⟨nd, rfl⟩⟩; refine ⟨_, rfl, ?_⟩))
          go_wp2
          go_step3
          go_step
          go_step
          refine hR_ k _ _ ?_
          repeat apply Exists.intro
          refine ⟨?_, rfl⟩
          exact ⟨(wrap64 (ji7)), (s0_0), (s0_1), (by first | rfl | (simp; done) | (simp only [← hji7] <;> (first | rfl | simp)) | (simp [*]; done)), H', ⟨Nat.le_refl _⟩, ⟨by repeat (first | (with_reducible first | exact HI0.out | apply zH.alloc | apply zH.drewN | apply zH.drew | apply zH.set_0 | apply zH.set_1) | exact HI0.out)⟩, ⟨by repeat (first | (with_reducible first | exact HK.out | apply KBe.drewN | apply KBe.drew | apply KBe.alloc) | exact HK.out)⟩, ⟨by repeat (first | (with_reducible first | exact HB.out | apply zE | apply zB | apply zC | refine zD ?_ (zH.ge HI0.out)) | exact HB.out)⟩⟩
      · replace c9 := Bool.eq_false_iff.mpr c9
        subst c9
        have H1 : (some (6, s0_0, s0_1)) = some (r1, r2, r3) := by rw [if_neg (show ¬ (false = true) by decide)] at H; exact H
        clear H
        have H := H1
        clear H1
        simp only [Option.some.injEq, Prod.mk.injEq] at H
        obtain ⟨rfl, rfl, rfl⟩ := H
        go_wp2_with (first | ((with_reducible refine gate_callee (f := 46) rfl ?_); refine goesL_ (some 10) rfl rfl Try.func46 (by kernel_rfl) rfl #[.int .i64 a2] rfl (by (try simp only [List.map_toArray, List.map_cons, List.map_nil]); first | done | rfl | (simp only [List.length_drop, List.length_take]; rfl)) ?_; (with_reducible refine (rice_held.calls a2 t101 _ A4.out).mono ?_); rintro e w22 ⟨rfl, hb⟩; refine ⟨_, rfl, ?_⟩; have n0_ := zF.mk (zH.below (by repeat (first | (with_reducible first | exact HI0.out | apply zH.alloc | apply zH.drewN | apply zH.drew | apply zH.set_0 | apply zH.set_1) | exact HI0.out)) hb); have n1_ := zF.mk (KBe.below (by repeat (first | (with_reducible first | exact HK.out | apply KBe.drewN | apply KBe.drew | apply KBe.alloc) | exact HK.out)) hb); have n2_ := zF.mk (below_step (by repeat (first | (with_reducible first | exact HB.out | apply zE | apply zB | apply zC | refine zD ?_ (zH.ge HI0.out)) | exact HB.out)) hb); clear HI0; clear HK; clear HB; have HI0 := n0_; have HK := n1_; have HB := n2_; clear n0_ n1_ n2_; (try clear hb); (try clear hb2); (try clear hk); (try clear hi)) | ((with_reducible refine gate_callee (f := 44) rfl ?_); refine goesL_ (some 12) rfl rfl Try.func44 (by kernel_rfl) rfl #[.int .i64 a1] rfl (by (try simp only [List.map_toArray, List.map_cons, List.map_nil]); first | done | rfl | (simp only [List.length_drop, List.length_take]; rfl)) ?_; (with_reducible refine (rice_Fold.calls a1 t102 _ A5.out).mono ?_); rintro e w' ⟨rfl, ⟨nd, rfl⟩⟩; refine ⟨_, rfl, ?_⟩) | ((with_reducible refine gate_callee (f := 47) rfl ?_); refine goesL_ (some 19) rfl rfl Try.func47 (by kernel_rfl) rfl #[.int .i64 a1] rfl (by (try simp only [List.map_toArray, List.map_cons, List.map_nil]); first | done | rfl | (simp only [List.length_drop, List.length_take]; rfl)) ?_; (with_reducible refine (rice_Near.calls a1 false _ A8.out).mono ?_); rintro e w' ⟨rfl, ⟨nd, rfl⟩⟩; refine ⟨_, rfl, ?_⟩))
        (try simp only [Exit.jump])
        go_ret
        exact ⟨by first | rfl | (simp [errW_none, errW_some] <;> rfl) | (simp only [← hji7]; first | rfl | (simp [errW_none, errW_some] <;> rfl)) | (simp [*, errW_none, errW_some] <;> rfl), by repeat (first | (with_reducible first | exact HI0.out | apply zH.alloc | apply zH.drewN | apply zH.drew | apply zH.set_0 | apply zH.set_1) | exact HI0.out), by repeat (first | (with_reducible first | exact HB.out | apply zE | apply zB | apply zC | refine zD ?_ (zH.ge HI0.out)) | exact HB.out), by repeat (first | (with_reducible first | exact HK.out | apply KBe.drewN | apply KBe.drew | apply KBe.alloc) | exact HK.out)⟩
    · rw [if_neg c6] at H
      exact absurd H (by simp)
end Go.Proofs.Ytokdjeoecnnckaa.PA
end
section
namespace Go.Proofs.Ytokdjeoecnnckaa.PL
open Go Go.RowKit Go.Proofs.Ytokdjeoecnnckaa.PA Go.Proofs.YtokdjeoecnnckaaW.PrintWords Go.Proofs.YtokdjeoecnnckaaW.PrintMore
set_option linter.unusedSimpArgs false
set_option linter.unusedVariables false
def putB (n : Int) (k : Nat) : List Bool := List.replicate (fold n / 2 ^ k).toNat false ++ (true :: digs (fold n) k)
theorem putB_len (n : Int) (k : Nat) : (putB n k).length = (fold n / 2 ^ k).toNat + 1 + k := by
  unfold putB; rw [List.length_append, List.length_replicate, List.length_cons, digs_len]; omega
theorem hw_zero_digs (z : Nat) (h : z ≤ 64) : digs 0 (hw (z : Int)) = List.replicate z false := by rw [hw_nat h, digs_zero]
theorem rput_l0 (u : Int) (k : Nat) (hk : k ≤ 30) : ∀ (z : Nat) (l : List Bool), l.length + z < 1099511627776 →
    Ev (fun q => rice_Put.l0 q (k : Int) u (z : Int) (WB l) (l.length : Int)) (0, WB (l ++ (List.replicate z false ++ (true :: digs u k))), ((l ++ (List.replicate z false ++ (true :: digs u k))).length : Int)) := by
  intro z
  induction z using Nat.strongRecOn with
  | _ z ih =>
  intro l hl
  have e64 : digs 0 (hw 64) = List.replicate 64 false := hw_zero_digs 64 (by decide)
  have e1 : digs 1 (hw 1) = [true] := by decide
  have ek : hw (k : Int) = k := hw_nat (by omega)
  have p1 := put_eq l 0 64 (by omega)
  rw [e64] at p1
  by_cases hz : z > 64
  · have c : (z : Int) > 64 := by omega
    have hi := ih (z - 64) (by omega) (l ++ List.replicate 64 false) (by rw [List.length_append, List.length_replicate]; omega)
    have e3 : l ++ List.replicate 64 false ++ (List.replicate (z - 64) false ++ (true :: digs u k)) = l ++ (List.replicate z false ++ (true :: digs u k)) := by
      rw [List.append_assoc, ← List.append_assoc (List.replicate 64 false), List.replicate_append_replicate, show 64 + (z - 64) = z by omega]
    rw [e3] at hi
    have e2 : wrap64 ((z : Int) - 64) = ((z - 64 : Nat) : Int) := by rw [w64 (by omega) (by omega)]; omega
    refine succ ?_
    simp only [rice_Put.l0]
    rw [p1, e2]
    exact pos c hi
  · have c : ¬ (z : Int) > 64 := by omega
    have p2 := put_eq l 0 (z : Int) (by omega)
    rw [hw_zero_digs z (by omega)] at p2
    have p3 := put_eq (l ++ List.replicate z false) 1 1 (by rw [List.length_append, List.length_replicate]; omega)
    rw [e1] at p3
    have p4 := put_eq (l ++ List.replicate z false ++ [true]) u (k : Int) (by rw [List.length_append, List.length_append, List.length_replicate, List.length_singleton]; omega)
    rw [ek] at p4
    have e3 : l ++ List.replicate z false ++ [true] ++ digs u k = l ++ (List.replicate z false ++ (true :: digs u k)) := by simp
    rw [e3] at p4
    refine succ ?_
    simp only [rice_Put.l0]
    refine neg c ?_
    rw [p2]
    simp only [Option.bind_some]
    rw [p3]
    simp only [Option.bind_some]
    rw [p4]
    exact now _
def rputR (l : List Bool) (n : Int) (k : Nat) : Int × List Bool :=
  if ¬ IsNear n then (6, l) else if fold n / 2 ^ k > 65535 then (7, l) else (0, l ++ putB n k)
theorem rput_ev (l : List Bool) (n k : Int) (hn : -9223372036854775808 ≤ n ∧ n < 9223372036854775808) (hl : l.length < 1099511000000) :
    Ev (fun q => rice_Put.f q (WB l) (l.length : Int) n k) ((rputR l n (kk k)).1, WB (rputR l n (kk k)).2, ((rputR l n (kk k)).2.length : Int)) := by
  have hk := kk_le k
  unfold rice_Put.f rice_held.f
  rw [kk_eq, fold_eq n hn, near_eq]
  simp only [Option.bind_some]
  refine pos (by omega) ?_
  by_cases h : IsNear n
  · have hf := fold_near h
    have hd := div_pow_bd (x := fold n) (s := kk k) hf.1
    rw [shr_u64 _ (by omega), w64 (by omega) (by omega)]
    refine pos (by simpa using h) ?_
    by_cases hz : fold n / 2 ^ kk k > 65535
    · have e : rputR l n (kk k) = (7, l) := by unfold rputR; rw [if_neg (by simpa using h), if_pos hz]
      rw [e]
      exact pos hz (now _)
    · have e : rputR l n (kk k) = (0, l ++ putB n (kk k)) := by unfold rputR; rw [if_neg (by simpa using h), if_neg hz]
      rw [e]
      refine neg hz ?_
      have := rput_l0 (fold n) (kk k) hk (fold n / 2 ^ kk k).toNat l (by omega)
      rw [Int.toNat_of_nonneg hd.1] at this
      exact this
  · have e : rputR l n (kk k) = (6, l) := by unfold rputR; rw [if_pos h]
    rw [e]
    exact neg (by simpa using h) (now _)
end Go.Proofs.Ytokdjeoecnnckaa.PL
end
section
namespace Go.Proofs.Ytokdjeoecnnckaa.PA
open Go Go.RowKit Go.Proofs.YtokdjeoecnnckaaW.PrintWords Go.Proofs.YtokdjeoecnnckaaW.PrintLast Go.Proofs.YtokdjeoecnnckaaW.PrintMore
attribute [local go_sem] max2_int min2_int max_two min_two max_three min_three max_four min_four Oper.semAt_some
set_option linter.unusedSimpArgs false
set_option linter.unusedVariables false
def szW (w : Bool) : Int := if w then 5 else 4
def riceAll (K : Int) (L : List Bool) (xs : List Int) : List Bool := xs.foldl (fun L n => (PL.rputR L n (PL.kk K)).2) L
def rawAll (K : Int) (L : List Bool) (xs : List Int) : List Bool := xs.foldl (fun L n => L ++ PL.digs (IntKind.u64.wrap n) (PL.hw K)) L
def putPart (w : Bool) (L : List Bool) (q : S50) (xs : List Int) : List Bool :=
  if q.f1 = true then rawAll q.f0 (L ++ PL.digs 31 (PL.hw (szW w)) ++ PL.digs (IntKind.u64.wrap q.f0) (PL.hw 5)) xs else riceAll q.f0 (L ++ PL.digs (IntKind.u64.wrap q.f0) (PL.hw (szW w))) xs
def putAll15 (w : Bool) (L : List Bool) (xs : List El) : List Bool := xs.foldl (fun L x => putPart w L x.1 x.2.2.2) L
def longEl (x : El) : Bool := !x.1.f1 && x.2.2.2.any (fun n => (section_long.f n x.1.f0).getD false)
theorem rput_len (L : List Bool) (n : Int) (k : Nat) (hk : k ≤ 30) : (PL.rputR L n k).2.length ≤ L.length + 65600 := by
  unfold PL.rputR
  split
  · simp
  · split
    · simp
    · rename_i h1 h2
      rw [List.length_append, PL.putB_len]
      have h3 := PL.fold_near (Decidable.not_not.1 h1)
      have h4 := PL.div_pow_bd (x := PL.fold n) (s := k) h3.1
      omega
theorem riceAll_len (K : Int) : ∀ (xs : List Int) (L : List Bool), (riceAll K L xs).length ≤ L.length + 65600 * xs.length
  | [], L => by simp [riceAll]
  | x :: xs, L => by
    have h1 := rput_len L x (PL.kk K) (PL.kk_le K)
    have h2 := riceAll_len K xs (PL.rputR L x (PL.kk K)).2
    have e : riceAll K L (x :: xs) = riceAll K (PL.rputR L x (PL.kk K)).2 xs := rfl
    rw [e, List.length_cons]
    omega
theorem rawAll_len (K : Int) : ∀ (xs : List Int) (L : List Bool), (rawAll K L xs).length ≤ L.length + 65600 * xs.length
  | [], L => by simp [rawAll]
  | x :: xs, L => by
    have h1 := PL.hw_le K
    have h2 := rawAll_len K xs (L ++ PL.digs (IntKind.u64.wrap x) (PL.hw K))
    rw [List.length_append, PL.digs_len] at h2
    have e : rawAll K L (x :: xs) = rawAll K (L ++ PL.digs (IntKind.u64.wrap x) (PL.hw K)) xs := rfl
    rw [e, List.length_cons]
    omega
theorem riceAll_snoc (K : Int) (L : List Bool) (xs : List Int) (x : Int) : riceAll K L (xs ++ [x]) = (PL.rputR (riceAll K L xs) x (PL.kk K)).2 := by simp [riceAll]
theorem rawAll_snoc (K : Int) (L : List Bool) (xs : List Int) (x : Int) : rawAll K L (xs ++ [x]) = rawAll K L xs ++ PL.digs (IntKind.u64.wrap x) (PL.hw K) := by simp [rawAll]
theorem putAll15_snoc (w : Bool) (L : List Bool) (xs : List El) (x : El) : putAll15 w L (xs ++ [x]) = putPart w (putAll15 w L xs) x.1 x.2.2.2 := by simp [putAll15]
theorem KC.of_KBe {w0 W W' : World} {g : Nat} {f0 : ByteArray} {f1 : Int} (h : KBe w0 W W' g) (hI : zH w0 W g f0 f1) : KC w0 W W' := by
  obtain ⟨cs0, hb0⟩ := hI.blk
  have hge := hI.ge
  refine ⟨h.1.1, fun i hi => h.1.2 i (by have := hI.lt; omega) (by omega) (.inl hi), fun i cs t f hb h5 h58 _ => ?_⟩
  refine (h.1.2 i (blk_lt hb) (fun e => ?_) (.inr fun cs' hc => ?_)).trans hb
  · subst e
    rw [hb0] at hb
    cases hb
    exact h58 rfl
  · rw [hb] at hc
    cases hc
    exact h5 rfl
theorem section_long_same (n k : Int) (w : World) (h : 0 ≤ k) : Calls Try.prog 24 #[.int .i64 n, .int .i64 k] w fun e w' => e = .returned (.bool ((section_long.f n k).getD false)) ∧ Drawn0 w w' := by
  have hs : ∃ b, section_long.f n k = some b := by
    unfold section_long.f rice_Fold.f
    simp only [Option.bind_some]
    rw [if_pos h]
    exact ⟨_, rfl⟩
  obtain ⟨b, hb⟩ := hs
  rw [hb]
  exact section_long.calls n k b w hb
theorem zH.setOther {w0 W : World} {g B : Nat} {f0 : ByteArray} {f1 : Int} {cs : Array Value} {t : TypeId} {fr : Nat × Nat} (h : zH w0 W g f0 f1) (hb : W.heap[B]? = some (.cells cs t fr)) (ht : t ≠ 5 ∧ t ≠ 58) (j : Nat) (v : Value) : zH w0 (W.setCell ⟨B, j, none⟩ v) g f0 f1 :=
  zH.far h (by
    refine ⟨fun e => ?_, fun r cs' hr e => ?_⟩
    · obtain ⟨cs', hb'⟩ := h.blk
      cases e
      rw [hb'] at hb
      cases hb
      exact ht.2 rfl
    · cases e
      rw [hr] at hb
      cases hb
      exact ht.1 rfl) v
theorem KBe.setNew {w0 w W : World} {g B : Nat} (h : KBe w0 w W g) (hB : w.heap.size ≤ B) (j : Nat) (v : Value) : KBe w0 w (W.setCell ⟨B, j, none⟩ v) g := by
  obtain ⟨⟨h1, h2⟩, h3, h4, h5⟩ := h
  have e : ∀ i, i ≠ B → (W.setCell ⟨B, j, none⟩ v).heap[i]? = W.heap[i]? := fun i hi => Below.heap_setCell W ⟨B, j, none⟩ v i hi
  exact ⟨⟨by simpa [World.setCell] using h1, fun i hi hg ho => (e i (by omega)).trans (h2 i hi hg ho)⟩, fun i hi hg hr => (e i (by omega)).trans (h3 i hi hg hr), fun b hb => h4 b (by rw [← rowAt_eq (e g (by omega))]; exact hb), h5⟩
theorem KBe.grown {w0 w X Y : World} {g : Nat} {row : Option Nat} (h : KBe w0 w X g) (hg : X.grownBy Y row) (hr : ∀ r, row = some r → w.heap.size ≤ r) : KBe w0 w Y g := by
  obtain ⟨⟨h1, h2⟩, h3, h4, h5⟩ := h
  have e : ∀ i, i < w.heap.size → Y.heap[i]? = X.heap[i]? := fun i hi => hg.block i (Nat.lt_of_lt_of_le hi h1) (fun e => by have := hr i e.symm; omega)
  exact ⟨⟨Nat.le_trans h1 hg.size, fun i hi hg' ho => (e i hi).trans (h2 i hi hg' ho)⟩, fun i hi hg' hr' => (e i hi).trans (h3 i hi hg' hr'), fun b hb => h4 b (by rw [← rowAt_eq (e g h5)]; exact hb), h5⟩
theorem zH.grownObj {w0 X Y : World} {g : Nat} {f0 : ByteArray} {f1 : Int} {row : Option Nat} (h : zH w0 X g f0 f1) (hg : X.grownBy Y row) (hr : ∀ r, row = some r → ∃ o : Obj, X.heap[r]? = some o ∧ o.isCells = false) : zH w0 Y g f0 f1 :=
  zH.grown h hg (by
    refine ⟨fun e => ?_, fun r cs' hb e => ?_⟩
    · obtain ⟨cs', hb'⟩ := h.blk
      obtain ⟨o, ho, hc⟩ := hr g e.symm
      rw [hb'] at ho
      cases ho
      cases hc
    · obtain ⟨o, ho, hc⟩ := hr r e.symm
      rw [hb] at ho
      cases ho
      cases hc)
theorem rows15_good (w0 w : World) : ∀ (cuts : List Int) (A : Option Addr) (c : Nat) (l : List Int) (ps : List S50), SFits cuts l.length → l.length ≤ c → (∀ W', KC w0 w W' → Kd.C (Kd.int .i64) W' A l.length l) →
    ∀ x ∈ rows15 cuts A c l ps, (∀ W', KC w0 w W' → Kd.C (Kd.int .i64) W' x.2.1 x.2.2.2.length x.2.2.2) ∧ x.2.2.2.length ≤ x.2.2.1 ∧ x.2.2.2.length ≤ l.length ∧ x.1 ∈ ps
  | [], A, c, l, ps, _, _, _, x, hx => by simp [rows15] at hx
  | _ :: _, A, c, l, [], _, _, _, x, hx => by simp [rows15] at hx
  | n :: cs, A, c, l, p :: ps, hf, hc, hC, x, hx => by
    obtain ⟨h0, h1, h2⟩ := hf
    obtain ⟨m, rfl⟩ : ∃ m : Nat, n = (m : Int) := ⟨n.toNat, by omega⟩
    simp only [rows15, Int.toNat_natCast, List.mem_cons] at hx h2
    have hml : m ≤ l.length := by omega
    rcases hx with rfl | hx
    · refine ⟨fun W' hk => Kd.C_take (hC W' hk) hml, ?_, ?_, List.mem_cons_self⟩
      · simp only [List.length_take]; omega
      · simp only [List.length_take]; omega
    · have hlen : (l.drop m).length = l.length - m := by rw [List.length_drop]
      have ih := rows15_good w0 w cs (if m = c then A else A.map (·.add m)) (if m = c then 0 else c - m) (l.drop m) ps (by rw [hlen]; exact h2) (by split <;> omega) (fun W' hk => by
        have hd := Kd.C_drop (c := c) (hC W' hk) hml hc
        by_cases hmc : m = c
        · rw [if_pos hmc.symm] at hd; rw [if_pos hmc]; exact hd
        · rw [if_neg (Ne.symm hmc)] at hd; rw [if_neg hmc]; simpa [show (Kd.int IntKind.i64).sz = 1 from rfl] using hd) x hx
      exact ⟨ih.1, ih.2.1, by have := ih.2.2.1; omega, List.mem_cons_of_mem _ ih.2.2.2⟩
theorem kept_cells {X Y : World} {row : Option Nat} {b : Nat} {cs : Array Value} {t : TypeId} {f : Nat × Nat} (h : X.heap[b]? = some (.cells cs t f)) (hg : X.grownBy Y row) (hr : ∀ r, row = some r → ∃ o : Obj, X.heap[r]? = some o ∧ o.isCells = false) : Y.heap[b]? = some (.cells cs t f) :=
  (hg.block b (Array.getElem?_eq_some_iff.1 h).1 (fun e => by obtain ⟨o, ho, hc⟩ := hr b e.symm; rw [h] at ho; cases ho; cases hc)).trans h
def I15 (w0 w : World) (g : Nat) (wd : Bool) (o : Int) (A3 : Option Addr) (n3 c3 : Nat) (f0 : ByteArray) (f1 : Int) (v : Int) (W : World) : Prop :=
  KC w0 w W ∧ zH w0 W g f0 f1 ∧ KBe w0 w W g ∧ W.heap[w.heap.size]? = some (.cells #[.pointer (some ⟨g, 0, none⟩)] 29 (0, 0)) ∧ W.heap[w.heap.size + 1]? = some (.cells #[.bool wd, .int .i64 o, .slice A3 n3 c3] 25 (0, 0)) ∧ Boxed W (w.heap.size + 1 + 1) 31 (.int .i64 v) ∧ Below w0.heap.size w0 W
theorem I15.grown {w0 w X Y : World} {g : Nat} {wd : Bool} {o : Int} {A3 : Option Addr} {n3 c3 : Nat} {f0 : ByteArray} {f1 v : Int} {row : Option Nat} (h : I15 w0 w g wd o A3 n3 c3 f0 f1 v X) (hs : w0.heap.size ≤ w.heap.size) (hg : X.grownBy Y row) (hr : ∀ r, row = some r → w.heap.size ≤ r ∧ ∃ o : Obj, X.heap[r]? = some o ∧ o.isCells = false) : I15 w0 w g wd o A3 n3 c3 f0 f1 v Y := by
  obtain ⟨h1, h2, h3, h4, h5, h6, h7⟩ := h
  have hr2 := fun r e => (hr r e).2
  refine ⟨h1.trans ⟨hg.size, fun i hi => hg.block i (by have := h1.1; omega) (fun e => by have := (hr i e.symm).1; omega), fun i cs t f hb _ _ _ => kept_cells hb hg hr2⟩, h2.grownObj hg hr2, h3.grown hg (fun r e => (hr r e).1), kept_cells h4 hg hr2, kept_cells h5 hg hr2, kept_cells h6 hg hr2, ?_⟩
  exact ⟨hg.os.trans h7.os, hg.tape.trans h7.tape, hg.output.trans h7.output, Nat.le_trans h7.size hg.size, fun i hi => (hg.block i (by have := h7.size; omega) (fun e => by have := (hr i e.symm).1; omega)).trans (h7.block i hi)⟩
theorem I15.turn {w0 w X Y : World} {g B : Nat} {wd : Bool} {o : Int} {A3 : Option Addr} {n3 c3 : Nat} {f0 : ByteArray} {f1 v : Int} (h : I15 w0 w g wd o A3 n3 c3 f0 f1 v X) (hs : w0.heap.size ≤ w.heap.size) (hB : w.heap.size + 3 ≤ B) (ht : Turn15 B X Y) : I15 w0 w g wd o A3 n3 c3 f0 f1 v Y := by
  obtain ⟨h1, h2, h3, h4, h5, h6, h7⟩ := h
  obtain ⟨u, u', hb, rfl⟩ := ht
  exact ⟨h1.trans (KC.set hb rfl (by omega) 0 u), h2.setOther hb (by decide) 0 u, h3.setNew (by omega) 0 u, zO h4 (by show w.heap.size ≠ B; omega) u, zO h5 (by show w.heap.size + 1 ≠ B; omega) u, zO h6 (by show w.heap.size + 1 + 1 ≠ B; omega) u, h7.setCell (p := ⟨B, 0, none⟩) (by show w0.heap.size ≤ B; omega) u⟩
theorem I15.below {w0 w X Y : World} {g : Nat} {wd : Bool} {o : Int} {A3 : Option Addr} {n3 c3 : Nat} {f0 : ByteArray} {f1 v : Int} (h : I15 w0 w g wd o A3 n3 c3 f0 f1 v X) (hs : w0.heap.size ≤ w.heap.size) (hb : Below X.heap.size X Y) : I15 w0 w g wd o A3 n3 c3 f0 f1 v Y :=
  h.grown hs (grown_of_below hb none) (fun r e => by cases e)
end Go.Proofs.Ytokdjeoecnnckaa.PA
end
section
namespace Go.Proofs.Ytokdjeoecnnckaa
open Go Go.RowKit Go.Proofs.YtokdjeoecnnckaaW.PrintWords Go.Proofs.YtokdjeoecnnckaaW.PrintLast
theorem rowsIn_wide' {n : Nat} {P : Program} {row : String} {args : Array Value} {w : World} {R : Value → World → Prop} (h : Rows P row args w R) : RowsIn Fence.wide n P row args w R :=
  fun c cs _ => let ⟨v, w', r, s⟩ := h c cs; ⟨v, w', r, stepsIn_wide.2 s⟩
theorem wpOpIn_of_wpOp {n : Nat} {P : Program} {ops : Array Oper} {Q : Exit → Act → World → Prop} {i : Nat} {K : Act → World → Prop} {a : Act} {w : World} (hQ : ¬ LetsOut Q) (h : wpOp P ops Q i K a w) : wpOpIn Fence.wide n P ops Q i K a w := by
  unfold wpOp at h
  unfold wpOpIn
  cases ho : ops[i]? with
  | none => simp only [ho] at h ⊢; exact h
  | some o =>
    simp only [ho] at h ⊢
    by_cases hw : Region.wanted o (yielded ops a.tmps) = true
    · rw [if_pos hw] at h ⊢
      have h := h.resolve_right (fun e => hQ e.2)
      refine ⟨fun _ _ => trivial, ?_⟩
      unfold Oper.wp at h
      rw [show Oper.semAt Fence.wide.round a.eval o = execOp a.eval o from rfl]
      generalize (execOp a.eval o).run P w = r at *
      cases r with
      | ok x w' =>
        cases x <;> simp only [Oper.upon, Oper.uponIn] at h ⊢ <;>
          first
            | exact h
            | exact ⟨by simp [Fence.wide], callsIn_wide.2 h⟩
            | exact ⟨by simp [Fence.wide], rowsIn_wide' h⟩
      | halt x w' => cases x <;> simp only [Oper.upon, Oper.uponIn] at h ⊢ <;> exact h
    · rw [if_neg hw] at h ⊢
      exact ⟨fun _ _ => trivial, h⟩
theorem wpAnyIn_of_wpAny {n : Nat} {P : Program} {md : Region.Mode} {ops : Array Oper} {Q : Exit → Act → World → Prop} (hQ : ¬ LetsOut Q) : ∀ (fuel : Nat) (listed : Array Bool) (a : Act) (w : World), wpAny P md ops Q fuel listed a w → wpAnyIn Fence.wide n P md ops Q fuel listed a w
  | 0, _, _, _, h => h
  | fuel + 1, _, _, _, h => ⟨h.1, fun i hi => wpOpIn_of_wpOp hQ (wpOp_mono (fun a' w' h' => wpAnyIn_of_wpAny hQ fuel _ a' w' h') (h.2 i hi))⟩
theorem startR_ {P : Program} {ops : Array Oper} {Q : Exit → Act → World → Prop} {S : World → Prop} {ds : List Nat} {id n m lp : Nat} {a : Act} {w : World} (l : Array Bool) (hm : P.follows .mixedOrders = true) (hd : noDefer ops = true) (hQ : ¬ LetsOut Q) (hn : ops.size = n) (hl : Array.replicate n false = l) (hS : S w.drew)
    (h : S w.drew → wpAnyLast P .any ops Q S ds n l a w.drew) : (Code.region id ops true).wpIn (Fence.wide.inRound lp) m P Q a w := by
  subst hn
  subst hl
  refine wpIn_region_any hm ?_
  exact wpAnyIn_in lp rfl hd _ _ _ _ (wpAnyIn_of_wpAny hQ _ _ _ _ (wpAny_of_last _ _ _ _ (h hS)))
end Go.Proofs.Ytokdjeoecnnckaa
end
section
namespace Go.Proofs.Ytokdjeoecnnckaa.PA
open Go Go.RowKit Go.Proofs.YtokdjeoecnnckaaW.PrintWords Go.Proofs.YtokdjeoecnnckaaW.PrintLast Go.Proofs.YtokdjeoecnnckaaW.PrintMore
attribute [local go_sem] max2_int min2_int max_two min_two max_three min_three max_four min_four Oper.semAt_some
set_option linter.unusedSimpArgs false
set_option linter.unusedVariables false
theorem KC.setNew {w0 w W : World} {B : Nat} (h : KC w0 w W) (hs : w0.heap.size ≤ w.heap.size) (hB : w.heap.size ≤ B) (j : Nat) (v : Value) : KC w0 w (W.setCell ⟨B, j, none⟩ v) := by
  have e : ∀ i, i ≠ B → (W.setCell ⟨B, j, none⟩ v).heap[i]? = W.heap[i]? := fun i hi => Below.heap_setCell W ⟨B, j, none⟩ v i hi
  exact ⟨by simpa [World.setCell] using h.1, fun i hi => (e i (by omega)).trans (h.2.1 i hi), fun i cs t f hb a b c => (e i (by have := blk_lt hb; omega)).trans (h.2.2 i cs t f hb a b c)⟩
theorem I15.told {w0 w X : World} {g : Nat} {wd : Bool} {o : Int} {A3 : Option Addr} {n3 c3 : Nat} {f0 : ByteArray} {f1 v : Int} (h : I15 w0 w g wd o A3 n3 c3 f0 f1 v X) (hs : w0.heap.size ≤ w.heap.size) (u : Int) : I15 w0 w g wd o A3 n3 c3 f0 f1 u (X.setCell ⟨w.heap.size + 1 + 1, 0, none⟩ (.int .i64 u)) := by
  obtain ⟨h1, h2, h3, h4, h5, h6, h7⟩ := h
  exact ⟨h1.setNew hs (by omega) 0 _, h2.setOther h6 (by decide) 0 _, h3.setNew (by omega) 0 _, zO h4 (by show w.heap.size ≠ _; simp; omega) _, zO h5 (by show w.heap.size + 1 ≠ _; simp) _, blk_set h6 0 _, h7.setCell (p := ⟨w.heap.size + 1 + 1, 0, none⟩) (by show w0.heap.size ≤ _; simp; omega) _⟩
theorem KeepsFrom.drewN (B : Nat) (Z : World) (d : Nat) : KeepsFrom B Z (Z.drewN d) := ⟨Nat.le_refl _, fun _ _ _ h _ => h⟩
theorem Kp15.drewN (w0 : World) (B : Nat) (Z : World) (d : Nat) : Kp15 w0 B Z (Z.drewN d) := ⟨⟨Nat.le_refl _, fun _ _ => rfl, fun _ _ _ _ h _ _ _ => h⟩, fun _ _ _ h => h⟩
theorem longEl_false {q : S50} {A : Option Addr} {c : Nat} {xs : List Int} (h : ∀ j : Nat, j < xs.length → (!q.f1 && (section_long.f (rd xs (j : Int)) q.f0).getD false) = false) : longEl (q, A, c, xs) = false := by
  unfold longEl
  cases hq : q.f1 with
  | true => rfl
  | false =>
    simp only [Bool.not_false, Bool.true_and]
    rw [List.any_eq_false]
    intro x hx
    obtain ⟨j, hj, rfl⟩ := List.getElem_of_mem hx
    have h2 := h j hj
    rw [hq] at h2
    unfold rd at h2
    simp only [Bool.not_false, Bool.true_and, Int.toNat_natCast, List.getD_eq_getElem?_getD, List.getElem?_eq_getElem hj, Option.getD_some] at h2
    simp [h2]
theorem longEl_at {q : S50} {A : Option Addr} {c : Nat} {xs : List Int} (h : longEl (q, A, c, xs) = false) (hq : q.f1 = false) {i : Nat} (hi : i < xs.length) : (section_long.f (rd xs (i : Int)) q.f0).getD false = false := by
  unfold longEl at h
  simp only [hq, Bool.not_false, Bool.true_and, List.any_eq_false] at h
  have h2 := h _ (List.getElem_mem hi)
  unfold rd
  simp only [Int.toNat_natCast, List.getD_eq_getElem?_getD, List.getElem?_eq_getElem hi, Option.getD_some]
  simpa using h2
theorem KBe.same {w0 Z V : World} {g : Nat} {f0 : ByteArray} {f1 : Int} (h : KBe w0 Z V g) (hI : zH w0 Z g f0 f1) {i : Nat} {o : Obj} (hi : Z.heap[i]? = some o) (ho : ∀ cs f, o ≠ .cells cs 5 f ∧ o ≠ .cells cs 58 f) : V.heap[i]? = some o := by
  obtain ⟨cs0, hb0⟩ := hI.blk
  refine (h.1.2 i (Array.getElem?_eq_some_iff.1 hi).1 (fun e => ?_) (.inr fun cs' hc => ?_)).trans hi
  · subst e
    rw [hb0] at hi
    cases hi
    exact (ho _ _).2 rfl
  · rw [hi] at hc
    cases hc
    exact (ho _ _).1 rfl
theorem KeepsFrom.of_KBe {w0 Z V : World} {g : Nat} {f0 : ByteArray} {f1 : Int} (h : KBe w0 Z V g) (hI : zH w0 Z g f0 f1) (B : Nat) : KeepsFrom B Z V :=
  ⟨h.1.1, fun i o _ hi ho => h.same hI hi (fun cs f => ⟨fun e => (by rw [e] at ho; cases ho), fun e => (by rw [e] at ho; cases ho)⟩)⟩
def J15 (w0 w : World) (g : Nat) (wd : Bool) (o : Int) (A3 : Option Addr) (n3 c3 : Nat) (L : List Bool) (B D : Nat) (W : World) : Prop :=
  I15 w0 w g wd o A3 n3 c3 (PL.WB L) (L.length : Int) 0 W ∧ (∃ u, W.heap[B]? = some (.cells #[u] 22 (0, 0))) ∧ W.heap[D]? = some (.deferred (some []))
theorem J15.grown {w0 w X Y : World} {g : Nat} {wd : Bool} {o : Int} {A3 : Option Addr} {n3 c3 : Nat} {L : List Bool} {B D S : Nat} {row : Option Nat} (h : J15 w0 w g wd o A3 n3 c3 L B D X) (hs : w0.heap.size ≤ w.heap.size) (hS : w.heap.size ≤ S) (hD : D < S) (hg : X.grownBy Y row) (hr : ∀ r, row = some r → S ≤ r ∧ ∃ o : Obj, X.heap[r]? = some o ∧ o.isCells = false) : J15 w0 w g wd o A3 n3 c3 L B D Y := by
  obtain ⟨h1, ⟨u, h2⟩, h3⟩ := h
  exact ⟨h1.grown hs hg (fun r e => ⟨by have := (hr r e).1; omega, (hr r e).2⟩), ⟨u, kept_cells h2 hg (fun r e => (hr r e).2)⟩, (hg.block _ (Array.getElem?_eq_some_iff.1 h3).1 (fun e => by have := (hr _ e.symm).1; omega)).trans h3⟩
theorem J15.below {w0 w X Y : World} {g : Nat} {wd : Bool} {o : Int} {A3 : Option Addr} {n3 c3 : Nat} {L : List Bool} {B D : Nat} (h : J15 w0 w g wd o A3 n3 c3 L B D X) (hs : w0.heap.size ≤ w.heap.size) (hb : Below X.heap.size X Y) : J15 w0 w g wd o A3 n3 c3 L B D Y := by
  obtain ⟨h1, ⟨u, h2⟩, h3⟩ := h
  exact ⟨h1.below hs hb, ⟨u, blk_below h2 hb⟩, (hb.block _ (Array.getElem?_eq_some_iff.1 h3).1).trans h3⟩
theorem J15.turn {w0 w X Y : World} {g : Nat} {wd : Bool} {o : Int} {A3 : Option Addr} {n3 c3 : Nat} {L : List Bool} {B D : Nat} (h : J15 w0 w g wd o A3 n3 c3 L B D X) (hs : w0.heap.size ≤ w.heap.size) (hB : w.heap.size + 3 ≤ B) (ht : Turn15 B X Y) : J15 w0 w g wd o A3 n3 c3 L B D Y := by
  obtain ⟨h1, ⟨u, h2⟩, h3⟩ := h
  refine ⟨h1.turn hs hB ht, ?_⟩
  obtain ⟨v, u', hb, rfl⟩ := ht
  refine ⟨⟨v, by simpa using blk_set hb 0 v⟩, ?_⟩
  rw [Below.heap_setCell X ⟨B, 0, none⟩ v D (by rintro rfl; rw [h3] at hb; cases hb)]
  exact h3
theorem I15.put {w0 w X Y : World} {g : Nat} {wd : Bool} {o : Int} {A3 : Option Addr} {n3 c3 : Nat} {f0 e0 : ByteArray} {f1 e1 v : Int} (h : I15 w0 w g wd o A3 n3 c3 f0 f1 v X) (hI : zH w0 Y g e0 e1) (hb : Below w0.heap.size w0 Y) (hk : KBe w0 X Y g) : I15 w0 w g wd o A3 n3 c3 e0 e1 v Y := by
  obtain ⟨h1, h2, h3, h4, h5, h6, h7⟩ := h
  exact ⟨h1.trans (KC.of_KBe hk h2), hI, h3.trans hk, hk.same h2 h4 (by simp), hk.same h2 h5 (by simp), hk.same h2 h6 (by simp), hb⟩
theorem J15.put {w0 w X Y : World} {g : Nat} {wd : Bool} {o : Int} {A3 : Option Addr} {n3 c3 : Nat} {L L' : List Bool} {B D : Nat} (h : J15 w0 w g wd o A3 n3 c3 L B D X) (hI : zH w0 Y g (PL.WB L') (L'.length : Int)) (hb : Below w0.heap.size w0 Y) (hk : KBe w0 X Y g) : J15 w0 w g wd o A3 n3 c3 L' B D Y := by
  obtain ⟨⟨h1, h2, h3, h4, h5, h6, h7⟩, ⟨u, h8⟩, h9⟩ := h
  have hc := KC.of_KBe hk h2
  exact ⟨⟨h1.trans hc, hI, h3.trans hk, hk.same h2 h4 (by simp), hk.same h2 h5 (by simp), hk.same h2 h6 (by simp), hb⟩, ⟨u, hk.same h2 h8 (by simp)⟩, hk.same h2 h9 (by simp)⟩
theorem Kp15.of_KBe {w0 w X Y : World} {g : Nat} {wd : Bool} {o : Int} {A3 : Option Addr} {n3 c3 : Nat} {L : List Bool} {B D : Nat} (h : J15 w0 w g wd o A3 n3 c3 L B D X) (hk : KBe w0 X Y g) : Kp15 w0 B X Y := by
  obtain ⟨⟨h1, h2, h3, h4, h5, h6, h7⟩, ⟨u, h8⟩, h9⟩ := h
  refine ⟨KC.of_KBe hk h2, fun cs t f e => hk.same h2 e (fun cs' f' => ⟨fun e' => ?_, fun e' => ?_⟩)⟩ <;>
  · rw [e'] at e
    rw [h8] at e
    cases e
theorem putPart_len (w : Bool) (L : List Bool) (q : S50) (xs : List Int) : (putPart w L q xs).length ≤ L.length + (200 + 65600 * xs.length) := by
  have hs : PL.hw (szW w) ≤ 64 := PL.hw_le _
  have h5 : PL.hw 5 ≤ 64 := PL.hw_le _
  unfold putPart
  split
  · have := rawAll_len q.f0 xs (L ++ PL.digs 31 (PL.hw (szW w)) ++ PL.digs (IntKind.u64.wrap q.f0) (PL.hw 5))
    simp only [List.length_append, PL.digs_len] at this
    omega
  · have := riceAll_len q.f0 xs (L ++ PL.digs (IntKind.u64.wrap q.f0) (PL.hw (szW w)))
    simp only [List.length_append, PL.digs_len] at this
    omega
theorem putAll15_len (w : Bool) (n : Nat) : ∀ (xs : List El) (L : List Bool), (∀ x ∈ xs, x.2.2.2.length ≤ n) → (putAll15 w L xs).length ≤ L.length + xs.length * (200 + 65600 * n)
  | [], L, _ => by simp [putAll15]
  | x :: xs, L, h => by
    have h1 := putPart_len w L x.1 x.2.2.2
    have h2 := putAll15_len w n xs (putPart w L x.1 x.2.2.2) (fun y hy => h y (List.mem_cons_of_mem _ hy))
    have h3 := h x List.mem_cons_self
    have e : putAll15 w L (x :: xs) = putAll15 w (putPart w L x.1 x.2.2.2) xs := rfl
    rw [e, List.length_cons, Nat.add_mul, Nat.one_mul]
    have h4 : 65600 * x.2.2.2.length ≤ 65600 * n := Nat.mul_le_mul_left _ h3
    omega
theorem rows15_len : ∀ (cuts : List Int) (A : Option Addr) (c : Nat) (l : List Int) (ps : List S50), (rows15 cuts A c l ps).length ≤ cuts.length
  | [], A, c, l, ps => by simp [rows15]
  | _ :: _, A, c, l, [] => by simp [rows15]
  | n :: cs, A, c, l, p :: ps => by
    have := rows15_len cs (if n.toNat = c then A else A.map (·.add n.toNat)) (if n.toNat = c then 0 else c - n.toNat) (l.drop n.toNat) ps
    simp only [rows15, List.length_cons]
    omega
theorem rows15_sub : ∀ (cuts : List Int) (A : Option Addr) (c : Nat) (l : List Int) (ps : List S50), ∀ x ∈ rows15 cuts A c l ps, ∀ y ∈ x.2.2.2, y ∈ l
  | [], A, c, l, ps, x, hx => by simp [rows15] at hx
  | _ :: _, A, c, l, [], x, hx => by simp [rows15] at hx
  | n :: cs, A, c, l, p :: ps, x, hx => by
    simp only [rows15, List.mem_cons] at hx
    rcases hx with rfl | hx
    · exact fun y hy => List.mem_of_mem_take hy
    · exact fun y hy => List.mem_of_mem_drop (rows15_sub cs _ _ _ ps x hx y hy)
def headB (L : List Bool) (wd : Bool) (o : Int) : List Bool := (L ++ PL.digs (if wd then 1 else 0) (PL.hw 2)) ++ PL.digs (IntKind.u64.wrap o) (PL.hw 4)
theorem put_room (wd : Bool) (o : Int) (cuts : List Int) (A : Option Addr) (c : Nat) (l : List Int) (ps : List S50) (L : List Bool) (pre : List El) (x : El) (hfull : pre ++ [x] <+: rows15 cuts A c l ps) (hlen : ∀ y ∈ rows15 cuts A c l ps, y.2.2.2.length ≤ l.length) (hroom : L.length + 200 + cuts.length * (200 + 65600 * l.length) < 1000000000000) :
    (putAll15 wd (headB L wd o) pre).length + (200 + 65600 * x.2.2.2.length) < 1000000000000 := by
  have h1 := putAll15_len wd l.length pre (headB L wd o) (fun y hy => hlen y (hfull.subset (List.mem_append_left _ hy)))
  have h2 : (headB L wd o).length ≤ L.length + 128 := by
    have a1 := PL.hw_le 2
    have a2 := PL.hw_le 4
    unfold headB
    simp only [List.length_append, PL.digs_len]
    omega
  have h3 := hfull.length_le
  have h4 := rows15_len cuts A c l ps
  rw [List.length_append, List.length_singleton] at h3
  have h5 : (pre.length + 1) * (200 + 65600 * l.length) ≤ cuts.length * (200 + 65600 * l.length) := Nat.mul_le_mul_right _ (by omega)
  have h6 := hlen x (hfull.subset (by simp))
  rw [Nat.add_mul, Nat.one_mul] at h5
  have h7 : 65600 * x.2.2.2.length ≤ 65600 * l.length := Nat.mul_le_mul_left _ h6
  omega
set_option maxRecDepth 100000 in
set_option maxHeartbeats 8000000 in
theorem sec_Put_arg (k : Nat) (g : Nat) (s0_0 : ByteArray) (s0_1 : Int) (A : Option Addr) (c : Nat) (l : List Int) (order : Int) (wd : Bool) (o : Int) (A3 : Option Addr) (c3 : Nat) (ps : List S50) (r : Int) (w0 w : World) (hI : zH w0 w g s0_0 s0_1) (hB : Below w0.heap.size w0 w)
    (hC1 : ∀ W', KC w0 w W' → Kd.C (Kd.int .i64) W' A l.length l) (hc1 : l.length ≤ c) (hC3 : ∀ W', KC w0 w W' → Kd.C k50 W' A3 ps.length ps) (hc3 : ps.length ≤ c3) (hbits : parts_Bits.f k l order wd o ps = some r) (hneg : r < 0) :
    Calls Try.prog 9 #[.pointer (some ⟨g, 0, none⟩), .slice A l.length c, .int .i64 order, .agg #[.bool wd, .int .i64 o, .slice A3 ps.length c3]] w fun e w' => e = .returned (.int .i64 1) ∧ zH w0 w' g s0_0 s0_1 ∧ Below w0.heap.size w0 w' ∧ KBe w0 w w' g := by
  have hu25 := Try.underlying25
  have hu50 := Try.underlying50
  have hsz : w0.heap.size ≤ w.heap.size := hB.size
  have hd : decide (r < 0) = true := decide_eq_true hneg
  have HI := zF.mk hI
  have HB := zF.mk hB
  have HC1 := zF.mk hC1
  have HC3 := zF.mk hC3
  have Hc1 := zF.mk hc1
  have Hc3 := zF.mk hc3
  have HBT := zF.mk hbits
  clear hI hB hC1 hC3 hc1 hc3 hbits hneg
  refine (callsIn_wide (n := 6)).1 ?_
  refine callsIn_of_wp_marks Try.func9 rfl trivial ?_ rfl
  simp only [Try.ntmps9, List.size_toArray, List.length_cons, List.length_nil, Nat.reduceAdd, Nat.reduceSub, Array.replicate_succ, Array.replicate_zero, List.push_toArray, List.append_toArray, List.nil_append, List.cons_append]
  obtain ⟨W0, hW0⟩ : ∃ W0, ((w.alloc (.cells #[.pointer (some ⟨g, 0, none⟩)] 29)).alloc (.cells #[.bool wd, .int .i64 o, .slice A3 ps.length c3] 25)).alloc (.cells #[.int .i64 0] 31) = W0 := ⟨_, rfl⟩
  have b4 : W0.heap[w.heap.size]? = some (.cells #[.pointer (some ⟨g, 0, none⟩)] 29 (0, 0)) := by rw [← hW0]; exact zJ (zJ (World.alloc_heap_new w _) _) _
  have b7 : W0.heap[w.heap.size + 1]? = some (.cells #[.bool wd, .int .i64 o, .slice A3 ps.length c3] 25 (0, 0)) := by
    have h := World.alloc_heap_new (w.alloc (.cells #[.pointer (some ⟨g, 0, none⟩)] 29)) (.cells #[.bool wd, .int .i64 o, .slice A3 ps.length c3] 25)
    rw [World.size_alloc] at h
    rw [← hW0]; exact zJ h _
  have b8 : Boxed W0 (w.heap.size + 1 + 1) 31 (.int .i64 0) := by
    have h := Boxed.new ((w.alloc (.cells #[.pointer (some ⟨g, 0, none⟩)] 29)).alloc (.cells #[.bool wd, .int .i64 o, .slice A3 ps.length c3] 25)) 31 (.int .i64 0)
    rw [World.size_alloc, World.size_alloc] at h
    rw [← hW0]; exact h
  have hBw : Below w.heap.size w W0 := by rw [← hW0]; exact (((Below.refl _ w).alloc (Nat.le_refl _) _).alloc (by simp) _).alloc (by simp; omega) _
  have hs0 : W0.heap.size = w.heap.size + 3 := by rw [← hW0]; simp
  have hz4 : W0.cell? ⟨w.heap.size, 0, none⟩ = some (.pointer (some ⟨g, 0, none⟩)) := (zM b4 0).trans rfl
  have hz70 : W0.cell? ⟨w.heap.size + 1, 0, none⟩ = some (.bool wd) := (zM b7 0).trans rfl
  have hz71 : W0.cell? ⟨w.heap.size + 1, 1, none⟩ = some (.int .i64 o) := (zM b7 1).trans rfl
  have hz72 : W0.cell? ⟨w.heap.size + 1, 2, none⟩ = some (.slice A3 ps.length c3) := (zM b7 2).trans rfl
  have K0 := zF.mk (KC.of_below hsz hBw)
  have I0 := zF.mk (zH.below HI.out hBw)
  have E0 := zF.mk (KBe.below (KBe.refl w0 HI.out) hBw)
  have B0 := zF.mk (below_step HB.out hBw)
  have X4 := zF.mk b4
  have X7 := zF.mk b7
  have X8 := zF.mk b8
  have S0 := zF.mk hs0
  have BW := zF.mk hBw
  clear b4 b7 b8 hBw hs0
  have HV : ∀ W, KC w0 w W → Kd.V (Kd.int .i64) 3 W W.heap.size (fun _ => True) (.slice A l.length c) l := fun W hW => Kd.V_mk Hc1.out (fun W' hW' => (Kd.heap_int .i64).C (fun j hj => hW' j trivial hj) (HC1.out W hW))
  have HVV := zF.mk HV
  clear HV
  gi_wp2
  refine wpIn_scope_straight ?_
  gi_wp2_with (refine ⟨trivial, ?_⟩; gi_at_call 10; refine (callsIn_wide.2 (parts_Bits.calls k (fun _ => True) A c l order wd o A3 c3 ps r _ ?side1 ?side2 Hc3.out HBT.out)).mono ?_; (case side1 => exact HVV.out _ K0.out); (case side2 => exact HC3.out _ K0.out); rintro e w1 ⟨rfl, hb1⟩; have BB := zF.mk hb1; clear hb1; have X8n := zF.mk (show Boxed w1 (w.heap.size + 1 + 1) 31 (.int .i64 0) from blk_below (g := w.heap.size + 1 + 1) X8.out BB.out); have hc8 := X8n.out.cell; have hf8 := X8n.out.frozen)
  have hc5 := World.cell?_setCell_same' w1 ⟨w.heap.size + 1 + 1, 0, none⟩ (.int .i64 1) (by rw [hc8]; rfl)
  rw [Exit.noGoto_ret]
  refine ⟨.int .i64 1, ?_, rfl, zH.setOther (zH.below I0.out BB.out) X8n.out (by decide) 0 _, (below_step B0.out BB.out).setCell (p := ⟨w.heap.size + 1 + 1, 0, none⟩) (by simp; omega) _, KBe.setNew (KBe.below E0.out BB.out) (by omega) 0 _⟩
  simp [results, Try.f9, go_sem, hc5]
set_option maxRecDepth 100000 in
set_option maxHeartbeats 8000000 in
theorem sec_Put_long (k : Nat) (g : Nat) (s0_0 : ByteArray) (s0_1 : Int) (A : Option Addr) (c : Nat) (l : List Int) (order : Int) (wd : Bool) (o : Int) (A3 : Option Addr) (c3 : Nat) (ps : List S50) (cuts : List Int) (r : Int) (w0 w : World) (hI : zH w0 w g s0_0 s0_1) (hB : Below w0.heap.size w0 w)
    (hC1 : ∀ W', KC w0 w W' → Kd.C (Kd.int .i64) W' A l.length l) (hc1 : l.length ≤ c) (hC3 : ∀ W', KC w0 w W' → Kd.C k50 W' A3 ps.length ps) (hc3 : ps.length ≤ c3) (hbits : parts_Bits.f k l order wd o ps = some r) (hpos : 0 ≤ r)
    (hcut : parts_Cuts.f k (l.length : Int) order o = some cuts) (hfit : SFits cuts l.length) (hlen : cuts.length = ps.length) (hbig : cuts.length < 1000000) (hl9 : l.length < 1000000) (hK : ∀ p ∈ ps, p.f1 = true ∨ 0 ≤ p.f0)
    (hlong : ∃ x ∈ rows15 cuts A c l ps, longEl x = true) :
    Calls Try.prog 9 #[.pointer (some ⟨g, 0, none⟩), .slice A l.length c, .int .i64 order, .agg #[.bool wd, .int .i64 o, .slice A3 ps.length c3]] w fun e w' => e = .returned (.int .i64 7) ∧ zH w0 w' g s0_0 s0_1 ∧ Below w0.heap.size w0 w' ∧ KBe w0 w w' g := by
  have hu25 := Try.underlying25
  have hu50 := Try.underlying50
  have hsz : w0.heap.size ≤ w.heap.size := hB.size
  have hd : decide (r < 0) = false := decide_eq_false (by omega)
  have HGOOD := zF.mk (rows15_good w0 w cuts A c l ps hfit hc1 hC1)
  have HI := zF.mk hI
  have HB := zF.mk hB
  have HC1 := zF.mk hC1
  have HC3 := zF.mk hC3
  have Hc1 := zF.mk hc1
  have Hc3 := zF.mk hc3
  have HBT := zF.mk hbits
  have HCUT := zF.mk hcut
  have HFIT := zF.mk hfit
  have HLEN := zF.mk hlen
  have HBIG := zF.mk hbig
  have HL9 := zF.mk hl9
  have HKK := zF.mk hK
  have HLONG := zF.mk hlong
  clear hI hB hC1 hC3 hc1 hc3 hbits hpos hcut hfit hlen hbig hl9 hK hlong
  refine (callsIn_wide (n := 6)).1 ?_
  refine callsIn_of_wp_marks Try.func9 rfl trivial ?_ rfl
  simp only [Try.ntmps9, List.size_toArray, List.length_cons, List.length_nil, Nat.reduceAdd, Nat.reduceSub, Array.replicate_succ, Array.replicate_zero, List.push_toArray, List.append_toArray, List.nil_append, List.cons_append]
  obtain ⟨W0, hW0⟩ : ∃ W0, ((w.alloc (.cells #[.pointer (some ⟨g, 0, none⟩)] 29)).alloc (.cells #[.bool wd, .int .i64 o, .slice A3 ps.length c3] 25)).alloc (.cells #[.int .i64 0] 31) = W0 := ⟨_, rfl⟩
  have b4 : W0.heap[w.heap.size]? = some (.cells #[.pointer (some ⟨g, 0, none⟩)] 29 (0, 0)) := by rw [← hW0]; exact zJ (zJ (World.alloc_heap_new w _) _) _
  have b7 : W0.heap[w.heap.size + 1]? = some (.cells #[.bool wd, .int .i64 o, .slice A3 ps.length c3] 25 (0, 0)) := by
    have h := World.alloc_heap_new (w.alloc (.cells #[.pointer (some ⟨g, 0, none⟩)] 29)) (.cells #[.bool wd, .int .i64 o, .slice A3 ps.length c3] 25)
    rw [World.size_alloc] at h
    rw [← hW0]; exact zJ h _
  have b8 : Boxed W0 (w.heap.size + 1 + 1) 31 (.int .i64 0) := by
    have h := Boxed.new ((w.alloc (.cells #[.pointer (some ⟨g, 0, none⟩)] 29)).alloc (.cells #[.bool wd, .int .i64 o, .slice A3 ps.length c3] 25)) 31 (.int .i64 0)
    rw [World.size_alloc, World.size_alloc] at h
    rw [← hW0]; exact h
  have hBw : Below w.heap.size w W0 := by rw [← hW0]; exact (((Below.refl _ w).alloc (Nat.le_refl _) _).alloc (by simp) _).alloc (by simp; omega) _
  have hs0 : W0.heap.size = w.heap.size + 3 := by rw [← hW0]; simp
  have hz4 : W0.cell? ⟨w.heap.size, 0, none⟩ = some (.pointer (some ⟨g, 0, none⟩)) := (zM b4 0).trans rfl
  have hz70 : W0.cell? ⟨w.heap.size + 1, 0, none⟩ = some (.bool wd) := (zM b7 0).trans rfl
  have hz71 : W0.cell? ⟨w.heap.size + 1, 1, none⟩ = some (.int .i64 o) := (zM b7 1).trans rfl
  have hz72 : W0.cell? ⟨w.heap.size + 1, 2, none⟩ = some (.slice A3 ps.length c3) := (zM b7 2).trans rfl
  have K0 := zF.mk (KC.of_below hsz hBw)
  have I0 := zF.mk (zH.below HI.out hBw)
  have E0 := zF.mk (KBe.below (KBe.refl w0 HI.out) hBw)
  have B0 := zF.mk (below_step HB.out hBw)
  have X4 := zF.mk b4
  have X7 := zF.mk b7
  have X8 := zF.mk b8
  have S0 := zF.mk hs0
  have BW := zF.mk hBw
  clear b4 b7 b8 hBw hs0
  have HV : ∀ W, KC w0 w W → Kd.V (Kd.int .i64) 3 W W.heap.size (fun _ => True) (.slice A l.length c) l := fun W hW => Kd.V_mk Hc1.out (fun W' hW' => (Kd.heap_int .i64).C (fun j hj => hW' j trivial hj) (HC1.out W hW))
  have HVV := zF.mk HV
  clear HV
  gi_wp2
  refine wpIn_scope_straight ?_
  gi_wp2_with (first
    | (refine ⟨trivial, ?_⟩; gi_at_call 10; refine (callsIn_wide.2 (parts_Bits.calls k (fun _ => True) A c l order wd o A3 c3 ps r _ ?side1 ?side2 Hc3.out HBT.out)).mono ?_; (case side1 => exact HVV.out _ K0.out); (case side2 => exact HC3.out _ K0.out); rintro e w1 ⟨rfl, hb1⟩; have BB := zF.mk hb1; clear hb1; have X7n := zF.mk (blk_below (g := w.heap.size + 1) X7.out BB.out); clear hz4 hz70 hz71 hz72; have hz70 := (zM X7n.out 0).trans rfl; have hz71 := (zM X7n.out 1).trans rfl; have hz72 := (zM X7n.out 2).trans rfl)
    | (refine ⟨trivial, ?_⟩; gi_at_call 23; refine (sec_each_in _ A l.length c order wd o A3 ps.length c3 _).mono ?_; rintro e w2 ⟨rfl, rfl⟩))
  obtain ⟨W2, hW2⟩ : ∃ W2, ((w1.alloc (.cells #[.slice A l.length c] 22)).alloc (.cells #[.int .i64 order] 3)).alloc (.cells #[.bool wd, .int .i64 o, .slice A3 ps.length c3] 25) = W2 := ⟨_, rfl⟩
  have c1 : W2.heap[w1.heap.size]? = some (.cells #[.slice A l.length c] 22 (0, 0)) := by rw [← hW2]; exact zJ (zJ (World.alloc_heap_new w1 _) _) _
  have c2 : W2.heap[w1.heap.size + 1]? = some (.cells #[.int .i64 order] 3 (0, 0)) := by
    have h := World.alloc_heap_new (w1.alloc (.cells #[.slice A l.length c] 22)) (.cells #[.int .i64 order] 3)
    rw [World.size_alloc] at h
    rw [← hW2]; exact zJ h _
  have c3_ : W2.heap[w1.heap.size + 2]? = some (.cells #[.bool wd, .int .i64 o, .slice A3 ps.length c3] 25 (0, 0)) := by
    have h := World.alloc_heap_new ((w1.alloc (.cells #[.slice A l.length c] 22)).alloc (.cells #[.int .i64 order] 3)) (.cells #[.bool wd, .int .i64 o, .slice A3 ps.length c3] 25)
    rw [World.size_alloc, World.size_alloc] at h
    rw [← hW2]; exact h
  have hB2 : Below w1.heap.size w1 W2 := by rw [← hW2]; exact (((Below.refl _ w1).alloc (Nat.le_refl _) _).alloc (by simp) _).alloc (by simp; omega) _
  have hs2 : W2.heap.size = w1.heap.size + 3 := by rw [← hW2]; simp
  have hs1 : w.heap.size + 3 ≤ w1.heap.size := by have := BB.out.size; have := S0.out; omega
  have hB02 : Below W0.heap.size W0 W2 := below_step BB.out hB2
  have k2 : KC w0 w W2 := K0.out.trans (KC.of_below (by have := S0.out; omega) hB02)
  have d4 := blk_below (g := w.heap.size) X4.out hB02
  have d7 := blk_below (g := w.heap.size + 1) X7.out hB02
  have d8 : Boxed W2 (w.heap.size + 1 + 1) 31 (.int .i64 0) := blk_below (g := w.heap.size + 1 + 1) X8.out hB02
  have i2 := zH.below I0.out hB02
  have e2 := KBe.below E0.out hB02
  have bb2 := below_step B0.out hB02
  rw [hW2]
  have hgives := sec_each1 5 (by omega) k w0 W2 w1.heap.size (w1.heap.size + 1) (w1.heap.size + 2) A c l order wd o A3 c3 ps cuts HCUT.out HFIT.out HLEN.out HBIG.out Hc1.out (by omega) (by omega) (fun W' hk => HC3.out W' (k2.trans hk)) c1 c2 c3_
  have hsw : w0.heap.size ≤ W2.heap.size := by omega
  obtain ⟨B1, hB1⟩ : ∃ B1, B1 = w1.heap.size := ⟨_, rfl⟩
  rw [← hB1] at hgives hs2 hs1 ⊢
  have hB1k : w0.heap.size ≤ B1 := by omega
  clear hW2 hW0 c2 c3_ hB2 hB02 hz70 hz71 hz72
  refine wpIn_rangeFunc_turn rfl (by omega) (gf := 43) rfl trivial (enters_of Try.func43 (by kernel_rfl) rfl) (fun _ => rfl) hgives (fun h k => Kp15.trans h k) (Kp15.book hsw)
    (fun pre W => (∀ x ∈ pre, longEl x = false) ∧ I15 w0 w g wd o A3 ps.length c3 s0_0 s0_1 0 W) (fun cd pre W => cd = .ret ∧ I15 w0 w g wd o A3 ps.length c3 s0_0 s0_1 7 W)
    ?hI ?hIx ?hTI ?hTK ⟨by simp, k2, i2, e2, d4, d7, d8, bb2⟩ ?round ?done ?stop
  case hI => exact fun s X Y row hs hg hr => ⟨hs.1, hs.2.grown hsz hg (fun q e => ⟨by have := (hr q e).1; omega, (hr q e).2⟩)⟩
  case hIx => exact fun cd s X Y row hs hg hr => ⟨hs.1, hs.2.grown hsz hg (fun q e => ⟨by have := (hr q e).1; omega, (hr q e).2⟩)⟩
  case hTI => exact fun pre X Y hs ht => ⟨hs.1, hs.2.turn hsz (by omega) ht⟩
  case hTK =>
    rintro X Y ⟨u, u', hb, rfl⟩
    exact (KeepsOthers.setCell _ _ _).from _
  case round =>
    rintro lp pre ⟨q, A', c', xs⟩ W K ⟨hpre, hi⟩ hfull hK
    simp only [encE, List.map_toArray] at hK ⊢
    gi_wp2
    have hmem : (q, A', c', xs) ∈ rows15 cuts A c l ps := hfull.subset (by simp)
    obtain ⟨hCx, hcx, hlx, hqm⟩ := HGOOD.out _ hmem
    have hWs : w0.heap.size ≤ W.heap.size := Nat.le_trans hsz hi.1.1
    refine hK _ (W.alloc (.cells #[.int .i64 q.f0, .bool q.f1] 50)) ((KeepsOthers.alloc _ _).from _) ⟨KC.of_below hWs (zE (Below.refl _ _) _), fun cs t f e => zJ e _⟩ ⟨hpre, hi.below hsz (zE (Below.refl _ _) _)⟩ ?_
    intro Z hZb hZc hZr hZk hZi
    have hp50 : Z.heap[W.heap.size]? = some (.cells #[.int .i64 q.f0, .bool q.f1] 50 (0, 0)) := hZc _ _ _ _ (World.alloc_heap_new W _)
    obtain ⟨_, hiZ⟩ := hZi
    have hy0 : Z.cell? ⟨W.heap.size, 0, none⟩ = some (.int .i64 q.f0) := (zM hp50 0).trans rfl
    have hy1 : Z.cell? ⟨W.heap.size, 1, none⟩ = some (.bool q.f1) := (zM hp50 1).trans rfl
    have HCX := zF.mk (hCx Z hiZ.1)
    have HIZ := zF.mk hiZ
    have HQM := zF.mk hqm
    have HPRE := zF.mk hpre
    have hb8 : Boxed Z (w.heap.size + 1 + 1) 31 (.int .i64 0) := hiZ.2.2.2.2.2.1
    have HB8 := zF.mk hb8
    have hxl : xs.length < 1000000 := Nat.lt_of_le_of_lt hlx HL9.out
    clear hK hi hpre hfull hmem hCx hcx hlx hqm hZb hZc hZr hZk hp50 hiZ hb8
    gi_wp2
    gi_loopw [33] (fun v wr => ∃ (i d : Nat), i ≤ xs.length ∧ v = .int .i64 (i : Int) ∧ wr = Z.drewN d ∧ zF (∀ j : Nat, j < i → (!q.f1 && (section_long.f (rd xs (j : Int)) q.f0).getD false) = false))
      (fun v _ => xs.length - (intOf v).toNat)
    case atStart => exact ⟨0, 0, Nat.zero_le _, rfl, rfl, ⟨fun j hj => by omega⟩⟩
    case round =>
      obtain ⟨i, d, hil, rfl, rfl, HN⟩ := hrel
      by_cases hlt : i < xs.length
      · have hdl : decide ((i : Int) < (xs.length : Int)) = true := decide_eq_true (by omega)
        obtain ⟨ad, hA, hcell⟩ := Kd.at_int HCX.out (i : Int) (by omega) (by omega)
        subst hA
        simp only [Int.toNat_natCast] at hcell
        have q1 := eq_true (show (i : Int) < (xs.length : Int) by omega)
        cases hraw : q.f1 with
        | true =>
          rw [hraw] at hy1
          gi_wp2
          refine ⟨trivial, ?_⟩
          gi_wp2
          go_roundw
          case rel => exact ⟨i + 1, d, hlt, by simp, rfl, ⟨fun j hj => by simp⟩⟩
          case measure => simp [intOf]; omega
        | false =>
          rw [hraw] at hy1
          have h0 : 0 ≤ q.f0 := by
            rcases HKK.out _ HQM.out with h | h
            · rw [hraw] at h; cases h
            · exact h
          rw [hraw] at HN
          have HSAME := zF.mk (fun (m : Nat) (W : World) => CallsIn.inRound (n := m) lp (callsIn_wide.2 (section_long_same (rd xs (i : Int)) q.f0 W h0)))
          gi_wp2
          refine ⟨trivial, ?_⟩
          gi_at_call 24
          refine (HSAME.out _ _).mono ?_
          rintro e w3 ⟨rfl, d3, rfl⟩
          cases hlg : (section_long.f (rd xs (i : Int)) q.f0).getD false with
          | true =>
            have hc8 := HB8.out.cell
            have hf8 := HB8.out.frozen
            have hfin1 : KeepsFrom W2.heap.size Z ((Z.drewN (d + d3)).setCell ⟨w.heap.size + 1 + 1, 0, none⟩ (.int .i64 7)) := (KeepsFrom.drewN W2.heap.size Z (d + d3)).trans ((KeepsOthers.setCell _ _ _).from _)
            have hfin2 := (HIZ.out.below hsz (Y := Z.drewN (d + d3)) ⟨rfl, rfl, rfl, Nat.le_refl _, fun _ _ => rfl⟩).told hsz 7
            have HFIN1 := zF.mk hfin1
            have HFIN2 := zF.mk hfin2
            clear hfin1 hfin2
            gi_wp2
            exact ⟨HFIN1.out, rfl, HFIN2.out⟩
          | false =>
            gi_wp2
            go_roundw
            case rel =>
              refine ⟨i + 1, d + d3, hlt, by simp, by simp, ⟨fun j hj => ?_⟩⟩
              by_cases hji : j < i
              · exact HN.out j hji
              · have hj' : j = i := by omega
                subst hj'
                exact (Bool.true_and _).trans hlg
            case measure => simp [intOf]; omega
      · obtain rfl : i = xs.length := by omega
        have hdl : decide (((xs.length : Nat) : Int) < (xs.length : Int)) = false := decide_eq_false (by omega)
        have hfin3 : ∀ (x : El), x ∈ pre ++ [(q, A', c', xs)] → longEl x = false := fun x hx => by
          rcases List.mem_append.1 hx with h | h
          · exact HPRE.out x h
          · rw [List.mem_singleton.1 h]; exact longEl_false HN.out
        have hfin4 := HIZ.out.below hsz (Y := Z.drewN d) ⟨rfl, rfl, rfl, Nat.le_refl _, fun _ _ => rfl⟩
        have HFIN3 := zF.mk hfin3
        have HFIN4 := zF.mk hfin4
        clear hfin3 hfin4
        gi_wp2
        exact ⟨KeepsFrom.drewN _ _ _, Kp15.drewN _ _ _ _, HFIN3.out, HFIN4.out⟩
  case done =>
    rintro D W hD ⟨hpre, hi⟩ hK
    exfalso
    obtain ⟨x, hx, hl⟩ := HLONG.out
    rw [hpre x hx] at hl
    cases hl
  case stop =>
    rintro D cd pre W hD hp ⟨rfl, hi⟩ hK
    gi_wp2
    have hi' := hi.grown hsz (grownBy_putObj' W D (.deferred none)) (fun q e => by cases e; exact ⟨by omega, _, hK, rfl⟩)
    obtain ⟨_, hi2, hi3, _, _, hi6, hi7⟩ := hi'
    have hc6 := hi6.cell
    rw [Exit.noGoto_ret]
    refine ⟨by simp, .inl ⟨_, _, rfl, run_takeDeferred hK, ?_⟩⟩
    refine ⟨.int .i64 7, ?_, rfl, hi2, hi7, hi3⟩
    simp [results, Try.f9, go_sem, hc6]
set_option maxRecDepth 100000 in
set_option maxHeartbeats 8000000 in
theorem sec_Put_ok (k : Nat) (g : Nat) (L : List Bool) (A : Option Addr) (c : Nat) (l : List Int) (order : Int) (wd : Bool) (o : Int) (A3 : Option Addr) (c3 : Nat) (ps : List S50) (cuts : List Int) (r : Int) (w0 w : World) (hI : zH w0 w g (PL.WB L) (L.length : Int)) (hB : Below w0.heap.size w0 w)
    (hC1 : ∀ W', KC w0 w W' → Kd.C (Kd.int .i64) W' A l.length l) (hc1 : l.length ≤ c) (hC3 : ∀ W', KC w0 w W' → Kd.C k50 W' A3 ps.length ps) (hc3 : ps.length ≤ c3) (hbits : parts_Bits.f k l order wd o ps = some r) (hpos : 0 ≤ r)
    (hcut : parts_Cuts.f k (l.length : Int) order o = some cuts) (hfit : SFits cuts l.length) (hlen : cuts.length = ps.length) (hbig : cuts.length < 1000000) (hl9 : l.length < 1000000) (hK : ∀ p ∈ ps, p.f1 = true ∨ 0 ≤ p.f0)
    (hshort : ∀ x ∈ rows15 cuts A c l ps, longEl x = false) (h64 : ∀ x ∈ l, -9223372036854775808 ≤ x ∧ x < 9223372036854775808) (hroom : L.length + 200 + cuts.length * (200 + 65600 * l.length) < 1000000000000) :
    Calls Try.prog 9 #[.pointer (some ⟨g, 0, none⟩), .slice A l.length c, .int .i64 order, .agg #[.bool wd, .int .i64 o, .slice A3 ps.length c3]] w fun e w' => e = .returned (.int .i64 0) ∧ zH w0 w' g (PL.WB (putAll15 wd (headB L wd o) (rows15 cuts A c l ps))) ((putAll15 wd (headB L wd o) (rows15 cuts A c l ps)).length : Int) ∧ Below w0.heap.size w0 w' ∧ KBe w0 w w' g := by
  have hu25 := Try.underlying25
  have hu50 := Try.underlying50
  have hsz : w0.heap.size ≤ w.heap.size := hB.size
  have hd : decide (r < 0) = false := decide_eq_false (by omega)
  have HGOOD := zF.mk (rows15_good w0 w cuts A c l ps hfit hc1 hC1)
  have HI := zF.mk hI
  have HB := zF.mk hB
  have HC1 := zF.mk hC1
  have HC3 := zF.mk hC3
  have Hc1 := zF.mk hc1
  have Hc3 := zF.mk hc3
  have HBT := zF.mk hbits
  have HCUT := zF.mk hcut
  have HFIT := zF.mk hfit
  have HLEN := zF.mk hlen
  have HBIG := zF.mk hbig
  have HL9 := zF.mk hl9
  have HKK := zF.mk hK
  have HSHORT := zF.mk hshort
  have H64 := zF.mk h64
  have HROOM := zF.mk hroom
  clear hI hB hC1 hC3 hc1 hc3 hbits hpos hcut hfit hlen hbig hl9 hK hshort h64 hroom
  refine (callsIn_wide (n := 6)).1 ?_
  refine callsIn_of_wp_marks Try.func9 rfl trivial ?_ rfl
  simp only [Try.ntmps9, List.size_toArray, List.length_cons, List.length_nil, Nat.reduceAdd, Nat.reduceSub, Array.replicate_succ, Array.replicate_zero, List.push_toArray, List.append_toArray, List.nil_append, List.cons_append]
  obtain ⟨W0, hW0⟩ : ∃ W0, ((w.alloc (.cells #[.pointer (some ⟨g, 0, none⟩)] 29)).alloc (.cells #[.bool wd, .int .i64 o, .slice A3 ps.length c3] 25)).alloc (.cells #[.int .i64 0] 31) = W0 := ⟨_, rfl⟩
  have b4 : W0.heap[w.heap.size]? = some (.cells #[.pointer (some ⟨g, 0, none⟩)] 29 (0, 0)) := by rw [← hW0]; exact zJ (zJ (World.alloc_heap_new w _) _) _
  have b7 : W0.heap[w.heap.size + 1]? = some (.cells #[.bool wd, .int .i64 o, .slice A3 ps.length c3] 25 (0, 0)) := by
    have h := World.alloc_heap_new (w.alloc (.cells #[.pointer (some ⟨g, 0, none⟩)] 29)) (.cells #[.bool wd, .int .i64 o, .slice A3 ps.length c3] 25)
    rw [World.size_alloc] at h
    rw [← hW0]; exact zJ h _
  have b8 : Boxed W0 (w.heap.size + 1 + 1) 31 (.int .i64 0) := by
    have h := Boxed.new ((w.alloc (.cells #[.pointer (some ⟨g, 0, none⟩)] 29)).alloc (.cells #[.bool wd, .int .i64 o, .slice A3 ps.length c3] 25)) 31 (.int .i64 0)
    rw [World.size_alloc, World.size_alloc] at h
    rw [← hW0]; exact h
  have hBw : Below w.heap.size w W0 := by rw [← hW0]; exact (((Below.refl _ w).alloc (Nat.le_refl _) _).alloc (by simp) _).alloc (by simp; omega) _
  have hs0 : W0.heap.size = w.heap.size + 3 := by rw [← hW0]; simp
  have hz4 : W0.cell? ⟨w.heap.size, 0, none⟩ = some (.pointer (some ⟨g, 0, none⟩)) := (zM b4 0).trans rfl
  have hz70 : W0.cell? ⟨w.heap.size + 1, 0, none⟩ = some (.bool wd) := (zM b7 0).trans rfl
  have hz71 : W0.cell? ⟨w.heap.size + 1, 1, none⟩ = some (.int .i64 o) := (zM b7 1).trans rfl
  have hz72 : W0.cell? ⟨w.heap.size + 1, 2, none⟩ = some (.slice A3 ps.length c3) := (zM b7 2).trans rfl
  have K0 := zF.mk (KC.of_below hsz hBw)
  have I0 := zF.mk (zH.below HI.out hBw)
  have E0 := zF.mk (KBe.below (KBe.refl w0 HI.out) hBw)
  have B0 := zF.mk (below_step HB.out hBw)
  have X4 := zF.mk b4
  have X7 := zF.mk b7
  have X8 := zF.mk b8
  have S0 := zF.mk hs0
  have BW := zF.mk hBw
  clear b4 b7 b8 hBw hs0
  have HV : ∀ W, KC w0 w W → Kd.V (Kd.int .i64) 3 W W.heap.size (fun _ => True) (.slice A l.length c) l := fun W hW => Kd.V_mk Hc1.out (fun W' hW' => (Kd.heap_int .i64).C (fun j hj => hW' j trivial hj) (HC1.out W hW))
  have HVV := zF.mk HV
  clear HV
  gi_wp2
  refine wpIn_scope_straight ?_
  gi_wp2_with (first
    | (refine ⟨trivial, ?_⟩; gi_at_call 10; refine (callsIn_wide.2 (parts_Bits.calls k (fun _ => True) A c l order wd o A3 c3 ps r _ ?side1 ?side2 Hc3.out HBT.out)).mono ?_; (case side1 => exact HVV.out _ K0.out); (case side2 => exact HC3.out _ K0.out); rintro e w1 ⟨rfl, hb1⟩; have BB := zF.mk hb1; clear hb1; have X7n := zF.mk (blk_below (g := w.heap.size + 1) X7.out BB.out); clear hz4 hz70 hz71 hz72; have hz70 := (zM X7n.out 0).trans rfl; have hz71 := (zM X7n.out 1).trans rfl; have hz72 := (zM X7n.out 2).trans rfl)
    | (refine ⟨trivial, ?_⟩; gi_at_call 23; refine (sec_each_in _ A l.length c order wd o A3 ps.length c3 _).mono ?_; rintro e w2 ⟨rfl, rfl⟩))
  obtain ⟨W2, hW2⟩ : ∃ W2, ((w1.alloc (.cells #[.slice A l.length c] 22)).alloc (.cells #[.int .i64 order] 3)).alloc (.cells #[.bool wd, .int .i64 o, .slice A3 ps.length c3] 25) = W2 := ⟨_, rfl⟩
  have c1 : W2.heap[w1.heap.size]? = some (.cells #[.slice A l.length c] 22 (0, 0)) := by rw [← hW2]; exact zJ (zJ (World.alloc_heap_new w1 _) _) _
  have c2 : W2.heap[w1.heap.size + 1]? = some (.cells #[.int .i64 order] 3 (0, 0)) := by
    have h := World.alloc_heap_new (w1.alloc (.cells #[.slice A l.length c] 22)) (.cells #[.int .i64 order] 3)
    rw [World.size_alloc] at h
    rw [← hW2]; exact zJ h _
  have c3_ : W2.heap[w1.heap.size + 2]? = some (.cells #[.bool wd, .int .i64 o, .slice A3 ps.length c3] 25 (0, 0)) := by
    have h := World.alloc_heap_new ((w1.alloc (.cells #[.slice A l.length c] 22)).alloc (.cells #[.int .i64 order] 3)) (.cells #[.bool wd, .int .i64 o, .slice A3 ps.length c3] 25)
    rw [World.size_alloc, World.size_alloc] at h
    rw [← hW2]; exact h
  have hB2 : Below w1.heap.size w1 W2 := by rw [← hW2]; exact (((Below.refl _ w1).alloc (Nat.le_refl _) _).alloc (by simp) _).alloc (by simp; omega) _
  have hs2 : W2.heap.size = w1.heap.size + 3 := by rw [← hW2]; simp
  have hs1 : w.heap.size + 3 ≤ w1.heap.size := by have := BB.out.size; have := S0.out; omega
  have hB02 : Below W0.heap.size W0 W2 := below_step BB.out hB2
  have k2 : KC w0 w W2 := K0.out.trans (KC.of_below (by have := S0.out; omega) hB02)
  have d4 := blk_below (g := w.heap.size) X4.out hB02
  have d7 := blk_below (g := w.heap.size + 1) X7.out hB02
  have d8 : Boxed W2 (w.heap.size + 1 + 1) 31 (.int .i64 0) := blk_below (g := w.heap.size + 1 + 1) X8.out hB02
  have i2 := zH.below I0.out hB02
  have e2 := KBe.below E0.out hB02
  have bb2 := below_step B0.out hB02
  rw [hW2]
  have hgives := sec_each1 5 (by omega) k w0 W2 w1.heap.size (w1.heap.size + 1) (w1.heap.size + 2) A c l order wd o A3 c3 ps cuts HCUT.out HFIT.out HLEN.out HBIG.out Hc1.out (by omega) (by omega) (fun W' hk => HC3.out W' (k2.trans hk)) c1 c2 c3_
  have hsw : w0.heap.size ≤ W2.heap.size := by omega
  obtain ⟨B1, hB1⟩ : ∃ B1, B1 = w1.heap.size := ⟨_, rfl⟩
  rw [← hB1] at hgives hs2 hs1 ⊢
  have hB1k : w0.heap.size ≤ B1 := by omega
  clear hW2 hW0 c2 c3_ hB2 hB02 hz70 hz71 hz72
  refine wpIn_rangeFunc_turn rfl (by omega) (gf := 43) rfl trivial (enters_of Try.func43 (by kernel_rfl) rfl) (fun _ => rfl) hgives (fun h k => Kp15.trans h k) (Kp15.book hsw)
    (fun pre W => I15 w0 w g wd o A3 ps.length c3 (PL.WB L) (L.length : Int) 0 W) (fun cd pre W => False)
    ?hI ?hIx ?hTI ?hTK ⟨k2, i2, e2, d4, d7, d8, bb2⟩ ?round ?done ?stop
  case hI => exact fun s X Y row hs hg hr => hs.grown hsz hg (fun q e => ⟨by have := (hr q e).1; omega, (hr q e).2⟩)
  case hIx => exact fun cd s X Y row hs hg hr => hs
  case hTI => exact fun pre X Y hs ht => hs.turn hsz (by omega) ht
  case hTK =>
    rintro X Y ⟨u, u', hb, rfl⟩
    exact (KeepsOthers.setCell _ _ _).from _
  case round =>
    rintro lp pre ⟨q, A', c', xs⟩ W K hi hfull hK
    simp only [encE, List.map_toArray] at hK ⊢
    gi_wp2
    have hmem : (q, A', c', xs) ∈ rows15 cuts A c l ps := hfull.subset (by simp)
    obtain ⟨hCx, hcx, hlx, hqm⟩ := HGOOD.out _ hmem
    have hWs : w0.heap.size ≤ W.heap.size := Nat.le_trans hsz hi.1.1
    refine hK _ (W.alloc (.cells #[.int .i64 q.f0, .bool q.f1] 50)) ((KeepsOthers.alloc _ _).from _) ⟨KC.of_below hWs (zE (Below.refl _ _) _), fun cs t f e => zJ e _⟩ (hi.below hsz (zE (Below.refl _ _) _)) ?_
    intro Z hZb hZc hZr hZk hZi
    have hp50 : Z.heap[W.heap.size]? = some (.cells #[.int .i64 q.f0, .bool q.f1] 50 (0, 0)) := hZc _ _ _ _ (World.alloc_heap_new W _)
    have hiZ := hZi
    have hy0 : Z.cell? ⟨W.heap.size, 0, none⟩ = some (.int .i64 q.f0) := (zM hp50 0).trans rfl
    have hy1 : Z.cell? ⟨W.heap.size, 1, none⟩ = some (.bool q.f1) := (zM hp50 1).trans rfl
    have HCX := zF.mk (hCx Z hiZ.1)
    have HIZ := zF.mk hiZ
    have HQM := zF.mk hqm
    have HLE := zF.mk (HSHORT.out _ hmem)
    have hxl : xs.length < 1000000 := Nat.lt_of_le_of_lt hlx HL9.out
    clear hK hi hfull hmem hCx hcx hlx hqm hZb hZc hZr hZk hp50 hiZ hZi
    gi_wp2
    gi_loopw [33] (fun v wr => ∃ (i d : Nat), i ≤ xs.length ∧ v = .int .i64 (i : Int) ∧ wr = Z.drewN d)
      (fun v _ => xs.length - (intOf v).toNat)
    case atStart => exact ⟨0, 0, Nat.zero_le _, rfl, rfl⟩
    case round =>
      obtain ⟨i, d, hil, rfl, rfl⟩ := hrel
      by_cases hlt : i < xs.length
      · have hdl : decide ((i : Int) < (xs.length : Int)) = true := decide_eq_true (by omega)
        obtain ⟨ad, hA, hcell⟩ := Kd.at_int HCX.out (i : Int) (by omega) (by omega)
        subst hA
        simp only [Int.toNat_natCast] at hcell
        have q1 := eq_true (show (i : Int) < (xs.length : Int) by omega)
        cases hraw : q.f1 with
        | true =>
          rw [hraw] at hy1
          gi_wp2
          refine ⟨trivial, ?_⟩
          gi_wp2
          go_roundw
          case rel => exact ⟨i + 1, d, hlt, by simp, rfl⟩
          case measure => simp [intOf]; omega
        | false =>
          rw [hraw] at hy1
          have h0 : 0 ≤ q.f0 := by
            rcases HKK.out _ HQM.out with h | h
            · rw [hraw] at h; cases h
            · exact h
          have HSAME := zF.mk (fun (m : Nat) (W : World) => CallsIn.inRound (n := m) lp (callsIn_wide.2 (section_long_same (rd xs (i : Int)) q.f0 W h0)))
          gi_wp2
          refine ⟨trivial, ?_⟩
          gi_at_call 24
          refine (HSAME.out _ _).mono ?_
          rintro e w3 ⟨rfl, d3, rfl⟩
          have hlg := longEl_at HLE.out hraw hlt
          gi_wp2
          go_roundw
          case rel => exact ⟨i + 1, d + d3, hlt, by simp, by simp⟩
          case measure => simp [intOf]; omega
      · obtain rfl : i = xs.length := by omega
        have hdl : decide (((xs.length : Nat) : Int) < (xs.length : Int)) = false := decide_eq_false (by omega)
        have hfin4 := HIZ.out.below hsz (Y := Z.drewN d) ⟨rfl, rfl, rfl, Nat.le_refl _, fun _ _ => rfl⟩
        have HFIN4 := zF.mk hfin4
        clear hfin4
        gi_wp2
        exact ⟨KeepsFrom.drewN _ _ _, Kp15.drewN _ _ _ _, HFIN4.out⟩
  case stop => exact fun D cd pre W hD hp h _ => h.elim
  case done =>
    rintro D W hD hi hK
    have HIW := zF.mk hi
    have HKD := zF.mk hK
    clear hK hgives d4 d7 d8 i2 e2 bb2 k2
    obtain ⟨kk1, kk2, kk3, kk4, kk5, kk6, kk7⟩ := hi
    have hz4 : W.cell? ⟨w.heap.size, 0, none⟩ = some (.pointer (some ⟨g, 0, none⟩)) := (zM kk4 0).trans rfl
    have hz70 : W.cell? ⟨w.heap.size + 1, 0, none⟩ = some (.bool wd) := (zM kk5 0).trans rfl
    clear kk1 kk2 kk3 kk4 kk5 kk6 kk7
    have hhb : headB L wd o = (L ++ PL.digs (if wd then 1 else 0) (PL.hw 2)) ++ PL.digs (IntKind.u64.wrap o) (PL.hw 4) := rfl
    have HHB := zF.mk hhb
    clear hhb
    cases wd with
    | false =>
      gi_wp2
      refine ⟨trivial, ?_⟩
      gi_at_call 25
      refine (callsIn_wide.2 (bits_Writer_Put.calls g _ _ _ _ _ _ w0 _ HIW.out.2.1 HIW.out.2.2.2.2.2.2 (PL.put_eq L 0 2 (by have := HROOM.out; omega)))).mono ?_
      rintro e w4 ⟨rfl, hI4, hB4, hK4⟩
      have HI4 := zF.mk (HIW.out.put hI4 hB4 hK4)
      have HKD4 := zF.mk (hK4.same HIW.out.2.1 HKD.out (by simp))
      clear hI4 hB4 hK4 hz4 hz70
      have hz4 : w4.cell? ⟨w.heap.size, 0, none⟩ = some (.pointer (some ⟨g, 0, none⟩)) := (zM HI4.out.2.2.2.1 0).trans rfl
      have hz71 : w4.cell? ⟨w.heap.size + 1, 1, none⟩ = some (.int .i64 o) := (zM HI4.out.2.2.2.2.1 1).trans rfl
      gi_wp2
      refine ⟨trivial, ?_⟩
      gi_at_call 25
      refine (callsIn_wide.2 (bits_Writer_Put.calls g _ _ _ _ _ _ w0 _ HI4.out.2.1 HI4.out.2.2.2.2.2.2 (PL.put_eq (L ++ PL.digs 0 (PL.hw 2)) (IntKind.u64.wrap o) 4 (by have := HROOM.out; have := PL.hw_le 2; rw [List.length_append, PL.digs_len]; omega)))).mono ?_
      rintro e w5 ⟨rfl, hI5, hB5, hK5⟩
      have HI5 := zF.mk (HI4.out.put hI5 hB5 hK5)
      have HKD5 := zF.mk (hK5.same HI4.out.2.1 HKD4.out (by simp))
      clear hI5 hB5 hK5 hz4 hz71
      have hz70 : w5.cell? ⟨w.heap.size + 1, 0, none⟩ = some (.bool false) := (zM HI5.out.2.2.2.2.1 0).trans rfl
      have hz71 : w5.cell? ⟨w.heap.size + 1, 1, none⟩ = some (.int .i64 o) := (zM HI5.out.2.2.2.2.1 1).trans rfl
      have hz72 : w5.cell? ⟨w.heap.size + 1, 2, none⟩ = some (.slice A3 ps.length c3) := (zM HI5.out.2.2.2.2.1 2).trans rfl
      gi_wp2
      refine wpIn_label ?_
      gi_wp2_with (refine ⟨trivial, ?_⟩; gi_at_call 23; refine (sec_each_in _ A l.length c order false o A3 ps.length c3 _).mono ?_; rintro e w6 ⟨rfl, rfl⟩)
      obtain ⟨W6, hW6⟩ : ∃ W6, ((w5.alloc (.cells #[.slice A l.length c] 22)).alloc (.cells #[.int .i64 order] 3)).alloc (.cells #[.bool false, .int .i64 o, .slice A3 ps.length c3] 25) = W6 := ⟨_, rfl⟩
      have c1 : W6.heap[w5.heap.size]? = some (.cells #[.slice A l.length c] 22 (0, 0)) := by rw [← hW6]; exact zJ (zJ (World.alloc_heap_new w5 _) _) _
      have c2 : W6.heap[w5.heap.size + 1]? = some (.cells #[.int .i64 order] 3 (0, 0)) := by
        have h := World.alloc_heap_new (w5.alloc (.cells #[.slice A l.length c] 22)) (.cells #[.int .i64 order] 3)
        rw [World.size_alloc] at h
        rw [← hW6]; exact zJ h _
      have c3_ : W6.heap[w5.heap.size + 2]? = some (.cells #[.bool false, .int .i64 o, .slice A3 ps.length c3] 25 (0, 0)) := by
        have h := World.alloc_heap_new ((w5.alloc (.cells #[.slice A l.length c] 22)).alloc (.cells #[.int .i64 order] 3)) (.cells #[.bool false, .int .i64 o, .slice A3 ps.length c3] 25)
        rw [World.size_alloc, World.size_alloc] at h
        rw [← hW6]; exact h
      have hB6 : Below w5.heap.size w5 W6 := by rw [← hW6]; exact (((Below.refl _ w5).alloc (Nat.le_refl _) _).alloc (by simp) _).alloc (by simp; omega) _
      have hs6 : W6.heap.size = w5.heap.size + 3 := by rw [← hW6]; simp
      have hDl : D < w5.heap.size := (Array.getElem?_eq_some_iff.1 HKD5.out).1
      have J6 : J15 w0 w g false o A3 ps.length c3 (putAll15 false (headB L false o) []) w5.heap.size D W6 := ⟨HI5.out.below hsz hB6, ⟨_, c1⟩, (hB6.block _ hDl).trans HKD5.out⟩
      have k6 : KC w0 w W6 := J6.1.1
      rw [hW6]
      have hgives2 := sec_each1 5 (by omega) k w0 W6 w5.heap.size (w5.heap.size + 1) (w5.heap.size + 2) A c l order false o A3 c3 ps cuts HCUT.out HFIT.out HLEN.out HBIG.out Hc1.out (by omega) (by omega) (fun W' hk => HC3.out W' (k6.trans hk)) c1 c2 c3_
      have hsw6 : w0.heap.size ≤ W6.heap.size := by omega
      obtain ⟨B2, hB2⟩ : ∃ B2, B2 = w5.heap.size := ⟨_, rfl⟩
      rw [← hB2] at hgives2 hs6 J6 hDl ⊢
      have hB2k : w0.heap.size ≤ B2 := by omega
      clear hW6 c2 c3_ c1 hB6 hz70 hz71 hz72
      refine wpIn_rangeFunc_turn rfl (by omega) (gf := 43) rfl trivial (enters_of Try.func43 (by kernel_rfl) rfl) (fun _ => rfl) hgives2 (fun h k => Kp15.trans h k) (Kp15.book hsw6)
        (fun pre W => J15 w0 w g false o A3 ps.length c3 (putAll15 false (headB L false o) pre) B2 D W) (fun cd pre W => False)
        ?hI2 ?hIx2 ?hTI2 ?hTK2 J6 ?round2 ?done2 ?stop2
      case hI2 => exact fun s X Y row hs hg hr => hs.grown hsz (S := W6.heap.size) (by omega) (by omega) hg hr
      case hIx2 => exact fun cd s X Y row hs hg hr => hs
      case hTI2 => exact fun pre X Y hs ht => hs.turn hsz (by omega) ht
      case hTK2 =>
        rintro X Y ⟨u, u', hb, rfl⟩
        exact (KeepsOthers.setCell _ _ _).from _
      case stop2 => exact fun D cd pre W hD hp h _ => h.elim
      case done2 =>
        rintro D2 W7 hD2 hi7 hK7
        have hc8 := hi7.1.2.2.2.2.2.1.cell
        have hf8 := hi7.1.2.2.2.2.2.1.frozen
        have HI7 := zF.mk hi7
        have HK7 := zF.mk hK7
        clear hi7 hK7 hgives2 J6 k6
        have hcz : (W7.setCell ⟨w.heap.size + 1 + 1, 0, none⟩ (.int .i64 0)).heap[D2]? = some (.deferred (some [])) := (Below.heap_setCell W7 ⟨w.heap.size + 1 + 1, 0, none⟩ _ D2 (by show D2 ≠ w.heap.size + 1 + 1; omega)).trans HK7.out
        have hcy : (W7.setCell ⟨w.heap.size + 1 + 1, 0, none⟩ (.int .i64 0)).heap[D]? = some (.deferred (some [])) := (Below.heap_setCell W7 ⟨w.heap.size + 1 + 1, 0, none⟩ _ D (by show D ≠ w.heap.size + 1 + 1; omega)).trans HI7.out.2.2
        have hcy2 : ((W7.setCell ⟨w.heap.size + 1 + 1, 0, none⟩ (.int .i64 0)).putObj D2 (.deferred none)).heap[D]? = some (.deferred (some [])) := (World.putObj_heap_other (by omega)).trans hcy
        have HC1 := zF.mk hcz
        have HC2 := zF.mk hcy2
        clear hcz hcy hcy2
        have t7 := HI7.out.1.told hsz 0
        have t8 := t7.grown hsz (grownBy_putObj' _ D2 (.deferred none)) (fun q e => by cases e; exact ⟨by omega, _, HC1.out, rfl⟩)
        have t9 := t8.grown hsz (grownBy_putObj' _ D (.deferred none)) (fun q e => by cases e; exact ⟨by omega, _, HC2.out, rfl⟩)
        have HT9 := zF.mk t9
        clear t7 t8 t9
        gi_wp2
        obtain ⟨_, ht2, ht3, _, _, ht6, ht7⟩ := HT9.out
        have hc6 := ht6.cell
        rw [Exit.noGoto_ret]
        refine ⟨by simp, .inl ⟨_, _, rfl, run_takeDeferred HC1.out, ?_⟩⟩
        refine ⟨by simp, .inl ⟨_, _, rfl, run_takeDeferred HC2.out, ?_⟩⟩
        refine ⟨.int .i64 0, ?_, rfl, ht2, ht7, ht3⟩
        simp [results, Try.f9, go_sem, hc6]
      case round2 =>
        rintro lp pre ⟨q, A', c', xs⟩ W K hi hfull hK
        simp only [encE, List.map_toArray] at hK ⊢
        gi_wp2
        have hmem : (q, A', c', xs) ∈ rows15 cuts A c l ps := hfull.subset (by simp)
        obtain ⟨hCx, hcx, hlx, hqm⟩ := HGOOD.out _ hmem
        have hWs : w0.heap.size ≤ W.heap.size := Nat.le_trans hsz hi.1.1.1
        refine hK _ (W.alloc (.cells #[.int .i64 q.f0, .bool q.f1] 50)) ((KeepsOthers.alloc _ _).from _) ⟨KC.of_below hWs (zE (Below.refl _ _) _), fun cs t f e => zJ e _⟩ (hi.below hsz (zE (Below.refl _ _) _)) ?_
        intro Z hZb hZc hZr hZk hZi
        have hp50 : Z.heap[W.heap.size]? = some (.cells #[.int .i64 q.f0, .bool q.f1] 50 (0, 0)) := hZc _ _ _ _ (World.alloc_heap_new W _)
        have hy0 : Z.cell? ⟨W.heap.size, 0, none⟩ = some (.int .i64 q.f0) := (zM hp50 0).trans rfl
        have hy1 : Z.cell? ⟨W.heap.size, 1, none⟩ = some (.bool q.f1) := (zM hp50 1).trans rfl
        have hz4 : Z.cell? ⟨w.heap.size, 0, none⟩ = some (.pointer (some ⟨g, 0, none⟩)) := (zM hZi.1.2.2.2.1 0).trans rfl
        have hz70 : Z.cell? ⟨w.heap.size + 1, 0, none⟩ = some (.bool false) := (zM hZi.1.2.2.2.2.1 0).trans rfl
        have hsnoc : putAll15 false (headB L false o) (pre ++ [(q, A', c', xs)]) = putPart false (putAll15 false (headB L false o) pre) q xs := putAll15_snoc _ _ _ _
        have hlp := put_room false o cuts A c l ps L pre (q, A', c', xs) hfull (fun x hx => (HGOOD.out x hx).2.2.1) HROOM.out
        have hx64 : ∀ y ∈ xs, -9223372036854775808 ≤ y ∧ y < 9223372036854775808 := fun y hy => H64.out y (rows15_sub _ _ _ _ _ _ hmem y hy)
        obtain ⟨Lp, hLp⟩ : ∃ Lp, putAll15 false (headB L false o) pre = Lp := ⟨_, rfl⟩
        rw [hLp] at hsnoc hlp hZi
        rw [hsnoc]
        have HCX := zF.mk hCx
        have HIZ := zF.mk hZi
        have HIZ1 := zF.mk hZi.1.2.1
        have HIZ2 := zF.mk hZi.1.2.2.2.2.2.2
        have HLP := zF.mk hlp
        have HP50 := zF.mk hp50
        have HX64 := zF.mk hx64
        have hxl : xs.length < 1000000 := Nat.lt_of_le_of_lt hlx HL9.out
        clear hK hi hfull hmem hCx hcx hlx hqm hZb hZc hZr hZk hp50 hZi hlp hx64 hLp hsnoc hgives2 J6 k6
        cases hraw : q.f1 with
        | false =>
          rw [hraw] at hy1
          gi_wp2
          refine startR_ (n := 8) (S := fun w' => w'.cell? ⟨w.heap.size, 0, none⟩ = some (.pointer (some ⟨g, 0, none⟩)) ∧ w'.cell? ⟨W.heap.size, 0, none⟩ = some (.int .i64 q.f0) ∧ w'.cell? ⟨w.heap.size + 1, 0, none⟩ = some (.bool false)) (ds := [7]) #[false, false, false, false, false, false, false, false] (by kernel_rfl) (by kernel_rfl) (by rintro ⟨a_, w_, h_⟩; exact h_) rfl rfl ⟨hz4, hy0, hz70⟩ (fun hHeld => ?_)
          refine pure_ (i := 1) (N := some 67) (v := ?_) (a' := ?_) #[false, true, false, false, false, false, false, false] rfl rfl (by kernel_rfl) (fun _ _ _ h => h) (Or.inl ⟨by rfl, ?_⟩) ?_ ?_
          rotate_left
          · intro w'
            go_simp
            first | done | with_reducible rfl
          rotate_left
          · simp only [Act.put, List.setIfInBounds_toArray, List.set_cons_zero, List.set_cons_succ, i64_w, i32_w]
            rfl
          refine pure_ (i := 4) (N := some 70) (v := ?_) (a' := ?_) #[false, true, false, false, true, false, false, false] rfl rfl (by kernel_rfl) (fun _ _ _ h => h) (Or.inl ⟨by rfl, ?_⟩) ?_ ?_
          rotate_left
          · intro w'
            go_simp
            first | done | with_reducible rfl
          rotate_left
          · simp only [Act.put, List.setIfInBounds_toArray, List.set_cons_zero, List.set_cons_succ, i64_w, i32_w]
            rfl
          refine take_ (i := 0) (N := some 66) (v := ?_) (a' := ?_) #[true, true, false, false, true, false, false, false] rfl rfl (by kernel_rfl) (fun _ _ _ h => h) (Or.inl ⟨by rfl, ?_⟩) hHeld ?_ ?_
          rotate_left
          · rintro w' ⟨s0, s1, s2⟩
            go_simp
            first | done | with_reducible rfl
          rotate_left
          · simp only [Act.put, List.setIfInBounds_toArray, List.set_cons_zero, List.set_cons_succ, i64_w, i32_w]
            rfl
          refine take_ (i := 2) (N := some 68) (v := ?_) (a' := ?_) #[true, true, true, false, true, false, false, false] rfl rfl (by kernel_rfl) (fun _ _ _ h => h) (Or.inl ⟨by rfl, ?_⟩) hHeld ?_ ?_
          rotate_left
          · rintro w' ⟨s0, s1, s2⟩
            go_simp
            first | done | with_reducible rfl
          rotate_left
          · simp only [Act.put, List.setIfInBounds_toArray, List.set_cons_zero, List.set_cons_succ, i64_w, i32_w]
            rfl
          refine pure_ (i := 3) (N := some 69) (v := ?_) (a' := ?_) #[true, true, true, true, true, false, false, false] rfl rfl (by kernel_rfl) (fun _ _ _ h => h) (Or.inl ⟨by rfl, ?_⟩) ?_ ?_
          rotate_left
          · intro w'
            go_simp
            first | done | with_reducible rfl
          rotate_left
          · simp only [Act.put, List.setIfInBounds_toArray, List.set_cons_zero, List.set_cons_succ, i64_w, i32_w]
            rfl
          refine take_ (i := 5) (N := some 71) (v := ?_) (a' := ?_) #[true, true, true, true, true, true, false, false] rfl rfl (by kernel_rfl) (fun _ _ _ h => h) (Or.inl ⟨by rfl, ?_⟩) hHeld ?_ ?_
          rotate_left
          · rintro w' ⟨s0, s1, s2⟩
            go_simp
            first | done | with_reducible rfl
          rotate_left
          · simp only [Act.put, List.setIfInBounds_toArray, List.set_cons_zero, List.set_cons_succ, i64_w, i32_w]
            rfl
          refine one_ (i := 6) (N := some 72) #[true, true, true, true, true, true, true, false] rfl rfl (by kernel_rfl) (by decide) (fun K hK => ?_)
          refine goes_ Try.func26 (by kernel_rfl) rfl #[.bool false] (by rfl) rfl rfl (by simp only [List.map_toArray, List.map_cons, List.map_nil, Act.put, List.setIfInBounds_toArray, List.set_cons_zero, List.set_cons_succ]; first | done | rfl) ?_
          refine (section_size.calls false 4 _ rfl).mono ?_
          rintro e w8 ⟨rfl, d8_, rfl⟩
          refine ⟨_, rfl, ?_⟩
          refine hK.out _ _ hHeld (fun hHeld => ?_)
          clear hK K
          refine last_ (i := 7) (N := some 73) #[true, true, true, true, true, true, true, true] rfl rfl (by kernel_rfl) (by decide) (fun K hK => ?_)
          refine goes_ Try.func25 (by kernel_rfl) rfl #[.pointer (some ⟨g, 0, none⟩), .int .u64 (IntKind.u64.wrap q.f0), .int .i64 4] (by rfl) rfl rfl (by simp only [List.map_toArray, List.map_cons, List.map_nil, Act.put, List.setIfInBounds_toArray, List.set_cons_zero, List.set_cons_succ]; first | done | rfl) ?_
          refine (bits_Writer_Put.calls g (PL.WB Lp) (Lp.length : Int) _ _ _ _ w0 _ ?qI9false ?qB9false (PL.put_eq Lp (IntKind.u64.wrap q.f0) 4 (by have := HLP.out; omega))).mono ?_
          case qI9false => exact HIZ1.out
          case qB9false => exact ⟨HIZ2.out.os, HIZ2.out.tape, HIZ2.out.output, HIZ2.out.size, HIZ2.out.block⟩
          rintro e w9 ⟨rfl, hI9, hB9, hK9⟩
          refine ⟨_, rfl, ?_⟩
          refine hK.out _ _ ?_
          clear hK K
          refine done_ (by kernel_rfl) ?_
          have hpart : putPart false Lp q xs = riceAll q.f0 (Lp ++ PL.digs (IntKind.u64.wrap q.f0) (PL.hw 4)) xs := by
            unfold putPart
            rw [if_neg (by rw [hraw]; simp)]
            rfl
          have HPART := zF.mk hpart
          have hj9 : J15 w0 w g false o A3 ps.length c3 (Lp ++ PL.digs (IntKind.u64.wrap q.f0) (PL.hw 4)) B2 D w9 := HIZ.out.put hI9 hB9 hK9
          have hl9 : (Lp ++ PL.digs (IntKind.u64.wrap q.f0) (PL.hw 4)).length + 65600 * xs.length < 1099000000000 := by
            have h1 := PL.hw_le 4
            have h2 := HLP.out
            rw [List.length_append, PL.digs_len]
            omega
          obtain ⟨Lq, hLq⟩ : ∃ Lq, Lp ++ PL.digs (IntKind.u64.wrap q.f0) (PL.hw 4) = Lq := ⟨_, rfl⟩
          rw [hLq] at hj9 hl9
          have HLQ := zF.mk hLq
          have HJ9 := zF.mk hj9
          have HL9' := zF.mk hl9
          have HK9 := zF.mk (show KBe w0 Z w9 g from hK9)
          clear hpart hj9 hl9 hLq hI9 hB9 hK9 hHeld hz4 hz70 hy0 hy1
          gi_wp2
          gi_loopw [76] (fun v wr => ∃ (i : Nat), i ≤ xs.length ∧ v = .int .i64 (i : Int) ∧ zF (J15 w0 w g false o A3 ps.length c3 (riceAll q.f0 Lq (xs.take i)) B2 D wr) ∧ zF (KBe w0 Z wr g))
            (fun v _ => xs.length - (intOf v).toNat)
          case atStart => exact ⟨0, Nat.zero_le _, rfl, ⟨by rw [List.take_zero]; exact HJ9.out⟩, HK9⟩
          case round =>
            obtain ⟨i, hil, rfl, HJ, HK⟩ := hrel
            by_cases hlt : i < xs.length
            · have hdl : decide ((i : Int) < (xs.length : Int)) = true := decide_eq_true (by omega)
              obtain ⟨ad, hA, hcell⟩ := Kd.at_int (HCX.out _ HJ.out.1.1) (i : Int) (by omega) (by omega)
              subst hA
              simp only [Int.toNat_natCast] at hcell
              have q1 := eq_true (show (i : Int) < (xs.length : Int) by omega)
              have hz4 : wr.cell? ⟨w.heap.size, 0, none⟩ = some (.pointer (some ⟨g, 0, none⟩)) := (zM HJ.out.1.2.2.2.1 0).trans rfl
              have hy0 : wr.cell? ⟨W.heap.size, 0, none⟩ = some (.int .i64 q.f0) := (zM (HK.out.same HIZ1.out HP50.out (by simp)) 0).trans rfl
              have hrd : rd xs (i : Int) = xs[i] := by unfold rd; simp [List.getD_eq_getElem?_getD, List.getElem?_eq_getElem hlt]
              have hsn : riceAll q.f0 Lq (xs.take (i + 1)) = (PL.rputR (riceAll q.f0 Lq (xs.take i)) (rd xs (i : Int)) (PL.kk q.f0)).2 := by
                rw [hrd, List.take_succ_eq_append_getElem hlt, riceAll_snoc]
              have hlc : (riceAll q.f0 Lq (xs.take i)).length < 1099511000000 := by
                have h1 := riceAll_len q.f0 (xs.take i) Lq
                have h2 := HL9'.out
                rw [List.length_take] at h1
                omega
              have hn64 : -9223372036854775808 ≤ rd xs (i : Int) ∧ rd xs (i : Int) < 9223372036854775808 := by rw [hrd]; exact HX64.out _ (List.getElem_mem hlt)
              obtain ⟨Lc, hLc⟩ : ∃ Lc, riceAll q.f0 Lq (xs.take i) = Lc := ⟨_, rfl⟩
              rw [hLc] at hsn hlc HJ
              obtain ⟨kq, hkq⟩ := PL.rput_ev Lc (rd xs (i : Int)) q.f0 hn64 hlc
              have HEV := zF.mk (hkq kq (Nat.le_refl _))
              have HSN := zF.mk hsn
              clear hsn hlc hn64 hkq hLc hrd
              gi_wp2
              refine ⟨trivial, ?_⟩
              gi_at_call 27
              refine (CallsIn.inRound lp (callsIn_wide.2 (rice_Put.calls kq g (PL.WB Lc) (Lc.length : Int) (rd xs (i : Int)) q.f0 _ _ _ w0 _ HJ.out.1.2.1 HJ.out.1.2.2.2.2.2.2 HEV.out))).mono ?_
              rintro e w10 ⟨rfl, hI10, hB10, hK10⟩
              have HJ10 := zF.mk (HJ.out.put hI10 hB10 hK10)
              have HK10 := zF.mk (HK.out.trans hK10)
              clear hI10 hB10 hK10 hz4 hy0
              gi_wp2
              go_roundw
              case rel => exact ⟨i + 1, hlt, by simp, ⟨by rw [HSN.out]; exact HJ10.out⟩, HK10⟩
              case measure => simp [intOf]; omega
            · obtain rfl : i = xs.length := by omega
              have hdl : decide (((xs.length : Nat) : Int) < (xs.length : Int)) = false := decide_eq_false (by omega)
              gi_wp2
              rw [HPART.out, HLQ.out]
              have hj := HJ.out
              rw [List.take_length] at hj
              exact ⟨KeepsFrom.of_KBe HK.out HIZ1.out _, Kp15.of_KBe HIZ.out HK.out, hj⟩
        | true =>
          rw [hraw] at hy1
          gi_wp2
          refine startR_ (n := 5) (S := fun w' => w'.cell? ⟨w.heap.size, 0, none⟩ = some (.pointer (some ⟨g, 0, none⟩)) ∧ w'.cell? ⟨w.heap.size + 1, 0, none⟩ = some (.bool false)) (ds := [4]) #[false, false, false, false, false] (by kernel_rfl) (by kernel_rfl) (by rintro ⟨a_, w_, h_⟩; exact h_) rfl rfl ⟨hz4, hz70⟩ (fun hHeld => ?_)
          refine pure_ (i := 1) (N := some 87) (v := ?_) (a' := ?_) #[false, true, false, false, false] rfl rfl (by kernel_rfl) (fun _ _ _ h => h) (Or.inl ⟨by rfl, ?_⟩) ?_ ?_
          rotate_left
          · intro w'
            go_simp
            first | done | with_reducible rfl
          rotate_left
          · simp only [Act.put, List.setIfInBounds_toArray, List.set_cons_zero, List.set_cons_succ, i64_w, i32_w]
            rfl
          refine take_ (i := 0) (N := some 86) (v := ?_) (a' := ?_) #[true, true, false, false, false] rfl rfl (by kernel_rfl) (fun _ _ _ h => h) (Or.inl ⟨by rfl, ?_⟩) hHeld ?_ ?_
          rotate_left
          · rintro w' ⟨s0, s1⟩
            go_simp
            first | done | with_reducible rfl
          rotate_left
          · simp only [Act.put, List.setIfInBounds_toArray, List.set_cons_zero, List.set_cons_succ, i64_w, i32_w]
            rfl
          refine take_ (i := 2) (N := some 88) (v := ?_) (a' := ?_) #[true, true, true, false, false] rfl rfl (by kernel_rfl) (fun _ _ _ h => h) (Or.inl ⟨by rfl, ?_⟩) hHeld ?_ ?_
          rotate_left
          · rintro w' ⟨s0, s1⟩
            go_simp
            first | done | with_reducible rfl
          rotate_left
          · simp only [Act.put, List.setIfInBounds_toArray, List.set_cons_zero, List.set_cons_succ, i64_w, i32_w]
            rfl
          refine one_ (i := 3) (N := some 89) #[true, true, true, true, false] rfl rfl (by kernel_rfl) (by decide) (fun K hK => ?_)
          refine goes_ Try.func26 (by kernel_rfl) rfl #[.bool false] (by rfl) rfl rfl (by simp only [List.map_toArray, List.map_cons, List.map_nil, Act.put, List.setIfInBounds_toArray, List.set_cons_zero, List.set_cons_succ]; first | done | rfl) ?_
          refine (section_size.calls false 4 _ rfl).mono ?_
          rintro e w8 ⟨rfl, d8_, rfl⟩
          refine ⟨_, rfl, ?_⟩
          refine hK.out _ _ hHeld (fun hHeld => ?_)
          clear hK K
          refine last_ (i := 4) (N := some 90) #[true, true, true, true, true] rfl rfl (by kernel_rfl) (by decide) (fun K hK => ?_)
          refine goes_ Try.func25 (by kernel_rfl) rfl #[.pointer (some ⟨g, 0, none⟩), .int .u64 31, .int .i64 4] (by rfl) rfl rfl (by simp only [List.map_toArray, List.map_cons, List.map_nil, Act.put, List.setIfInBounds_toArray, List.set_cons_zero, List.set_cons_succ]; first | done | rfl) ?_
          refine (bits_Writer_Put.calls g (PL.WB Lp) (Lp.length : Int) _ _ _ _ w0 _ ?qI8false ?qB8false (PL.put_eq Lp 31 4 (by have := HLP.out; omega))).mono ?_
          case qI8false => exact HIZ1.out
          case qB8false => exact ⟨HIZ2.out.os, HIZ2.out.tape, HIZ2.out.output, HIZ2.out.size, HIZ2.out.block⟩
          rintro e w9 ⟨rfl, hI9, hB9, hK9⟩
          refine ⟨_, rfl, ?_⟩
          refine hK.out _ _ ?_
          clear hK K
          refine done_ (by kernel_rfl) ?_
          have hj9 : J15 w0 w g false o A3 ps.length c3 (Lp ++ PL.digs 31 (PL.hw 4)) B2 D w9 := HIZ.out.put hI9 hB9 hK9
          have hk9 : KBe w0 Z w9 g := hK9
          have HJ9 := zF.mk hj9
          have HK9 := zF.mk hk9
          have hl9 : (Lp ++ PL.digs 31 (PL.hw 4)).length + 100 + 65600 * xs.length < 1098000000000 := by
            have h1 := PL.hw_le 4
            have h2 := HLP.out
            rw [List.length_append, PL.digs_len]
            omega
          have HL9' := zF.mk hl9
          have hpart : putPart false Lp q xs = rawAll q.f0 ((Lp ++ PL.digs 31 (PL.hw 4)) ++ PL.digs (IntKind.u64.wrap q.f0) (PL.hw 5)) xs := by
            unfold putPart
            rw [if_pos hraw]
            rfl
          have HPART := zF.mk hpart
          clear hj9 hk9 hl9 hpart hI9 hB9 hK9 hHeld hz4 hz70 hy0 hy1
          have hz4 : w9.cell? ⟨w.heap.size, 0, none⟩ = some (.pointer (some ⟨g, 0, none⟩)) := (zM HJ9.out.1.2.2.2.1 0).trans rfl
          have hy0 : w9.cell? ⟨W.heap.size, 0, none⟩ = some (.int .i64 q.f0) := (zM (HK9.out.same HIZ1.out HP50.out (by simp)) 0).trans rfl
          gi_wp2
          refine ⟨trivial, ?_⟩
          gi_at_call 25
          refine (CallsIn.inRound lp (callsIn_wide.2 (bits_Writer_Put.calls g (PL.WB (Lp ++ PL.digs 31 (PL.hw 4))) _ _ _ _ _ w0 _ HJ9.out.1.2.1 HJ9.out.1.2.2.2.2.2.2 (PL.put_eq (Lp ++ PL.digs 31 (PL.hw 4)) (IntKind.u64.wrap q.f0) 5 (by have := HL9'.out; omega))))).mono ?_
          rintro e w11 ⟨rfl, hI11, hB11, hK11⟩
          have hj11 := HJ9.out.put hI11 hB11 hK11
          have hk11 := HK9.out.trans hK11
          have hl11 : ((Lp ++ PL.digs 31 (PL.hw 4)) ++ PL.digs (IntKind.u64.wrap q.f0) (PL.hw 5)).length + 65600 * xs.length < 1099000000000 := by
            have h1 := PL.hw_le 5
            have h2 := HL9'.out
            rw [List.length_append, PL.digs_len]
            omega
          obtain ⟨Lq, hLq⟩ : ∃ Lq, (Lp ++ PL.digs 31 (PL.hw 4)) ++ PL.digs (IntKind.u64.wrap q.f0) (PL.hw 5) = Lq := ⟨_, rfl⟩
          rw [hLq] at hj11 hl11
          have HLQ := zF.mk hLq
          have HJ11 := zF.mk hj11
          have HL11 := zF.mk hl11
          have HK11 := zF.mk hk11
          clear hj11 hk11 hl11 hLq hI11 hB11 hK11 hz4 hy0
          gi_wp2
          gi_loopw [98] (fun v wr => ∃ (i : Nat), i ≤ xs.length ∧ v = .int .i64 (i : Int) ∧ zF (J15 w0 w g false o A3 ps.length c3 (rawAll q.f0 Lq (xs.take i)) B2 D wr) ∧ zF (KBe w0 Z wr g))
            (fun v _ => xs.length - (intOf v).toNat)
          case atStart => exact ⟨0, Nat.zero_le _, rfl, ⟨by rw [List.take_zero]; exact HJ11.out⟩, HK11⟩
          case round =>
            obtain ⟨i, hil, rfl, HJ, HK⟩ := hrel
            by_cases hlt : i < xs.length
            · have hdl : decide ((i : Int) < (xs.length : Int)) = true := decide_eq_true (by omega)
              obtain ⟨ad, hA, hcell⟩ := Kd.at_int (HCX.out _ HJ.out.1.1) (i : Int) (by omega) (by omega)
              subst hA
              simp only [Int.toNat_natCast] at hcell
              have q1 := eq_true (show (i : Int) < (xs.length : Int) by omega)
              have hz4 : wr.cell? ⟨w.heap.size, 0, none⟩ = some (.pointer (some ⟨g, 0, none⟩)) := (zM HJ.out.1.2.2.2.1 0).trans rfl
              have hy0 : wr.cell? ⟨W.heap.size, 0, none⟩ = some (.int .i64 q.f0) := (zM (HK.out.same HIZ1.out HP50.out (by simp)) 0).trans rfl
              have hrd : rd xs (i : Int) = xs[i] := by unfold rd; simp [List.getD_eq_getElem?_getD, List.getElem?_eq_getElem hlt]
              have hsn : rawAll q.f0 Lq (xs.take (i + 1)) = rawAll q.f0 Lq (xs.take i) ++ PL.digs (IntKind.u64.wrap (rd xs (i : Int))) (PL.hw q.f0) := by
                rw [hrd, List.take_succ_eq_append_getElem hlt, rawAll_snoc]
              have hlc : (rawAll q.f0 Lq (xs.take i)).length < 1099511000000 := by
                have h1 := rawAll_len q.f0 (xs.take i) Lq
                have h2 := HL11.out
                rw [List.length_take] at h1
                omega
              obtain ⟨Lc, hLc⟩ : ∃ Lc, rawAll q.f0 Lq (xs.take i) = Lc := ⟨_, rfl⟩
              rw [hLc] at hsn hlc HJ
              have HEV := zF.mk (PL.put_eq Lc (IntKind.u64.wrap (rd xs (i : Int))) q.f0 (by omega))
              have HSN := zF.mk hsn
              clear hsn hlc hLc hrd
              gi_wp2
              refine ⟨trivial, ?_⟩
              gi_at_call 25
              refine (CallsIn.inRound lp (callsIn_wide.2 (bits_Writer_Put.calls g (PL.WB Lc) (Lc.length : Int) _ _ _ _ w0 _ HJ.out.1.2.1 HJ.out.1.2.2.2.2.2.2 HEV.out))).mono ?_
              rintro e w10 ⟨rfl, hI10, hB10, hK10⟩
              have HJ10 := zF.mk (HJ.out.put hI10 hB10 hK10)
              have HK10 := zF.mk (HK.out.trans hK10)
              clear hI10 hB10 hK10 hz4 hy0
              gi_wp2
              go_roundw
              case rel => exact ⟨i + 1, hlt, by simp, ⟨by rw [HSN.out]; exact HJ10.out⟩, HK10⟩
              case measure => simp [intOf]; omega
            · obtain rfl : i = xs.length := by omega
              have hdl : decide (((xs.length : Nat) : Int) < (xs.length : Int)) = false := decide_eq_false (by omega)
              gi_wp2
              rw [HPART.out, HLQ.out]
              have hj := HJ.out
              rw [List.take_length] at hj
              exact ⟨KeepsFrom.of_KBe HK.out HIZ1.out _, Kp15.of_KBe HIZ.out HK.out, hj⟩
    | true =>
      gi_wp2
      refine ⟨trivial, ?_⟩
      gi_at_call 25
      refine (callsIn_wide.2 (bits_Writer_Put.calls g _ _ _ _ _ _ w0 _ HIW.out.2.1 HIW.out.2.2.2.2.2.2 (PL.put_eq L 1 2 (by have := HROOM.out; omega)))).mono ?_
      rintro e w4 ⟨rfl, hI4, hB4, hK4⟩
      have HI4 := zF.mk (HIW.out.put hI4 hB4 hK4)
      have HKD4 := zF.mk (hK4.same HIW.out.2.1 HKD.out (by simp))
      clear hI4 hB4 hK4 hz4 hz70
      have hz4 : w4.cell? ⟨w.heap.size, 0, none⟩ = some (.pointer (some ⟨g, 0, none⟩)) := (zM HI4.out.2.2.2.1 0).trans rfl
      have hz71 : w4.cell? ⟨w.heap.size + 1, 1, none⟩ = some (.int .i64 o) := (zM HI4.out.2.2.2.2.1 1).trans rfl
      gi_wp2
      refine ⟨trivial, ?_⟩
      gi_at_call 25
      refine (callsIn_wide.2 (bits_Writer_Put.calls g _ _ _ _ _ _ w0 _ HI4.out.2.1 HI4.out.2.2.2.2.2.2 (PL.put_eq (L ++ PL.digs 1 (PL.hw 2)) (IntKind.u64.wrap o) 4 (by have := HROOM.out; have := PL.hw_le 2; rw [List.length_append, PL.digs_len]; omega)))).mono ?_
      rintro e w5 ⟨rfl, hI5, hB5, hK5⟩
      have HI5 := zF.mk (HI4.out.put hI5 hB5 hK5)
      have HKD5 := zF.mk (hK5.same HI4.out.2.1 HKD4.out (by simp))
      clear hI5 hB5 hK5 hz4 hz71
      have hz70 : w5.cell? ⟨w.heap.size + 1, 0, none⟩ = some (.bool true) := (zM HI5.out.2.2.2.2.1 0).trans rfl
      have hz71 : w5.cell? ⟨w.heap.size + 1, 1, none⟩ = some (.int .i64 o) := (zM HI5.out.2.2.2.2.1 1).trans rfl
      have hz72 : w5.cell? ⟨w.heap.size + 1, 2, none⟩ = some (.slice A3 ps.length c3) := (zM HI5.out.2.2.2.2.1 2).trans rfl
      gi_wp2
      refine wpIn_label ?_
      gi_wp2_with (refine ⟨trivial, ?_⟩; gi_at_call 23; refine (sec_each_in _ A l.length c order true o A3 ps.length c3 _).mono ?_; rintro e w6 ⟨rfl, rfl⟩)
      obtain ⟨W6, hW6⟩ : ∃ W6, ((w5.alloc (.cells #[.slice A l.length c] 22)).alloc (.cells #[.int .i64 order] 3)).alloc (.cells #[.bool true, .int .i64 o, .slice A3 ps.length c3] 25) = W6 := ⟨_, rfl⟩
      have c1 : W6.heap[w5.heap.size]? = some (.cells #[.slice A l.length c] 22 (0, 0)) := by rw [← hW6]; exact zJ (zJ (World.alloc_heap_new w5 _) _) _
      have c2 : W6.heap[w5.heap.size + 1]? = some (.cells #[.int .i64 order] 3 (0, 0)) := by
        have h := World.alloc_heap_new (w5.alloc (.cells #[.slice A l.length c] 22)) (.cells #[.int .i64 order] 3)
        rw [World.size_alloc] at h
        rw [← hW6]; exact zJ h _
      have c3_ : W6.heap[w5.heap.size + 2]? = some (.cells #[.bool true, .int .i64 o, .slice A3 ps.length c3] 25 (0, 0)) := by
        have h := World.alloc_heap_new ((w5.alloc (.cells #[.slice A l.length c] 22)).alloc (.cells #[.int .i64 order] 3)) (.cells #[.bool true, .int .i64 o, .slice A3 ps.length c3] 25)
        rw [World.size_alloc, World.size_alloc] at h
        rw [← hW6]; exact h
      have hB6 : Below w5.heap.size w5 W6 := by rw [← hW6]; exact (((Below.refl _ w5).alloc (Nat.le_refl _) _).alloc (by simp) _).alloc (by simp; omega) _
      have hs6 : W6.heap.size = w5.heap.size + 3 := by rw [← hW6]; simp
      have hDl : D < w5.heap.size := (Array.getElem?_eq_some_iff.1 HKD5.out).1
      have J6 : J15 w0 w g true o A3 ps.length c3 (putAll15 true (headB L true o) []) w5.heap.size D W6 := ⟨HI5.out.below hsz hB6, ⟨_, c1⟩, (hB6.block _ hDl).trans HKD5.out⟩
      have k6 : KC w0 w W6 := J6.1.1
      rw [hW6]
      have hgives2 := sec_each1 5 (by omega) k w0 W6 w5.heap.size (w5.heap.size + 1) (w5.heap.size + 2) A c l order true o A3 c3 ps cuts HCUT.out HFIT.out HLEN.out HBIG.out Hc1.out (by omega) (by omega) (fun W' hk => HC3.out W' (k6.trans hk)) c1 c2 c3_
      have hsw6 : w0.heap.size ≤ W6.heap.size := by omega
      obtain ⟨B2, hB2⟩ : ∃ B2, B2 = w5.heap.size := ⟨_, rfl⟩
      rw [← hB2] at hgives2 hs6 J6 hDl ⊢
      have hB2k : w0.heap.size ≤ B2 := by omega
      clear hW6 c2 c3_ c1 hB6 hz70 hz71 hz72
      refine wpIn_rangeFunc_turn rfl (by omega) (gf := 43) rfl trivial (enters_of Try.func43 (by kernel_rfl) rfl) (fun _ => rfl) hgives2 (fun h k => Kp15.trans h k) (Kp15.book hsw6)
        (fun pre W => J15 w0 w g true o A3 ps.length c3 (putAll15 true (headB L true o) pre) B2 D W) (fun cd pre W => False)
        ?hI2 ?hIx2 ?hTI2 ?hTK2 J6 ?round2 ?done2 ?stop2
      case hI2 => exact fun s X Y row hs hg hr => hs.grown hsz (S := W6.heap.size) (by omega) (by omega) hg hr
      case hIx2 => exact fun cd s X Y row hs hg hr => hs
      case hTI2 => exact fun pre X Y hs ht => hs.turn hsz (by omega) ht
      case hTK2 =>
        rintro X Y ⟨u, u', hb, rfl⟩
        exact (KeepsOthers.setCell _ _ _).from _
      case stop2 => exact fun D cd pre W hD hp h _ => h.elim
      case done2 =>
        rintro D2 W7 hD2 hi7 hK7
        have hc8 := hi7.1.2.2.2.2.2.1.cell
        have hf8 := hi7.1.2.2.2.2.2.1.frozen
        have HI7 := zF.mk hi7
        have HK7 := zF.mk hK7
        clear hi7 hK7 hgives2 J6 k6
        have hcz : (W7.setCell ⟨w.heap.size + 1 + 1, 0, none⟩ (.int .i64 0)).heap[D2]? = some (.deferred (some [])) := (Below.heap_setCell W7 ⟨w.heap.size + 1 + 1, 0, none⟩ _ D2 (by show D2 ≠ w.heap.size + 1 + 1; omega)).trans HK7.out
        have hcy : (W7.setCell ⟨w.heap.size + 1 + 1, 0, none⟩ (.int .i64 0)).heap[D]? = some (.deferred (some [])) := (Below.heap_setCell W7 ⟨w.heap.size + 1 + 1, 0, none⟩ _ D (by show D ≠ w.heap.size + 1 + 1; omega)).trans HI7.out.2.2
        have hcy2 : ((W7.setCell ⟨w.heap.size + 1 + 1, 0, none⟩ (.int .i64 0)).putObj D2 (.deferred none)).heap[D]? = some (.deferred (some [])) := (World.putObj_heap_other (by omega)).trans hcy
        have HC1 := zF.mk hcz
        have HC2 := zF.mk hcy2
        clear hcz hcy hcy2
        have t7 := HI7.out.1.told hsz 0
        have t8 := t7.grown hsz (grownBy_putObj' _ D2 (.deferred none)) (fun q e => by cases e; exact ⟨by omega, _, HC1.out, rfl⟩)
        have t9 := t8.grown hsz (grownBy_putObj' _ D (.deferred none)) (fun q e => by cases e; exact ⟨by omega, _, HC2.out, rfl⟩)
        have HT9 := zF.mk t9
        clear t7 t8 t9
        gi_wp2
        obtain ⟨_, ht2, ht3, _, _, ht6, ht7⟩ := HT9.out
        have hc6 := ht6.cell
        rw [Exit.noGoto_ret]
        refine ⟨by simp, .inl ⟨_, _, rfl, run_takeDeferred HC1.out, ?_⟩⟩
        refine ⟨by simp, .inl ⟨_, _, rfl, run_takeDeferred HC2.out, ?_⟩⟩
        refine ⟨.int .i64 0, ?_, rfl, ht2, ht7, ht3⟩
        simp [results, Try.f9, go_sem, hc6]
      case round2 =>
        rintro lp pre ⟨q, A', c', xs⟩ W K hi hfull hK
        simp only [encE, List.map_toArray] at hK ⊢
        gi_wp2
        have hmem : (q, A', c', xs) ∈ rows15 cuts A c l ps := hfull.subset (by simp)
        obtain ⟨hCx, hcx, hlx, hqm⟩ := HGOOD.out _ hmem
        have hWs : w0.heap.size ≤ W.heap.size := Nat.le_trans hsz hi.1.1.1
        refine hK _ (W.alloc (.cells #[.int .i64 q.f0, .bool q.f1] 50)) ((KeepsOthers.alloc _ _).from _) ⟨KC.of_below hWs (zE (Below.refl _ _) _), fun cs t f e => zJ e _⟩ (hi.below hsz (zE (Below.refl _ _) _)) ?_
        intro Z hZb hZc hZr hZk hZi
        have hp50 : Z.heap[W.heap.size]? = some (.cells #[.int .i64 q.f0, .bool q.f1] 50 (0, 0)) := hZc _ _ _ _ (World.alloc_heap_new W _)
        have hy0 : Z.cell? ⟨W.heap.size, 0, none⟩ = some (.int .i64 q.f0) := (zM hp50 0).trans rfl
        have hy1 : Z.cell? ⟨W.heap.size, 1, none⟩ = some (.bool q.f1) := (zM hp50 1).trans rfl
        have hz4 : Z.cell? ⟨w.heap.size, 0, none⟩ = some (.pointer (some ⟨g, 0, none⟩)) := (zM hZi.1.2.2.2.1 0).trans rfl
        have hz70 : Z.cell? ⟨w.heap.size + 1, 0, none⟩ = some (.bool true) := (zM hZi.1.2.2.2.2.1 0).trans rfl
        have hsnoc : putAll15 true (headB L true o) (pre ++ [(q, A', c', xs)]) = putPart true (putAll15 true (headB L true o) pre) q xs := putAll15_snoc _ _ _ _
        have hlp := put_room true o cuts A c l ps L pre (q, A', c', xs) hfull (fun x hx => (HGOOD.out x hx).2.2.1) HROOM.out
        have hx64 : ∀ y ∈ xs, -9223372036854775808 ≤ y ∧ y < 9223372036854775808 := fun y hy => H64.out y (rows15_sub _ _ _ _ _ _ hmem y hy)
        obtain ⟨Lp, hLp⟩ : ∃ Lp, putAll15 true (headB L true o) pre = Lp := ⟨_, rfl⟩
        rw [hLp] at hsnoc hlp hZi
        rw [hsnoc]
        have HCX := zF.mk hCx
        have HIZ := zF.mk hZi
        have HIZ1 := zF.mk hZi.1.2.1
        have HIZ2 := zF.mk hZi.1.2.2.2.2.2.2
        have HLP := zF.mk hlp
        have HP50 := zF.mk hp50
        have HX64 := zF.mk hx64
        have hxl : xs.length < 1000000 := Nat.lt_of_le_of_lt hlx HL9.out
        clear hK hi hfull hmem hCx hcx hlx hqm hZb hZc hZr hZk hp50 hZi hlp hx64 hLp hsnoc hgives2 J6 k6
        cases hraw : q.f1 with
        | false =>
          rw [hraw] at hy1
          gi_wp2
          refine startR_ (n := 8) (S := fun w' => w'.cell? ⟨w.heap.size, 0, none⟩ = some (.pointer (some ⟨g, 0, none⟩)) ∧ w'.cell? ⟨W.heap.size, 0, none⟩ = some (.int .i64 q.f0) ∧ w'.cell? ⟨w.heap.size + 1, 0, none⟩ = some (.bool true)) (ds := [7]) #[false, false, false, false, false, false, false, false] (by kernel_rfl) (by kernel_rfl) (by rintro ⟨a_, w_, h_⟩; exact h_) rfl rfl ⟨hz4, hy0, hz70⟩ (fun hHeld => ?_)
          refine pure_ (i := 1) (N := some 67) (v := ?_) (a' := ?_) #[false, true, false, false, false, false, false, false] rfl rfl (by kernel_rfl) (fun _ _ _ h => h) (Or.inl ⟨by rfl, ?_⟩) ?_ ?_
          rotate_left
          · intro w'
            go_simp
            first | done | with_reducible rfl
          rotate_left
          · simp only [Act.put, List.setIfInBounds_toArray, List.set_cons_zero, List.set_cons_succ, i64_w, i32_w]
            rfl
          refine pure_ (i := 4) (N := some 70) (v := ?_) (a' := ?_) #[false, true, false, false, true, false, false, false] rfl rfl (by kernel_rfl) (fun _ _ _ h => h) (Or.inl ⟨by rfl, ?_⟩) ?_ ?_
          rotate_left
          · intro w'
            go_simp
            first | done | with_reducible rfl
          rotate_left
          · simp only [Act.put, List.setIfInBounds_toArray, List.set_cons_zero, List.set_cons_succ, i64_w, i32_w]
            rfl
          refine take_ (i := 0) (N := some 66) (v := ?_) (a' := ?_) #[true, true, false, false, true, false, false, false] rfl rfl (by kernel_rfl) (fun _ _ _ h => h) (Or.inl ⟨by rfl, ?_⟩) hHeld ?_ ?_
          rotate_left
          · rintro w' ⟨s0, s1, s2⟩
            go_simp
            first | done | with_reducible rfl
          rotate_left
          · simp only [Act.put, List.setIfInBounds_toArray, List.set_cons_zero, List.set_cons_succ, i64_w, i32_w]
            rfl
          refine take_ (i := 2) (N := some 68) (v := ?_) (a' := ?_) #[true, true, true, false, true, false, false, false] rfl rfl (by kernel_rfl) (fun _ _ _ h => h) (Or.inl ⟨by rfl, ?_⟩) hHeld ?_ ?_
          rotate_left
          · rintro w' ⟨s0, s1, s2⟩
            go_simp
            first | done | with_reducible rfl
          rotate_left
          · simp only [Act.put, List.setIfInBounds_toArray, List.set_cons_zero, List.set_cons_succ, i64_w, i32_w]
            rfl
          refine pure_ (i := 3) (N := some 69) (v := ?_) (a' := ?_) #[true, true, true, true, true, false, false, false] rfl rfl (by kernel_rfl) (fun _ _ _ h => h) (Or.inl ⟨by rfl, ?_⟩) ?_ ?_
          rotate_left
          · intro w'
            go_simp
            first | done | with_reducible rfl
          rotate_left
          · simp only [Act.put, List.setIfInBounds_toArray, List.set_cons_zero, List.set_cons_succ, i64_w, i32_w]
            rfl
          refine take_ (i := 5) (N := some 71) (v := ?_) (a' := ?_) #[true, true, true, true, true, true, false, false] rfl rfl (by kernel_rfl) (fun _ _ _ h => h) (Or.inl ⟨by rfl, ?_⟩) hHeld ?_ ?_
          rotate_left
          · rintro w' ⟨s0, s1, s2⟩
            go_simp
            first | done | with_reducible rfl
          rotate_left
          · simp only [Act.put, List.setIfInBounds_toArray, List.set_cons_zero, List.set_cons_succ, i64_w, i32_w]
            rfl
          refine one_ (i := 6) (N := some 72) #[true, true, true, true, true, true, true, false] rfl rfl (by kernel_rfl) (by decide) (fun K hK => ?_)
          refine goes_ Try.func26 (by kernel_rfl) rfl #[.bool true] (by rfl) rfl rfl (by simp only [List.map_toArray, List.map_cons, List.map_nil, Act.put, List.setIfInBounds_toArray, List.set_cons_zero, List.set_cons_succ]; first | done | rfl) ?_
          refine (section_size.calls true 5 _ rfl).mono ?_
          rintro e w8 ⟨rfl, d8_, rfl⟩
          refine ⟨_, rfl, ?_⟩
          refine hK.out _ _ hHeld (fun hHeld => ?_)
          clear hK K
          refine last_ (i := 7) (N := some 73) #[true, true, true, true, true, true, true, true] rfl rfl (by kernel_rfl) (by decide) (fun K hK => ?_)
          refine goes_ Try.func25 (by kernel_rfl) rfl #[.pointer (some ⟨g, 0, none⟩), .int .u64 (IntKind.u64.wrap q.f0), .int .i64 5] (by rfl) rfl rfl (by simp only [List.map_toArray, List.map_cons, List.map_nil, Act.put, List.setIfInBounds_toArray, List.set_cons_zero, List.set_cons_succ]; first | done | rfl) ?_
          refine (bits_Writer_Put.calls g (PL.WB Lp) (Lp.length : Int) _ _ _ _ w0 _ ?qI9true ?qB9true (PL.put_eq Lp (IntKind.u64.wrap q.f0) 5 (by have := HLP.out; omega))).mono ?_
          case qI9true => exact HIZ1.out
          case qB9true => exact ⟨HIZ2.out.os, HIZ2.out.tape, HIZ2.out.output, HIZ2.out.size, HIZ2.out.block⟩
          rintro e w9 ⟨rfl, hI9, hB9, hK9⟩
          refine ⟨_, rfl, ?_⟩
          refine hK.out _ _ ?_
          clear hK K
          refine done_ (by kernel_rfl) ?_
          have hpart : putPart true Lp q xs = riceAll q.f0 (Lp ++ PL.digs (IntKind.u64.wrap q.f0) (PL.hw 5)) xs := by
            unfold putPart
            rw [if_neg (by rw [hraw]; simp)]
            rfl
          have HPART := zF.mk hpart
          have hj9 : J15 w0 w g true o A3 ps.length c3 (Lp ++ PL.digs (IntKind.u64.wrap q.f0) (PL.hw 5)) B2 D w9 := HIZ.out.put hI9 hB9 hK9
          have hl9 : (Lp ++ PL.digs (IntKind.u64.wrap q.f0) (PL.hw 5)).length + 65600 * xs.length < 1099000000000 := by
            have h1 := PL.hw_le 5
            have h2 := HLP.out
            rw [List.length_append, PL.digs_len]
            omega
          obtain ⟨Lq, hLq⟩ : ∃ Lq, Lp ++ PL.digs (IntKind.u64.wrap q.f0) (PL.hw 5) = Lq := ⟨_, rfl⟩
          rw [hLq] at hj9 hl9
          have HLQ := zF.mk hLq
          have HJ9 := zF.mk hj9
          have HL9' := zF.mk hl9
          have HK9 := zF.mk (show KBe w0 Z w9 g from hK9)
          clear hpart hj9 hl9 hLq hI9 hB9 hK9 hHeld hz4 hz70 hy0 hy1
          gi_wp2
          gi_loopw [76] (fun v wr => ∃ (i : Nat), i ≤ xs.length ∧ v = .int .i64 (i : Int) ∧ zF (J15 w0 w g true o A3 ps.length c3 (riceAll q.f0 Lq (xs.take i)) B2 D wr) ∧ zF (KBe w0 Z wr g))
            (fun v _ => xs.length - (intOf v).toNat)
          case atStart => exact ⟨0, Nat.zero_le _, rfl, ⟨by rw [List.take_zero]; exact HJ9.out⟩, HK9⟩
          case round =>
            obtain ⟨i, hil, rfl, HJ, HK⟩ := hrel
            by_cases hlt : i < xs.length
            · have hdl : decide ((i : Int) < (xs.length : Int)) = true := decide_eq_true (by omega)
              obtain ⟨ad, hA, hcell⟩ := Kd.at_int (HCX.out _ HJ.out.1.1) (i : Int) (by omega) (by omega)
              subst hA
              simp only [Int.toNat_natCast] at hcell
              have q1 := eq_true (show (i : Int) < (xs.length : Int) by omega)
              have hz4 : wr.cell? ⟨w.heap.size, 0, none⟩ = some (.pointer (some ⟨g, 0, none⟩)) := (zM HJ.out.1.2.2.2.1 0).trans rfl
              have hy0 : wr.cell? ⟨W.heap.size, 0, none⟩ = some (.int .i64 q.f0) := (zM (HK.out.same HIZ1.out HP50.out (by simp)) 0).trans rfl
              have hrd : rd xs (i : Int) = xs[i] := by unfold rd; simp [List.getD_eq_getElem?_getD, List.getElem?_eq_getElem hlt]
              have hsn : riceAll q.f0 Lq (xs.take (i + 1)) = (PL.rputR (riceAll q.f0 Lq (xs.take i)) (rd xs (i : Int)) (PL.kk q.f0)).2 := by
                rw [hrd, List.take_succ_eq_append_getElem hlt, riceAll_snoc]
              have hlc : (riceAll q.f0 Lq (xs.take i)).length < 1099511000000 := by
                have h1 := riceAll_len q.f0 (xs.take i) Lq
                have h2 := HL9'.out
                rw [List.length_take] at h1
                omega
              have hn64 : -9223372036854775808 ≤ rd xs (i : Int) ∧ rd xs (i : Int) < 9223372036854775808 := by rw [hrd]; exact HX64.out _ (List.getElem_mem hlt)
              obtain ⟨Lc, hLc⟩ : ∃ Lc, riceAll q.f0 Lq (xs.take i) = Lc := ⟨_, rfl⟩
              rw [hLc] at hsn hlc HJ
              obtain ⟨kq, hkq⟩ := PL.rput_ev Lc (rd xs (i : Int)) q.f0 hn64 hlc
              have HEV := zF.mk (hkq kq (Nat.le_refl _))
              have HSN := zF.mk hsn
              clear hsn hlc hn64 hkq hLc hrd
              gi_wp2
              refine ⟨trivial, ?_⟩
              gi_at_call 27
              refine (CallsIn.inRound lp (callsIn_wide.2 (rice_Put.calls kq g (PL.WB Lc) (Lc.length : Int) (rd xs (i : Int)) q.f0 _ _ _ w0 _ HJ.out.1.2.1 HJ.out.1.2.2.2.2.2.2 HEV.out))).mono ?_
              rintro e w10 ⟨rfl, hI10, hB10, hK10⟩
              have HJ10 := zF.mk (HJ.out.put hI10 hB10 hK10)
              have HK10 := zF.mk (HK.out.trans hK10)
              clear hI10 hB10 hK10 hz4 hy0
              gi_wp2
              go_roundw
              case rel => exact ⟨i + 1, hlt, by simp, ⟨by rw [HSN.out]; exact HJ10.out⟩, HK10⟩
              case measure => simp [intOf]; omega
            · obtain rfl : i = xs.length := by omega
              have hdl : decide (((xs.length : Nat) : Int) < (xs.length : Int)) = false := decide_eq_false (by omega)
              gi_wp2
              rw [HPART.out, HLQ.out]
              have hj := HJ.out
              rw [List.take_length] at hj
              exact ⟨KeepsFrom.of_KBe HK.out HIZ1.out _, Kp15.of_KBe HIZ.out HK.out, hj⟩
        | true =>
          rw [hraw] at hy1
          gi_wp2
          refine startR_ (n := 5) (S := fun w' => w'.cell? ⟨w.heap.size, 0, none⟩ = some (.pointer (some ⟨g, 0, none⟩)) ∧ w'.cell? ⟨w.heap.size + 1, 0, none⟩ = some (.bool true)) (ds := [4]) #[false, false, false, false, false] (by kernel_rfl) (by kernel_rfl) (by rintro ⟨a_, w_, h_⟩; exact h_) rfl rfl ⟨hz4, hz70⟩ (fun hHeld => ?_)
          refine pure_ (i := 1) (N := some 87) (v := ?_) (a' := ?_) #[false, true, false, false, false] rfl rfl (by kernel_rfl) (fun _ _ _ h => h) (Or.inl ⟨by rfl, ?_⟩) ?_ ?_
          rotate_left
          · intro w'
            go_simp
            first | done | with_reducible rfl
          rotate_left
          · simp only [Act.put, List.setIfInBounds_toArray, List.set_cons_zero, List.set_cons_succ, i64_w, i32_w]
            rfl
          refine take_ (i := 0) (N := some 86) (v := ?_) (a' := ?_) #[true, true, false, false, false] rfl rfl (by kernel_rfl) (fun _ _ _ h => h) (Or.inl ⟨by rfl, ?_⟩) hHeld ?_ ?_
          rotate_left
          · rintro w' ⟨s0, s1⟩
            go_simp
            first | done | with_reducible rfl
          rotate_left
          · simp only [Act.put, List.setIfInBounds_toArray, List.set_cons_zero, List.set_cons_succ, i64_w, i32_w]
            rfl
          refine take_ (i := 2) (N := some 88) (v := ?_) (a' := ?_) #[true, true, true, false, false] rfl rfl (by kernel_rfl) (fun _ _ _ h => h) (Or.inl ⟨by rfl, ?_⟩) hHeld ?_ ?_
          rotate_left
          · rintro w' ⟨s0, s1⟩
            go_simp
            first | done | with_reducible rfl
          rotate_left
          · simp only [Act.put, List.setIfInBounds_toArray, List.set_cons_zero, List.set_cons_succ, i64_w, i32_w]
            rfl
          refine one_ (i := 3) (N := some 89) #[true, true, true, true, false] rfl rfl (by kernel_rfl) (by decide) (fun K hK => ?_)
          refine goes_ Try.func26 (by kernel_rfl) rfl #[.bool true] (by rfl) rfl rfl (by simp only [List.map_toArray, List.map_cons, List.map_nil, Act.put, List.setIfInBounds_toArray, List.set_cons_zero, List.set_cons_succ]; first | done | rfl) ?_
          refine (section_size.calls true 5 _ rfl).mono ?_
          rintro e w8 ⟨rfl, d8_, rfl⟩
          refine ⟨_, rfl, ?_⟩
          refine hK.out _ _ hHeld (fun hHeld => ?_)
          clear hK K
          refine last_ (i := 4) (N := some 90) #[true, true, true, true, true] rfl rfl (by kernel_rfl) (by decide) (fun K hK => ?_)
          refine goes_ Try.func25 (by kernel_rfl) rfl #[.pointer (some ⟨g, 0, none⟩), .int .u64 31, .int .i64 5] (by rfl) rfl rfl (by simp only [List.map_toArray, List.map_cons, List.map_nil, Act.put, List.setIfInBounds_toArray, List.set_cons_zero, List.set_cons_succ]; first | done | rfl) ?_
          refine (bits_Writer_Put.calls g (PL.WB Lp) (Lp.length : Int) _ _ _ _ w0 _ ?qI8true ?qB8true (PL.put_eq Lp 31 5 (by have := HLP.out; omega))).mono ?_
          case qI8true => exact HIZ1.out
          case qB8true => exact ⟨HIZ2.out.os, HIZ2.out.tape, HIZ2.out.output, HIZ2.out.size, HIZ2.out.block⟩
          rintro e w9 ⟨rfl, hI9, hB9, hK9⟩
          refine ⟨_, rfl, ?_⟩
          refine hK.out _ _ ?_
          clear hK K
          refine done_ (by kernel_rfl) ?_
          have hj9 : J15 w0 w g true o A3 ps.length c3 (Lp ++ PL.digs 31 (PL.hw 5)) B2 D w9 := HIZ.out.put hI9 hB9 hK9
          have hk9 : KBe w0 Z w9 g := hK9
          have HJ9 := zF.mk hj9
          have HK9 := zF.mk hk9
          have hl9 : (Lp ++ PL.digs 31 (PL.hw 5)).length + 100 + 65600 * xs.length < 1098000000000 := by
            have h1 := PL.hw_le 5
            have h2 := HLP.out
            rw [List.length_append, PL.digs_len]
            omega
          have HL9' := zF.mk hl9
          have hpart : putPart true Lp q xs = rawAll q.f0 ((Lp ++ PL.digs 31 (PL.hw 5)) ++ PL.digs (IntKind.u64.wrap q.f0) (PL.hw 5)) xs := by
            unfold putPart
            rw [if_pos hraw]
            rfl
          have HPART := zF.mk hpart
          clear hj9 hk9 hl9 hpart hI9 hB9 hK9 hHeld hz4 hz70 hy0 hy1
          have hz4 : w9.cell? ⟨w.heap.size, 0, none⟩ = some (.pointer (some ⟨g, 0, none⟩)) := (zM HJ9.out.1.2.2.2.1 0).trans rfl
          have hy0 : w9.cell? ⟨W.heap.size, 0, none⟩ = some (.int .i64 q.f0) := (zM (HK9.out.same HIZ1.out HP50.out (by simp)) 0).trans rfl
          gi_wp2
          refine ⟨trivial, ?_⟩
          gi_at_call 25
          refine (CallsIn.inRound lp (callsIn_wide.2 (bits_Writer_Put.calls g (PL.WB (Lp ++ PL.digs 31 (PL.hw 5))) _ _ _ _ _ w0 _ HJ9.out.1.2.1 HJ9.out.1.2.2.2.2.2.2 (PL.put_eq (Lp ++ PL.digs 31 (PL.hw 5)) (IntKind.u64.wrap q.f0) 5 (by have := HL9'.out; omega))))).mono ?_
          rintro e w11 ⟨rfl, hI11, hB11, hK11⟩
          have hj11 := HJ9.out.put hI11 hB11 hK11
          have hk11 := HK9.out.trans hK11
          have hl11 : ((Lp ++ PL.digs 31 (PL.hw 5)) ++ PL.digs (IntKind.u64.wrap q.f0) (PL.hw 5)).length + 65600 * xs.length < 1099000000000 := by
            have h1 := PL.hw_le 5
            have h2 := HL9'.out
            rw [List.length_append, PL.digs_len]
            omega
          obtain ⟨Lq, hLq⟩ : ∃ Lq, (Lp ++ PL.digs 31 (PL.hw 5)) ++ PL.digs (IntKind.u64.wrap q.f0) (PL.hw 5) = Lq := ⟨_, rfl⟩
          rw [hLq] at hj11 hl11
          have HLQ := zF.mk hLq
          have HJ11 := zF.mk hj11
          have HL11 := zF.mk hl11
          have HK11 := zF.mk hk11
          clear hj11 hk11 hl11 hLq hI11 hB11 hK11 hz4 hy0
          gi_wp2
          gi_loopw [98] (fun v wr => ∃ (i : Nat), i ≤ xs.length ∧ v = .int .i64 (i : Int) ∧ zF (J15 w0 w g true o A3 ps.length c3 (rawAll q.f0 Lq (xs.take i)) B2 D wr) ∧ zF (KBe w0 Z wr g))
            (fun v _ => xs.length - (intOf v).toNat)
          case atStart => exact ⟨0, Nat.zero_le _, rfl, ⟨by rw [List.take_zero]; exact HJ11.out⟩, HK11⟩
          case round =>
            obtain ⟨i, hil, rfl, HJ, HK⟩ := hrel
            by_cases hlt : i < xs.length
            · have hdl : decide ((i : Int) < (xs.length : Int)) = true := decide_eq_true (by omega)
              obtain ⟨ad, hA, hcell⟩ := Kd.at_int (HCX.out _ HJ.out.1.1) (i : Int) (by omega) (by omega)
              subst hA
              simp only [Int.toNat_natCast] at hcell
              have q1 := eq_true (show (i : Int) < (xs.length : Int) by omega)
              have hz4 : wr.cell? ⟨w.heap.size, 0, none⟩ = some (.pointer (some ⟨g, 0, none⟩)) := (zM HJ.out.1.2.2.2.1 0).trans rfl
              have hy0 : wr.cell? ⟨W.heap.size, 0, none⟩ = some (.int .i64 q.f0) := (zM (HK.out.same HIZ1.out HP50.out (by simp)) 0).trans rfl
              have hrd : rd xs (i : Int) = xs[i] := by unfold rd; simp [List.getD_eq_getElem?_getD, List.getElem?_eq_getElem hlt]
              have hsn : rawAll q.f0 Lq (xs.take (i + 1)) = rawAll q.f0 Lq (xs.take i) ++ PL.digs (IntKind.u64.wrap (rd xs (i : Int))) (PL.hw q.f0) := by
                rw [hrd, List.take_succ_eq_append_getElem hlt, rawAll_snoc]
              have hlc : (rawAll q.f0 Lq (xs.take i)).length < 1099511000000 := by
                have h1 := rawAll_len q.f0 (xs.take i) Lq
                have h2 := HL11.out
                rw [List.length_take] at h1
                omega
              obtain ⟨Lc, hLc⟩ : ∃ Lc, rawAll q.f0 Lq (xs.take i) = Lc := ⟨_, rfl⟩
              rw [hLc] at hsn hlc HJ
              have HEV := zF.mk (PL.put_eq Lc (IntKind.u64.wrap (rd xs (i : Int))) q.f0 (by omega))
              have HSN := zF.mk hsn
              clear hsn hlc hLc hrd
              gi_wp2
              refine ⟨trivial, ?_⟩
              gi_at_call 25
              refine (CallsIn.inRound lp (callsIn_wide.2 (bits_Writer_Put.calls g (PL.WB Lc) (Lc.length : Int) _ _ _ _ w0 _ HJ.out.1.2.1 HJ.out.1.2.2.2.2.2.2 HEV.out))).mono ?_
              rintro e w10 ⟨rfl, hI10, hB10, hK10⟩
              have HJ10 := zF.mk (HJ.out.put hI10 hB10 hK10)
              have HK10 := zF.mk (HK.out.trans hK10)
              clear hI10 hB10 hK10 hz4 hy0
              gi_wp2
              go_roundw
              case rel => exact ⟨i + 1, hlt, by simp, ⟨by rw [HSN.out]; exact HJ10.out⟩, HK10⟩
              case measure => simp [intOf]; omega
            · obtain rfl : i = xs.length := by omega
              have hdl : decide (((xs.length : Nat) : Int) < (xs.length : Int)) = false := decide_eq_false (by omega)
              gi_wp2
              rw [HPART.out, HLQ.out]
              have hj := HJ.out
              rw [List.take_length] at hj
              exact ⟨KeepsFrom.of_KBe HK.out HIZ1.out _, Kp15.of_KBe HIZ.out HK.out, hj⟩
end Go.Proofs.Ytokdjeoecnnckaa.PA
end
section
namespace Go.Proofs.Ytokdjeoecnnckaa.PA
open Go Go.RowKit Go.Proofs.YtokdjeoecnnckaaW.PrintWords Go.Proofs.YtokdjeoecnnckaaW.PrintLast Go.Proofs.YtokdjeoecnnckaaW.PrintMore
set_option linter.unusedSimpArgs false
set_option linter.unusedVariables false
noncomputable def lim15 {α : Type} (g : Nat → Option α) : Option α := open Classical in if h : ∃ r, Ev g r then some h.choose else none
theorem ev_unique {α : Type} {g : Nat → Option α} {r s : α} (h : Ev g r) (k : Ev g s) : r = s := by
  obtain ⟨K1, h1⟩ := h
  obtain ⟨K2, h2⟩ := k
  have e := (h1 (max K1 K2) (by omega)).symm.trans (h2 (max K1 K2) (by omega))
  exact Option.some.inj e
theorem lim15_ev {α : Type} {g : Nat → Option α} {r : α} (h : Ev g r) : lim15 g = some r := by
  have hx : ∃ r, Ev g r := ⟨r, h⟩
  unfold lim15
  rw [dif_pos hx]
  exact congrArg some (ev_unique hx.choose_spec h)
theorem ev_of_lim15 {α : Type} {g : Nat → Option α} {r : α} (h : lim15 g = some r) : Ev g r := by
  unfold lim15 at h
  split at h
  · rename_i hx
    rw [← Option.some.inj h]
    exact hx.choose_spec
  · cases h
def rowsP : List Int → List Int → List S50 → List (S50 × List Int)
  | n :: cs, l, p :: ps => (p, l.take n.toNat) :: rowsP cs (l.drop n.toNat) ps
  | _, _, _ => []
def longP (x : S50 × List Int) : Bool := !x.1.f1 && x.2.any (fun n => (section_long.f n x.1.f0).getD false)
def putAllP (w : Bool) (L : List Bool) (xs : List (S50 × List Int)) : List Bool := xs.foldl (fun L x => putPart w L x.1 x.2) L
theorem rows15_P : ∀ (cuts : List Int) (A : Option Addr) (c : Nat) (l : List Int) (ps : List S50), (rows15 cuts A c l ps).map (fun x => (x.1, x.2.2.2)) = rowsP cuts l ps
  | [], A, c, l, ps => by simp [rows15, rowsP]
  | _ :: _, A, c, l, [] => by simp [rows15, rowsP]
  | n :: cs, A, c, l, p :: ps => by
    simp only [rows15, rowsP, List.map_cons]
    rw [rows15_P cs]
theorem putAll15_P (w : Bool) (L : List Bool) (cuts : List Int) (A : Option Addr) (c : Nat) (l : List Int) (ps : List S50) : putAll15 w L (rows15 cuts A c l ps) = putAllP w L (rowsP cuts l ps) := by
  rw [← rows15_P cuts A c l ps, putAllP, List.foldl_map, putAll15]
theorem long15_P (cuts : List Int) (A : Option Addr) (c : Nat) (l : List Int) (ps : List S50) : (rows15 cuts A c l ps).any longEl = (rowsP cuts l ps).any longP := by
  rw [← rows15_P cuts A c l ps, List.any_map]
  rfl
open Classical in
noncomputable def sectionPut.f (s0_0 : ByteArray) (s0_1 : Int) (l : List Int) (order : Int) (wd : Bool) (o : Int) (ps : List S50) : Option (Int × ByteArray × Int) :=
  if s0_0.size = 0 ∧ s0_1 = 0 ∧ l.length ≤ 1000 ∧ ps.length ≤ 1000 ∧ (∀ x ∈ l, -9223372036854775808 ≤ x ∧ x < 9223372036854775808) then
    (lim15 (fun k => parts_Bits.f k l order wd o ps)).bind fun r => if r < 0 then some (1, s0_0, s0_1) else
      (lim15 (fun k => parts_Cuts.f k (l.length : Int) order o)).bind fun cuts =>
        if SFits cuts l.length ∧ cuts.length = ps.length ∧ (∀ p ∈ ps, p.f1 = true ∨ 0 ≤ p.f0) then
          (if (rowsP cuts l ps).any longP = true then some (7, s0_0, s0_1) else some (0, PL.WB (putAllP wd (headB [] wd o) (rowsP cuts l ps)), ((putAllP wd (headB [] wd o) (rowsP cuts l ps)).length : Int)))
        else none
  else none
theorem sectionPut.calls (g : Nat) (s0_0 : ByteArray) (s0_1 : Int) (A : Option Addr) (c : Nat) (l : List Int) (order : Int) (wd : Bool) (o : Int) (A3 : Option Addr) (c3 : Nat) (ps : List S50) (r1 : Int) (r2 : ByteArray) (r3 : Int) (w0 w : World) (hI : zH w0 w g s0_0 s0_1) (hB : Below w0.heap.size w0 w)
    (hc1 : l.length ≤ c) (hC1 : ∀ W', KC w0 w W' → Kd.C (Kd.int .i64) W' A l.length l) (hC3 : ∀ W', KC w0 w W' → Kd.C k50 W' A3 ps.length ps) (hc3 : ps.length ≤ c3) (h : sectionPut.f s0_0 s0_1 l order wd o ps = some (r1, r2, r3)) :
    Calls Try.prog 9 #[.pointer (some ⟨g, 0, none⟩), .slice A l.length c, .int .i64 order, .agg #[.bool wd, .int .i64 o, .slice A3 ps.length c3]] w fun e w' => e = .returned (.int .i64 r1) ∧ zH w0 w' g r2 r3 ∧ Below w0.heap.size w0 w' ∧ KBe w0 w w' g := by
  unfold sectionPut.f at h
  split at h
  · rename_i hg
    obtain ⟨hz, h0, hl, hp, h64⟩ := hg
    subst h0
    have hs : s0_0 = PL.WB [] := by
      rw [PL.WB_nil]
      obtain ⟨d⟩ := s0_0
      have : d = #[] := Array.eq_empty_of_size_eq_zero hz
      rw [this]
    subst hs
    obtain ⟨r, hr, h⟩ := Option.bind_eq_some_iff.1 h
    obtain ⟨K1, hK1⟩ := ev_of_lim15 hr
    split at h
    · rename_i hneg
      cases h
      exact sec_Put_arg K1 g _ _ A c l order wd o A3 c3 ps r w0 w hI hB hC1 hc1 hC3 hc3 (hK1 K1 (Nat.le_refl _)) hneg
    · rename_i hpos
      obtain ⟨cuts, hc, h⟩ := Option.bind_eq_some_iff.1 h
      obtain ⟨K2, hK2⟩ := ev_of_lim15 hc
      have b1 := hK1 (max K1 K2) (by omega)
      have b2 := hK2 (max K1 K2) (by omega)
      split at h
      · rename_i hf
        obtain ⟨hfit, hlen, hK⟩ := hf
        split at h
        · rename_i hlong
          cases h
          rw [← long15_P cuts A c l ps, List.any_eq_true] at hlong
          exact sec_Put_long (max K1 K2) g _ _ A c l order wd o A3 c3 ps cuts r w0 w hI hB hC1 hc1 hC3 hc3 b1 (by omega) b2 hfit hlen (by omega) (by omega) hK hlong
        · rename_i hlong
          cases h
          rw [← long15_P cuts A c l ps] at hlong
          rw [← putAll15_P wd _ cuts A c l ps]
          refine sec_Put_ok (max K1 K2) g [] A c l order wd o A3 c3 ps cuts r w0 w hI hB hC1 hc1 hC3 hc3 b1 (by omega) b2 hfit hlen (by omega) (by omega) hK ?_ h64 ?_
          · intro x hx
            cases hle : longEl x with
            | false => rfl
            | true => exact absurd (List.any_eq_true.2 ⟨x, hx, hle⟩) hlong
          · have h1 : cuts.length * (200 + 65600 * l.length) ≤ 1000 * (200 + 65600 * 1000) := Nat.mul_le_mul (by omega) (by omega)
            simp only [List.length_nil]
            omega
      · cases h
  · cases h
end Go.Proofs.Ytokdjeoecnnckaa.PA
end
section
namespace Go.Proofs.Ytokdjeoecnnckaa.PA
open Go.RowKit Go.Proofs.YtokdjeoecnnckaaW.PrintWords Go.Proofs.YtokdjeoecnnckaaW.PrintLast Go.Proofs.YtokdjeoecnnckaaW.PrintMore
attribute [local go_sem] max2_int min2_int max_two min_two max_three min_three max_four min_four   -- for this text's walks alone
set_option linter.unusedVariables false
set_option linter.unusedSimpArgs false

noncomputable def section_Put.f (s0_0 : ByteArray) (s0_1 : Int) (l1 : List Int) (a2 : Int) (a3_0 : Bool) (a3_1 : Int) (l3_2 : List (S50)) : Option (Int × ByteArray × Int) := sectionPut.f s0_0 s0_1 l1 a2 a3_0 a3_1 l3_2
theorem section_Put.calls (g : Nat) (s0_0 : ByteArray) (s0_1 : Int) (A1 : Option Addr) (c1 : Nat) (l1 : List Int) (a2 : Int) (a3_0 : Bool) (a3_1 : Int) (A3 : Option Addr) (c3 : Nat) (l3_2 : List (S50)) (r1 : Int) (r2 : ByteArray) (r3 : Int) (w0 w : World) (hI : zH w0 w g s0_0 s0_1) (hB : Below w0.heap.size w0 w) (hr1 : Kd.C (Kd.int .i64) w A1 l1.length l1) (hc1 : l1.length ≤ c1) (hk1 : ∀ W', KC w0 w W' → Kd.C (Kd.int .i64) W' A1 l1.length l1) (hk3 : ∀ W', KC w0 w W' → Kd.C k50 W' A3 l3_2.length l3_2) (hc3 : l3_2.length ≤ c3) (h : section_Put.f s0_0 s0_1 l1 a2 a3_0 a3_1 l3_2 = some (r1, r2, r3)) :
    Calls Try.prog 9 #[.pointer (some ⟨g, 0, none⟩), .slice A1 l1.length c1, .int .i64 a2, .agg #[.bool a3_0, .int .i64 a3_1, .slice A3 l3_2.length c3]] w fun e w' => e = .returned (.int .i64 r1) ∧ zH w0 w' g r2 r3 ∧ Below w0.heap.size w0 w' ∧ KBe w0 w w' g := sectionPut.calls g s0_0 s0_1 A1 c1 l1 a2 a3_0 a3_1 A3 c3 l3_2 r1 r2 r3 w0 w hI hB hc1 hk1 hk3 hc3 h
end Go.Proofs.Ytokdjeoecnnckaa.PA
end
section
namespace Go.Proofs.Ytokdjeoecnnckaa.PA
open Go.RowKit Go.Proofs.YtokdjeoecnnckaaW.PrintWords Go.Proofs.YtokdjeoecnnckaaW.PrintLast Go.Proofs.YtokdjeoecnnckaaW.PrintMore
attribute [local go_sem] max2_int min2_int max_two min_two max_three min_three max_four min_four   -- for this text's walks alone
set_option linter.unusedVariables false
set_option linter.unusedSimpArgs false

noncomputable def serinettelaw15_awake.f (k : Nat)  : Option (Bool) := (bits_New.f).bind fun bt168 => ((section_Put.f bt168.1 bt168.2 (([0, 0] : List Int)) 0 false 0 (([(⟨0, false⟩ : S50)] : List (S50)))).bind fun bt177 => (if bt177.1 = 0 then ((bits_Writer_Len.f bt177.2.1 bt177.2.2).bind fun bt180 => (if bt180.1 = 12 then ((bits_Writer_Bytes.f bt180.2.1 bt180.2.2).bind fun bt183 => ((serinetteref01_Same.f k bt183.1 (([0, 48] : List Int))).bind fun t191 => (some t191))) else (some false))) else (some false)))
set_option maxHeartbeats 8000000 in
set_option maxRecDepth 100000 in
theorem serinettelaw15_awake.calls (k : Nat)  (r : Bool) (w : World) (h : serinettelaw15_awake.f k  = some r) :
    Calls Try.prog 6 #[] w fun e w' => e = .returned (.bool r) ∧ Below w.heap.size w w' := by
  have hu50 := Try.underlying50
  have hu25 := Try.underlying25
  have HB := zF.mk (Below.refl w.heap.size w)
  have H : ((bits_New.f).bind fun bt168 => ((section_Put.f bt168.1 bt168.2 (([0, 0] : List Int)) 0 false 0 (([(⟨0, false⟩ : S50)] : List (S50)))).bind fun bt177 => (if bt177.1 = 0 then ((bits_Writer_Len.f bt177.2.1 bt177.2.2).bind fun bt180 => (if bt180.1 = 12 then ((bits_Writer_Bytes.f bt180.2.1 bt180.2.2).bind fun bt183 => ((serinetteref01_Same.f k bt183.1 (([0, 48] : List Int))).bind fun t191 => (some t191))) else (some false))) else (some false)))) = some r := h
  clear h
  replace H := Option.bind_eq_some_iff.mp H
  obtain ⟨⟨t168, t169⟩, A10, H⟩ := H
  replace H : ((section_Put.f t168 t169 (([0, 0] : List Int)) 0 false 0 (([(⟨0, false⟩ : S50)] : List (S50)))).bind fun bt177 => (if bt177.1 = 0 then ((bits_Writer_Len.f bt177.2.1 bt177.2.2).bind fun bt180 => (if bt180.1 = 12 then ((bits_Writer_Bytes.f bt180.2.1 bt180.2.2).bind fun bt183 => ((serinetteref01_Same.f k bt183.1 (([0, 48] : List Int))).bind fun t191 => (some t191))) else (some false))) else (some false))) = some r := H
  have A1 := zF.mk A10
  clear A10
  obtain ⟨y171, hy171⟩ : ∃ y_ : List Int, y_ = (([0, 0] : List Int)) := ⟨_, rfl⟩
  replace H : ((section_Put.f t168 t169 y171 0 false 0 (([(⟨0, false⟩ : S50)] : List (S50)))).bind fun bt177 => (if bt177.1 = 0 then ((bits_Writer_Len.f bt177.2.1 bt177.2.2).bind fun bt180 => (if bt180.1 = 12 then ((bits_Writer_Bytes.f bt180.2.1 bt180.2.2).bind fun bt183 => ((serinetteref01_Same.f k bt183.1 (([0, 48] : List Int))).bind fun t191 => (some t191))) else (some false))) else (some false))) = some r := by first | (rw [hy171]; with_reducible exact H) | (have H2_ := (Option.bind_some _ _).symm.trans H; rw [hy171]; with_reducible exact H2_) | (have H2_ := (Option.bind_some _ _).symm.trans H; with_reducible exact H2_) | with_reducible exact H | (rw [hy171]; exact H) | exact H
  have Ny171 := zF.mk hy171
  clear hy171
  obtain ⟨y174, hy174⟩ : ∃ y_ : List (S50), y_ = (([(⟨0, false⟩ : S50)] : List (S50))) := ⟨_, rfl⟩
  replace H : ((section_Put.f t168 t169 y171 0 false 0 y174).bind fun bt177 => (if bt177.1 = 0 then ((bits_Writer_Len.f bt177.2.1 bt177.2.2).bind fun bt180 => (if bt180.1 = 12 then ((bits_Writer_Bytes.f bt180.2.1 bt180.2.2).bind fun bt183 => ((serinetteref01_Same.f k bt183.1 (([0, 48] : List Int))).bind fun t191 => (some t191))) else (some false))) else (some false))) = some r := by first | (rw [hy174]; with_reducible exact H) | (have H2_ := (Option.bind_some _ _).symm.trans H; rw [hy174]; with_reducible exact H2_) | (have H2_ := (Option.bind_some _ _).symm.trans H; with_reducible exact H2_) | with_reducible exact H | (rw [hy174]; exact H) | exact H
  have Ny174 := zF.mk hy174
  clear hy174
  replace H := Option.bind_eq_some_iff.mp H
  obtain ⟨⟨t177, t178, t179⟩, A20, H⟩ := H
  replace H : (if t177 = 0 then ((bits_Writer_Len.f t178 t179).bind fun bt180 => (if bt180.1 = 12 then ((bits_Writer_Bytes.f bt180.2.1 bt180.2.2).bind fun bt183 => ((serinetteref01_Same.f k bt183.1 (([0, 48] : List Int))).bind fun t191 => (some t191))) else (some false))) else (some false)) = some r := H
  have A2 := zF.mk A20
  clear A20
  by_cases c3 : t177 = 0
  focus
    rw [if_pos c3] at H
    have c3b0 : (t177 == 0) = true := beq_iff_eq.mpr c3
    have c3b1 : (t177 != 0) = false := bne_eq_false_iff_eq.mpr c3
    clear c3
    replace H := Option.bind_eq_some_iff.mp H
    obtain ⟨⟨t180, t181, t182⟩, A40, H⟩ := H
    replace H : (if t180 = 12 then ((bits_Writer_Bytes.f t181 t182).bind fun bt183 => ((serinetteref01_Same.f k bt183.1 (([0, 48] : List Int))).bind fun t191 => (some t191))) else (some false)) = some r := H
    have A4 := zF.mk A40
    clear A40
    by_cases c5 : t180 = 12
    focus
      rw [if_pos c5] at H
      have c5b0 : (t180 == 12) = true := beq_iff_eq.mpr c5
      have c5b1 : (t180 != 12) = false := bne_eq_false_iff_eq.mpr c5
      clear c5
      replace H := Option.bind_eq_some_iff.mp H
      obtain ⟨⟨t183, t186, t187⟩, A60, H⟩ := H
      replace H : ((serinetteref01_Same.f k t183 (([0, 48] : List Int))).bind fun t191 => (some t191)) = some r := H
      have A6 := zF.mk A60
      clear A60
      obtain ⟨y188, hy188⟩ : ∃ y_ : List Int, y_ = (([0, 48] : List Int)) := ⟨_, rfl⟩
      replace H : ((serinetteref01_Same.f k t183 y188).bind fun t191 => (some t191)) = some r := by first | (rw [hy188]; with_reducible exact H) | (have H2_ := (Option.bind_some _ _).symm.trans H; rw [hy188]; with_reducible exact H2_) | (have H2_ := (Option.bind_some _ _).symm.trans H; with_reducible exact H2_) | with_reducible exact H | (rw [hy188]; exact H) | exact H
      have Ny188 := zF.mk hy188
      clear hy188
      replace H := Option.bind_eq_some_iff.mp H
      obtain ⟨t191, A70, H⟩ := H
      replace H : (some t191) = some r := H
      have A7 := zF.mk A70
      clear A70
      obtain rfl := Option.some.inj H
      go_enter Try.func6, Try.ntmps6
    rotate_left 1
    focus
      rw [if_neg c5] at H
      have c5b0 : (t180 == 12) = false := beq_eq_false_iff_ne.mpr c5
      have c5b1 : (t180 != 12) = true := bne_iff_ne.mpr c5
      obtain rfl := Option.some.inj H
      go_enter Try.func6, Try.ntmps6
  rotate_left 2
  focus
    rw [if_neg c3] at H
    have c3b0 : (t177 == 0) = false := beq_eq_false_iff_ne.mpr c3
    have c3b1 : (t177 != 0) = true := bne_iff_ne.mpr c3
    obtain rfl := Option.some.inj H
    go_enter Try.func6, Try.ntmps6
  all_goals
    go_wp2_with (first | ((with_reducible refine gate_callee (f := 8) rfl ?_); refine goesL_ (some 3) rfl rfl Try.func8 (by kernel_rfl) rfl #[] rfl (by (try simp only [List.map_toArray, List.map_cons, List.map_nil]); first | done | rfl | (simp only [List.length_drop, List.length_take]; rfl)) ?_; (with_reducible refine (bits_New.calls  t168 t169 w _ ?side1 A1.out).mono ?_); (case side1 => repeat (first | (with_reducible first | exact HB.out | apply zE | apply zB | apply zC) | exact HB.out)); rintro e w8 ⟨g170, rfl, hi, hb, hb2⟩; refine ⟨_, rfl, ?_⟩; have n0_ := zF.mk (hb); have n1_ := zF.mk (hi); clear HB; have HB := n0_; have HI170 := n1_; clear n0_ n1_; (try clear hb); (try clear hb2); (try clear hk); (try clear hi)) | ((with_reducible refine gate_dst (N := 7) rfl ?_); (try (refine gate_guard (by rfl) ?_; dsimp only)); refine Kd.R_lit (Kd.int .i64) _ 3 ?hg (N := 7) ?hd (xs := ([0, 0] : List Int)) (inner := [.int .i64 0, .int .i64 0]) (ok := fun _ => True) (okp := fun _ => True) ?hr ?hp (fun _ hk => hk) trivial (Below.refl _ _) (Nat.le_refl _) (by simp) ?_; (case hd => rfl); (case hg => rfl); (case hr => first | (go_simp; done) | (go_simp; rfl)); (case hp => exact (Reps.one (show Kd.M (Kd.int .i64) _ _ _ 0 [.int .i64 0] from rfl) (Reps.one (show Kd.M (Kd.int .i64) _ _ _ 0 [.int .i64 0] from rfl) (Reps.none _ _)))); intro v172 w9 ho10 hb hg_ hnew_; clear hg_ hnew_; (first | rw [← Ny171.out] at ho10 | (simp only [Int.reduceToNat] at ho10; rw [← Ny171.out] at ho10)); have n0_ := zF.mk (Kd.R_lower ho10 (below_size (by repeat (first | (with_reducible first | exact HB.out | apply zE | apply zB | apply zC | refine zD ?_ (zH.ge HI170.out)) | exact HB.out)))); have n1_ := zF.mk (zH.below (by repeat (first | (with_reducible first | exact HI170.out | apply zH.alloc | apply zH.drewN | apply zH.drew | apply zH.set_0 | apply zH.set_1) | exact HI170.out)) hb); have n2_ := zF.mk (below_step (by repeat (first | (with_reducible first | exact HB.out | apply zE | apply zB | apply zC | refine zD ?_ (zH.ge HI170.out)) | exact HB.out)) hb); clear HI170; clear HB; have HO173 := n0_; have HI170 := n1_; have HB := n2_; clear n0_ n1_ n2_; clear hb ho10) | ((with_reducible refine gate_dst (N := 9) rfl ?_); (try (refine gate_guard (by rfl) ?_; dsimp only)); refine Kd.R_lit k50 _ 50 ?hg (N := 9) ?hd (xs := ([(⟨0, false⟩ : S50)] : List (S50))) (inner := [.int .i64 0, .bool false]) (ok := fun _ => True) (okp := fun _ => True) ?hr ?hp (fun _ hk => hk) trivial (Below.refl _ _) (Nat.le_refl _) (by simp) ?_; (case hd => rfl); (case hg => rfl); (case hr => first | (go_simp; done) | (go_simp; rfl)); (case hp => exact (Reps.c2 (show Kd.M k50 _ _ _ (⟨0, false⟩ : S50) [.int .i64 0, .bool false] from (k50_mkM _ _ _ (⟨0, false⟩ : S50) )) (Reps.none _ _))); intro v175 w11 ho12 hb hg_ hnew_; clear hg_ hnew_; (first | rw [← Ny174.out] at ho12 | (simp only [Int.reduceToNat] at ho12; rw [← Ny174.out] at ho12)); have n0_ := zF.mk (Kd.R_below (by (with_reducible repeat (first | apply Kd.zR | apply Kd.zP | apply Kd.zQ)); exact HO173.out) hb); have n1_ := zF.mk (Kd.R_lower ho12 (below_size (by repeat (first | (with_reducible first | exact HB.out | apply zE | apply zB | apply zC | refine zD ?_ (zH.ge HI170.out)) | exact HB.out)))); have n2_ := zF.mk (zH.below (by repeat (first | (with_reducible first | exact HI170.out | apply zH.alloc | apply zH.drewN | apply zH.drew | apply zH.set_0 | apply zH.set_1) | exact HI170.out)) hb); have n3_ := zF.mk (below_step (by repeat (first | (with_reducible first | exact HB.out | apply zE | apply zB | apply zC | refine zD ?_ (zH.ge HI170.out)) | exact HB.out)) hb); clear HO173; clear HI170; clear HB; have HO173 := n0_; have HO176 := n1_; have HI170 := n2_; have HB := n3_; clear n0_ n1_ n2_ n3_; clear hb ho12; obtain ⟨Ao13, co13, eo13⟩ := Kd.R_slice HO176.out; subst eo13; obtain ⟨Ao14, co14, eo14⟩ := Kd.R_slice HO173.out; subst eo14) | ((with_reducible refine gate_callee (f := 9) rfl ?_); refine goesL_ (some 11) rfl rfl Try.func9 (by kernel_rfl) rfl #[.pointer (some ⟨g170, 0, none⟩), .slice Ao14 y171.length co14, .int .i64 0, .agg #[.bool false, .int .i64 0, .slice Ao13 y174.length co13]] rfl (by (try simp only [List.map_toArray, List.map_cons, List.map_nil]); first | done | rfl | (simp only [List.length_drop, List.length_take]; rfl)) ?_; (with_reducible refine (section_Put.calls g170 t168 t169 _ _ y171 0 false 0 _ _ y174 t177 t178 t179 w _ ?side1 ?side2 ?side3 ?side4 ?side5 ?side6 ?side7 A2.out).mono ?_); (case side1 => repeat (first | (with_reducible first | exact HI170.out | apply zH.alloc | apply zH.drewN | apply zH.drew | apply zH.set_0 | apply zH.set_1) | exact HI170.out)); (case side2 => repeat (first | (with_reducible first | exact HB.out | apply zE | apply zB | apply zC | refine zD ?_ (zH.ge HI170.out)) | exact HB.out)); (case side3 => repeat (first | exact (Kd.R_reads' HO173.out).2.2 | (with_reducible refine Kd.zU ?_ _) | (with_reducible refine Kd.zS ?_ _) | (with_reducible refine Kd.zT ?_))); (case side4 => exact (Kd.R_reads' HO173.out).2.1); (case side5 => exact KC.own (by (with_reducible repeat (first | apply Kd.zR | apply Kd.zP | apply Kd.zQ)); exact HO173.out) (by decide)); (case side6 => exact KC.own (by (with_reducible repeat (first | apply Kd.zR | apply Kd.zP | apply Kd.zQ)); exact HO176.out) (by decide)); (case side7 => exact (Kd.R_reads' HO176.out).2.1); rintro e w15 ⟨rfl, hi, hb, hk⟩; refine ⟨_, rfl, ?_⟩; have n0_ := zF.mk (Kd.R_mono (KB.R_keep (zH.apart (show zH w _ g170 t168 t169 from by repeat (first | (with_reducible first | exact HI170.out | apply zH.alloc | apply zH.drewN | apply zH.drew | apply zH.set_0 | apply zH.set_1) | exact HI170.out)) (by (with_reducible repeat (first | apply Kd.zR | apply Kd.zP | apply Kd.zQ)); exact HO173.out) (by decide)) (fun _ h => h.2) (by decide) hk.1) (fun _ h => h.1)); have n1_ := zF.mk (Kd.R_mono (KB.R_keep (zH.apart (show zH w _ g170 t168 t169 from by repeat (first | (with_reducible first | exact HI170.out | apply zH.alloc | apply zH.drewN | apply zH.drew | apply zH.set_0 | apply zH.set_1) | exact HI170.out)) (by (with_reducible repeat (first | apply Kd.zR | apply Kd.zP | apply Kd.zQ)); exact HO176.out) (by decide)) (fun _ h => h.2) (by decide) hk.1) (fun _ h => h.1)); have n2_ := zF.mk (hb); have n3_ := zF.mk (hi); clear HO173; clear HO176; clear HB; clear HI170; have HO173 := n0_; have HO176 := n1_; have HB := n2_; have HI170 := n3_; clear n0_ n1_ n2_ n3_; (try clear hb); (try clear hb2); (try clear hk); (try clear hi)) | (go_at_call 11; (with_reducible refine (bits_Writer_Len.calls g170 t178 t179 t180 t181 t182 w _ ?side1 ?side2 A4.out).mono ?_); (case side1 => repeat (first | (with_reducible first | exact HI170.out | apply zH.alloc | apply zH.drewN | apply zH.drew | apply zH.set_0 | apply zH.set_1) | exact HI170.out)); (case side2 => repeat (first | (with_reducible first | exact HB.out | apply zE | apply zB | apply zC | refine zD ?_ (zH.ge HI170.out)) | exact HB.out)); rintro e w16 ⟨rfl, hi, hb, hk⟩; have n0_ := zF.mk (Kd.R_mono (Kd.R_keep (zH.apart (show zH w _ g170 t178 t179 from by repeat (first | (with_reducible first | exact HI170.out | apply zH.alloc | apply zH.drewN | apply zH.drew | apply zH.set_0 | apply zH.set_1) | exact HI170.out)) (by (with_reducible repeat (first | apply Kd.zR | apply Kd.zP | apply Kd.zQ)); exact HO173.out) (by decide)) hk (fun _ h => h.2)) (fun _ h => h.1)); have n1_ := zF.mk (Kd.R_mono (Kd.R_keep (zH.apart (show zH w _ g170 t178 t179 from by repeat (first | (with_reducible first | exact HI170.out | apply zH.alloc | apply zH.drewN | apply zH.drew | apply zH.set_0 | apply zH.set_1) | exact HI170.out)) (by (with_reducible repeat (first | apply Kd.zR | apply Kd.zP | apply Kd.zQ)); exact HO176.out) (by decide)) hk (fun _ h => h.2)) (fun _ h => h.1)); have n2_ := zF.mk (hb); have n3_ := zF.mk (hi); clear HO173; clear HO176; clear HB; clear HI170; have HO173 := n0_; have HO176 := n1_; have HB := n2_; have HI170 := n3_; clear n0_ n1_ n2_ n3_; (try clear hb); (try clear hb2); (try clear hk); (try clear hi)) | (go_at_call 13; (with_reducible refine (bits_Writer_Bytes.calls g170 t181 t182 t183 t186 t187 w _ ?side1 ?side2 A6.out).mono ?_); (case side1 => repeat (first | (with_reducible first | exact HI170.out | apply zH.alloc | apply zH.drewN | apply zH.drew | apply zH.set_0 | apply zH.set_1) | exact HI170.out)); (case side2 => repeat (first | (with_reducible first | exact HB.out | apply zE | apply zB | apply zC | refine zD ?_ (zH.ge HI170.out)) | exact HB.out)); rintro e w17 ⟨v184, rfl, ho0, hi, hb, hk⟩; have n0_ := zF.mk (Kd.R_mono (Kd.R_keep (zH.apart (show zH w _ g170 t181 t182 from by repeat (first | (with_reducible first | exact HI170.out | apply zH.alloc | apply zH.drewN | apply zH.drew | apply zH.set_0 | apply zH.set_1) | exact HI170.out)) (by (with_reducible repeat (first | apply Kd.zR | apply Kd.zP | apply Kd.zQ)); exact HO173.out) (by decide)) hk (fun _ h => h.2)) (fun _ h => h.1)); have n1_ := zF.mk (Kd.R_mono (Kd.R_keep (zH.apart (show zH w _ g170 t181 t182 from by repeat (first | (with_reducible first | exact HI170.out | apply zH.alloc | apply zH.drewN | apply zH.drew | apply zH.set_0 | apply zH.set_1) | exact HI170.out)) (by (with_reducible repeat (first | apply Kd.zR | apply Kd.zP | apply Kd.zQ)); exact HO176.out) (by decide)) hk (fun _ h => h.2)) (fun _ h => h.1)); have n2_ := zF.mk (Kd.R_lower ho0 (below_size (by repeat (first | (with_reducible first | exact HB.out | apply zE | apply zB | apply zC | refine zD ?_ (zH.ge HI170.out)) | exact HB.out)))); have n3_ := zF.mk (hb); have n4_ := zF.mk (hi); clear HO173; clear HO176; clear HB; clear HI170; have HO173 := n0_; have HO176 := n1_; have HO185 := n2_; have HB := n3_; have HI170 := n4_; clear n0_ n1_ n2_ n3_ n4_; (try clear hb); (try clear hb2); (try clear hk); (try clear hi); (try clear ho0)) | ((with_reducible refine gate_dst (N := 22) rfl ?_); (try (refine gate_guard (by rfl) ?_; dsimp only)); refine Kd.R_lit (Kd.int .u8) _ 5 ?hg (N := 22) ?hd (xs := ([0, 48] : List Int)) (inner := [.int .u8 0, .int .u8 48]) (ok := fun _ => True) (okp := fun _ => True) ?hr ?hp (fun _ hk => hk) trivial (Below.refl _ _) (Nat.le_refl _) (by simp) ?_; (case hd => rfl); (case hg => rfl); (case hr => first | (go_simp; done) | (go_simp; rfl)); (case hp => exact (Reps.one (show Kd.M (Kd.int .u8) _ _ _ 0 [.int .u8 0] from rfl) (Reps.one (show Kd.M (Kd.int .u8) _ _ _ 48 [.int .u8 48] from rfl) (Reps.none _ _)))); intro v189 w18 ho19 hb hg_ hnew_; clear hg_ hnew_; (first | rw [← Ny188.out] at ho19 | (simp only [Int.reduceToNat] at ho19; rw [← Ny188.out] at ho19)); have n0_ := zF.mk (Kd.R_below (by (with_reducible repeat (first | apply Kd.zR | apply Kd.zP | apply Kd.zQ)); exact HO173.out) hb); have n1_ := zF.mk (Kd.R_below (by (with_reducible repeat (first | apply Kd.zR | apply Kd.zP | apply Kd.zQ)); exact HO176.out) hb); have n2_ := zF.mk (Kd.R_elder' (by (with_reducible repeat (first | apply Kd.zR | apply Kd.zP | apply Kd.zQ)); exact HO185.out) (Kd.R_base ho19) hb); have n3_ := zF.mk (Kd.R_lower (Kd.R_new' ho19 (Kd.R_lt (by (with_reducible repeat (first | apply Kd.zR | apply Kd.zP | apply Kd.zQ)); exact HO185.out))) (below_size (by repeat (first | (with_reducible first | exact HB.out | apply zE | apply zB | apply zC | refine zD ?_ (zH.ge HI170.out)) | exact HB.out)))); have n4_ := zF.mk (zH.below (by repeat (first | (with_reducible first | exact HI170.out | apply zH.alloc | apply zH.drewN | apply zH.drew | apply zH.set_0 | apply zH.set_1) | exact HI170.out)) hb); have n5_ := zF.mk (below_step (by repeat (first | (with_reducible first | exact HB.out | apply zE | apply zB | apply zC | refine zD ?_ (zH.ge HI170.out)) | exact HB.out)) hb); clear HO173; clear HO176; clear HO185; clear HI170; clear HB; have HO173 := n0_; have HO176 := n1_; have HO185 := n2_; have HO190 := n3_; have HI170 := n4_; have HB := n5_; clear n0_ n1_ n2_ n3_ n4_ n5_; clear hb ho19; obtain ⟨Ao20, co20, eo20⟩ := Kd.R_slice HO185.out; subst eo20; obtain ⟨Ao21, co21, eo21⟩ := Kd.R_slice HO190.out; subst eo21) | (go_at_call 19; (with_reducible refine (serinetteref01_Same.calls k _ _ t183 _ _ y188 t191 _ ?side1 ?side2 ?side3 ?side4 A7.out).mono ?_); (case side1 => repeat (first | exact (Kd.R_reads' HO185.out).2.2 | (with_reducible refine Kd.zU ?_ _) | (with_reducible refine Kd.zS ?_ _) | (with_reducible refine Kd.zT ?_))); (case side2 => exact (Kd.R_reads' HO185.out).2.1); (case side3 => repeat (first | exact (Kd.R_reads' HO190.out).2.2 | (with_reducible refine Kd.zU ?_ _) | (with_reducible refine Kd.zS ?_ _) | (with_reducible refine Kd.zT ?_))); (case side4 => exact (Kd.R_reads' HO190.out).2.1); rintro e w' ⟨rfl, ⟨nd, rfl⟩⟩) | ((with_reducible refine gate_dst (N := 7) rfl ?_); (try (refine gate_guard (by rfl) ?_; dsimp only)); refine Kd.R_lit (Kd.int .i64) _ 3 ?hg (N := 7) ?hd (xs := ([0, 0] : List Int)) (inner := [.int .i64 0, .int .i64 0]) (ok := fun _ => True) (okp := fun _ => True) ?hr ?hp (fun _ hk => hk) trivial (Below.refl _ _) (Nat.le_refl _) (by simp) ?_; (case hd => rfl); (case hg => rfl); (case hr => first | (go_simp; done) | (go_simp; rfl)); (case hp => exact (Reps.one (show Kd.M (Kd.int .i64) _ _ _ 0 [.int .i64 0] from rfl) (Reps.one (show Kd.M (Kd.int .i64) _ _ _ 0 [.int .i64 0] from rfl) (Reps.none _ _)))); intro v172 w23 ho24 hb hg_ hnew_; clear hg_ hnew_; (first | rw [← Ny171.out] at ho24 | (simp only [Int.reduceToNat] at ho24; rw [← Ny171.out] at ho24)); have n0_ := zF.mk (Kd.R_lower ho24 (below_size (by repeat (first | (with_reducible first | exact HB.out | apply zE | apply zB | apply zC | refine zD ?_ (zH.ge HI170.out)) | exact HB.out)))); have n1_ := zF.mk (zH.below (by repeat (first | (with_reducible first | exact HI170.out | apply zH.alloc | apply zH.drewN | apply zH.drew | apply zH.set_0 | apply zH.set_1) | exact HI170.out)) hb); have n2_ := zF.mk (below_step (by repeat (first | (with_reducible first | exact HB.out | apply zE | apply zB | apply zC | refine zD ?_ (zH.ge HI170.out)) | exact HB.out)) hb); clear HI170; clear HB; have HO173 := n0_; have HI170 := n1_; have HB := n2_; clear n0_ n1_ n2_; clear hb ho24) | ((with_reducible refine gate_dst (N := 9) rfl ?_); (try (refine gate_guard (by rfl) ?_; dsimp only)); refine Kd.R_lit k50 _ 50 ?hg (N := 9) ?hd (xs := ([(⟨0, false⟩ : S50)] : List (S50))) (inner := [.int .i64 0, .bool false]) (ok := fun _ => True) (okp := fun _ => True) ?hr ?hp (fun _ hk => hk) trivial (Below.refl _ _) (Nat.le_refl _) (by simp) ?_; (case hd => rfl); (case hg => rfl); (case hr => first | (go_simp; done) | (go_simp; rfl)); (case hp => exact (Reps.c2 (show Kd.M k50 _ _ _ (⟨0, false⟩ : S50) [.int .i64 0, .bool false] from (k50_mkM _ _ _ (⟨0, false⟩ : S50) )) (Reps.none _ _))); intro v175 w25 ho26 hb hg_ hnew_; clear hg_ hnew_; (first | rw [← Ny174.out] at ho26 | (simp only [Int.reduceToNat] at ho26; rw [← Ny174.out] at ho26)); have n0_ := zF.mk (Kd.R_below (by (with_reducible repeat (first | apply Kd.zR | apply Kd.zP | apply Kd.zQ)); exact HO173.out) hb); have n1_ := zF.mk (Kd.R_lower ho26 (below_size (by repeat (first | (with_reducible first | exact HB.out | apply zE | apply zB | apply zC | refine zD ?_ (zH.ge HI170.out)) | exact HB.out)))); have n2_ := zF.mk (zH.below (by repeat (first | (with_reducible first | exact HI170.out | apply zH.alloc | apply zH.drewN | apply zH.drew | apply zH.set_0 | apply zH.set_1) | exact HI170.out)) hb); have n3_ := zF.mk (below_step (by repeat (first | (with_reducible first | exact HB.out | apply zE | apply zB | apply zC | refine zD ?_ (zH.ge HI170.out)) | exact HB.out)) hb); clear HO173; clear HI170; clear HB; have HO173 := n0_; have HO176 := n1_; have HI170 := n2_; have HB := n3_; clear n0_ n1_ n2_ n3_; clear hb ho26; obtain ⟨Ao13, co13, eo27⟩ := Kd.R_slice HO176.out; subst eo27; obtain ⟨Ao14, co14, eo28⟩ := Kd.R_slice HO173.out; subst eo28) | ((with_reducible refine gate_dst (N := 7) rfl ?_); (try (refine gate_guard (by rfl) ?_; dsimp only)); refine Kd.R_lit (Kd.int .i64) _ 3 ?hg (N := 7) ?hd (xs := ([0, 0] : List Int)) (inner := [.int .i64 0, .int .i64 0]) (ok := fun _ => True) (okp := fun _ => True) ?hr ?hp (fun _ hk => hk) trivial (Below.refl _ _) (Nat.le_refl _) (by simp) ?_; (case hd => rfl); (case hg => rfl); (case hr => first | (go_simp; done) | (go_simp; rfl)); (case hp => exact (Reps.one (show Kd.M (Kd.int .i64) _ _ _ 0 [.int .i64 0] from rfl) (Reps.one (show Kd.M (Kd.int .i64) _ _ _ 0 [.int .i64 0] from rfl) (Reps.none _ _)))); intro v172 w32 ho33 hb hg_ hnew_; clear hg_ hnew_; (first | rw [← Ny171.out] at ho33 | (simp only [Int.reduceToNat] at ho33; rw [← Ny171.out] at ho33)); have n0_ := zF.mk (Kd.R_lower ho33 (below_size (by repeat (first | (with_reducible first | exact HB.out | apply zE | apply zB | apply zC | refine zD ?_ (zH.ge HI170.out)) | exact HB.out)))); have n1_ := zF.mk (zH.below (by repeat (first | (with_reducible first | exact HI170.out | apply zH.alloc | apply zH.drewN | apply zH.drew | apply zH.set_0 | apply zH.set_1) | exact HI170.out)) hb); have n2_ := zF.mk (below_step (by repeat (first | (with_reducible first | exact HB.out | apply zE | apply zB | apply zC | refine zD ?_ (zH.ge HI170.out)) | exact HB.out)) hb); clear HI170; clear HB; have HO173 := n0_; have HI170 := n1_; have HB := n2_; clear n0_ n1_ n2_; clear hb ho33) | ((with_reducible refine gate_dst (N := 9) rfl ?_); (try (refine gate_guard (by rfl) ?_; dsimp only)); refine Kd.R_lit k50 _ 50 ?hg (N := 9) ?hd (xs := ([(⟨0, false⟩ : S50)] : List (S50))) (inner := [.int .i64 0, .bool false]) (ok := fun _ => True) (okp := fun _ => True) ?hr ?hp (fun _ hk => hk) trivial (Below.refl _ _) (Nat.le_refl _) (by simp) ?_; (case hd => rfl); (case hg => rfl); (case hr => first | (go_simp; done) | (go_simp; rfl)); (case hp => exact (Reps.c2 (show Kd.M k50 _ _ _ (⟨0, false⟩ : S50) [.int .i64 0, .bool false] from (k50_mkM _ _ _ (⟨0, false⟩ : S50) )) (Reps.none _ _))); intro v175 w34 ho35 hb hg_ hnew_; clear hg_ hnew_; (first | rw [← Ny174.out] at ho35 | (simp only [Int.reduceToNat] at ho35; rw [← Ny174.out] at ho35)); have n0_ := zF.mk (Kd.R_below (by (with_reducible repeat (first | apply Kd.zR | apply Kd.zP | apply Kd.zQ)); exact HO173.out) hb); have n1_ := zF.mk (Kd.R_lower ho35 (below_size (by repeat (first | (with_reducible first | exact HB.out | apply zE | apply zB | apply zC | refine zD ?_ (zH.ge HI170.out)) | exact HB.out)))); have n2_ := zF.mk (zH.below (by repeat (first | (with_reducible first | exact HI170.out | apply zH.alloc | apply zH.drewN | apply zH.drew | apply zH.set_0 | apply zH.set_1) | exact HI170.out)) hb); have n3_ := zF.mk (below_step (by repeat (first | (with_reducible first | exact HB.out | apply zE | apply zB | apply zC | refine zD ?_ (zH.ge HI170.out)) | exact HB.out)) hb); clear HO173; clear HI170; clear HB; have HO173 := n0_; have HO176 := n1_; have HI170 := n2_; have HB := n3_; clear n0_ n1_ n2_ n3_; clear hb ho35; obtain ⟨Ao13, co13, eo36⟩ := Kd.R_slice HO176.out; subst eo36; obtain ⟨Ao14, co14, eo37⟩ := Kd.R_slice HO173.out; subst eo37))
    go_ret
    exact ⟨by first | rfl | (simp [errW_none, errW_some] <;> rfl) | (simp [*, errW_none, errW_some] <;> rfl), by repeat (first | (with_reducible first | exact HB.out | apply zE | apply zB | apply zC | refine zD ?_ (zH.ge HI170.out)) | exact HB.out)⟩

def serinetteref06_Power.l0 : Nat → Int → Int → Int → Option (Int)
  | 0, _, _, _ => none
  | k + 1, x0, x3, x4 => if x4 < x0 then (serinetteref06_Power.l0 k x0 (wrap64 (2 * x3)) (wrap64 (x4 + 1))) else (some x3)
def serinetteref06_Power.f (k : Nat) (a0 : Int) : Option (Int) := serinetteref06_Power.l0 k a0 1 0
set_option maxHeartbeats 8000000 in
set_option maxRecDepth 100000 in
theorem serinetteref06_Power.calls (k : Nat) (a0 : Int) (r : Int) (w : World) (h : serinetteref06_Power.f k a0 = some r) :
    Calls Try.prog 40 #[.int .i64 a0] w fun e w' => e = .returned (.int .i64 r) ∧ Drawn0 w w' := by
  have H : (serinetteref06_Power.l0 k a0 1 0) = some r := h
  clear h
  have H' := zF.mk H
  clear H
  go_enter Try.func40, Try.ntmps40
  go_wp2
  go_loopg [3, 4] k (fun kq v3 v4 w' => ∃ (x3_1 : Int) (x4_1 : Int), v3 = .int .i64 x3_1 ∧ v4 = .int .i64 x4_1 ∧ zF (serinetteref06_Power.l0 kq a0 x3_1 x4_1 = some r) ∧ zF (kq ≤ k) ∧ Drawn0 w w')
  case atStart => exact ⟨(1), (0), (by first | rfl | (simp; done) | (simp only [i64_w, i32_w]; done) | (simp [*]; done) | (simp only [i64_w, i32_w]; first | rfl | (simp; done) | (simp [*]; done))), (by first | rfl | (simp; done) | (simp only [i64_w, i32_w]; done) | (simp [*]; done) | (simp only [i64_w, i32_w]; first | rfl | (simp; done) | (simp [*]; done))), H', ⟨Nat.le_refl _⟩, by repeat (first | exact Drawn0.refl _ | apply Drawn0.step)⟩
  case round =>
    clear H'
    obtain ⟨x3_1, x4_1, rfl, rfl, HA, HK1, ⟨m1, rfl⟩⟩ := hrel
    cases gk with
    | zero => exact absurd HA.out (by simp [serinetteref06_Power.l0])
    | succ k1 =>
      have H := HA.out
      clear HA
      simp only [serinetteref06_Power.l0] at H
      by_cases c2 : x4_1 < a0
      · rw [if_pos c2] at H
        have c2b0 : decide (x4_1 < a0) = true := decide_eq_true c2
        clear c2
        have H' := zF.mk H
        clear H
        go_wp2
        go_roundg k1
        case measure => have := HK1.out; omega
        case rel => exact ⟨(wrap64 (2 * x3_1)), (wrap64 (x4_1 + 1)), (by first | rfl | (simp; done) | (simp only [i64_w, i32_w]; done) | (simp [*]; done) | (simp only [i64_w, i32_w]; first | rfl | (simp; done) | (simp [*]; done))), (by first | rfl | (simp; done) | (simp only [i64_w, i32_w]; done) | (simp [*]; done) | (simp only [i64_w, i32_w]; first | rfl | (simp; done) | (simp [*]; done))), H', ⟨by have := HK1.out; omega⟩, by repeat (first | exact Drawn0.refl _ | apply Drawn0.step)⟩
      · rw [if_neg c2] at H
        have c2b0 : decide (x4_1 < a0) = false := decide_eq_false c2
        clear c2
        obtain rfl := Option.some.inj H
        go_wp2
        go_ret
        exact ⟨by first | rfl | (simp; done) | (simp [*]; done), by repeat (first | exact Drawn0.refl _ | apply Drawn0.step)⟩
end Go.Proofs.Ytokdjeoecnnckaa.PA
end
section
namespace Go.Proofs.Ytokdjeoecnnckaa.PA
open Go.RowKit Go.Proofs.YtokdjeoecnnckaaW.PrintWords Go.Proofs.YtokdjeoecnnckaaW.PrintLast Go.Proofs.YtokdjeoecnnckaaW.PrintMore
attribute [local go_sem] max2_int min2_int max_two min_two max_three min_three max_four min_four   -- for this text's walks alone
set_option linter.unusedVariables false
set_option linter.unusedSimpArgs false

mutual
def serinetteref14_Cuts.j0 : Nat → Int → Int → Int → Bool → Option (List Int)
  | 0, _, _, _, _ => none
  | k + 1, x0, x1, x2, x23 => if x23 = true then (some ([] : List Int)) else ((serinetteref06_Power.f k x2).bind fun t192 => (if t192 = 0 then (none) else (if (Int.tmod (wrap64 (x0 + x1)) t192) = 0 then (serinetteref14_Cuts.j1 k x1 (wrap64 (x0 + x1)) t192 (decide ((wrap64 (Int.tdiv (wrap64 (x0 + x1)) t192)) ≤ x1))) else (serinetteref14_Cuts.j1 k x1 (wrap64 (x0 + x1)) t192 true))))
def serinetteref14_Cuts.j1 : Nat → Int → Int → Int → Bool → Option (List Int)
  | 0, _, _, _, _ => none
  | k + 1, x1, x7, x8, x39 => if x39 = true then (some ([] : List Int)) else (if x8 = 0 then (none) else (serinetteref14_Cuts.l0 k x7 x8 (([wrap64 ((wrap64 (Int.tdiv x7 x8)) - x1)] : List Int))))
def serinetteref14_Cuts.l0 : Nat → Int → Int → List Int → Option (List Int)
  | 0, _, _, _ => none
  | k + 1, x7, x8, x9 => if (x9.length : Int) < x8 then (if x8 = 0 then (none) else (if x9.length < 17592186044416 then (serinetteref14_Cuts.l0 k x7 x8 (x9 ++ [wrap64 (Int.tdiv x7 x8)])) else (none))) else (some x9)
end
def serinetteref14_Cuts.f (k : Nat) (a0 : Int) (a1 : Int) (a2 : Int) : Option (List Int) := if a0 < 0 then (serinetteref14_Cuts.j0 k a0 a1 a2 true) else (if a1 < 0 then (serinetteref14_Cuts.j0 k a0 a1 a2 true) else (if a2 < 0 then (serinetteref14_Cuts.j0 k a0 a1 a2 true) else (serinetteref14_Cuts.j0 k a0 a1 a2 (decide (a2 > 15)))))
set_option maxHeartbeats 8000000 in
set_option maxRecDepth 100000 in
theorem serinetteref14_Cuts.calls (k : Nat) (a0 : Int) (a1 : Int) (a2 : Int) (r : List Int) (w : World) (h : serinetteref14_Cuts.f k a0 a1 a2 = some r) :
    Calls Try.prog 20 #[.int .i64 a0, .int .i64 a1, .int .i64 a2] w fun e w' => ∃ v0_ : Value, e = .returned (v0_) ∧ Kd.R (Kd.int .i64) 3 w' w.heap.size (fun _ => True) v0_ r ∧ Below w.heap.size w w' := by
  have HB := zF.mk (Below.refl w.heap.size w)
  have H : (if a0 < 0 then (serinetteref14_Cuts.j0 k a0 a1 a2 true) else (if a1 < 0 then (serinetteref14_Cuts.j0 k a0 a1 a2 true) else (if a2 < 0 then (serinetteref14_Cuts.j0 k a0 a1 a2 true) else (serinetteref14_Cuts.j0 k a0 a1 a2 (decide (a2 > 15)))))) = some r := h
  clear h
  have HC4 := zF.mk H
  clear H
  go_enter Try.func20, Try.ntmps20
  go_upto_region 1 with (fail)
  go_cut [23] (fun v23 wc => ∃ (kq : Nat) (x23_3 : Bool), v23 = .bool x23_3 ∧ zF (serinetteref14_Cuts.j0 kq a0 a1 a2 x23_3 = some r) ∧ zF (kq ≤ k) ∧ zF (Below w.heap.size w wc))
  case first =>
    have H := HC4.out
    clear HC4
    by_cases c5 : a0 < 0
    · rw [if_pos c5] at H
      have c5b0 : decide (a0 < 0) = true := decide_eq_true c5
      clear c5
      (first | rw [c5b0] | (simp only [i64_w, i32_w]; rw [c5b0]) | skip)
      have H' := zF.mk H
      clear H
      go_wp2
      go_meet
      case rel => exact ⟨_, (true), (by first | rfl | (simp; done) | (simp only [i64_w, i32_w]; done) | (simp [*]; done) | (simp only [i64_w, i32_w]; first | rfl | (simp; done) | (simp [*]; done))), H', ⟨by first | omega | exact Nat.le_refl _⟩, ⟨by repeat (first | (with_reducible first | exact HB.out | apply zE | apply zB | apply zC) | exact HB.out)⟩⟩
    · rw [if_neg c5] at H
      have c5b0 : decide (a0 < 0) = false := decide_eq_false c5
      clear c5
      (first | rw [c5b0] | (simp only [i64_w, i32_w]; rw [c5b0]) | skip)
      by_cases c6 : a1 < 0
      · rw [if_pos c6] at H
        have c6b0 : decide (a1 < 0) = true := decide_eq_true c6
        clear c6
        have H' := zF.mk H
        clear H
        go_wp2
        go_meet
        case rel => exact ⟨_, (true), (by first | rfl | (simp; done) | (simp only [i64_w, i32_w]; done) | (simp [*]; done) | (simp only [i64_w, i32_w]; first | rfl | (simp; done) | (simp [*]; done))), H', ⟨by first | omega | exact Nat.le_refl _⟩, ⟨by repeat (first | (with_reducible first | exact HB.out | apply zE | apply zB | apply zC) | exact HB.out)⟩⟩
      · rw [if_neg c6] at H
        have c6b0 : decide (a1 < 0) = false := decide_eq_false c6
        clear c6
        by_cases c7 : a2 < 0
        · rw [if_pos c7] at H
          have c7b0 : decide (a2 < 0) = true := decide_eq_true c7
          clear c7
          have H' := zF.mk H
          clear H
          go_wp2
          go_meet
          case rel => exact ⟨_, (true), (by first | rfl | (simp; done) | (simp only [i64_w, i32_w]; done) | (simp [*]; done) | (simp only [i64_w, i32_w]; first | rfl | (simp; done) | (simp [*]; done))), H', ⟨by first | omega | exact Nat.le_refl _⟩, ⟨by repeat (first | (with_reducible first | exact HB.out | apply zE | apply zB | apply zC) | exact HB.out)⟩⟩
        · rw [if_neg c7] at H
          have c7b0 : decide (a2 < 0) = false := decide_eq_false c7
          clear c7
          have H' := zF.mk H
          clear H
          go_wp2
          go_meet
          case rel => exact ⟨_, (decide (a2 > 15)), (by first | rfl | (simp; done) | (simp only [i64_w, i32_w]; done) | (simp [*]; done) | (simp only [i64_w, i32_w]; first | rfl | (simp; done) | (simp [*]; done))), H', ⟨by first | omega | exact Nat.le_refl _⟩, ⟨by repeat (first | (with_reducible first | exact HB.out | apply zE | apply zB | apply zC) | exact HB.out)⟩⟩
  case rest =>
    clear HC4
    try clear c2
    try clear p2
    try clear c5
    try clear c5b0
    try clear c6
    try clear c6b0
    try clear c7
    try clear c7b0
    obtain ⟨kq, x23_3, rfl, HA, HJ3, HB⟩ := hcut
    cases kq with
    | zero => exact absurd HA.out (by simp [serinetteref14_Cuts.j0])
    | succ kj3 =>
      have H := HA.out
      clear HA
      simp only [serinetteref14_Cuts.j0] at H
      by_cases c8 : x23_3 = true
      · subst c8
        have H1 : (some ([] : List Int)) = some r := by rw [if_pos rfl] at H; exact H
        clear H
        have H := H1
        clear H1
        obtain rfl := Option.some.inj H
        go_wp2
        go_ret
        exact ⟨_, by first | rfl | (simp [errW_none, errW_some] <;> rfl) | (simp [*, errW_none, errW_some] <;> rfl), by first | exact Kd.R_nil _ _ _ _ _ | exact Kd.N_nil _ _ _ _ _ | exact Kd.V_nil _ _ _ _ _ | exact Kd.Q_nil _ _ _ _ _ | exact Kd.S_nil _ _ _ _ _, by repeat (first | (with_reducible first | exact HB.out | apply zE | apply zB | apply zC) | exact HB.out)⟩
      · replace c8 := Bool.eq_false_iff.mpr c8
        subst c8
        have H1 : ((serinetteref06_Power.f kj3 a2).bind fun t192 => (if t192 = 0 then (none) else (if (Int.tmod (wrap64 (a0 + a1)) t192) = 0 then (serinetteref14_Cuts.j1 kj3 a1 (wrap64 (a0 + a1)) t192 (decide ((wrap64 (Int.tdiv (wrap64 (a0 + a1)) t192)) ≤ a1))) else (serinetteref14_Cuts.j1 kj3 a1 (wrap64 (a0 + a1)) t192 true)))) = some r := by rw [if_neg (show ¬ (false = true) by decide)] at H; exact H
        clear H
        have H := H1
        clear H1
        replace H := Option.bind_eq_some_iff.mp H
        obtain ⟨t192, A90, H⟩ := H
        replace H : (if t192 = 0 then (none) else (if (Int.tmod (wrap64 (a0 + a1)) t192) = 0 then (serinetteref14_Cuts.j1 kj3 a1 (wrap64 (a0 + a1)) t192 (decide ((wrap64 (Int.tdiv (wrap64 (a0 + a1)) t192)) ≤ a1))) else (serinetteref14_Cuts.j1 kj3 a1 (wrap64 (a0 + a1)) t192 true))) = some r := H
        have A9 := zF.mk A90
        clear A90
        have HC10 := zF.mk H
        clear H
        go_upto_region 5 with (first | ((with_reducible refine gate_callee (f := 40) rfl ?_); refine goesL_ (some 28) rfl rfl Try.func40 (by kernel_rfl) rfl #[.int .i64 a2] rfl (by (try simp only [List.map_toArray, List.map_cons, List.map_nil]); first | done | rfl | (simp only [List.length_drop, List.length_take]; rfl)) ?_; (with_reducible refine (serinetteref06_Power.calls kj3 a2 t192 _ A9.out).mono ?_); rintro e w' ⟨rfl, ⟨nd, rfl⟩⟩; refine ⟨_, rfl, ?_⟩))
        (try simp only [Act.put, List.setIfInBounds_toArray, List.set_cons_zero, List.set_cons_succ])
        go_cut [39] (fun v39 wc => ∃ (kq : Nat) (x39_9 : Bool), v39 = .bool x39_9 ∧ zF (serinetteref14_Cuts.j1 kq a1 (wrap64 (a0 + a1)) t192 x39_9 = some r) ∧ zF (kq ≤ kj3) ∧ zF (Below w.heap.size w wc))
        case first =>
          have H := HC10.out
          clear HC10
          by_cases c11 : t192 = 0
          · rw [if_pos c11] at H
            exact absurd H (by simp)
          · rw [if_neg c11] at H
            have c11b0 : (t192 == 0) = false := beq_eq_false_iff_ne.mpr c11
            have c11b1 : (t192 != 0) = true := bne_iff_ne.mpr c11
            (first | rw [c11b0] | (simp only [i64_w, i32_w]; rw [c11b0]) | skip)
            by_cases c12 : (Int.tmod (wrap64 (a0 + a1)) t192) = 0
            · rw [if_pos c12] at H
              have c12b0 : ((Int.tmod (wrap64 (a0 + a1)) t192) == 0) = true := beq_iff_eq.mpr c12
              have c12b1 : ((Int.tmod (wrap64 (a0 + a1)) t192) != 0) = false := bne_eq_false_iff_eq.mpr c12
              clear c12
              have H' := zF.mk H
              clear H
              go_wp2
              go_meet
              case rel => exact ⟨_, (decide ((wrap64 (Int.tdiv (wrap64 (a0 + a1)) t192)) ≤ a1)), (by first | rfl | (simp; done) | (simp only [i64_w, i32_w]; done) | (simp [*]; done) | (simp only [i64_w, i32_w]; first | rfl | (simp; done) | (simp [*]; done))), H', ⟨by have := HJ3.out; first | omega | exact Nat.le_refl _⟩, ⟨by repeat (first | (with_reducible first | exact HB.out | apply zE | apply zB | apply zC) | exact HB.out)⟩⟩
            · rw [if_neg c12] at H
              have c12b0 : ((Int.tmod (wrap64 (a0 + a1)) t192) == 0) = false := beq_eq_false_iff_ne.mpr c12
              have c12b1 : ((Int.tmod (wrap64 (a0 + a1)) t192) != 0) = true := bne_iff_ne.mpr c12
              have H' := zF.mk H
              clear H
              go_wp2
              go_meet
              case rel => exact ⟨_, (true), (by first | rfl | (simp; done) | (simp only [i64_w, i32_w]; done) | (simp [*]; done) | (simp only [i64_w, i32_w]; first | rfl | (simp; done) | (simp [*]; done))), H', ⟨by have := HJ3.out; first | omega | exact Nat.le_refl _⟩, ⟨by repeat (first | (with_reducible first | exact HB.out | apply zE | apply zB | apply zC) | exact HB.out)⟩⟩
        case rest =>
          clear HC10
          try clear c1
          try clear c2
          try clear p2
          try clear c4
          try clear c5
          try clear c5b0
          try clear c6
          try clear c6b0
          try clear p6
          try clear c7
          try clear c7b0
          try clear c8
          try clear c11
          try clear c11b0
          try clear c11b1
          try clear c12
          try clear c12b0
          try clear c12b1
          try clear p2
          obtain ⟨kq, x39_9, rfl, HA, HJ9, HB⟩ := hcut
          cases kq with
          | zero => exact absurd HA.out (by simp [serinetteref14_Cuts.j1])
          | succ kj9 =>
            have H := HA.out
            clear HA
            simp only [serinetteref14_Cuts.j1] at H
            by_cases c13 : x39_9 = true
            · subst c13
              have H1 : (some ([] : List Int)) = some r := by rw [if_pos rfl] at H; exact H
              clear H
              have H := H1
              clear H1
              obtain rfl := Option.some.inj H
              go_wp2
              go_ret
              exact ⟨_, by first | rfl | (simp [errW_none, errW_some] <;> rfl) | (simp [*, errW_none, errW_some] <;> rfl), by first | exact Kd.R_nil _ _ _ _ _ | exact Kd.N_nil _ _ _ _ _ | exact Kd.V_nil _ _ _ _ _ | exact Kd.Q_nil _ _ _ _ _ | exact Kd.S_nil _ _ _ _ _, by repeat (first | (with_reducible first | exact HB.out | apply zE | apply zB | apply zC) | exact HB.out)⟩
            · replace c13 := Bool.eq_false_iff.mpr c13
              subst c13
              have H1 : (if t192 = 0 then (none) else (serinetteref14_Cuts.l0 kj9 (wrap64 (a0 + a1)) t192 (([wrap64 ((wrap64 (Int.tdiv (wrap64 (a0 + a1)) t192)) - a1)] : List Int)))) = some r := by rw [if_neg (show ¬ (false = true) by decide)] at H; exact H
              clear H
              have H := H1
              clear H1
              by_cases c14 : t192 = 0
              · rw [if_pos c14] at H
                exact absurd H (by simp)
              · rw [if_neg c14] at H
                have c14b0 : (t192 == 0) = false := beq_eq_false_iff_ne.mpr c14
                have c14b1 : (t192 != 0) = true := bne_iff_ne.mpr c14
                obtain ⟨y193, hy193⟩ : ∃ y_ : List Int, y_ = (([wrap64 ((wrap64 (Int.tdiv (wrap64 (a0 + a1)) t192)) - a1)] : List Int)) := ⟨_, rfl⟩
                replace H : (serinetteref14_Cuts.l0 kj9 (wrap64 (a0 + a1)) t192 y193) = some r := by first | (rw [hy193]; with_reducible exact H) | (have H2_ := (Option.bind_some _ _).symm.trans H; rw [hy193]; with_reducible exact H2_) | (have H2_ := (Option.bind_some _ _).symm.trans H; with_reducible exact H2_) | with_reducible exact H | (rw [hy193]; exact H) | exact H
                have Ny193 := zF.mk hy193
                clear hy193
                have H' := zF.mk H
                clear H
                go_wp2_with (first | ((with_reducible refine gate_dst (N := 45) rfl ?_); refine Kd.R_lit (Kd.int .i64) _ 3 ?hg (N := 45) ?hd (xs := ([wrap64 ((wrap64 (Int.tdiv (wrap64 (a0 + a1)) t192)) - a1)] : List Int)) (inner := [.int .i64 (wrap64 ((wrap64 (Int.tdiv (wrap64 (a0 + a1)) t192)) - a1))]) (ok := fun _ => True) (okp := fun _ => True) ?hr ?hp (fun _ hk => hk) trivial (Below.refl _ _) (Nat.le_refl _) (by simp) ?_; (case hd => rfl); (case hg => rfl); (case hr => first | (go_simp; done) | (go_simp; rfl)); (case hp => exact (Reps.one (show Kd.M (Kd.int .i64) _ _ _ (wrap64 ((wrap64 (Int.tdiv (wrap64 (a0 + a1)) t192)) - a1)) [.int .i64 (wrap64 ((wrap64 (Int.tdiv (wrap64 (a0 + a1)) t192)) - a1))] from rfl) (Reps.none _ _))); intro v194 w15 ho16 hb hg_ hnew_; clear hg_ hnew_; (first | rw [← Ny193.out] at ho16 | (simp only [Int.reduceToNat] at ho16; rw [← Ny193.out] at ho16)); have n0_ := zF.mk (Kd.R_lower ho16 (below_size (by repeat (first | (with_reducible first | exact HB.out | apply zE | apply zB | apply zC) | exact HB.out)))); have n1_ := zF.mk (below_step (by repeat (first | (with_reducible first | exact HB.out | apply zE | apply zB | apply zC) | exact HB.out)) hb); clear HB; have HO195 := n0_; have HB := n1_; clear n0_ n1_; clear hb ho16))
                go_loopg [9] kj9 (fun kq v9 w' => ∃ (x9_3 : List Int), zF (serinetteref14_Cuts.l0 kq (wrap64 (a0 + a1)) t192 x9_3 = some r) ∧ zF (kq ≤ kj9) ∧ zF (Kd.R (Kd.int .i64) 3 w' w.heap.size (fun _ => True) v9 x9_3) ∧ zF (Below w.heap.size w w'))
                case atStart => exact ⟨(y193), H', ⟨Nat.le_refl _⟩, ⟨by (with_reducible repeat (first | apply Kd.zR | apply Kd.zP | apply Kd.zQ)); exact HO195.out⟩, ⟨by repeat (first | (with_reducible first | exact HB.out | apply zE | apply zB | apply zC) | exact HB.out)⟩⟩
                case round =>
                  clear H'
                  try clear c1
                  try clear c2
                  try clear p2
                  try clear c4
                  try clear c5
                  try clear c5b0
                  try clear c6
                  try clear c6b0
                  try clear p6
                  try clear c7
                  try clear c7b0
                  try clear c8
                  try clear c11
                  try clear c11b0
                  try clear c11b1
                  try clear c12
                  try clear c12b0
                  try clear c12b1
                  try clear c13
                  try clear c14
                  try clear c14b0
                  try clear c14b1
                  try clear p2
                  try clear p6
                  obtain ⟨x9_3, HA, HK3, HO_9, HB⟩ := hrel
                  cases gk with
                  | zero => exact absurd HA.out (by simp [serinetteref14_Cuts.l0])
                  | succ k3 =>
                    have H := HA.out
                    clear HA
                    simp only [serinetteref14_Cuts.l0] at H
                    by_cases c17 : (x9_3.length : Int) < t192
                    · rw [if_pos c17] at H
                      have c17b0 : decide ((x9_3.length : Int) < t192) = true := decide_eq_true c17
                      clear c17
                      by_cases c18 : t192 = 0
                      · rw [if_pos c18] at H
                        exact absurd H (by simp)
                      · rw [if_neg c18] at H
                        have c18b0 : (t192 == 0) = false := beq_eq_false_iff_ne.mpr c18
                        have c18b1 : (t192 != 0) = true := bne_iff_ne.mpr c18
                        by_cases c19 : x9_3.length < 17592186044416
                        · rw [if_pos c19] at H
                          have LMc19 := zF.mk c19
                          clear c19
                          obtain ⟨y196, hy196⟩ : ∃ y_ : List Int, y_ = (x9_3 ++ [wrap64 (Int.tdiv (wrap64 (a0 + a1)) t192)]) := ⟨_, rfl⟩
                          replace H : (serinetteref14_Cuts.l0 k3 (wrap64 (a0 + a1)) t192 y196) = some r := by first | (rw [hy196]; with_reducible exact H) | (have H2_ := (Option.bind_some _ _).symm.trans H; rw [hy196]; with_reducible exact H2_) | (have H2_ := (Option.bind_some _ _).symm.trans H; with_reducible exact H2_) | with_reducible exact H | (rw [hy196]; exact H) | exact H
                          have Ny196 := zF.mk hy196
                          clear hy196
                          have H' := zF.mk H
                          clear H
                          obtain ⟨Ao20, co20, eo20⟩ := Kd.R_slice HO_9.out
                          subst eo20
                          go_wp2_with (first | ((with_reducible refine gate_builtin (b := .append) (xs := #[.tmp 50, .tmp 54]) rfl ?_); at_builtin; refine Kd.R_append (Kd.int .i64) (w0 := w) w.heap.size rfl (.tmp 50) (.tmp 54) 22 3 (.int .i64 0) 8 rfl Try.underlying22 info3 rfl (by decide) (by omega) (.slice Ao20 x9_3.length co20) x9_3 (wrap64 (Int.tdiv (wrap64 (a0 + a1)) t192)) [.int .i64 (wrap64 (Int.tdiv (wrap64 (a0 + a1)) t192))] (fun _ => True) (fun _ => False) rfl rfl ?aP (fun _ hk => hk.elim) ?aF ?aO ?aB ?aS ?aL ?_; (case aP => exact rfl); (case aB => exact (by repeat (first | (with_reducible first | exact HB.out | apply zE | apply zB | apply zC) | exact HB.out))); (case aF => exact (fun _ _ => trivial)); (case aO => exact (by (with_reducible repeat (first | apply Kd.zR | apply Kd.zP | apply Kd.zQ)); exact HO_9.out)); (case aS => exact (below_size (by repeat (first | (with_reducible first | exact HB.out | apply zE | apply zB | apply zC) | exact HB.out)))); (case aL => have := LMc19.out; omega); intro v197 w21 ho hb hg hat; rw [← Ny196.out] at ho; have n0_ := zF.mk (hb); have n1_ := zF.mk (ho); clear HB; clear HO_9; have HB := n0_; have HO198 := n1_; clear n0_ n1_; clear ho hb hg hat))
                          go_roundg k3
                          case measure => have := HJ3.out; have := HJ9.out; have := HK3.out; omega
                          case rel => exact ⟨(y196), H', ⟨by have := HJ3.out; have := HJ9.out; have := HK3.out; omega⟩, ⟨by (with_reducible repeat (first | apply Kd.zR | apply Kd.zP | apply Kd.zQ)); exact HO198.out⟩, ⟨by repeat (first | (with_reducible first | exact HB.out | apply zE | apply zB | apply zC) | exact HB.out)⟩⟩
                        · rw [if_neg c19] at H
                          exact absurd H (by simp)
                    · rw [if_neg c17] at H
                      have c17b0 : decide ((x9_3.length : Int) < t192) = false := decide_eq_false c17
                      clear c17
                      obtain rfl := Option.some.inj H
                      obtain ⟨Ao22, co22, eo22⟩ := Kd.R_slice HO_9.out
                      subst eo22
                      go_wp2
                      go_ret
                      exact ⟨_, by first | rfl | (simp [errW_none, errW_some] <;> rfl) | (simp [*, errW_none, errW_some] <;> rfl), by (with_reducible repeat (first | apply Kd.zR | apply Kd.zP | apply Kd.zQ)); exact HO_9.out, by repeat (first | (with_reducible first | exact HB.out | apply zE | apply zB | apply zC) | exact HB.out)⟩
end Go.Proofs.Ytokdjeoecnnckaa.PA
end
section
namespace Go.Proofs.Ytokdjeoecnnckaa.PA
open Go.RowKit Go.Proofs.YtokdjeoecnnckaaW.PrintWords Go.Proofs.YtokdjeoecnnckaaW.PrintLast Go.Proofs.YtokdjeoecnnckaaW.PrintMore
attribute [local go_sem] max2_int min2_int max_two min_two max_three min_three max_four min_four   -- for this text's walks alone
set_option linter.unusedVariables false
set_option linter.unusedSimpArgs false

def serinetteref14_Split.l0 : Nat → List Int → List Int → List (List Int) → Int → Int → Option ((List (List Int)))
  | 0, _, _, _, _, _ => none
  | k + 1, x0, x1, x5, x6, x7 => if x7 < (x1.length : Int) then (if 0 ≤ x7 then (if 0 ≤ x6 then (if x6 ≤ (wrap64 (x6 + (rd x1 x7))) then (if (wrap64 (x6 + (rd x1 x7))) ≤ (x0.length : Int) then (if x5.length < 5864062014805 then (serinetteref14_Split.l0 k x0 x1 (x5 ++ [((x0.take ((wrap64 (x6 + (rd x1 x7))) : Int).toNat).drop (x6 : Int).toNat)]) (wrap64 (x6 + (rd x1 x7))) (wrap64 (x7 + 1))) else (none)) else (none)) else (none)) else (none)) else (none)) else (some x5)
def serinetteref14_Split.f (k : Nat) (l0 : List Int) (l1 : List Int) : Option ((List (List Int))) := serinetteref14_Split.l0 k l0 l1 ([] : List (List Int)) 0 0
set_option maxHeartbeats 8000000 in
set_option maxRecDepth 100000 in
theorem serinetteref14_Split.calls (k : Nat) (P0_ : Nat → Prop) (A0 : Option Addr) (c0 : Nat) (l0 : List Int) (A1 : Option Addr) (c1 : Nat) (l1 : List Int) (r : List (List Int)) (w : World) (hs0 : Kd.V (Kd.int .i64) 3 w w.heap.size (fun k_ => P0_ k_) (.slice A0 l0.length c0) l0) (hr1 : Kd.C (Kd.int .i64) w A1 l1.length l1) (hc1 : l1.length ≤ c1) (h : serinetteref14_Split.f k l0 l1 = some r) :
    Calls Try.prog 21 #[.slice A0 l0.length c0, .slice A1 l1.length c1] w fun e w' => ∃ v0_ : Value, e = .returned (v0_) ∧ Kd.N (Kd.slice 3 (Kd.int .i64)) 22 w' w.heap.size (fun k_ => (P0_ k_ ∨ w.heap.size ≤ k_)) v0_ r ∧ Below w.heap.size w w' := by
  have HO0 := zF.mk (show Kd.V (Kd.int .i64) 3 w w.heap.size (fun k_ => (P0_ k_ ∨ w.heap.size ≤ k_)) (.slice A0 l0.length c0) l0 from Kd.V_mono hs0 (fun k_ hk => .inl hk))
  have HR1 := zF.mk hr1
  have HC1 := zF.mk hc1
  clear hr1 hc1
  have HB := zF.mk (Below.refl w.heap.size w)
  have H : (serinetteref14_Split.l0 k l0 l1 ([] : List (List Int)) 0 0) = some r := h
  clear h
  have H' := zF.mk H
  clear H
  go_enter Try.func21, Try.ntmps21
  go_wp2
  go_loopg [5, 6, 7] k (fun kq v5 v6 v7 w' => ∃ (x5_1 : List (List Int)) (x6_1 : Int) (x7_1 : Int), v6 = .int .i64 x6_1 ∧ v7 = .int .i64 x7_1 ∧ zF (serinetteref14_Split.l0 kq l0 l1 x5_1 x6_1 x7_1 = some r) ∧ zF (kq ≤ k) ∧ zF (Kd.V (Kd.int .i64) 3 w' w.heap.size (fun k_ => (P0_ k_ ∨ w.heap.size ≤ k_) ∧ some k_ ≠ (v5 : Value).ownBlock) (.slice A0 l0.length c0) l0) ∧ zF (Kd.N (Kd.slice 3 (Kd.int .i64)) 22 w' w.heap.size (fun k_ => (P0_ k_ ∨ w.heap.size ≤ k_)) v5 x5_1) ∧ zF (Below w.heap.size w w'))
  case atStart => exact ⟨(([] : List (List Int))), (0), (0), (by first | rfl | (simp; done) | (simp only [i64_w, i32_w]; done) | (simp [*]; done) | (simp only [i64_w, i32_w]; first | rfl | (simp; done) | (simp [*]; done))), (by first | rfl | (simp; done) | (simp only [i64_w, i32_w]; done) | (simp [*]; done) | (simp only [i64_w, i32_w]; first | rfl | (simp; done) | (simp [*]; done))), H', ⟨Nat.le_refl _⟩, ⟨by (with_reducible repeat (first | apply Kd.V_alloc | apply Kd.V_drewN | apply Kd.V_drew)); exact Kd.V_mono HO0.out (fun _ hk => ⟨hk, (by simp [Value.ownBlock])⟩)⟩, ⟨by first | exact Kd.S_nil _ _ _ _ _ | exact Kd.N_nil _ _ _ _ _ | exact Kd.V_nil _ _ _ _ _ | exact Kd.Q_nil _ _ _ _ _ | exact Kd.R_nil _ _ _ _ _⟩, ⟨by repeat (first | (with_reducible first | exact HB.out | apply zE | apply zB | apply zC) | exact HB.out)⟩⟩
  case round =>
    clear H'
    try clear c1
    try clear c2
    try clear p2
    obtain ⟨x5_1, x6_1, x7_1, rfl, rfl, HA, HK1, HO_0, HO_5, HB⟩ := hrel
    cases gk with
    | zero => exact absurd HA.out (by simp [serinetteref14_Split.l0])
    | succ k1 =>
      have H := HA.out
      clear HA
      simp only [serinetteref14_Split.l0] at H
      by_cases c3 : x7_1 < (l1.length : Int)
      · rw [if_pos c3] at H
        have c3b0 : decide (x7_1 < (l1.length : Int)) = true := decide_eq_true c3
        clear c3
        by_cases c4 : 0 ≤ x7_1
        · rw [if_pos c4] at H
          have c4b0 : decide (0 ≤ x7_1) = true := decide_eq_true c4
          clear c4
          by_cases c5 : 0 ≤ x6_1
          · rw [if_pos c5] at H
            have c5b0 := eq_true c5
            have c5b1 : decide (0 ≤ x6_1) = true := decide_eq_true c5
            clear c5
            by_cases c6 : x6_1 ≤ (wrap64 (x6_1 + (rd l1 x7_1)))
            · rw [if_pos c6] at H
              have c6b0 := eq_true c6
              have c6b1 : decide (x6_1 ≤ (wrap64 (x6_1 + (rd l1 x7_1)))) = true := decide_eq_true c6
              by_cases c7 : (wrap64 (x6_1 + (rd l1 x7_1))) ≤ (l0.length : Int)
              · rw [if_pos c7] at H
                have c7b0 := eq_true c7
                have c7b1 : decide ((wrap64 (x6_1 + (rd l1 x7_1))) ≤ (l0.length : Int)) = true := decide_eq_true c7
                obtain ⟨y200, hy200⟩ : ∃ y_ : List Int, y_ = ((l0.take ((wrap64 (x6_1 + (rd l1 x7_1))) : Int).toNat).drop (x6_1 : Int).toNat) := ⟨_, rfl⟩
                replace H : (if x5_1.length < 5864062014805 then (serinetteref14_Split.l0 k1 l0 l1 (x5_1 ++ [y200]) (wrap64 (x6_1 + (rd l1 x7_1))) (wrap64 (x7_1 + 1))) else (none)) = some r := by first | (rw [hy200]; with_reducible exact H) | (have H2_ := (Option.bind_some _ _).symm.trans H; rw [hy200]; with_reducible exact H2_) | (have H2_ := (Option.bind_some _ _).symm.trans H; with_reducible exact H2_) | with_reducible exact H | (rw [hy200]; exact H) | exact H
                have Ny200 := zF.mk hy200
                clear hy200
                by_cases c8 : x5_1.length < 5864062014805
                · rw [if_pos c8] at H
                  have LMc8 := zF.mk c8
                  clear c8
                  obtain ⟨y205, hy205⟩ : ∃ y_ : List (List Int), y_ = (x5_1 ++ [y200]) := ⟨_, rfl⟩
                  replace H : (serinetteref14_Split.l0 k1 l0 l1 y205 (wrap64 (x6_1 + (rd l1 x7_1))) (wrap64 (x7_1 + 1))) = some r := by first | (rw [hy205]; with_reducible exact H) | (have H2_ := (Option.bind_some _ _).symm.trans H; rw [hy205]; with_reducible exact H2_) | (have H2_ := (Option.bind_some _ _).symm.trans H; with_reducible exact H2_) | with_reducible exact H | (rw [hy205]; exact H) | exact H
                  have Ny205 := zF.mk hy205
                  clear hy205
                  have H' := zF.mk H
                  clear H
                  have p199 : 0 ≤ (x7_1 : Int) := of_decide_eq_true (by first | (with_reducible assumption) | assumption)
                  have q199 : x7_1 < (l1.length : Int) := of_decide_eq_true (by first | (with_reducible assumption) | assumption)
                  obtain ⟨ad199, e199, hx199_0⟩ := Kd.at_int HR1.out x7_1 p199 q199
                  cases e199
                  replace hx199_0 := (HB.out.cell (World.block_lt_of_cell? w _ hx199_0)).trans hx199_0
                  replace p199 := eq_true p199
                  replace q199 := eq_true q199
                  have q9 : ((wrap64 (x6_1 + (rd l1 x7_1))) : Int) ≤ ((l0.length : Int) : Int) := of_decide_eq_true (by first | (with_reducible assumption) | assumption)
                  obtain ⟨i09, hi09, _, hsz9, _⟩ := info_parts info3
                  have hroom9 : l0.length ≤ c0 := (Kd.V_reads' HO_0.out).2.1
                  have hC9 : Kd.F (Kd.int .i64) _ _ A0 l0.length l0 := (Kd.V_at (base := w.heap.size) HO_0.out).2.2
                  have ql9 : (x6_1 : Int) ≤ ((wrap64 (x6_1 + (rd l1 x7_1))) : Int) := of_decide_eq_true (by first | (with_reducible assumption) | assumption)
                  have q09 : (0 : Int) ≤ (x6_1 : Int) := of_decide_eq_true (by first | (with_reducible assumption) | assumption)
                  have hcut9 := cut_mid (P := Try.prog) 22 3 .i64 .i64 Try.underlying22 hi09 1 hsz9 A0 l0.length c0 x6_1 (wrap64 (x6_1 + (rd l1 x7_1))) q09 ql9 q9 hroom9
                  have hr9 := Kd.F_mid (lo := (x6_1 : Int).toNat) (hi := ((wrap64 (x6_1 + (rd l1 x7_1))) : Int).toNat) (c := c0) hC9 (by omega) (by omega) hroom9
                  obtain ⟨A9, hA9⟩ : ∃ A1, A1 = (if c0 = (x6_1 : Int).toNat then A0 else (A0 : Option Addr).map (·.add ((x6_1 : Int).toNat * 1))) := ⟨_, rfl⟩
                  obtain ⟨c9, hc9⟩ : ∃ c1, c1 = c0 - (x6_1 : Int).toNat := ⟨_, rfl⟩
                  have hy9 : y200.length = ((wrap64 (x6_1 + (rd l1 x7_1))) : Int).toNat - (x6_1 : Int).toNat := (by rw [Ny200.out, List.length_drop, List.length_take] <;> omega)
                  rw [show ((l0).take ((wrap64 (x6_1 + (rd l1 x7_1))) : Int).toNat).drop (x6_1 : Int).toNat = y200 from Ny200.out.symm] at hr9
                  replace hr9 : Kd.F (Kd.int .i64) _ _ A9 y200.length y200 := (by rw [hA9]; exact hr9)
                  rw [← hy9, ← hA9, ← hc9] at hcut9
                  have HO204 := zF.mk (show Kd.V (Kd.int .i64) 3 _ w.heap.size _ (.slice A9 y200.length c9) y200 from Kd.V_mk (by rw [hy9, hc9]; exact Nat.sub_le_sub_right (Nat.le_trans (by omega) hroom9) _) hr9)
                  have HC204 := zF.mk (show y200.length ≤ c9 from by rw [hy9, hc9]; exact Nat.sub_le_sub_right (Nat.le_trans (by omega) hroom9) _)
                  clear hr9 hC9 hroom9 hi09 hsz9 hc9
                  have KY9 := zF.mk hy9
                  have KA9 := zF.mk hA9
                  clear hy9 hA9
                  replace q9 := eq_true q9
                  go_wp2_with (first | ((with_reducible refine gate_builtin (b := .append) (xs := #[.tmp 14, .tmp 24]) rfl ?_); at_builtin; refine Kd.N_append (Kd.slice 3 (Kd.int .i64)) (w0 := w) w.heap.size rfl (.tmp 14) (.tmp 24) 53 22 (.slice none 0 0) 24 rfl Try.underlying53 info22 rfl (by decide) (by omega) u5 x5_1 y200 [.slice A9 y200.length c9] (fun k_ => (P0_ k_ ∨ w.heap.size ≤ k_)) (fun k_ => ((fun k_ => (P0_ k_ ∨ w.heap.size ≤ k_))) k_ ∧ some k_ ≠ (u5 : Value).ownBlock) rfl rfl ?aP (fun _ hk => hk) ?aF ?aO ?aB ?aS ?aL ?_; (case aP => exact (Kd.FK_slice_mk (Kd.V_reads' (Kd.V_mono (ok' := (fun k_ => ((fun k_ => (P0_ k_ ∨ w.heap.size ≤ k_))) k_ ∧ some k_ ≠ (u5 : Value).ownBlock)) (HO204.out) (fun k_ hk => ⟨hk.1, hk.2⟩))).2.1 (Kd.V_F (Kd.V_mono (ok' := (fun k_ => ((fun k_ => (P0_ k_ ∨ w.heap.size ≤ k_))) k_ ∧ some k_ ≠ (u5 : Value).ownBlock)) (HO204.out) (fun k_ hk => ⟨hk.1, hk.2⟩))))); (case aB => exact (by repeat (first | (with_reducible first | exact HB.out | apply zE | apply zB | apply zC) | exact HB.out))); (case aF => exact (fun k_ hk => (.inr (Nat.le_trans (below_size (by repeat (first | (with_reducible first | exact HB.out | apply zE | apply zB | apply zC) | exact HB.out))) hk)))); (case aO => exact (by (with_reducible repeat (first | apply Kd.N_alloc | apply Kd.N_drewN | apply Kd.N_drew)); exact HO_5.out)); (case aS => exact (below_size (by repeat (first | (with_reducible first | exact HB.out | apply zE | apply zB | apply zC) | exact HB.out)))); (case aL => have := LMc8.out; omega); intro v206 w10 ho hb hg hat; rw [← Ny205.out] at ho; have n0_ := zF.mk (Kd.V_afterv (ok := (fun k_ => (P0_ k_ ∨ w.heap.size ≤ k_))) (by (with_reducible repeat (first | apply Kd.V_alloc | apply Kd.V_drewN | apply Kd.V_drew)); exact HO_0.out) hg hat); have n1_ := zF.mk (Kd.V_afterv (ok := (fun k_ => (P0_ k_ ∨ w.heap.size ≤ k_))) (by (with_reducible repeat (first | apply Kd.V_alloc | apply Kd.V_drewN | apply Kd.V_drew)); exact HO204.out) hg hat); have n2_ := zF.mk (hb); have n3_ := zF.mk (ho); clear HO_0; clear HO204; clear HB; clear HO_5; have HO_0 := n0_; have HO204 := n1_; have HB := n2_; have HO207 := n3_; clear n0_ n1_ n2_ n3_; clear ho hb hg hat; have p208 : 0 ≤ (x7_1 : Int) := of_decide_eq_true (by first | (with_reducible assumption) | assumption); have q208 : x7_1 < (l1.length : Int) := of_decide_eq_true (by first | (with_reducible assumption) | assumption); obtain ⟨ad208, e208, hx208_0⟩ := Kd.at_int HR1.out x7_1 p208 q208; obtain rfl : ad199 = ad208 := (by injection e208); replace hx208_0 := (HB.out.cell (World.block_lt_of_cell? w _ hx208_0)).trans hx208_0; replace p208 := eq_true p208; replace q208 := eq_true q208))
                  go_roundg k1
                  case measure => have := HK1.out; omega
                  case rel => exact ⟨(y205), (wrap64 (x6_1 + (rd l1 x7_1))), (wrap64 (x7_1 + 1)), (by first | rfl | (simp; done) | (simp only [i64_w, i32_w]; done) | (simp [*]; done) | (simp only [i64_w, i32_w]; first | rfl | (simp; done) | (simp [*]; done))), (by first | rfl | (simp; done) | (simp only [i64_w, i32_w]; done) | (simp [*]; done) | (simp only [i64_w, i32_w]; first | rfl | (simp; done) | (simp [*]; done))), H', ⟨by have := HK1.out; omega⟩, ⟨by (with_reducible repeat (first | apply Kd.V_alloc | apply Kd.V_drewN | apply Kd.V_drew)); exact HO_0.out⟩, ⟨by (with_reducible repeat (first | apply Kd.N_alloc | apply Kd.N_drewN | apply Kd.N_drew)); exact HO207.out⟩, ⟨by repeat (first | (with_reducible first | exact HB.out | apply zE | apply zB | apply zC) | exact HB.out)⟩⟩
                · rw [if_neg c8] at H
                  exact absurd H (by simp)
              · rw [if_neg c7] at H
                exact absurd H (by simp)
            · rw [if_neg c6] at H
              exact absurd H (by simp)
          · rw [if_neg c5] at H
            exact absurd H (by simp)
        · rw [if_neg c4] at H
          exact absurd H (by simp)
      · rw [if_neg c3] at H
        have c3b0 : decide (x7_1 < (l1.length : Int)) = false := decide_eq_false c3
        clear c3
        obtain rfl := Option.some.inj H
        go_wp2
        go_ret
        exact ⟨_, by first | rfl | (simp [errW_none, errW_some] <;> rfl) | (simp [*, errW_none, errW_some] <;> rfl), by (with_reducible repeat (first | apply Kd.N_alloc | apply Kd.N_drewN | apply Kd.N_drew)); exact HO_5.out, by repeat (first | (with_reducible first | exact HB.out | apply zE | apply zB | apply zC) | exact HB.out)⟩

def serinetteref02_Fold.f (a0 : Int) : Option (Int) := if a0 ≥ 0 then (some (IntKind.u64.wrap (2 * (IntKind.u64.wrap (a0))))) else (some (IntKind.u64.wrap ((IntKind.u64.wrap (2 * (IntKind.u64.wrap (wrap64 (-(wrap64 (a0 + 1))))))) + 1)))
set_option maxHeartbeats 8000000 in
set_option maxRecDepth 100000 in
theorem serinetteref02_Fold.calls (a0 : Int) (r : Int) (w : World) (h : serinetteref02_Fold.f a0 = some r) :
    Calls Try.prog 41 #[.int .i64 a0] w fun e w' => e = .returned (.int .u64 r) ∧ Drawn0 w w' := by
  have H : (if a0 ≥ 0 then (some (IntKind.u64.wrap (2 * (IntKind.u64.wrap (a0))))) else (some (IntKind.u64.wrap ((IntKind.u64.wrap (2 * (IntKind.u64.wrap (wrap64 (-(wrap64 (a0 + 1))))))) + 1)))) = some r := h
  clear h
  by_cases c2 : a0 ≥ 0
  · rw [if_pos c2] at H
    have c2b0 : decide (0 ≤ a0) = true := decide_eq_true c2
    clear c2
    obtain rfl := Option.some.inj H
    go_enter Try.func41, Try.ntmps41
    go_wp2
    go_ret
    exact ⟨by first | rfl | (simp; done) | (simp [*]; done), by repeat (first | exact Drawn0.refl _ | apply Drawn0.step)⟩
  · rw [if_neg c2] at H
    have c2b0 : decide (0 ≤ a0) = false := decide_eq_false c2
    clear c2
    obtain rfl := Option.some.inj H
    go_enter Try.func41, Try.ntmps41
    go_wp2
    go_ret
    exact ⟨by first | rfl | (simp; done) | (simp [*]; done), by repeat (first | exact Drawn0.refl _ | apply Drawn0.step)⟩

def serinetteref02_K.f (a0 : Int) : Option (Int) := some (mx 0 (mn a0 30))
set_option maxHeartbeats 8000000 in
set_option maxRecDepth 100000 in
theorem serinetteref02_K.calls (a0 : Int) (r : Int) (w : World) (h : serinetteref02_K.f a0 = some r) :
    Calls Try.prog 42 #[.int .i64 a0] w fun e w' => e = .returned (.int .i64 r) ∧ Below w.heap.size w w' := by
  have HB := zF.mk (Below.refl w.heap.size w)
  have H : (some (mx 0 (mn a0 30))) = some r := h
  clear h
  obtain ⟨ji2, hji2⟩ : ∃ j_ : Int, (mn a0 30) = j_ := ⟨_, rfl⟩
  replace H : (some (mx 0 (ji2))) = some r := by first | (rw [hji2] at H; exact H) | (simp only [hji2] at H ⊢; exact H)
  (try (have hji2h : ji2 ≤ 30 := by (rw [← hji2]; unfold mn; (repeat' split) <;> omega)))
  (try (have hji2g : ji2 ≤ 64 := by omega))
  have hji2_ : (if 30 < a0 then 30 else a0) = ji2 := hji2
  obtain ⟨ji3, hji3⟩ : ∃ j_ : Int, (mx 0 (ji2)) = j_ := ⟨_, rfl⟩
  replace H : (some ji3) = some r := by first | (rw [hji3] at H; exact H) | (simp only [hji3] at H ⊢; exact H)
  have hji3_ : (if 0 < (ji2) then (ji2) else 0) = ji3 := hji3
  obtain rfl := Option.some.inj H
  go_enter Try.func42, Try.ntmps42
  go_wp2
  go_ret
  exact ⟨by first | rfl | (simp [errW_none, errW_some] <;> rfl) | (simp only [← hji2, ← hji3]; first | rfl | (simp [errW_none, errW_some] <;> rfl)) | (simp [*, errW_none, errW_some] <;> rfl), by repeat (first | (with_reducible first | exact HB.out | apply zE | apply zB | apply zC) | exact HB.out)⟩

def serinetteref02_High.l0 : Nat → Int → Int → Int → Option (Int)
  | 0, _, _, _ => none
  | k + 1, x1, x5, x6 => (serinetteref02_K.f x1).bind fun t210 => (if x6 < t210 then (serinetteref02_High.l0 k x1 (IntKind.u64.wrap (Int.tdiv x5 2)) (wrap64 (x6 + 1))) else (some x5))
def serinetteref02_High.f (k : Nat) (a0 : Int) (a1 : Int) : Option (Int) := (serinetteref02_Fold.f a0).bind fun t209 => (serinetteref02_High.l0 k a1 t209 0)
set_option maxHeartbeats 8000000 in
set_option maxRecDepth 100000 in
theorem serinetteref02_High.calls (k : Nat) (a0 : Int) (a1 : Int) (r : Int) (w : World) (h : serinetteref02_High.f k a0 a1 = some r) :
    Calls Try.prog 22 #[.int .i64 a0, .int .i64 a1] w fun e w' => e = .returned (.int .u64 r) ∧ Below w.heap.size w w' := by
  have HB := zF.mk (Below.refl w.heap.size w)
  have H : ((serinetteref02_Fold.f a0).bind fun t209 => (serinetteref02_High.l0 k a1 t209 0)) = some r := h
  clear h
  replace H := Option.bind_eq_some_iff.mp H
  obtain ⟨t209, A30, H⟩ := H
  replace H : (serinetteref02_High.l0 k a1 t209 0) = some r := H
  have A3 := zF.mk A30
  clear A30
  have H' := zF.mk H
  clear H
  go_enter Try.func22, Try.ntmps22
  go_wp2_with (first | ((with_reducible refine gate_callee (f := 41) rfl ?_); refine goesL_ (some 8) rfl rfl Try.func41 (by kernel_rfl) rfl #[.int .i64 a0] rfl (by (try simp only [List.map_toArray, List.map_cons, List.map_nil]); first | done | rfl | (simp only [List.length_drop, List.length_take]; rfl)) ?_; (with_reducible refine (serinetteref02_Fold.calls a0 t209 _ A3.out).mono ?_); rintro e w' ⟨rfl, ⟨nd, rfl⟩⟩; refine ⟨_, rfl, ?_⟩))
  go_loopg [5, 6] k (fun kq v5 v6 w' => ∃ (x5_1 : Int) (x6_1 : Int), v5 = .int .u64 x5_1 ∧ v6 = .int .i64 x6_1 ∧ zF (serinetteref02_High.l0 kq a1 x5_1 x6_1 = some r) ∧ zF (kq ≤ k) ∧ zF (Below w.heap.size w w'))
  case atStart => exact ⟨(t209), (0), (by first | rfl | (simp; done) | (simp only [i64_w, i32_w]; done) | (simp [*]; done) | (simp only [i64_w, i32_w]; first | rfl | (simp; done) | (simp [*]; done))), (by first | rfl | (simp; done) | (simp only [i64_w, i32_w]; done) | (simp [*]; done) | (simp only [i64_w, i32_w]; first | rfl | (simp; done) | (simp [*]; done))), H', ⟨Nat.le_refl _⟩, ⟨by repeat (first | (with_reducible first | exact HB.out | apply zE | apply zB | apply zC) | exact HB.out)⟩⟩
  case round =>
    clear H'
    try clear c2
    try clear p2
    obtain ⟨x5_1, x6_1, rfl, rfl, HA, HK1, HB⟩ := hrel
    cases gk with
    | zero => exact absurd HA.out (by simp [serinetteref02_High.l0])
    | succ k1 =>
      have H := HA.out
      clear HA
      simp only [serinetteref02_High.l0] at H
      replace H := Option.bind_eq_some_iff.mp H
      obtain ⟨t210, A40, H⟩ := H
      replace H : (if x6_1 < t210 then (serinetteref02_High.l0 k1 a1 (IntKind.u64.wrap (Int.tdiv x5_1 2)) (wrap64 (x6_1 + 1))) else (some x5_1)) = some r := H
      have A4 := zF.mk A40
      clear A40
      by_cases c5 : x6_1 < t210
      · rw [if_pos c5] at H
        have c5b0 : decide (x6_1 < t210) = true := decide_eq_true c5
        clear c5
        have H' := zF.mk H
        clear H
        go_wp2_with (first | ((with_reducible refine gate_callee (f := 42) rfl ?_); refine goesL_ (some 11) rfl rfl Try.func42 (by kernel_rfl) rfl #[.int .i64 a1] rfl (by (try simp only [List.map_toArray, List.map_cons, List.map_nil]); first | done | rfl | (simp only [List.length_drop, List.length_take]; rfl)) ?_; (with_reducible refine (serinetteref02_K.calls a1 t210 _ A4.out).mono ?_); rintro e w6 ⟨rfl, hb⟩; refine ⟨_, rfl, ?_⟩; have n0_ := zF.mk (below_step (by repeat (first | (with_reducible first | exact HB.out | apply zE | apply zB | apply zC) | exact HB.out)) hb); clear HB; have HB := n0_; clear n0_; (try clear hb); (try clear hb2); (try clear hk); (try clear hi)))
        go_roundg k1
        case measure => have := HK1.out; omega
        case rel => exact ⟨(IntKind.u64.wrap (Int.tdiv x5_1 2)), (wrap64 (x6_1 + 1)), (by first | rfl | (simp; done) | (simp only [i64_w, i32_w]; done) | (simp [*]; done) | (simp only [i64_w, i32_w]; first | rfl | (simp; done) | (simp [*]; done))), (by first | rfl | (simp; done) | (simp only [i64_w, i32_w]; done) | (simp [*]; done) | (simp only [i64_w, i32_w]; first | rfl | (simp; done) | (simp [*]; done))), H', ⟨by have := HK1.out; omega⟩, ⟨by repeat (first | (with_reducible first | exact HB.out | apply zE | apply zB | apply zC) | exact HB.out)⟩⟩
      · rw [if_neg c5] at H
        have c5b0 : decide (x6_1 < t210) = false := decide_eq_false c5
        clear c5
        obtain rfl := Option.some.inj H
        go_wp2_with (first | ((with_reducible refine gate_callee (f := 42) rfl ?_); refine goesL_ (some 11) rfl rfl Try.func42 (by kernel_rfl) rfl #[.int .i64 a1] rfl (by (try simp only [List.map_toArray, List.map_cons, List.map_nil]); first | done | rfl | (simp only [List.length_drop, List.length_take]; rfl)) ?_; (with_reducible refine (serinetteref02_K.calls a1 t210 _ A4.out).mono ?_); rintro e w7 ⟨rfl, hb⟩; refine ⟨_, rfl, ?_⟩; have n0_ := zF.mk (below_step (by repeat (first | (with_reducible first | exact HB.out | apply zE | apply zB | apply zC) | exact HB.out)) hb); clear HB; have HB := n0_; clear n0_; (try clear hb); (try clear hb2); (try clear hk); (try clear hi)))
        go_ret
        exact ⟨by first | rfl | (simp [errW_none, errW_some] <;> rfl) | (simp [*, errW_none, errW_some] <;> rfl), by repeat (first | (with_reducible first | exact HB.out | apply zE | apply zB | apply zC) | exact HB.out)⟩
end Go.Proofs.Ytokdjeoecnnckaa.PA
end
