/- What the law SectionBest needs, part 2: texts of this claim, merged; the row itself stands in the last part. Conditions: as each theorem says. -/
import Derived.Test.YtokdjeoecnnckaaProg
import Derived.Below
import Derived.Deep.Draws
import Derived.Deep.AppendLies
import Derived.Maps.AppendAt
import Derived.OwnWalk
import Derived.Laws.BytesArg
import Derived.Laws.MakeOwn
import Derived.Laws.OwnMore
import Derived.Deep.OwnRows
import Derived.Tactics
import Derived.Lib.ConvBytes
import Derived.Laws.Slices
import Derived.WalkKit
import Derived.KernelRfl
import Derived.RowKit3
import Derived.Deep.LoopGhost
import Derived.Deep.QuietTactic
import Derived.BigQuiet
import Derived.WideLaws
import Derived.Deep.DeepCutAuto
import Derived.Deep.CutBlock
import Derived.Deep.RegionHeld3
import Derived.Laws.Rows
import Derived.Lib.AppendStr
import Derived.ArgAppend
import Derived.Laws.IdiomCopy
import Derived.OrdersHeld
import Derived.Laws.BitsLemmas
import Derived.RowKit
import Derived.RangeFuncNested
import Derived.RangeFuncBound
import Derived.RangeFuncCalls
import Derived.RangeFuncLeaves
import Derived.Shelf.Abstract
import Derived.Shelf.RegionOpen
import Derived.OwnWalkIn
import Derived.TacticsInMore
import Derived.LoopNIn
import Derived.LoopIn
import Derived.Laws.Bits64
import Derived.Lib.SliceRun
import Derived.Test.YtokdjeoecnnckaaMBestA
section
namespace Go.Proofs.Ytokdjeoecnnckaa.PA
open Go.RowKit Go.Proofs.YtokdjeoecnnckaaW.PrintWords Go.Proofs.YtokdjeoecnnckaaW.PrintLast Go.Proofs.YtokdjeoecnnckaaW.PrintMore
attribute [local go_sem] max2_int min2_int max_two min_two max_three min_three max_four min_four   -- for this text's walks alone
set_option linter.unusedVariables false
set_option linter.unusedSimpArgs false
def errW : Option Int → Value
  | none => .nilIface
  | some c => .iface 0 (.int .i64 c)
theorem errW_none : errW none = .nilIface := rfl
theorem errW_some (c : Int) : errW (some c) = .iface 0 (.int .i64 c) := rfl
theorem info3 : (Try.prog.info? 3).map (fun i => (i.zero, i.size, i.bytes)) = some (some (.int .i64 0), 1, 8) := by kernel_rfl
theorem info5 : (Try.prog.info? 5).map (fun i => (i.zero, i.size, i.bytes)) = some (some (.int .u8 0), 1, 1) := by kernel_rfl
theorem info50 : (Try.prog.info? 50).map (fun i => (i.zero, i.size, i.bytes)) = some (some (.agg #[(.int .i64 0), (.bool false)]), 2, 16) := by kernel_rfl
-- the values' own types

structure S50 where
  f0 : Int
  f1 : Bool
def z50 : S50 := ⟨(0 : Int), false⟩
def k50 : Kd S50 := Kd.iso (Kd.pair (Kd.int .i64) Kd.bool) (fun x : S50 => (x.f0, x.f1))
theorem k50_open {w : World} {x : S50} {cs : List Value} (h : k50.K w x cs) : cs = [.int .i64 x.f0, .bool x.f1] := by
  obtain ⟨_, _, rfl, rfl, rfl⟩ := h
  exact rfl
theorem k50_mkM (w : World) (base : Nat) (ok : Nat → Prop) (x : S50)  : k50.M w base ok x [.int .i64 x.f0, .bool x.f1] := ⟨[.int .i64 x.f0], [.bool x.f1], rfl, rfl, rfl⟩
def rd_T50 (xs : List S50) (i : Int) : S50 := xs.getD i.toNat z50
theorem at_T50 {w : World} {A : Option Addr} {n : Nat} {xs : List S50} (h : Kd.C k50 w A n xs) (i : Int) (h0 : 0 ≤ i) (h1 : i < n) : ∃ ad , A = some ad ∧ w.cell? (ad.add (i.toNat * 2)) = some (.int .i64 (rd_T50 xs i).f0) ∧ w.cell? ⟨(ad.add (i.toNat * 2)).block, (ad.add (i.toNat * 2)).off + 1, none⟩ = some (.bool (rd_T50 xs i).f1) := by
  obtain ⟨ad, c, e, _, hK, hc0⟩ := Kd.C_get h z50 i h0 h1
  have hc : ∀ j u, c[j]? = some u → w.cell? (ad.add (i.toNat * 2 + j)) = some u := hc0
  obtain rfl := k50_open hK
  exact ⟨ad, e, hc 0 _ rfl, by rw [← add_field _ _ 1 (by omega)]; exact hc 1 _ rfl⟩
end Go.Proofs.Ytokdjeoecnnckaa.PA
end
section
namespace Go.Proofs.Ytokdjeoecnnckaa.PA
open Go.RowKit Go.Proofs.YtokdjeoecnnckaaW.PrintWords Go.Proofs.YtokdjeoecnnckaaW.PrintLast Go.Proofs.YtokdjeoecnnckaaW.PrintMore
attribute [local go_sem] max2_int min2_int max_two min_two max_three min_three max_four min_four   -- for this text's walks alone
set_option linter.unusedVariables false
set_option linter.unusedSimpArgs false
def OffS58 (W : World) (g : Nat) (row : Option Nat) : Prop := some g ≠ row ∧ ∀ r cs, W.heap[r]? = some (.cells cs 5 (0, 0)) → some r ≠ row
def zI (w0 W : World) (g : Nat) (f0 : ByteArray) (f1 : Int) : Prop := ∃ v : Value, W.heap[g]? = some (.cells #[v, .int .i64 f1] 58 (0, 0)) ∧ w0.heap.size ≤ g ∧ Kd.R (Kd.int .u8) 5 W w0.heap.size (fun _ => True) v (bytesOf f0) ∧ (f0.size = 0 → v = .slice none 0 0)
theorem zI.grown {w0 W : World} {g : Nat} {f0 : ByteArray} {f1 : Int} {W1 : World} {row : Option Nat} (h : zI w0 W g f0 f1) (hw : W.grownBy W1 row) (hne : OffS58 W g row) : zI w0 W1 g f0 f1 := by
  obtain ⟨v, hb, hg, hr, hz⟩ := h
  exact ⟨v, blk_grown hb hw hne.1, hg, Kd.R_mono (Kd.R_grown (Kd.R_bound hr) hw (fun k hk => by
    obtain ⟨_, _, _, q, hq, cs, hc⟩ := hk
    obtain rfl : q = 5 := by simpa [Kd.int, Kd.scalar] using hq
    exact hne.2 k cs hc)) (fun _ _ => trivial), hz⟩
theorem zI.own_ne {w0 W : World} {g : Nat} {f0 : ByteArray} {f1 : Int} {α : Type} {d : Kd α} {e : Nat} {base : Nat} {ok : Nat → Prop} {v : Value} {xs : List α} (h : zI w0 W g f0 f1) (ho : d.R e W base ok v xs) (ht : e ≠ 58 ∧ e ≠ 5) : OffS58 W g v.ownBlock := by
  obtain ⟨v, hb, hg, hr, hz⟩ := h
  exact ⟨Kd.R_ne ho hb ht.1, fun r cs hr => Kd.R_ne ho hr ht.2⟩
theorem zI.below {w0 W : World} {g : Nat} {f0 : ByteArray} {f1 : Int} {W1 : World} (h : zI w0 W g f0 f1) (hw : Below W.heap.size W W1) : zI w0 W1 g f0 f1 := h.grown (grown_of_below hw none) ⟨by simp, fun _ _ _ => by simp⟩
theorem zI.alloc {w0 W : World} {g : Nat} {f0 : ByteArray} {f1 : Int} (h : zI w0 W g f0 f1) (o : Obj) : zI w0 (W.alloc o) g f0 f1 := h.below (zF (Below.refl _ _) o)
theorem zI.drewN {w0 W : World} {g : Nat} {f0 : ByteArray} {f1 : Int} (h : zI w0 W g f0 f1) (m : Nat) : zI w0 (W.drewN m) g f0 f1 := h
theorem zI.drew {w0 W : World} {g : Nat} {f0 : ByteArray} {f1 : Int} (h : zI w0 W g f0 f1) : zI w0 W.drew g f0 f1 := h
theorem zI.at_ {w0 W : World} {g : Nat} {f0 : ByteArray} {f1 : Int} {w' : World} {m : Nat} (hq : W.drewN m = w') (h : zI w0 W g f0 f1) : zI w0 w' g f0 f1 := by subst hq; exact zI.drewN h m
theorem zI.apart {w0 W : World} {g : Nat} {f0 : ByteArray} {f1 : Int} {α : Type} {d : Kd α} {e : Nat} {base : Nat} {ok : Nat → Prop} {v : Value} {xs : List α} (h : zI w0 W g f0 f1) (ho : d.R e W base ok v xs) (ht : ∀ q, q ∈ e :: d.E → q ≠ 58) : d.R e W base (fun k => ok k ∧ k ≠ g) v xs := by
  obtain ⟨v, hb, hg, hr, hz⟩ := h
  exact Kd.R_types ho hb ht
theorem zI.lt {w0 W : World} {g : Nat} {f0 : ByteArray} {f1 : Int} (h : zI w0 W g f0 f1) : g < W.heap.size := by
  obtain ⟨v, hb, hg, hr, hz⟩ := h
  exact blk_lt hb
theorem zI.ge {w0 W : World} {g : Nat} {f0 : ByteArray} {f1 : Int} (h : zI w0 W g f0 f1) : w0.heap.size ≤ g := by
  obtain ⟨v, hb, hg, hr, hz⟩ := h
  exact hg
theorem zI.ne_blk {w0 W : World} {g : Nat} {f0 : ByteArray} {f1 : Int} {a : Nat} {cs : Array Value} {t : TypeId} {fr : Nat × Nat} (h : zI w0 W g f0 f1) (hb2 : W.heap[a]? = some (.cells cs t fr)) (ht : t ≠ 58) : g ≠ a := by
  obtain ⟨v, hb, hg, hr, hz⟩ := h
  rintro rfl
  rw [hb] at hb2
  injection hb2 with hb2
  injection hb2 with _ ht2
  exact ht ht2.symm
theorem zI.far {w0 W : World} {g : Nat} {f0 : ByteArray} {f1 : Int} {p : Addr} (h : zI w0 W g f0 f1) (hne : OffS58 W g (some p.block)) (u : Value) : zI w0 (W.setCell p u) g f0 f1 := by
  obtain ⟨v, hb, hg, hr, hz⟩ := h
  exact ⟨v, zP hb (fun e => hne.1 (by rw [e])) u, hg, Kd.R_mono (Kd.R_far (Kd.R_bound hr) (fun k hk => by
    obtain ⟨_, _, _, q, hq, cs, hc⟩ := hk
    obtain rfl : q = 5 := by simpa [Kd.int, Kd.scalar] using hq
    exact fun e => hne.2 k cs hc (by rw [e])) u) (fun _ _ => trivial), hz⟩
theorem zI.set_1 {w0 W : World} {g : Nat} {f0 : ByteArray} {f1 : Int} (h : zI w0 W g f0 f1) (x : Int) : zI w0 (W.setCell ⟨g, 1, none⟩ (.int .i64 x)) g f0 x := by
  obtain ⟨v, hb, hg, hr, hz⟩ := h
  exact ⟨v, by simpa using blk_set hb 1 (.int .i64 x), hg, Kd.R_mono (Kd.R_far (Kd.R_types hr hb (by simp [Kd.int, Kd.scalar])) (fun k hk => hk.2) _) (fun _ _ => trivial), hz⟩
theorem zI.blk {w0 W : World} {g : Nat} {f0 : ByteArray} {f1 : Int} (h : zI w0 W g f0 f1) : ∃ cs, W.heap[g]? = some (.cells cs 58 (0, 0)) := by
  obtain ⟨v, hb, _⟩ := h
  exact ⟨_, hb⟩
theorem zI.keepG {w0 W : World} {g : Nat} {f0 : ByteArray} {f1 : Int} {W1 : World} {g' : Nat} {cs : Array Value} {t : TypeId} (h : zI w0 W g f0 f1) (hb' : W.heap[g']? = some (.cells cs t (0, 0))) (ht : t ≠ 58 ∧ t ≠ 5) (hk : zJ W W1 g' none) : zI w0 W1 g f0 f1 := by
  obtain ⟨v, hb, hg, hr, hz⟩ := h
  exact ⟨v, hk.blk hb (blk_ne hb hb' (Ne.symm ht.1)) (by simp), hg, Kd.R_mono (Kd.R_keep (Kd.R_types hr hb' (by simp [Kd.int, Kd.scalar]; exact Ne.symm ht.2)) hk (fun _ hk => hk.2)) (fun _ _ => trivial), hz⟩
def KB (w0 w W : World) (g : Nat) : Prop := w.heap.size ≤ W.heap.size ∧ ∀ i, i < w.heap.size → i ≠ g → (i < w0.heap.size ∨ ∀ cs, w.heap[i]? ≠ some (.cells cs 5 (0, 0))) → W.heap[i]? = w.heap[i]?
theorem KB.R_keep {w0 W W1 : World} {g : Nat} {α : Type} {d : Kd α} {e : Nat} {base : Nat} {ok : Nat → Prop} {v : Value} {xs : List α} (ho : d.R e W base ok v xs) (hg : ∀ k, ok k → k ≠ g) (ht : ∀ q, q ∈ e :: d.E → q ≠ 5) (hk : KB w0 W W1 g) : d.R e W1 base ok v xs :=
  Kd.R_mono (Kd.R_step (Kd.R_bound ho) (fun k h hlt => by
    obtain ⟨h0, _, _, q, hq, cs, hc⟩ := h
    refine hk.2 k hlt (hg k h0) (.inr fun cs' hc' => ht q hq ?_)
    rw [hc] at hc'
    injection hc' with hc'
    injection hc')) (fun _ h => h.1)
theorem KB.blk {w0 w w1 : World} {g g' : Nat} {cs : Array Value} {t : TypeId} {fr : Nat × Nat} (h : KB w0 w w1 g) (hb : w.heap[g']? = some (.cells cs t fr)) (hg : g' ≠ g) (ht : t ≠ 5) : w1.heap[g']? = some (.cells cs t fr) :=
  (h.2 g' (blk_lt hb) hg (.inr fun cs' hc => ht (by rw [hb] at hc; injection hc with hc; injection hc))).trans hb
def rowAt (w : World) (g : Nat) : Option Nat := match w.heap[g]? with
  | some (.cells cs _ _) => (cs[0]?).bind Value.ownBlock
  | _ => none
theorem rowAt_of {w : World} {g : Nat} {v : Value} {x : Value} {t : TypeId} {fr : Nat × Nat} (h : w.heap[g]? = some (.cells #[v, x] t fr)) : rowAt w g = v.ownBlock := by
  unfold rowAt
  rw [h]
  rfl
theorem rowAt_eq {w w1 : World} {g : Nat} (h : w1.heap[g]? = w.heap[g]?) : rowAt w1 g = rowAt w g := by unfold rowAt; rw [h]
def KBe (w0 w W : World) (g : Nat) : Prop := KB w0 w W g ∧ (∀ i, i < w.heap.size → i ≠ g → some i ≠ rowAt w g → W.heap[i]? = w.heap[i]?) ∧ (∀ b, rowAt W g = some b → rowAt w g = some b ∨ w.heap.size ≤ b) ∧ g < w.heap.size
theorem KBe.refl (w0 : World) {w : World} {g : Nat} {f0 : ByteArray} {f1 : Int} (h : zI w0 w g f0 f1) : KBe w0 w w g := ⟨⟨Nat.le_refl _, fun _ _ _ _ => rfl⟩, fun _ _ _ _ => rfl, fun _ h => .inl h, h.lt⟩
theorem KBe.trans {w0 w W W2 : World} {g : Nat} (h : KBe w0 w W g) (k : KBe w0 W W2 g) : KBe w0 w W2 g := by
  obtain ⟨⟨h1, h2⟩, h3, h4, h5⟩ := h
  obtain ⟨⟨k1, k2⟩, k3, k4, k5⟩ := k
  refine ⟨⟨Nat.le_trans h1 k1, fun i hi hg ho => (k2 i (Nat.lt_of_lt_of_le hi h1) hg (ho.imp id (fun hh cs hc => hh cs ((h2 i hi hg (.inr hh)).symm.trans hc)))).trans (h2 i hi hg ho)⟩, fun i hi hg hr => ?_, fun b hb => ?_, h5⟩
  · refine (k3 i (Nat.lt_of_lt_of_le hi h1) hg (fun e => ?_)).trans (h3 i hi hg hr)
    rcases h4 i e.symm with h | h
    · exact hr h.symm
    · omega
  · rcases k4 b hb with h | h
    · exact h4 b h
    · exact .inr (Nat.le_trans h1 h)
theorem KBe.below {w0 w W W1 : World} {g : Nat} (h : KBe w0 w W g) (hb : Below W.heap.size W W1) : KBe w0 w W1 g := by
  have hlt : g < W.heap.size := Nat.lt_of_lt_of_le h.2.2.2 h.1.1
  exact h.trans ⟨⟨hb.size, fun i hi _ _ => hb.block i hi⟩, fun i hi _ _ => hb.block i hi, fun b e => .inl (by rw [← rowAt_eq (hb.block g hlt)]; exact e), hlt⟩
theorem KBe.alloc {w0 w W : World} {g : Nat} (h : KBe w0 w W g) (o : Obj) : KBe w0 w (W.alloc o) g := h.below (zF (Below.refl _ _) o)
theorem KBe.drewN {w0 w W : World} {g : Nat} (h : KBe w0 w W g) (m : Nat) : KBe w0 w (W.drewN m) g := h
theorem KBe.drew {w0 w W : World} {g : Nat} (h : KBe w0 w W g) : KBe w0 w W.drew g := h
theorem KBe.at_ {w0 w W W' : World} {g m : Nat} (hq : W.drewN m = W') (h : KBe w0 w W g) : KBe w0 w W' g := by subst hq; exact h
def RowsApart (W : World) (g g' : Nat) : Prop := ∀ b, rowAt W g = some b → rowAt W g' ≠ some b
theorem RowsApart.symm {W : World} {g g' : Nat} (h : RowsApart W g g') : RowsApart W g' g := fun b h1 h2 => h b h2 h1
theorem RowsApart.put {w0 W : World} {g : Nat} {f0 : ByteArray} {f1 : Int} {W1 : World} {g' : Nat} (h : zI w0 W g f0 f1) (hne : g ≠ g') (hap : RowsApart W g g') (hk : KBe w0 W W1 g') : RowsApart W1 g g' := by
  obtain ⟨v, hb, hg, hr, hz⟩ := h
  intro b h1 h2
  have hb1 := KB.blk hk.1 hb hne (by decide)
  rw [rowAt_of hb1] at h1
  rcases hk.2.2.1 b h2 with h | h
  · exact hap b (by rw [rowAt_of hb]; exact h1) h
  · exact absurd (Kd.R_lt hr b h1) (Nat.not_lt.2 h)

def bits_New.f : Option (ByteArray × Int) := some (⟨#[]⟩, 0)
set_option maxRecDepth 100000 in
theorem bits_New.calls (r1 : ByteArray) (r2 : Int) (w0 w : World) (hB : Below w0.heap.size w0 w) (h : bits_New.f = some (r1, r2)) :
    Calls Try.prog 8 #[] w fun e w' => ∃ g_ : Nat, e = .returned (.pointer (some ⟨g_, 0, none⟩)) ∧ zI w0 w' g_ r1 r2 ∧ Below w0.heap.size w0 w' ∧ Below w.heap.size w w' := by
  have hu := Try.underlying58
  have HBW := zG.mk (Below.refl w.heap.size w)
  have HW0 := zG.mk hB.size
  have HB := zG.mk hB
  clear hB
  simp only [bits_New.f, Option.some.injEq, Prod.mk.injEq] at h
  obtain ⟨rfl, rfl⟩ := h
  go_enter Try.func8, Try.ntmps8
  go_wp2_with (first | ((with_reducible refine gate_dst (N := 2) rfl ?_); refine box_event ?hg (N := 2) ?hd (cs := #[.slice none 0 0, .int .i64 0]) (t := 58) ?hr ?_; (case hd => rfl); (case hg => rfl); (case hr => first | (go_simp; done) | (go_simp; rfl)); intro gb101 hg w1 hbox hb; have n0_ := zG.mk (below_step HBW.out hb); have n1_ := zG.mk (below_step HB.out hb); have n2_ := zG.mk (hbox); have n3_ := zG.mk ((Nat.le_trans HW0.out (by rw [hg]; exact Nat.le_refl _) : w0.heap.size ≤ gb101)); clear HBW; clear HB; have HBW := n0_; have HB := n1_; have BK101 := n2_; have GE101 := n3_; clear n0_ n1_ n2_ n3_; clear hb hbox hg))
  go_ret
  exact ⟨_, rfl, ⟨.slice none 0 0, BK101.out, GE101.out, Kd.R_nil _ _ _ _ _, fun _ => rfl⟩, HB.out, HBW.out⟩
end Go.Proofs.Ytokdjeoecnnckaa.PA
end
section
namespace Go.Proofs.Ytokdjeoecnnckaa.PA
open Go.RowKit Go.Proofs.YtokdjeoecnnckaaW.PrintWords Go.Proofs.YtokdjeoecnnckaaW.PrintLast Go.Proofs.YtokdjeoecnnckaaW.PrintMore
attribute [local go_sem] max2_int min2_int max_two min_two max_three min_three max_four min_four   -- for this text's walks alone
set_option linter.unusedVariables false
set_option linter.unusedSimpArgs false

mutual
def parts_Cuts.j0 : Nat → Int → Int → Int → Bool → Option (List Int)
  | 0, _, _, _, _ => none
  | k + 1, x0, x1, x2, x24 => if x24 = true then (some ([] : List Int)) else (if 0 ≤ x2 then (if (shl .i64 (shr .i64 (wrap64 (x0 + x1)) x2) x2) = (wrap64 (x0 + x1)) then (parts_Cuts.j1 k x1 x2 (shr .i64 (wrap64 (x0 + x1)) x2) (decide ((shr .i64 (wrap64 (x0 + x1)) x2) ≤ x1))) else (parts_Cuts.j1 k x1 x2 (shr .i64 (wrap64 (x0 + x1)) x2) true)) else (none))
def parts_Cuts.j1 : Nat → Int → Int → Int → Bool → Option (List Int)
  | 0, _, _, _, _ => none
  | k + 1, x1, x2, x8, x40 => if x40 = true then (some ([] : List Int)) else (if 0 ≤ x2 then (if 0 ≤ (shl .i64 1 x2) then (if (shl .i64 1 x2 : Int).toNat ≤ 35184372088832 then ((some (List.replicate (shl .i64 1 x2 : Int).toNat 0 : List Int)).bind fun y101 => (parts_Cuts.l0 k x1 x8 y101 (y101.length : Int) 0)) else (none)) else (none)) else (none))
def parts_Cuts.l0 : Nat → Int → Int → List Int → Int → Int → Option (List Int)
  | 0, _, _, _, _, _ => none
  | k + 1, x1, x8, x9, x45, x46 => if x46 < x45 then (if 0 ≤ x46 then (if x46 < (x9.length : Int) then (parts_Cuts.l0 k x1 x8 (x9.set (x46 : Int).toNat x8) x45 (wrap64 (x46 + 1))) else (none)) else (none)) else (if 0 < (x9.length : Int) then (some (x9.set (0 : Int).toNat (wrap64 ((rd x9 0) - x1)))) else (none))
end
def parts_Cuts.f (k : Nat) (a0 : Int) (a1 : Int) (a2 : Int) : Option (List Int) := if a0 < 0 then (parts_Cuts.j0 k a0 a1 a2 true) else (if a1 < 0 then (parts_Cuts.j0 k a0 a1 a2 true) else (if a2 < 0 then (parts_Cuts.j0 k a0 a1 a2 true) else (parts_Cuts.j0 k a0 a1 a2 (decide (a2 > 15)))))
set_option maxHeartbeats 8000000 in
set_option maxRecDepth 100000 in
theorem parts_Cuts.calls (k : Nat) (a0 : Int) (a1 : Int) (a2 : Int) (r : List Int) (w : World) (h : parts_Cuts.f k a0 a1 a2 = some r) :
    Calls Try.prog 28 #[.int .i64 a0, .int .i64 a1, .int .i64 a2] w fun e w' => ∃ v0_ : Value, e = .returned (v0_) ∧ Kd.R (Kd.int .i64) 3 w' w.heap.size (fun _ => True) v0_ r ∧ Below w.heap.size w w' := by
  have HB := zG.mk (Below.refl w.heap.size w)
  have H : (if a0 < 0 then (parts_Cuts.j0 k a0 a1 a2 true) else (if a1 < 0 then (parts_Cuts.j0 k a0 a1 a2 true) else (if a2 < 0 then (parts_Cuts.j0 k a0 a1 a2 true) else (parts_Cuts.j0 k a0 a1 a2 (decide (a2 > 15)))))) = some r := h
  clear h
  have HC4 := zG.mk H
  clear H
  go_enter Try.func28, Try.ntmps28
  go_upto_region 1 with (fail)
  go_cut [24] (fun v24 wc => ∃ (kq : Nat) (x24_3 : Bool), v24 = .bool x24_3 ∧ zG (parts_Cuts.j0 kq a0 a1 a2 x24_3 = some r) ∧ zG (kq ≤ k) ∧ zG (Below w.heap.size w wc))
  case first =>
    have H := HC4.out
    clear HC4
    by_cases c5 : a0 < 0
    · rw [if_pos c5] at H
      have c5b0 : decide (a0 < 0) = true := decide_eq_true c5
      clear c5
      (first | rw [c5b0] | (simp only [i64_w, i32_w]; rw [c5b0]) | skip)
      have H' := zG.mk H
      clear H
      go_wp2
      go_meet
      case rel => exact ⟨_, (true), (by first | rfl | (simp; done) | (simp only [i64_w, i32_w]; done) | (simp [*]; done) | (simp only [i64_w, i32_w]; first | rfl | (simp; done) | (simp [*]; done))), H', ⟨by first | omega | exact Nat.le_refl _⟩, ⟨by repeat (first | (with_reducible first | exact HB.out | apply zF | apply zC | apply zD) | exact HB.out)⟩⟩
    · rw [if_neg c5] at H
      have c5b0 : decide (a0 < 0) = false := decide_eq_false c5
      clear c5
      (first | rw [c5b0] | (simp only [i64_w, i32_w]; rw [c5b0]) | skip)
      by_cases c6 : a1 < 0
      · rw [if_pos c6] at H
        have c6b0 : decide (a1 < 0) = true := decide_eq_true c6
        clear c6
        have H' := zG.mk H
        clear H
        go_wp2
        go_meet
        case rel => exact ⟨_, (true), (by first | rfl | (simp; done) | (simp only [i64_w, i32_w]; done) | (simp [*]; done) | (simp only [i64_w, i32_w]; first | rfl | (simp; done) | (simp [*]; done))), H', ⟨by first | omega | exact Nat.le_refl _⟩, ⟨by repeat (first | (with_reducible first | exact HB.out | apply zF | apply zC | apply zD) | exact HB.out)⟩⟩
      · rw [if_neg c6] at H
        have c6b0 : decide (a1 < 0) = false := decide_eq_false c6
        clear c6
        by_cases c7 : a2 < 0
        · rw [if_pos c7] at H
          have c7b0 : decide (a2 < 0) = true := decide_eq_true c7
          clear c7
          have H' := zG.mk H
          clear H
          go_wp2
          go_meet
          case rel => exact ⟨_, (true), (by first | rfl | (simp; done) | (simp only [i64_w, i32_w]; done) | (simp [*]; done) | (simp only [i64_w, i32_w]; first | rfl | (simp; done) | (simp [*]; done))), H', ⟨by first | omega | exact Nat.le_refl _⟩, ⟨by repeat (first | (with_reducible first | exact HB.out | apply zF | apply zC | apply zD) | exact HB.out)⟩⟩
        · rw [if_neg c7] at H
          have c7b0 : decide (a2 < 0) = false := decide_eq_false c7
          clear c7
          have H' := zG.mk H
          clear H
          go_wp2
          go_meet
          case rel => exact ⟨_, (decide (a2 > 15)), (by first | rfl | (simp; done) | (simp only [i64_w, i32_w]; done) | (simp [*]; done) | (simp only [i64_w, i32_w]; first | rfl | (simp; done) | (simp [*]; done))), H', ⟨by first | omega | exact Nat.le_refl _⟩, ⟨by repeat (first | (with_reducible first | exact HB.out | apply zF | apply zC | apply zD) | exact HB.out)⟩⟩
  case rest =>
    clear HC4
    try clear c2
    try clear p2
    try clear c5
    try clear c5b0
    try clear c6
    try clear c6b0
    try clear c7
    try clear c7b0
    obtain ⟨kq, x24_3, rfl, HA, HJ3, HB⟩ := hcut
    cases kq with
    | zero => exact absurd HA.out (by simp [parts_Cuts.j0])
    | succ kj3 =>
      have H := HA.out
      clear HA
      simp only [parts_Cuts.j0] at H
      by_cases c8 : x24_3 = true
      · subst c8
        have H1 : (some ([] : List Int)) = some r := by rw [if_pos rfl] at H; exact H
        clear H
        have H := H1
        clear H1
        obtain rfl := Option.some.inj H
        go_wp2
        go_ret
        exact ⟨_, by first | rfl | (simp [errW_none, errW_some] <;> rfl) | (simp [*, errW_none, errW_some] <;> rfl), by first | exact Kd.R_nil _ _ _ _ _ | exact Kd.N_nil _ _ _ _ _ | exact Kd.V_nil _ _ _ _ _ | exact Kd.Q_nil _ _ _ _ _ | exact Kd.S_nil _ _ _ _ _, by repeat (first | (with_reducible first | exact HB.out | apply zF | apply zC | apply zD) | exact HB.out)⟩
      · replace c8 := Bool.eq_false_iff.mpr c8
        subst c8
        have H1 : (if 0 ≤ a2 then (if (shl .i64 (shr .i64 (wrap64 (a0 + a1)) a2) a2) = (wrap64 (a0 + a1)) then (parts_Cuts.j1 kj3 a1 a2 (shr .i64 (wrap64 (a0 + a1)) a2) (decide ((shr .i64 (wrap64 (a0 + a1)) a2) ≤ a1))) else (parts_Cuts.j1 kj3 a1 a2 (shr .i64 (wrap64 (a0 + a1)) a2) true)) else (none)) = some r := by rw [if_neg (show ¬ (false = true) by decide)] at H; exact H
        clear H
        have H := H1
        clear H1
        by_cases c9 : 0 ≤ a2
        · rw [if_pos c9] at H
          have c9b0 := eq_true c9
          have c9b1 : decide (0 ≤ a2) = true := decide_eq_true c9
          clear c9
          obtain ⟨ji10, hji10⟩ : ∃ j_ : Int, (shr .i64 (wrap64 (a0 + a1)) a2) = j_ := ⟨_, rfl⟩
          replace H : (if (shl .i64 (ji10) a2) = (wrap64 (a0 + a1)) then (parts_Cuts.j1 kj3 a1 a2 ji10 (decide ((ji10) ≤ a1))) else (parts_Cuts.j1 kj3 a1 a2 ji10 true)) = some r := by first | (rw [hji10] at H; exact H) | (simp only [hji10] at H ⊢; exact H)
          have hji10_ : ((wrap64 (a0 + a1)) / 2 ^ min a2.toNat 64) = ji10 := hji10
          have hji10z : a2 ≤ 64 → ((wrap64 (a0 + a1)) / 2 ^ a2.toNat) = ji10 := shr_small hji10
          have HC11 := zG.mk H
          clear H
          go_upto_region 5 with (fail)
          go_cut [40] (fun v40 wc => ∃ (kq : Nat) (x40_10 : Bool), v40 = .bool x40_10 ∧ zG (parts_Cuts.j1 kq a1 a2 ji10 x40_10 = some r) ∧ zG (kq ≤ kj3) ∧ zG (Below w.heap.size w wc))
          case first =>
            have H := HC11.out
            clear HC11
            have c12b0 := eq_true (of_decide_eq_true (by first | (with_reducible assumption) | assumption) : 0 ≤ a2)
            obtain ⟨ji13, hji13⟩ : ∃ j_ : Int, (shl .i64 (ji10) a2) = j_ := ⟨_, rfl⟩
            replace H : (if (ji13) = (wrap64 (a0 + a1)) then (parts_Cuts.j1 kj3 a1 a2 ji10 (decide ((ji10) ≤ a1))) else (parts_Cuts.j1 kj3 a1 a2 ji10 true)) = some r := by first | (rw [hji13] at H; exact H) | (simp only [hji13] at H ⊢; exact H)
            have hji13_ : (IntKind.i64.wrap ((ji10) * 2 ^ min a2.toNat 64)) = ji13 := hji13
            have hji13z : a2 ≤ 64 → (IntKind.i64.wrap ((ji10) * 2 ^ a2.toNat)) = ji13 := shl_small hji13
            have hji13y : (wrap64 ((ji10) * 2 ^ min a2.toNat 64)) = ji13 := (i64_w _).symm.trans hji13_
            have hji13x : a2 ≤ 64 → (wrap64 ((ji10) * 2 ^ a2.toNat)) = ji13 := fun h_ => (i64_w _).symm.trans (hji13z h_)
            by_cases c14 : (ji13) = (wrap64 (a0 + a1))
            · rw [if_pos c14] at H
              have c14b0 : ((ji13) == (wrap64 (a0 + a1))) = true := beq_iff_eq.mpr c14
              have c14b1 : ((ji13) != (wrap64 (a0 + a1))) = false := bne_eq_false_iff_eq.mpr c14
              clear c14
              (first | rw [c14b0] | (simp only [i64_w, i32_w]; rw [c14b0]) | skip)
              have H' := zG.mk H
              clear H
              go_wp2
              go_meet
              case rel => exact ⟨_, (decide ((ji10) ≤ a1)), (by first | rfl | (simp; done) | (simp only [← hji10] <;> (first | rfl | simp)) | (simp [*]; done)), H', ⟨by have := HJ3.out; first | omega | exact Nat.le_refl _⟩, ⟨by repeat (first | (with_reducible first | exact HB.out | apply zF | apply zC | apply zD) | exact HB.out)⟩⟩
            · rw [if_neg c14] at H
              have c14b0 : ((ji13) == (wrap64 (a0 + a1))) = false := beq_eq_false_iff_ne.mpr c14
              have c14b1 : ((ji13) != (wrap64 (a0 + a1))) = true := bne_iff_ne.mpr c14
              (first | rw [c14b0] | (simp only [i64_w, i32_w]; rw [c14b0]) | skip)
              have H' := zG.mk H
              clear H
              go_wp2
              go_meet
              case rel => exact ⟨_, (true), (by first | rfl | (simp; done) | (simp only [i64_w, i32_w]; done) | (simp [*]; done) | (simp only [i64_w, i32_w]; first | rfl | (simp; done) | (simp [*]; done))), H', ⟨by have := HJ3.out; first | omega | exact Nat.le_refl _⟩, ⟨by repeat (first | (with_reducible first | exact HB.out | apply zF | apply zC | apply zD) | exact HB.out)⟩⟩
          case rest =>
            clear HC11
            try clear c1
            try clear c2
            try clear p2
            try clear c5
            try clear c5b0
            try clear c6
            try clear c6b0
            try clear p6
            try clear c7
            try clear c7b0
            try clear c8
            try clear c9
            try clear c9b0
            try clear c9b1
            try clear c12
            try clear c12b0
            try clear c14
            try clear c14b0
            try clear c14b1
            try clear p2
            obtain ⟨kq, x40_10, rfl, HA, HJ10, HB⟩ := hcut
            cases kq with
            | zero => exact absurd HA.out (by simp [parts_Cuts.j1])
            | succ kj10 =>
              have H := HA.out
              clear HA
              simp only [parts_Cuts.j1] at H
              by_cases c15 : x40_10 = true
              · subst c15
                have H1 : (some ([] : List Int)) = some r := by rw [if_pos rfl] at H; exact H
                clear H
                have H := H1
                clear H1
                obtain rfl := Option.some.inj H
                go_wp2
                go_ret
                exact ⟨_, by first | rfl | (simp [errW_none, errW_some] <;> rfl) | (simp only [← hji10]; first | rfl | (simp [errW_none, errW_some] <;> rfl)) | (simp [*, errW_none, errW_some] <;> rfl), by first | exact Kd.R_nil _ _ _ _ _ | exact Kd.N_nil _ _ _ _ _ | exact Kd.V_nil _ _ _ _ _ | exact Kd.Q_nil _ _ _ _ _ | exact Kd.S_nil _ _ _ _ _, by repeat (first | (with_reducible first | exact HB.out | apply zF | apply zC | apply zD) | exact HB.out)⟩
              · replace c15 := Bool.eq_false_iff.mpr c15
                subst c15
                have H1 : (if 0 ≤ a2 then (if 0 ≤ (shl .i64 1 a2) then (if (shl .i64 1 a2 : Int).toNat ≤ 35184372088832 then ((some (List.replicate (shl .i64 1 a2 : Int).toNat 0 : List Int)).bind fun y101 => (parts_Cuts.l0 kj10 a1 ji10 y101 (y101.length : Int) 0)) else (none)) else (none)) else (none)) = some r := by rw [if_neg (show ¬ (false = true) by decide)] at H; exact H
                clear H
                have H := H1
                clear H1
                by_cases c16 : 0 ≤ a2
                · rw [if_pos c16] at H
                  have c16b0 := eq_true c16
                  have c16b1 : decide (0 ≤ a2) = true := decide_eq_true c16
                  clear c16
                  obtain ⟨ji17, hji17⟩ : ∃ j_ : Int, (shl .i64 1 a2) = j_ := ⟨_, rfl⟩
                  replace H : (if 0 ≤ (ji17) then (if (ji17 : Int).toNat ≤ 35184372088832 then ((some (List.replicate (ji17 : Int).toNat 0 : List Int)).bind fun y101 => (parts_Cuts.l0 kj10 a1 ji10 y101 (y101.length : Int) 0)) else (none)) else (none)) = some r := by first | (rw [hji17] at H; exact H) | (simp only [hji17] at H ⊢; exact H)
                  have hji17_ : (IntKind.i64.wrap (1 * 2 ^ min a2.toNat 64)) = ji17 := hji17
                  have hji17z : a2 ≤ 64 → (IntKind.i64.wrap (1 * 2 ^ a2.toNat)) = ji17 := shl_small hji17
                  have hji17u : (IntKind.i64.wrap (2 ^ min a2.toNat 64)) = ji17 := by have h_ := hji17_; rw [Int.one_mul] at h_; exact h_
                  have hji17v : a2 ≤ 64 → (IntKind.i64.wrap (2 ^ a2.toNat)) = ji17 := fun hle_ => by have h_ := hji17z hle_; rw [Int.one_mul] at h_; exact h_
                  have hji17y : (wrap64 (1 * 2 ^ min a2.toNat 64)) = ji17 := (i64_w _).symm.trans hji17_
                  have hji17x : a2 ≤ 64 → (wrap64 (1 * 2 ^ a2.toNat)) = ji17 := fun h_ => (i64_w _).symm.trans (hji17z h_)
                  by_cases c18 : 0 ≤ (ji17)
                  · rw [if_pos c18] at H
                    have c18b0 := eq_true c18
                    have c18b1 : decide (0 ≤ (ji17)) = true := decide_eq_true c18
                    clear c18
                    by_cases c19 : (ji17 : Int).toNat ≤ 35184372088832
                    · rw [if_pos c19] at H
                      have c19b0 := eq_true c19
                      have c19b1 : decide ((ji17 : Int).toNat ≤ 35184372088832) = true := decide_eq_true c19
                      clear c19
                      obtain ⟨y101, hy101⟩ : ∃ y_ : List Int, y_ = (List.replicate (ji17 : Int).toNat 0) := ⟨_, rfl⟩
                      replace H : (parts_Cuts.l0 kj10 a1 ji10 y101 (y101.length : Int) 0) = some r := by first | (rw [hy101]; with_reducible exact H) | (have H2_ := (Option.bind_some _ _).symm.trans H; rw [hy101]; with_reducible exact H2_) | (have H2_ := (Option.bind_some _ _).symm.trans H; with_reducible exact H2_) | with_reducible exact H | (rw [hy101]; exact H) | exact H
                      have Ny101 := zG.mk hy101
                      clear hy101
                      have H' := zG.mk H
                      clear H
                      go_wp2_with (first | ((with_reducible refine gate_dst (N := 43) rfl ?_); refine Kd.R_make (Kd.int .i64) _ 3 rfl (N := 43) rfl 22 _ _ rfl ji17 rfl rfl Try.underlying22 (.int .i64 0) 8 info3 rfl (by decide) (by omega) 0 (ok := fun _ => True) (okp := fun _ => True) rfl (fun _ hk => hk) trivial (of_decide_eq_true (by first | (with_reducible assumption) | assumption)) (Nat.le_trans (Nat.mul_le_mul_right _ (of_decide_eq_true (by first | (with_reducible assumption) | assumption) : ji17.toNat ≤ 35184372088832)) (by omega)) (Below.refl _ _) (Nat.le_refl _) ?_; intro v102 w20 ho21 hb hg_ hnew_; clear hg_ hnew_; (first | rw [← Ny101.out] at ho21 | (simp only [Int.reduceToNat] at ho21; rw [← Ny101.out] at ho21)); have n0_ := zG.mk (Kd.R_lower ho21 (below_size (by repeat (first | (with_reducible first | exact HB.out | apply zF | apply zC | apply zD) | exact HB.out)))); have n1_ := zG.mk (below_step (by repeat (first | (with_reducible first | exact HB.out | apply zF | apply zC | apply zD) | exact HB.out)) hb); clear HB; have HO103 := n0_; have HB := n1_; clear n0_ n1_; clear hb ho21; obtain ⟨Ao22, co22, eo22⟩ := Kd.R_slice HO103.out; subst eo22))
                      go_loopg [46] kj10 (fun kq v46 w' => ∃ (x9_3 : List Int) (x46_3 : Int), v46 = .int .i64 x46_3 ∧ zG (parts_Cuts.l0 kq a1 ji10 x9_3 (y101.length : Int) x46_3 = some r) ∧ zG (kq ≤ kj10) ∧ zG (Kd.R (Kd.int .i64) 3 w' w.heap.size (fun _ => True) (.slice Ao22 y101.length co22) x9_3) ∧ zG (Below w.heap.size w w'))
                      case atStart => exact ⟨(y101), (0), (by first | rfl | (simp; done) | (simp only [i64_w, i32_w]; done) | (simp [*]; done) | (simp only [i64_w, i32_w]; first | rfl | (simp; done) | (simp [*]; done))), H', ⟨Nat.le_refl _⟩, ⟨by (with_reducible repeat (first | apply Kd.zS | apply Kd.zQ | apply Kd.zR)); exact HO103.out⟩, ⟨by repeat (first | (with_reducible first | exact HB.out | apply zF | apply zC | apply zD) | exact HB.out)⟩⟩
                      case round =>
                        clear H'
                        try clear c1
                        try clear c2
                        try clear p2
                        try clear c5
                        try clear c5b0
                        try clear c6
                        try clear c6b0
                        try clear p6
                        try clear c7
                        try clear c7b0
                        try clear c8
                        try clear c9
                        try clear c9b0
                        try clear c9b1
                        try clear c12
                        try clear c12b0
                        try clear c14
                        try clear c14b0
                        try clear c14b1
                        try clear c15
                        try clear c16
                        try clear c16b0
                        try clear c16b1
                        try clear c18
                        try clear c18b0
                        try clear c18b1
                        try clear c19
                        try clear c19b0
                        try clear c19b1
                        try clear p2
                        try clear p6
                        obtain ⟨x9_3, x46_3, rfl, HA, HK3, HO_9, HB⟩ := hrel
                        have hl9_3 := (Kd.R_reads' HO_9.out).1
                        rw [hl9_3] at HO_9
                        (try simp only [hl9_3])
                        cases gk with
                        | zero => exact absurd HA.out (by simp [parts_Cuts.l0])
                        | succ k3 =>
                          have H := HA.out
                          clear HA
                          simp only [parts_Cuts.l0] at H
                          by_cases c23 : x46_3 < (y101.length : Int)
                          · rw [if_pos c23] at H
                            have c23b0 : decide (x46_3 < (y101.length : Int)) = true := decide_eq_true c23
                            (try simp only [hl9_3] at c23b0)
                            clear c23
                            by_cases c24 : 0 ≤ x46_3
                            · rw [if_pos c24] at H
                              have c24b0 : decide (0 ≤ x46_3) = true := decide_eq_true c24
                              (try simp only [hl9_3] at c24b0)
                              clear c24
                              by_cases c25 : x46_3 < (x9_3.length : Int)
                              · rw [if_pos c25] at H
                                have c25b0 : decide (x46_3 < (x9_3.length : Int)) = true := decide_eq_true c25
                                (try simp only [hl9_3] at c25b0)
                                clear c25
                                obtain ⟨y104, hy104⟩ : ∃ y_ : List Int, y_ = (x9_3.set (x46_3 : Int).toNat ji10) := ⟨_, rfl⟩
                                replace H : (parts_Cuts.l0 k3 a1 ji10 y104 (y101.length : Int) (wrap64 (x46_3 + 1))) = some r := by first | (rw [hy104]; with_reducible exact H) | (have H2_ := (Option.bind_some _ _).symm.trans H; rw [hy104]; with_reducible exact H2_) | (have H2_ := (Option.bind_some _ _).symm.trans H; with_reducible exact H2_) | with_reducible exact H | (rw [hy104]; exact H) | exact H
                                have Ny104 := zG.mk hy104
                                clear hy104
                                have H' := zG.mk H
                                clear H
                                have p26 : 0 ≤ (x46_3 : Int) := of_decide_eq_true (by first | (with_reducible assumption) | assumption)
                                have q26 : (x46_3 : Int) < ((x9_3.length : Int) : Int) := of_decide_eq_true (by first | (with_reducible assumption) | assumption)
                                obtain ⟨go26, co26, eo26, gb26, gl26, cl26, HG26⟩ := Kd.R_form HO_9.out (by omega)
                                (first | cases eo26 | (injection eo26 with ea_ en_ ec_; (first | subst ea_ | (injection ea_ with ea_; subst ea_)); subst ec_; clear en_))
                                have GB26 := zG.mk gb26
                                have GG26 := zG.mk HG26
                                clear gb26 gl26 HG26
                                obtain ⟨hx26_0, hf26_0⟩ := Kd.R_celln 0 HO_9.out (x46_3 : Int) p26 q26
                                replace p26 := eq_true p26
                                replace q26 := eq_true q26
                                have HP27 := Kd.R_putg HO_9.out (x46_3 : Int) ji10
                                go_wp2_with (first | ((with_reducible refine gate_store (t := 3) (p := 52) rfl ?_); refine store_event (t := 3) (p := 52) (v := ?vo_w28) (w1 := (wr.setCell ⟨go26, (x46_3 : Int).toNat, none⟩ (.int .i64 ji10))) ?hg ?ho ?hn ?hr ?_; (case ho => rfl); (case hg => rfl); (case hn => rfl); (case hr => first | (go_simp; done) | (go_simp; rfl)); intro w28 hw; have hg : wr.grownBy w28 (some go26) := (by rw [hw]; exact HP27.2); have hp_ : Kd.R (Kd.int .i64) 3 w28 w.heap.size (fun _ => True) (.slice (some ⟨go26, 0, none⟩) x9_3.length co22) y104 := (by rw [hw, Ny104.out]; exact HP27.1); clear HP27; have n0_ := zG.mk (hp_); have n1_ := zG.mk ((by rw [hw]; exact zE (HB.out) GB26.out : Below w.heap.size w w28)); clear HO_9; clear HB; have HO_9 := n0_; have HB := n1_; clear n0_ n1_; clear hg hw hp_))
                                (try simp only [← hl9_3])
                                go_roundg k3
                                case measure => have := HJ3.out; have := HJ10.out; have := HK3.out; omega
                                case rel => exact ⟨(y104), (wrap64 (x46_3 + 1)), (by first | rfl | (simp; done) | (simp only [i64_w, i32_w]; done) | (simp [*]; done) | (simp only [i64_w, i32_w]; first | rfl | (simp; done) | (simp [*]; done))), H', ⟨by have := HJ3.out; have := HJ10.out; have := HK3.out; omega⟩, ⟨by (try simp only [hl9_3]); (with_reducible repeat (first | apply Kd.zS | apply Kd.zQ | apply Kd.zR)); exact HO_9.out⟩, ⟨by repeat (first | (with_reducible first | exact HB.out | apply zF | apply zC | apply zD) | exact HB.out)⟩⟩
                              · rw [if_neg c25] at H
                                exact absurd H (by simp)
                            · rw [if_neg c24] at H
                              exact absurd H (by simp)
                          · rw [if_neg c23] at H
                            have c23b0 : decide (x46_3 < (y101.length : Int)) = false := decide_eq_false c23
                            (try simp only [hl9_3] at c23b0)
                            clear c23
                            by_cases c29 : 0 < (x9_3.length : Int)
                            · rw [if_pos c29] at H
                              have c29b0 : decide (0 < (x9_3.length : Int)) = true := decide_eq_true c29
                              (try simp only [hl9_3] at c29b0)
                              have c29b1 : decide (0 < x9_3.length) = true := decide_eq_true (by omega)
                              (try simp only [hl9_3] at c29b1)
                              clear c29
                              obtain ⟨y106, hy106⟩ : ∃ y_ : List Int, y_ = (x9_3.set (0 : Int).toNat (wrap64 ((rd x9_3 0) - a1))) := ⟨_, rfl⟩
                              replace H : (some y106) = some r := by first | (rw [hy106]; with_reducible exact H) | (have H2_ := (Option.bind_some _ _).symm.trans H; rw [hy106]; with_reducible exact H2_) | (have H2_ := (Option.bind_some _ _).symm.trans H; with_reducible exact H2_) | with_reducible exact H | (rw [hy106]; exact H) | exact H
                              have Ny106 := zG.mk hy106
                              clear hy106
                              obtain rfl := Option.some.inj H
                              have p105 : 0 ≤ (0 : Int) := (by omega)
                              have q105 : 0 < (x9_3.length : Int) := of_decide_eq_true (by first | (with_reducible assumption) | assumption)
                              obtain ⟨ad105, e105, hx105_0⟩ := Kd.at_int (Kd.R_reads' HO_9.out).2.2 0 p105 q105
                              cases e105
                              have qi105 : (0 < x9_3.length) = True := eq_true (by omega)
                              (try rw [show ((0 : Int)).toNat = 0 from rfl] at hx105_0)
                              (try rw [Addr.add_zero'] at hx105_0)
                              replace p105 := eq_true p105
                              replace q105 := eq_true q105
                              have p30 : 0 ≤ (0 : Int) := (by omega)
                              have q30 : (0 : Int) < ((x9_3.length : Int) : Int) := of_decide_eq_true (by first | (with_reducible assumption) | assumption)
                              have qi30 : (0 < x9_3.length) = True := eq_true (by omega)
                              obtain ⟨go30, co30, eo30, gb30, gl30, cl30, HG30⟩ := Kd.R_form HO_9.out (by omega)
                              (first | cases eo30 | (injection eo30 with ea_ en_ ec_; (first | subst ea_ | (injection ea_ with ea_; subst ea_)); subst ec_; clear en_))
                              have GB30 := zG.mk gb30
                              have GG30 := zG.mk HG30
                              clear gb30 gl30 HG30
                              (first | simp only [add_plain] at hx105_0 | skip)
                              obtain ⟨hx30_0, hf30_0⟩ := Kd.R_celln 0 HO_9.out (0 : Int) p30 q30
                              (try rw [show ((0 : Int)).toNat = 0 from rfl] at hx30_0)
                              (try simp only [Nat.reduceMul, Nat.zero_mul, Nat.zero_add, Nat.reduceAdd] at hx30_0)
                              (try rw [show ((0 : Int)).toNat = 0 from rfl] at hf30_0)
                              (try simp only [Nat.reduceMul, Nat.zero_mul, Nat.zero_add, Nat.reduceAdd] at hf30_0)
                              replace p30 := eq_true p30
                              replace q30 := eq_true q30
                              have HP31 := Kd.R_putg HO_9.out (0 : Int) (wrap64 ((rd x9_3 0) - a1))
                              go_wp2_with (first | ((with_reducible refine gate_store (t := 3) (p := 59) rfl ?_); refine store_event (t := 3) (p := 59) (v := ?vo_w32) (w1 := (wr.setCell ⟨go30, (0 : Int).toNat, none⟩ (.int .i64 (wrap64 ((rd x9_3 0) - a1))))) ?hg ?ho ?hn ?hr ?_; (case ho => rfl); (case hg => rfl); (case hn => rfl); (case hr => first | (go_simp; done) | (go_simp; rfl)); intro w32 hw; have hg : wr.grownBy w32 (some go30) := (by rw [hw]; exact HP31.2); have hp_ : Kd.R (Kd.int .i64) 3 w32 w.heap.size (fun _ => True) (.slice (some ⟨go30, 0, none⟩) x9_3.length co22) y106 := (by rw [hw, Ny106.out]; exact HP31.1); clear HP31; have n0_ := zG.mk (hp_); have n1_ := zG.mk ((by rw [hw]; exact zE (HB.out) GB30.out : Below w.heap.size w w32)); clear HO_9; clear HB; have HO_9 := n0_; have HB := n1_; clear n0_ n1_; clear hg hw hp_))
                              go_ret
                              exact ⟨_, by first | rfl | (simp [errW_none, errW_some] <;> rfl) | (simp only [← hji10, ← hji17]; first | rfl | (simp [errW_none, errW_some] <;> rfl)) | (simp [*, errW_none, errW_some] <;> rfl), by (with_reducible repeat (first | apply Kd.zS | apply Kd.zQ | apply Kd.zR)); exact HO_9.out, by repeat (first | (with_reducible first | exact HB.out | apply zF | apply zC | apply zD) | exact HB.out)⟩
                            · rw [if_neg c29] at H
                              exact absurd H (by simp)
                    · rw [if_neg c19] at H
                      exact absurd H (by simp)
                  · rw [if_neg c18] at H
                    exact absurd H (by simp)
                · rw [if_neg c16] at H
                  exact absurd H (by simp)
        · rw [if_neg c9] at H
          exact absurd H (by simp)
end Go.Proofs.Ytokdjeoecnnckaa.PA
end
section
namespace Go.Proofs.Ytokdjeoecnnckaa.PA
open Go.RowKit Go.Proofs.YtokdjeoecnnckaaW.PrintWords Go.Proofs.YtokdjeoecnnckaaW.PrintLast Go.Proofs.YtokdjeoecnnckaaW.PrintMore
attribute [local go_sem] max2_int min2_int max_two min_two max_three min_three max_four min_four   -- for this text's walks alone
set_option linter.unusedVariables false
set_option linter.unusedSimpArgs false

def parts_top.f (a0 : Bool) : Option (Int × Int) := if a0 = true then (some (30, 5)) else (some (14, 4))
set_option maxHeartbeats 8000000 in
set_option maxRecDepth 100000 in
theorem parts_top.calls (a0 : Bool) (r1 : Int) (r2 : Int) (w : World) (h : parts_top.f a0 = some (r1, r2)) :
    Calls Try.prog 29 #[.bool a0] w fun e w' => e = .returned (.tuple #[.int .i64 r1, .int .i64 r2]) ∧ Drawn0 w w' := by
  have H : (if a0 = true then (some (30, 5)) else (some (14, 4))) = some (r1, r2) := h
  clear h
  by_cases c2 : a0 = true
  · subst c2
    have H1 : (some (30, 5)) = some (r1, r2) := by rw [if_pos rfl] at H; exact H
    clear H
    have H := H1
    clear H1
    simp only [Option.some.injEq, Prod.mk.injEq] at H
    obtain ⟨rfl, rfl⟩ := H
    go_enter Try.func29, Try.ntmps29
    go_wp2
    go_ret2
    exact ⟨by first | rfl | (simp; done) | (simp [*]; done), by repeat (first | exact Drawn0.refl _ | apply Drawn0.step)⟩
  · replace c2 := Bool.eq_false_iff.mpr c2
    subst c2
    have H1 : (some (14, 4)) = some (r1, r2) := by rw [if_neg (show ¬ (false = true) by decide)] at H; exact H
    clear H
    have H := H1
    clear H1
    simp only [Option.some.injEq, Prod.mk.injEq] at H
    obtain ⟨rfl, rfl⟩ := H
    go_enter Try.func29, Try.ntmps29
    go_wp2
    go_ret2
    exact ⟨by first | rfl | (simp; done) | (simp [*]; done), by repeat (first | exact Drawn0.refl _ | apply Drawn0.step)⟩

-- NOT PRINTED: function 60 (slices_IndexFunc_int_int)

-- NOT PRINTED: function 53 (slices_ContainsFunc_int_int)

def rice_Near.f (a0 : Int) : Option (Bool) := if a0 ≥ (-8589934592) then (some (decide (a0 < 8589934592))) else (some false)
set_option maxHeartbeats 8000000 in
set_option maxRecDepth 100000 in
theorem rice_Near.calls (a0 : Int) (r : Bool) (w : World) (h : rice_Near.f a0 = some r) :
    Calls Try.prog 47 #[.int .i64 a0] w fun e w' => e = .returned (.bool r) ∧ Drawn0 w w' := by
  have H : (if a0 ≥ (-8589934592) then (some (decide (a0 < 8589934592))) else (some false)) = some r := h
  clear h
  by_cases c2 : a0 ≥ (-8589934592)
  · rw [if_pos c2] at H
    have c2b0 : decide ((-8589934592) ≤ a0) = true := decide_eq_true c2
    clear c2
    obtain rfl := Option.some.inj H
    go_enter Try.func47, Try.ntmps47
    go_wp2
    go_ret
    exact ⟨by first | rfl | (simp; done) | (simp [*]; done), by repeat (first | exact Drawn0.refl _ | apply Drawn0.step)⟩
  · rw [if_neg c2] at H
    have c2b0 : decide ((-8589934592) ≤ a0) = false := decide_eq_false c2
    clear c2
    obtain rfl := Option.some.inj H
    go_enter Try.func47, Try.ntmps47
    go_wp2
    go_ret
    exact ⟨by first | rfl | (simp; done) | (simp [*]; done), by repeat (first | exact Drawn0.refl _ | apply Drawn0.step)⟩


def pcm_In.f (a0 : Int) (a1 : Int) : Option (Bool) := if a1 < 1 then (some false) else (if a1 > 62 then (some false) else (if 0 ≤ (wrap64 (a1 - 1)) then (if (shr .i64 a0 (wrap64 (a1 - 1))) = 0 then (some true) else (some ((shr .i64 a0 (wrap64 (a1 - 1))) == (-1)))) else (none)))
set_option maxHeartbeats 8000000 in
set_option maxRecDepth 100000 in
theorem pcm_In.calls (a0 : Int) (a1 : Int) (r : Bool) (w : World) (h : pcm_In.f a0 a1 = some r) :
    Calls Try.prog 55 #[.int .i64 a0, .int .i64 a1] w fun e w' => e = .returned (.bool r) ∧ Drawn0 w w' := by
  have H : (if a1 < 1 then (some false) else (if a1 > 62 then (some false) else (if 0 ≤ (wrap64 (a1 - 1)) then (if (shr .i64 a0 (wrap64 (a1 - 1))) = 0 then (some true) else (some ((shr .i64 a0 (wrap64 (a1 - 1))) == (-1)))) else (none)))) = some r := h
  clear h
  by_cases c3 : a1 < 1
  · rw [if_pos c3] at H
    have c3b0 : decide (a1 < 1) = true := decide_eq_true c3
    clear c3
    obtain rfl := Option.some.inj H
    go_enter Try.func55, Try.ntmps55
    go_wp2
    go_ret
    exact ⟨by first | rfl | (simp; done) | (simp [*]; done), by repeat (first | exact Drawn0.refl _ | apply Drawn0.step)⟩
  · rw [if_neg c3] at H
    have c3b0 : decide (a1 < 1) = false := decide_eq_false c3
    clear c3
    by_cases c4 : a1 > 62
    · rw [if_pos c4] at H
      have c4b0 : decide (62 < a1) = true := decide_eq_true c4
      clear c4
      obtain rfl := Option.some.inj H
      go_enter Try.func55, Try.ntmps55
      go_wp2
      go_ret
      exact ⟨by first | rfl | (simp; done) | (simp [*]; done), by repeat (first | exact Drawn0.refl _ | apply Drawn0.step)⟩
    · rw [if_neg c4] at H
      have c4b0 : decide (62 < a1) = false := decide_eq_false c4
      clear c4
      obtain ⟨ji5, hji5⟩ : ∃ j_ : Int, (wrap64 (a1 - 1)) = j_ := ⟨_, rfl⟩
      replace H : (if 0 ≤ (ji5) then (if (shr .i64 a0 (ji5)) = 0 then (some true) else (some ((shr .i64 a0 (ji5)) == (-1)))) else (none)) = some r := by first | (rw [hji5] at H; exact H) | (simp only [hji5] at H ⊢; exact H)
      have hji5w : (IntKind.i64.wrap (a1 - 1)) = ji5 := (i64_w _).trans hji5
      by_cases c6 : 0 ≤ (ji5)
      · rw [if_pos c6] at H
        have c6b0 := eq_true c6
        have c6b1 : decide (0 ≤ (ji5)) = true := decide_eq_true c6
        clear c6
        obtain ⟨ji7, hji7⟩ : ∃ j_ : Int, (shr .i64 a0 (ji5)) = j_ := ⟨_, rfl⟩
        replace H : (if (ji7) = 0 then (some true) else (some ((ji7) == (-1)))) = some r := by first | (rw [hji7] at H; exact H) | (simp only [hji7] at H ⊢; exact H)
        have hji7_ : (a0 / 2 ^ min (ji5).toNat 64) = ji7 := hji7
        have hji7z : (ji5) ≤ 64 → (a0 / 2 ^ (ji5).toNat) = ji7 := shr_small hji7
        by_cases c8 : (ji7) = 0
        · rw [if_pos c8] at H
          have c8b0 : ((ji7) == 0) = true := beq_iff_eq.mpr c8
          have c8b1 : ((ji7) != 0) = false := bne_eq_false_iff_eq.mpr c8
          clear c8
          obtain rfl := Option.some.inj H
          go_enter Try.func55, Try.ntmps55
          go_wp2
          go_ret
          exact ⟨by first | rfl | (simp; done) | (simp only [← hji5, ← hji7] <;> (first | rfl | simp)) | (simp [*]; done), by repeat (first | exact Drawn0.refl _ | apply Drawn0.step)⟩
        · rw [if_neg c8] at H
          have c8b0 : ((ji7) == 0) = false := beq_eq_false_iff_ne.mpr c8
          have c8b1 : ((ji7) != 0) = true := bne_iff_ne.mpr c8
          obtain rfl := Option.some.inj H
          go_enter Try.func55, Try.ntmps55
          go_wp2
          go_ret
          exact ⟨by first | rfl | (simp; done) | (simp only [← hji5, ← hji7] <;> (first | rfl | simp)) | (simp [*]; done), by repeat (first | exact Drawn0.refl _ | apply Drawn0.step)⟩
      · rw [if_neg c6] at H
        exact absurd H (by simp)

def serinetteshadow_AnyFarCost.l0 : Nat → List Int → Int → Int → Option (Bool)
  | 0, _, _, _ => none
  | k + 1, x0, x5, x6 => if x6 < x5 then (if 0 ≤ x6 then (if x6 < (x0.length : Int) then (if (rd x0 x6) < (-8589934592) then (some true) else (if (rd x0 x6) ≥ 8589934592 then (some true) else (serinetteshadow_AnyFarCost.l0 k x0 x5 (wrap64 (x6 + 1))))) else (none)) else (none)) else (some false)
def serinetteshadow_AnyFarCost.f (k : Nat) (l0 : List Int) : Option (Bool) := serinetteshadow_AnyFarCost.l0 k l0 (l0.length : Int) 0
def costB (n : Int) : Bool := decide (n < -8589934592) || decide (n ≥ 8589934592)
theorem near_f (n : Int) : rice_Near.f n = some (!costB n) := by
  unfold rice_Near.f costB
  by_cases h : n ≥ -8589934592
  · by_cases g : n < 8589934592
    · first | (simp [h, g]; done) | (simp [h, g]; omega)
    · first | (simp [h, g]; done) | (simp [h, g]; omega)
  · first | (simp [h]; done) | (simp [h]; omega)
theorem costFar.calls (n : Int) (w : World) : Calls Try.prog 54 #[.int .i64 n] w fun e w' => e = .returned (.bool (costB n)) ∧ Drawn0 w w' := by
  have hc := rice_Near.calls n (!costB n) w (near_f n)
  generalize costB n = b at hc ⊢
  have HC := zG.mk hc
  clear hc
  go_enter Try.func54, Try.ntmps54
  go_wp2_with (go_at_call 47; (with_reducible refine HC.out.mono ?_); rintro e w' ⟨rfl, ⟨nd, rfl⟩⟩)
  go_ret
  exact ⟨by first | rfl | (simp; done) | (simp [*]; done), by repeat (first | exact Drawn0.refl _ | apply Drawn0.step)⟩
set_option maxRecDepth 100000 in
theorem cost_IndexFunc.calls (A0 : Option Addr) (c0 : Nat) (l0 : List Int) (w : World) (hr0 : Kd.C (Kd.int .i64) w A0 l0.length l0) :
    Calls Try.prog 60 #[.slice A0 l0.length c0, .func (.func 54) #[] #[]] w fun e w' => e = .returned (.int .i64 (Idx.idxI costB l0)) ∧ Drawn0 w w' := by
  have HR0 := zG.mk hr0
  have HL : l0.length ≤ 9223372036854775807 := hr0.2.1
  clear hr0
  generalize hX : Idx.idxI costB l0 = X
  have HX := zG.mk hX
  clear hX
  go_enter Try.func60, Try.ntmps60
  go_wp2
  go_loopg [8] l0.length (fun kq v8 w' => ∃ (i : Nat), v8 = .int .i64 (i : Int) ∧ zG (i + kq = l0.length) ∧ zG (∀ j, j < i → costB (rd l0 (j : Int)) = false) ∧ Drawn0 w w')
  case atStart => exact ⟨0, rfl, ⟨by omega⟩, ⟨fun j hj => by omega⟩, Drawn0.refl _⟩
  case round =>
    obtain ⟨i, rfl, HK, HN, ⟨m1, rfl⟩⟩ := hrel
    by_cases hi : i < l0.length
    · have p1 : 0 ≤ (i : Int) := by omega
      have q1 : (i : Int) < (l0.length : Int) := by omega
      obtain ⟨ad1, e1, hx1⟩ := Kd.at_int HR0.out (i : Int) p1 q1
      cases e1
      simp only [Int.toNat_natCast] at hx1
      have hq := decide_eq_true q1
      replace q1 := eq_true q1
      replace p1 := eq_true p1
      have hw1 : wrap64 ((i : Int) + 1) = ((i + 1 : Nat) : Int) := by unfold wrap64; omega
      have HW := zG.mk hw1
      clear hw1
      cases hp : costB (rd l0 (i : Int)) with
      | true =>
        have HP := zG.mk hp
        clear hp
        have hcall := costFar.calls (rd l0 (i : Int)) (w.drewN m1)
        rw [HP.out] at hcall
        have HC := zG.mk hcall
        clear hcall
        go_wp2_with (go_at_call 54; (with_reducible refine HC.out.mono ?_); rintro e w' ⟨rfl, ⟨nd, rfl⟩⟩)
        go_ret
        have := Idx.idxI_found hi (p := costB) HP.out HN.out
        rw [HX.out] at this
        subst this
        exact ⟨by first | rfl | (simp; done) | (simp [*]; done), by repeat (first | exact Drawn0.refl _ | apply Drawn0.step)⟩
      | false =>
        have HP := zG.mk hp
        clear hp
        have hcall := costFar.calls (rd l0 (i : Int)) (w.drewN m1)
        rw [HP.out] at hcall
        have HC := zG.mk hcall
        clear hcall
        go_wp2_with (go_at_call 54; (with_reducible refine HC.out.mono ?_); rintro e w' ⟨rfl, ⟨nd, rfl⟩⟩)
        go_roundg (l0.length - (i + 1))
        case measure => have := HK.out; omega
        case rel => exact ⟨i + 1, by first | rfl | (simp; done) | (simp [HW.out]; done) | go_num, ⟨by omega⟩, ⟨fun j hj => by
          rcases Nat.lt_or_ge j i with h | h
          · exact HN.out j h
          · obtain rfl : j = i := by omega
            exact HP.out⟩, by repeat (first | exact Drawn0.refl _ | apply Drawn0.step)⟩
    · have hq : decide ((i : Int) < (l0.length : Int)) = false := decide_eq_false (by omega)
      go_wp2
      go_ret
      have := Idx.idxI_none (l := l0) (p := costB) (fun j hj => HN.out j (by omega))
      rw [HX.out] at this
      subst this
      exact ⟨by first | rfl | (simp; done) | (simp [*]; done), by repeat (first | exact Drawn0.refl _ | apply Drawn0.step)⟩
set_option maxRecDepth 100000 in
theorem cost_ContainsFunc.calls (A0 : Option Addr) (c0 : Nat) (l0 : List Int) (w : World) (hr0 : Kd.C (Kd.int .i64) w A0 l0.length l0) (t : Bool) (ht : l0.any costB = t) :
    Calls Try.prog 53 #[.slice A0 l0.length c0, .func (.func 54) #[] #[]] w fun e w' => e = .returned (.bool t) ∧ Drawn0 w w' := by
  have hI := cost_IndexFunc.calls A0 c0 l0 w hr0
  have hge := Idx.idxI_ge costB l0
  rw [ht] at hge
  generalize Idx.idxI costB l0 = X at hI hge
  have HI := zG.mk hI
  clear hI hr0 ht
  go_enter Try.func53, Try.ntmps53
  go_wp2_with (go_at_call 60; (with_reducible refine HI.out.mono ?_); rintro e w' ⟨rfl, ⟨nd, rfl⟩⟩)
  go_ret
  exact ⟨by first | rfl | (simp; done) | (simp [*]; done), by repeat (first | exact Drawn0.refl _ | apply Drawn0.step)⟩
theorem cost_any_l0 (l : List Int) (hl : l.length ≤ 9223372036854775807) : ∀ (k i : Nat) (t : Bool), serinetteshadow_AnyFarCost.l0 k l (l.length : Int) (i : Int) = some t → t = (l.drop i).any costB := by
  intro k
  induction k with
  | zero => intro i t h; simp [serinetteshadow_AnyFarCost.l0] at h
  | succ k ih =>
    intro i t h
    simp only [serinetteshadow_AnyFarCost.l0] at h
    by_cases hi : i < l.length
    · have hw : wrap64 ((i : Int) + 1) = ((i + 1 : Nat) : Int) := by unfold wrap64; omega
      rw [if_pos (by omega), if_pos (by omega), if_pos (by omega), hw] at h
      have hd : l.drop i = rd l (i : Int) :: l.drop (i + 1) := by
        rw [List.drop_eq_getElem_cons hi]; simp [rd, List.getD_eq_getElem?_getD, List.getElem?_eq_getElem hi]
      rw [hd, List.any_cons]
      generalize rd l (i : Int) = n at h ⊢
      by_cases h0 : n < (-8589934592)
      · rw [if_pos h0] at h
        rw [← Option.some.inj h]
        simp [costB, h0]
      · rw [if_neg h0] at h
        by_cases h1 : n ≥ 8589934592
        · rw [if_pos h1] at h
          rw [← Option.some.inj h]
          simp [costB, h1]
        · rw [if_neg h1] at h
          rw [← ih _ _ h]
          simp [costB]
          omega
    · rw [if_neg (by omega)] at h
      rw [← Option.some.inj h, List.drop_of_length_le (by omega)]
      rfl
set_option maxHeartbeats 8000000 in
set_option maxRecDepth 100000 in
theorem serinetteshadow_AnyFarCost.calls (k : Nat) (A0 : Option Addr) (c0 : Nat) (l0 : List Int) (r : Bool) (w : World) (hr0 : Kd.C (Kd.int .i64) w A0 l0.length l0) (hc0 : l0.length ≤ c0) (h : serinetteshadow_AnyFarCost.f k l0 = some r) :
    Calls Try.prog 53 #[.slice A0 l0.length c0, .func (.func 54) #[] #[]] w fun e w' => e = .returned (.bool r) ∧ Drawn0 w w' := by
  have e := cost_any_l0 l0 hr0.2.1 k 0 r h
  rw [List.drop_zero] at e
  exact cost_ContainsFunc.calls A0 c0 l0 w hr0 r e.symm
end Go.Proofs.Ytokdjeoecnnckaa.PA
end
section
namespace Go.Proofs.Ytokdjeoecnnckaa.PA
open Go.RowKit Go.Proofs.YtokdjeoecnnckaaW.PrintWords Go.Proofs.YtokdjeoecnnckaaW.PrintLast Go.Proofs.YtokdjeoecnnckaaW.PrintMore
attribute [local go_sem] max2_int min2_int max_two min_two max_three min_three max_four min_four   -- for this text's walks alone
set_option linter.unusedVariables false
set_option linter.unusedSimpArgs false

mutual
def cost_Width.l0 : Nat → Int → List Int → Int → Int → Option (Int)
  | 0, _, _, _, _ => none
  | k + 1, x3, x8, x9, x10 => if x10 < x9 then (if 0 ≤ x10 then (if x10 < (x8.length : Int) then (cost_Width.l1 k x3 (rd x8 x10) x8 x9 x10) else (none)) else (none)) else (some x3)
def cost_Width.l1 : Nat → Int → Int → List Int → Int → Int → Option (Int)
  | 0, _, _, _, _, _ => none
  | k + 1, x3, x5, x8, x9, x10 => if x5 = 0 then (cost_Width.l0 k x3 x8 x9 (wrap64 (x10 + 1))) else ((pcm_In.f x5 x3).bind fun t112 => (if t112 = true then (cost_Width.l0 k x3 x8 x9 (wrap64 (x10 + 1))) else (cost_Width.l1 k (wrap64 (x3 + 1)) x5 x8 x9 x10)))
end
def cost_Width.f (k : Nat) (l0 : List Int) : Option (Int) := (serinetteshadow_AnyFarCost.f k l0).bind fun t110 => (if t110 = true then (some (-1)) else (cost_Width.l0 k 0 l0 (l0.length : Int) 0))
set_option maxHeartbeats 8000000 in
set_option maxRecDepth 100000 in
theorem cost_Width.calls (k : Nat) (A0 : Option Addr) (c0 : Nat) (l0 : List Int) (r : Int) (w : World) (hr0 : Kd.C (Kd.int .i64) w A0 l0.length l0) (hc0 : l0.length ≤ c0) (h : cost_Width.f k l0 = some r) :
    Calls Try.prog 36 #[.slice A0 l0.length c0] w fun e w' => e = .returned (.int .i64 r) ∧ Drawn0 w w' := by
  have HR0 := zG.mk hr0
  have HC0 := zG.mk hc0
  clear hr0 hc0
  have H : ((serinetteshadow_AnyFarCost.f k l0).bind fun t110 => (if t110 = true then (some (-1)) else (cost_Width.l0 k 0 l0 (l0.length : Int) 0))) = some r := h
  clear h
  replace H := Option.bind_eq_some_iff.mp H
  obtain ⟨t110, A20, H⟩ := H
  replace H : (if t110 = true then (some (-1)) else (cost_Width.l0 k 0 l0 (l0.length : Int) 0)) = some r := H
  have A2 := zG.mk A20
  clear A20
  by_cases c3 : t110 = true
  · subst c3
    have H1 : (some (-1)) = some r := by rw [if_pos rfl] at H; exact H
    clear H
    have H := H1
    clear H1
    obtain rfl := Option.some.inj H
    go_enter Try.func36, Try.ntmps36
    go_wp2_with (first | ((with_reducible refine gate_callee (f := 53) rfl ?_); refine goesL_ (some 7) rfl rfl Try.func53 (by kernel_rfl) rfl #[.slice A0 l0.length c0, .func (.func 54) #[] #[]] rfl (by (try simp only [List.map_toArray, List.map_cons, List.map_nil]); first | done | rfl | (simp only [List.length_drop, List.length_take]; rfl)) ?_; (with_reducible refine (serinetteshadow_AnyFarCost.calls k _ _ l0 true _ ?side1 ?side2 A2.out).mono ?_); (case side1 => repeat (first | exact HR0.out | (with_reducible refine Kd.zV ?_ _) | (with_reducible refine Kd.zT ?_ _) | (with_reducible refine Kd.zU ?_))); (case side2 => exact HC0.out); rintro e w' ⟨rfl, ⟨nd, rfl⟩⟩; refine ⟨_, rfl, ?_⟩))
    go_ret
    exact ⟨by first | rfl | (simp; done) | (simp [*]; done), by repeat (first | exact Drawn0.refl _ | apply Drawn0.step)⟩
  · replace c3 := Bool.eq_false_iff.mpr c3
    subst c3
    have H1 : (cost_Width.l0 k 0 l0 (l0.length : Int) 0) = some r := by rw [if_neg (show ¬ (false = true) by decide)] at H; exact H
    clear H
    have H := H1
    clear H1
    have H' := zG.mk H
    clear H
    go_enter Try.func36, Try.ntmps36
    go_wp2_with (first | ((with_reducible refine gate_callee (f := 53) rfl ?_); refine goesL_ (some 7) rfl rfl Try.func53 (by kernel_rfl) rfl #[.slice A0 l0.length c0, .func (.func 54) #[] #[]] rfl (by (try simp only [List.map_toArray, List.map_cons, List.map_nil]); first | done | rfl | (simp only [List.length_drop, List.length_take]; rfl)) ?_; (with_reducible refine (serinetteshadow_AnyFarCost.calls k _ _ l0 false _ ?side1 ?side2 A2.out).mono ?_); (case side1 => repeat (first | exact HR0.out | (with_reducible refine Kd.zV ?_ _) | (with_reducible refine Kd.zT ?_ _) | (with_reducible refine Kd.zU ?_))); (case side2 => exact HC0.out); rintro e w' ⟨rfl, ⟨nd, rfl⟩⟩; refine ⟨_, rfl, ?_⟩))
    go_loopg [3, 10] k (fun kq v3 v10 w' => ∃ (x3_1 : Int) (x10_1 : Int), v3 = .int .i64 x3_1 ∧ v10 = .int .i64 x10_1 ∧ zG (cost_Width.l0 kq x3_1 l0 (l0.length : Int) x10_1 = some r) ∧ zG (kq ≤ k) ∧ Drawn0 w w')
    case atStart => exact ⟨(0), (0), (by first | rfl | (simp; done) | (simp only [i64_w, i32_w]; done) | (simp [*]; done) | (simp only [i64_w, i32_w]; first | rfl | (simp; done) | (simp [*]; done))), (by first | rfl | (simp; done) | (simp only [i64_w, i32_w]; done) | (simp [*]; done) | (simp only [i64_w, i32_w]; first | rfl | (simp; done) | (simp [*]; done))), H', ⟨Nat.le_refl _⟩, by repeat (first | exact Drawn0.refl _ | apply Drawn0.step)⟩
    case round =>
      clear H'
      try clear p2
      try clear c3
      obtain ⟨x3_1, x10_1, rfl, rfl, HA, HK1, ⟨m1, rfl⟩⟩ := hrel
      cases gk with
      | zero => exact absurd HA.out (by simp [cost_Width.l0])
      | succ k1 =>
        have H := HA.out
        clear HA
        simp only [cost_Width.l0] at H
        by_cases c4 : x10_1 < (l0.length : Int)
        · rw [if_pos c4] at H
          have c4b0 : decide (x10_1 < (l0.length : Int)) = true := decide_eq_true c4
          clear c4
          by_cases c5 : 0 ≤ x10_1
          · rw [if_pos c5] at H
            have c5b0 : decide (0 ≤ x10_1) = true := decide_eq_true c5
            clear c5
            by_cases c6 : x10_1 < (l0.length : Int)
            · rw [if_pos c6] at H
              have c6b0 : decide (x10_1 < (l0.length : Int)) = true := decide_eq_true c6
              clear c6
              have H' := zG.mk H
              clear H
              have p111 : 0 ≤ (x10_1 : Int) := of_decide_eq_true (by first | (with_reducible assumption) | assumption)
              have q111 : x10_1 < (l0.length : Int) := of_decide_eq_true (by first | (with_reducible assumption) | assumption)
              obtain ⟨ad111, e111, hx111_0⟩ := Kd.at_int HR0.out x10_1 p111 q111
              cases e111
              replace p111 := eq_true p111
              replace q111 := eq_true q111
              go_wp2
              go_loopg [3] k1 (fun kq v3 w' => ∃ (x3_2 : Int), v3 = .int .i64 x3_2 ∧ zG (cost_Width.l1 kq x3_2 (rd l0 x10_1) l0 (l0.length : Int) x10_1 = some r) ∧ zG (kq ≤ k1) ∧ Drawn0 w w')
              case atStart => exact ⟨(x3_1), (by first | rfl | (simp; done) | (simp only [i64_w, i32_w]; done) | (simp [*]; done) | (simp only [i64_w, i32_w]; first | rfl | (simp; done) | (simp [*]; done))), H', ⟨Nat.le_refl _⟩, by repeat (first | exact Drawn0.refl _ | apply Drawn0.step)⟩
              case round =>
                clear H'
                try clear p1
                try clear q1
                try clear hx1
                try clear p2
                try clear c3
                try clear c4
                try clear c4b0
                try clear c5
                try clear c5b0
                try clear c6
                try clear c6b0
                try clear hx111_0
                try clear p111
                try clear p2
                try clear q111
                obtain ⟨x3_2, rfl, HA, HK2, ⟨m2, rfl⟩⟩ := hrel
                cases gk with
                | zero => exact absurd HA.out (by simp [cost_Width.l1])
                | succ k2 =>
                  have H := HA.out
                  clear HA
                  simp only [cost_Width.l1] at H
                  by_cases c7 : (rd l0 x10_1) = 0
                  · rw [if_pos c7] at H
                    have c7b0 : ((rd l0 x10_1) == 0) = true := beq_iff_eq.mpr c7
                    have c7b1 : ((rd l0 x10_1) != 0) = false := bne_eq_false_iff_eq.mpr c7
                    clear c7
                    have H' := zG.mk H
                    clear H
                    go_wp2
                    go_roundg k2
                    case measure => have := HK1.out; have := HK2.out; omega
                    case rel => exact ⟨(x3_2), (wrap64 (x10_1 + 1)), (by first | rfl | (simp; done) | (simp only [i64_w, i32_w]; done) | (simp [*]; done) | (simp only [i64_w, i32_w]; first | rfl | (simp; done) | (simp [*]; done))), (by first | rfl | (simp; done) | (simp only [i64_w, i32_w]; done) | (simp [*]; done) | (simp only [i64_w, i32_w]; first | rfl | (simp; done) | (simp [*]; done))), H', ⟨by have := HK1.out; have := HK2.out; omega⟩, by repeat (first | exact Drawn0.refl _ | apply Drawn0.step)⟩
                  · rw [if_neg c7] at H
                    have c7b0 : ((rd l0 x10_1) == 0) = false := beq_eq_false_iff_ne.mpr c7
                    have c7b1 : ((rd l0 x10_1) != 0) = true := bne_iff_ne.mpr c7
                    replace H := Option.bind_eq_some_iff.mp H
                    obtain ⟨t112, A80, H⟩ := H
                    replace H : (if t112 = true then (cost_Width.l0 k2 x3_2 l0 (l0.length : Int) (wrap64 (x10_1 + 1))) else (cost_Width.l1 k2 (wrap64 (x3_2 + 1)) (rd l0 x10_1) l0 (l0.length : Int) x10_1)) = some r := H
                    have A8 := zG.mk A80
                    clear A80
                    by_cases c9 : t112 = true
                    · subst c9
                      have H1 : (cost_Width.l0 k2 x3_2 l0 (l0.length : Int) (wrap64 (x10_1 + 1))) = some r := by rw [if_pos rfl] at H; exact H
                      clear H
                      have H := H1
                      clear H1
                      have H' := zG.mk H
                      clear H
                      go_wp2_with (first | (go_at_call 55; (with_reducible refine (pcm_In.calls (rd l0 x10_1) x3_2 true _ A8.out).mono ?_); rintro e w' ⟨rfl, ⟨nd, rfl⟩⟩))
                      go_roundg k2
                      case measure => have := HK1.out; have := HK2.out; omega
                      case rel => exact ⟨(x3_2), (wrap64 (x10_1 + 1)), (by first | rfl | (simp; done) | (simp only [i64_w, i32_w]; done) | (simp [*]; done) | (simp only [i64_w, i32_w]; first | rfl | (simp; done) | (simp [*]; done))), (by first | rfl | (simp; done) | (simp only [i64_w, i32_w]; done) | (simp [*]; done) | (simp only [i64_w, i32_w]; first | rfl | (simp; done) | (simp [*]; done))), H', ⟨by have := HK1.out; have := HK2.out; omega⟩, by repeat (first | exact Drawn0.refl _ | apply Drawn0.step)⟩
                    · replace c9 := Bool.eq_false_iff.mpr c9
                      subst c9
                      have H1 : (cost_Width.l1 k2 (wrap64 (x3_2 + 1)) (rd l0 x10_1) l0 (l0.length : Int) x10_1) = some r := by rw [if_neg (show ¬ (false = true) by decide)] at H; exact H
                      clear H
                      have H := H1
                      clear H1
                      have H' := zG.mk H
                      clear H
                      go_wp2_with (first | (go_at_call 55; (with_reducible refine (pcm_In.calls (rd l0 x10_1) x3_2 false _ A8.out).mono ?_); rintro e w' ⟨rfl, ⟨nd, rfl⟩⟩))
                      go_roundg k2
                      case measure => have := HK1.out; have := HK2.out; omega
                      case rel => exact ⟨(wrap64 (x3_2 + 1)), (by first | rfl | (simp; done) | (simp only [i64_w, i32_w]; done) | (simp [*]; done) | (simp only [i64_w, i32_w]; first | rfl | (simp; done) | (simp [*]; done))), H', ⟨by have := HK1.out; have := HK2.out; omega⟩, by repeat (first | exact Drawn0.refl _ | apply Drawn0.step)⟩
            · rw [if_neg c6] at H
              exact absurd H (by simp)
          · rw [if_neg c5] at H
            exact absurd H (by simp)
        · rw [if_neg c4] at H
          have c4b0 : decide (x10_1 < (l0.length : Int)) = false := decide_eq_false c4
          clear c4
          obtain rfl := Option.some.inj H
          go_wp2
          go_ret
          exact ⟨by first | rfl | (simp; done) | (simp [*]; done), by repeat (first | exact Drawn0.refl _ | apply Drawn0.step)⟩

def rice_Fold.f (a0 : Int) : Option (Int) := some (Go.bits .xor .u64 (IntKind.u64.wrap ((IntKind.u64.wrap (a0)) * 2)) (IntKind.u64.wrap (a0 / 9223372036854775808)))
set_option maxHeartbeats 8000000 in
set_option maxRecDepth 100000 in
theorem rice_Fold.calls (a0 : Int) (r : Int) (w : World) (h : rice_Fold.f a0 = some r) :
    Calls Try.prog 44 #[.int .i64 a0] w fun e w' => e = .returned (.int .u64 r) ∧ Drawn0 w w' := by
  have H : (some (Go.bits .xor .u64 (IntKind.u64.wrap ((IntKind.u64.wrap (a0)) * 2)) (IntKind.u64.wrap (a0 / 9223372036854775808)))) = some r := h
  clear h
  obtain rfl := Option.some.inj H
  go_enter Try.func44, Try.ntmps44
  go_wp2
  go_ret
  exact ⟨by first | rfl | (simp; done) | (simp [*]; done), by repeat (first | exact Drawn0.refl _ | apply Drawn0.step)⟩

def rice_held.f (a0 : Int) : Option (Int) := some (mx 0 (mn a0 30))
set_option maxHeartbeats 8000000 in
set_option maxRecDepth 100000 in
theorem rice_held.calls (a0 : Int) (r : Int) (w : World) (h : rice_held.f a0 = some r) :
    Calls Try.prog 46 #[.int .i64 a0] w fun e w' => e = .returned (.int .i64 r) ∧ Below w.heap.size w w' := by
  have HB := zG.mk (Below.refl w.heap.size w)
  have H : (some (mx 0 (mn a0 30))) = some r := h
  clear h
  obtain ⟨ji2, hji2⟩ : ∃ j_ : Int, (mn a0 30) = j_ := ⟨_, rfl⟩
  replace H : (some (mx 0 (ji2))) = some r := by first | (rw [hji2] at H; exact H) | (simp only [hji2] at H ⊢; exact H)
  (try (have hji2h : ji2 ≤ 30 := by (rw [← hji2]; unfold mn; (repeat' split) <;> omega)))
  (try (have hji2g : ji2 ≤ 64 := by omega))
  have hji2_ : (if 30 < a0 then 30 else a0) = ji2 := hji2
  obtain ⟨ji3, hji3⟩ : ∃ j_ : Int, (mx 0 (ji2)) = j_ := ⟨_, rfl⟩
  replace H : (some ji3) = some r := by first | (rw [hji3] at H; exact H) | (simp only [hji3] at H ⊢; exact H)
  have hji3_ : (if 0 < (ji2) then (ji2) else 0) = ji3 := hji3
  obtain rfl := Option.some.inj H
  go_enter Try.func46, Try.ntmps46
  go_wp2
  go_ret
  exact ⟨by first | rfl | (simp [errW_none, errW_some] <;> rfl) | (simp only [← hji2, ← hji3]; first | rfl | (simp [errW_none, errW_some] <;> rfl)) | (simp [*, errW_none, errW_some] <;> rfl), by repeat (first | (with_reducible first | exact HB.out | apply zF | apply zC | apply zD) | exact HB.out)⟩
end Go.Proofs.Ytokdjeoecnnckaa.PA
end
section
namespace Go.Proofs.Ytokdjeoecnnckaa.PA
open Go.RowKit Go.Proofs.YtokdjeoecnnckaaW.PrintWords Go.Proofs.YtokdjeoecnnckaaW.PrintLast Go.Proofs.YtokdjeoecnnckaaW.PrintMore
attribute [local go_sem] max2_int min2_int max_two min_two max_three min_three max_four min_four   -- for this text's walks alone
set_option linter.unusedVariables false
set_option linter.unusedSimpArgs false

-- NOT PRINTED: function 23 (section_each)

def section_long.f (a0 : Int) (a1 : Int) : Option (Bool) := (rice_Fold.f a0).bind fun t148 => (if 0 ≤ a1 then (some (decide ((shr .u64 t148 a1) > 65535))) else (none))
set_option maxHeartbeats 8000000 in
set_option maxRecDepth 100000 in
theorem section_long.calls (a0 : Int) (a1 : Int) (r : Bool) (w : World) (h : section_long.f a0 a1 = some r) :
    Calls Try.prog 24 #[.int .i64 a0, .int .i64 a1] w fun e w' => e = .returned (.bool r) ∧ Drawn0 w w' := by
  have H : ((rice_Fold.f a0).bind fun t148 => (if 0 ≤ a1 then (some (decide ((shr .u64 t148 a1) > 65535))) else (none))) = some r := h
  clear h
  replace H := Option.bind_eq_some_iff.mp H
  obtain ⟨t148, A30, H⟩ := H
  replace H : (if 0 ≤ a1 then (some (decide ((shr .u64 t148 a1) > 65535))) else (none)) = some r := H
  have A3 := zG.mk A30
  clear A30
  by_cases c4 : 0 ≤ a1
  · rw [if_pos c4] at H
    have c4b0 := eq_true c4
    have c4b1 : decide (0 ≤ a1) = true := decide_eq_true c4
    clear c4
    obtain ⟨ji5, hji5⟩ : ∃ j_ : Int, (shr .u64 t148 a1) = j_ := ⟨_, rfl⟩
    replace H : (some (decide ((ji5) > 65535))) = some r := by first | (rw [hji5] at H; exact H) | (simp only [hji5] at H ⊢; exact H)
    (try rw [hji5] at A3)
    have hji5_ : (t148 / 2 ^ min a1.toNat 64) = ji5 := hji5
    have hji5z : a1 ≤ 64 → (t148 / 2 ^ a1.toNat) = ji5 := shr_small hji5
    obtain rfl := Option.some.inj H
    go_enter Try.func24, Try.ntmps24
    go_wp2_with (first | ((with_reducible refine gate_callee (f := 44) rfl ?_); refine goesL_ (some 6) rfl rfl Try.func44 (by kernel_rfl) rfl #[.int .i64 a0] rfl (by (try simp only [List.map_toArray, List.map_cons, List.map_nil]); first | done | rfl | (simp only [List.length_drop, List.length_take]; rfl)) ?_; (with_reducible refine (rice_Fold.calls a0 t148 _ A3.out).mono ?_); rintro e w' ⟨rfl, ⟨nd, rfl⟩⟩; refine ⟨_, rfl, ?_⟩))
    go_ret
    exact ⟨by first | rfl | (simp; done) | (simp only [← hji5] <;> (first | rfl | simp)) | (simp [*]; done), by repeat (first | exact Drawn0.refl _ | apply Drawn0.step)⟩
  · rw [if_neg c4] at H
    exact absurd H (by simp)

def bits_held.f (a0 : Int) : Option (Int) := some (mx 0 (mn a0 64))
set_option maxHeartbeats 8000000 in
set_option maxRecDepth 100000 in
theorem bits_held.calls (a0 : Int) (r : Int) (w : World) (h : bits_held.f a0 = some r) :
    Calls Try.prog 45 #[.int .i64 a0] w fun e w' => e = .returned (.int .i64 r) ∧ Below w.heap.size w w' := by
  have HB := zG.mk (Below.refl w.heap.size w)
  have H : (some (mx 0 (mn a0 64))) = some r := h
  clear h
  obtain ⟨ji2, hji2⟩ : ∃ j_ : Int, (mn a0 64) = j_ := ⟨_, rfl⟩
  replace H : (some (mx 0 (ji2))) = some r := by first | (rw [hji2] at H; exact H) | (simp only [hji2] at H ⊢; exact H)
  (try (have hji2h : ji2 ≤ 64 := by (rw [← hji2]; unfold mn; (repeat' split) <;> omega)))
  (try (have hji2g : ji2 ≤ 64 := by omega))
  have hji2_ : (if 64 < a0 then 64 else a0) = ji2 := hji2
  obtain ⟨ji3, hji3⟩ : ∃ j_ : Int, (mx 0 (ji2)) = j_ := ⟨_, rfl⟩
  replace H : (some ji3) = some r := by first | (rw [hji3] at H; exact H) | (simp only [hji3] at H ⊢; exact H)
  have hji3_ : (if 0 < (ji2) then (ji2) else 0) = ji3 := hji3
  obtain rfl := Option.some.inj H
  go_enter Try.func45, Try.ntmps45
  go_wp2
  go_ret
  exact ⟨by first | rfl | (simp [errW_none, errW_some] <;> rfl) | (simp only [← hji2, ← hji3]; first | rfl | (simp [errW_none, errW_some] <;> rfl)) | (simp [*, errW_none, errW_some] <;> rfl), by repeat (first | (with_reducible first | exact HB.out | apply zF | apply zC | apply zD) | exact HB.out)⟩
end Go.Proofs.Ytokdjeoecnnckaa.PA
end
section
namespace Go.Proofs.Ytokdjeoecnnckaa.PA
open Go.RowKit Go.Proofs.YtokdjeoecnnckaaW.PrintWords Go.Proofs.YtokdjeoecnnckaaW.PrintLast Go.Proofs.YtokdjeoecnnckaaW.PrintMore
attribute [local go_sem] max2_int min2_int max_two min_two max_three min_three max_four min_four   -- for this text's walks alone
set_option linter.unusedVariables false
set_option linter.unusedSimpArgs false

def bits_Writer_Put.grow (b : List Int) (p : Int) : Option (List Int) := if Int.tmod p 8 = 0 then (if b.length < 140737488355328 then some (b ++ [0]) else none) else some b
def bits_Writer_Put.l0 : Nat → Int → Int → List Int → Int → Option (List Int × Int)
  | 0, _, _, _, _ => none
  | k + 1, n, left, b, p => if left = 0 then some (b, p) else (bits_Writer_Put.grow b p).bind fun y => (if 0 ≤ (wrap64 (left - (mn (wrap64 (8 - (Int.tmod p 8))) left))) then (if 0 ≤ (mn (wrap64 (8 - (Int.tmod p 8))) left) then (if 0 ≤ (wrap64 ((y.length : Int) - 1)) then (if (wrap64 ((y.length : Int) - 1)) < (y.length : Int) then (if 0 ≤ (wrap64 ((wrap64 (8 - (Int.tmod p 8))) - (mn (wrap64 (8 - (Int.tmod p 8))) left))) then (bits_Writer_Put.l0 k n (wrap64 (left - (mn (wrap64 (8 - (Int.tmod p 8))) left))) (y.set ((wrap64 ((y.length : Int) - 1)) : Int).toNat (Go.bits .or .u8 (rd y (wrap64 ((y.length : Int) - 1))) (shl .u8 (Go.bits .and .u8 ((shr .u64 n (wrap64 (left - (mn (wrap64 (8 - (Int.tmod p 8))) left)))) % 256) (((shl .u8 1 (mn (wrap64 (8 - (Int.tmod p 8))) left)) - 1) % 256)) (wrap64 ((wrap64 (8 - (Int.tmod p 8))) - (mn (wrap64 (8 - (Int.tmod p 8))) left)))))) (wrap64 (p + (mn (wrap64 (8 - (Int.tmod p 8))) left)))) else none) else none) else none) else none) else none)
def ofB (l : List Int) : ByteArray := ⟨(l.map fun x => UInt8.ofNat x.toNat).toArray⟩
theorem bytes_ofB {l : List Int} (h : ∀ x ∈ l, 0 ≤ x ∧ x < 256) : bytesOf (ofB l) = l := by
  unfold bytesOf ofB
  simp only [List.map_map]
  conv => rhs; rw [← List.map_id l]
  refine List.map_congr_left fun x hx => ?_
  obtain ⟨h0, h1⟩ := h x hx
  show ((UInt8.ofNat x.toNat).toNat : Int) = x
  rw [UInt8.toNat_ofNat', Nat.mod_eq_of_lt (by omega)]
  omega
theorem bytesOf_bd (s : ByteArray) : ∀ x ∈ bytesOf s, 0 ≤ x ∧ x < 256 := by
  intro x hx
  obtain ⟨c, _, rfl⟩ := List.mem_map.1 hx
  have := c.toNat_lt
  omega
theorem bytesOf_len (s : ByteArray) : (bytesOf s).length = s.size := by unfold bytesOf; rw [List.length_map]; rfl
theorem wrap_u8_bd (x : Int) : 0 ≤ IntKind.u8.wrap x ∧ IntKind.u8.wrap x < 256 := by rw [IntKind.wrap_u8]; omega
theorem or_u8_bd (x y : Int) : 0 ≤ Go.bits .or .u8 x y ∧ Go.bits .or .u8 x y < 256 := by unfold Go.bits; exact wrap_u8_bd _
set_option maxRecDepth 100000 in
theorem bits_Writer_Put.l0_bd : ∀ (k : Nat) (n left : Int) (b : List Int) (p : Int) (r : List Int × Int), (∀ x ∈ b, 0 ≤ x ∧ x < 256) → bits_Writer_Put.l0 k n left b p = some r → ∀ x ∈ r.1, 0 ≤ x ∧ x < 256
  | 0, _, _, _, _, _, _, h => by simp [bits_Writer_Put.l0] at h
  | k + 1, n, left, b, p, r, hb, h => by
    simp only [bits_Writer_Put.l0] at h
    split at h
    · cases h; exact hb
    · obtain ⟨y, hy, h⟩ := Option.bind_eq_some_iff.1 h
      have hyb : ∀ x ∈ y, 0 ≤ x ∧ x < 256 := by
        unfold bits_Writer_Put.grow at hy
        split at hy
        · split at hy
          · cases hy
            intro x hx
            rcases List.mem_append.1 hx with hx | hx
            · exact hb x hx
            · simp at hx; omega
          · cases hy
        · cases hy; exact hb
      repeat' (split at h)
      all_goals first | (cases h; done) | skip
      refine bits_Writer_Put.l0_bd k _ _ _ _ r ?_ h
      intro x hx
      rcases List.mem_or_eq_of_mem_set hx with hx | rfl
      · exact hyb x hx
      · exact or_u8_bd _ _
def bits_Writer_Put.f (s0_0 : ByteArray) (s0_1 : Int) (a1 : Int) (a2 : Int) : Option (ByteArray × Int) := (bits_held.f a2).bind fun t => (bits_Writer_Put.l0 80 a1 t (bytesOf s0_0) s0_1).map fun r => (ofB r.1, r.2)
def bits_Writer_Put.T8 : Bool × List (List Nat × List Nat) := (true, [([], []), ([0], [0]), ([1], [1]), ([2], [2]), ([], []), ([4], [4]), ([5], [5]), ([6], [6]), ([7], [7]), ([8], [8]), ([3, 9], [3, 9]), ([10], [10]), ([], []), ([], []), ([], []), ([13, 14], [13, 14]), ([12, 15], [12, 15]), ([11, 16], [11, 16]), ([3, 9, 0, 1, 2, 3, 4, 5, 6, 7, 8, 9, 10, 11, 12, 13, 14, 15, 16, 17], [3, 9]), ([18, 17, 0, 1, 2, 3, 4, 5, 6, 7, 8, 9, 10, 11, 12, 13, 14, 15, 16, 17], [17, 18])])
def bits_Writer_Put.B8 : List Nat := [0, 1, 3, 7, 0, 16, 48, 112, 240, 496, 1023, 2047, 0, 0, 0, 24576, 61440, 131071, 262143, 524287]
theorem bits_Writer_Put.tab8 : rtab .any (opsOf Try.f25 8) = bits_Writer_Put.T8 := by kernel_rfl
theorem bits_Writer_Put.bits8 : waitsOk bits_Writer_Put.T8.2 bits_Writer_Put.B8 = true := by kernel_rfl
theorem bits_Writer_Put.infoB : (Try.prog.info? 5).map (fun i => (i.zero, i.size, i.bytes)) = some (some (.int .u8 0), 1, 1) := by kernel_rfl
def PutSt (w0 W : World) (g : Nat) (b : List Int) (p : Int) : Prop := ∃ A c, W.heap[g]? = some (.cells #[.slice A b.length c, .int .i64 p] 58 (0, 0)) ∧ w0.heap.size ≤ g ∧ Kd.R (Kd.int .u8) 5 W w0.heap.size (fun _ => True) (.slice A b.length c) b ∧ (b = [] → (.slice A b.length c : Value) = .slice none 0 0)
theorem PutSt.drewN {w0 W : World} {g : Nat} {b : List Int} {p : Int} (h : PutSt w0 W g b p) (m : Nat) : PutSt w0 (W.drewN m) g b p := h
theorem PutSt.drew {w0 W : World} {g : Nat} {b : List Int} {p : Int} (h : PutSt w0 W g b p) : PutSt w0 W.drew g b p := h
theorem PutSt.ne {w0 W : World} {g : Nat} {b : List Int} {p : Int} (h : PutSt w0 W g b p) : ∃ A c, W.heap[g]? = some (.cells #[.slice A b.length c, .int .i64 p] 58 (0, 0)) ∧ Kd.R (Kd.int .u8) 5 W w0.heap.size (fun k => True ∧ k ≠ g) (.slice A b.length c) b := by
  obtain ⟨A, c, hb, hg, hr, hz⟩ := h
  exact ⟨A, c, hb, Kd.R_types hr hb (by simp [Kd.int, Kd.scalar])⟩
theorem PutSt.grown {w0 w W W1 : World} {g : Nat} {b b1 : List Int} {p : Int} {v1 : Value} (h : PutSt w0 W g b p) (hk : KBe w0 w W g) {A : Option Addr} {c : Nat} (hA : W.heap[g]? = some (.cells #[.slice A b.length c, .int .i64 p] 58 (0, 0)))
    (ho : Kd.R (Kd.int .u8) 5 W1 w0.heap.size (fun _ => True) v1 b1) (hg : W.grownBy W1 (.slice A b.length c : Value).ownBlock) (hnew : ∀ k, v1.ownBlock = some k → (.slice A b.length c : Value).ownBlock = some k ∨ W.heap.size ≤ k) (hne : b1 ≠ []) :
    PutSt w0 (W1.setCell ⟨g, 0, none⟩ v1) g b1 p ∧ KBe w0 w (W1.setCell ⟨g, 0, none⟩ v1) g := by
  obtain ⟨A', c', hb, hge, hr, hz⟩ := h
  rw [hb] at hA
  injection hA with hA
  injection hA with hA _
  have e1 : (.slice A' b.length c' : Value) = .slice A b.length c := by
    have := congrArg (fun a : Array Value => a[0]?) hA
    simpa using this
  rw [e1] at hb hr hz
  have hlt : g < W.heap.size := blk_lt hb
  have hrow : some g ≠ (.slice A b.length c : Value).ownBlock := Kd.R_ne hr hb (by decide)
  have hb1 : W1.heap[g]? = some (.cells #[.slice A b.length c, .int .i64 p] 58 (0, 0)) := blk_grown hb hg hrow
  obtain ⟨A1, c1, rfl⟩ := Kd.R_slice ho
  have hset : (W1.setCell ⟨g, 0, none⟩ (.slice A1 b1.length c1)).heap[g]? = some (.cells #[.slice A1 b1.length c1, .int .i64 p] 58 (0, 0)) := by simpa using blk_set hb1 0 (.slice A1 b1.length c1)
  have hfar : ∀ i, i ≠ g → (W1.setCell ⟨g, 0, none⟩ (.slice A1 b1.length c1)).heap[i]? = W1.heap[i]? := fun i hi => Below.heap_setCell _ _ _ _ hi
  refine ⟨⟨A1, c1, hset, hge, Kd.R_mono (Kd.R_far (Kd.R_types ho hb1 (by simp [Kd.int, Kd.scalar])) (fun k hk => hk.2) _) (fun _ _ => trivial), fun e => absurd e hne⟩, hk.trans ?_⟩
  have hsz : (W1.setCell ⟨g, 0, none⟩ (.slice A1 b1.length c1)).heap.size = W1.heap.size := by simp [World.setCell]
  refine ⟨⟨by rw [hsz]; exact hg.size, fun i hi hgi ho2 => ?_⟩, fun i hi hgi hri => ?_, fun x hx => ?_, hlt⟩
  · rw [hfar i hgi]
    refine hg.block i hi (fun e => ?_)
    have hty := (Kd.R_bound hr).1 i e.symm
    obtain ⟨_, hbase, _, q, hq, cs, hcs⟩ := hty
    obtain rfl : q = 5 := by simpa [Kd.int, Kd.scalar] using hq
    rcases ho2 with ho2 | ho2
    · omega
    · exact ho2 cs hcs
  · rw [hfar i hgi]
    refine hg.block i hi (fun e => hri ?_)
    rw [rowAt_of hb]
    exact e
  · rw [rowAt_of hset] at hx
    rw [rowAt_of hb]
    exact hnew x hx
theorem PutSt.stored {w0 w W : World} {g : Nat} {b b1 : List Int} {p : Int} {ad : Addr} {c : Nat} {q : Addr} {x : Value} (h : W.heap[g]? = some (.cells #[.slice (some ad) b.length c, .int .i64 p] 58 (0, 0))) (hge : w0.heap.size ≤ g) (hlen : b1.length = b.length) (hne : b1 ≠ [])
    (ho : Kd.R (Kd.int .u8) 5 (W.setCell q x) w0.heap.size (fun _ => True) (.slice (some ad) b1.length c) b1) (hr : Kd.R (Kd.int .u8) 5 W w0.heap.size (fun _ => True) (.slice (some ad) b.length c) b) (hq : (.slice (some ad) b.length c : Value).ownBlock = some q.block) (hk : KBe w0 w W g) :
    PutSt w0 (W.setCell q x) g b1 p ∧ KBe w0 w (W.setCell q x) g := by
  have hrow : some g ≠ (.slice (some ad) b.length c : Value).ownBlock := Kd.R_ne hr h (by decide)
  have hgq : g ≠ q.block := fun e => hrow (by rw [hq, e])
  have hfar : ∀ i, i ≠ q.block → (W.setCell q x).heap[i]? = W.heap[i]? := fun i hi => Below.heap_setCell _ _ _ _ hi
  have hsz : (W.setCell q x).heap.size = W.heap.size := by simp [World.setCell]
  have hset : (W.setCell q x).heap[g]? = some (.cells #[.slice (some ad) b1.length c, .int .i64 p] 58 (0, 0)) := by rw [hfar g hgq, hlen]; exact h
  refine ⟨⟨some ad, c, hset, hge, ho, fun e => absurd e hne⟩, hk.trans ?_⟩
  refine ⟨⟨by rw [hsz]; exact Nat.le_refl _, fun i hi hgi ho2 => ?_⟩, fun i hi hgi hri => ?_, fun y hy => ?_, blk_lt h⟩
  · refine hfar i (fun e => ?_)
    subst e
    have hty := (Kd.R_bound hr).1 q.block hq
    obtain ⟨_, hbase, _, t, ht, cs, hcs⟩ := hty
    obtain rfl : t = 5 := by simpa [Kd.int, Kd.scalar] using ht
    rcases ho2 with ho2 | ho2
    · omega
    · exact ho2 cs hcs
  · refine hfar i (fun e => hri ?_)
    rw [rowAt_of h, hq, e]
  · rw [rowAt_of hset] at hy
    rw [rowAt_of h]
    rw [hlen] at hy
    exact .inl hy
theorem PutSt.moved {w0 w W : World} {g : Nat} {b : List Int} {p : Int} (h : PutSt w0 W g b p) (hk : KBe w0 w W g) (x : Int) : PutSt w0 (W.setCell ⟨g, 1, none⟩ (.int .i64 x)) g b x ∧ KBe w0 w (W.setCell ⟨g, 1, none⟩ (.int .i64 x)) g := by
  obtain ⟨A, c, hb, hge, hr, hz⟩ := h
  have hset : (W.setCell ⟨g, 1, none⟩ (.int .i64 x)).heap[g]? = some (.cells #[.slice A b.length c, .int .i64 x] 58 (0, 0)) := by simpa using blk_set hb 1 (.int .i64 x)
  have hfar : ∀ i, i ≠ g → (W.setCell ⟨g, 1, none⟩ (.int .i64 x)).heap[i]? = W.heap[i]? := fun i hi => Below.heap_setCell _ _ _ _ hi
  have hsz : (W.setCell ⟨g, 1, none⟩ (.int .i64 x)).heap.size = W.heap.size := by simp [World.setCell]
  refine ⟨⟨A, c, hset, hge, Kd.R_mono (Kd.R_far (Kd.R_types hr hb (by simp [Kd.int, Kd.scalar])) (fun k hk => hk.2) _) (fun _ _ => trivial), hz⟩, hk.trans ?_⟩
  exact ⟨⟨by rw [hsz]; exact Nat.le_refl _, fun i hi hgi _ => hfar i hgi⟩, fun i hi hgi _ => hfar i hgi, fun y hy => .inl (by rw [rowAt_of hset] at hy; rw [rowAt_of hb]; exact hy), blk_lt hb⟩
def bits_Writer_Put.T7 : Bool × List (List Nat × List Nat) := (true, [([], []), ([], []), ([0, 1], [0, 1]), ([2], [2]), ([], []), ([4], [4]), ([5], [5]), ([3, 6], [3, 6]), ([7, 0, 1, 2, 3, 4, 5, 6, 7], [7])])
def bits_Writer_Put.B7 : List Nat := [0, 0, 3, 7, 0, 16, 48, 127, 255]
theorem bits_Writer_Put.tab7 : rtab .any (opsOf Try.f25 7) = bits_Writer_Put.T7 := by kernel_rfl
theorem bits_Writer_Put.bits7 : waitsOk bits_Writer_Put.T7.2 bits_Writer_Put.B7 = true := by kernel_rfl
theorem PutSt.below {w0 W W1 : World} {g : Nat} {b : List Int} {p : Int} (h : PutSt w0 W g b p) (hb : Below W.heap.size W W1) : PutSt w0 W1 g b p := by
  obtain ⟨A, c, h1, h2, h3, h4⟩ := h
  exact ⟨A, c, blk_below h1 hb, h2, Kd.R_below h3 hb, h4⟩
set_option maxHeartbeats 8000000 in
set_option maxRecDepth 100000 in
theorem bits_Writer_Put.calls (g : Nat) (s0_0 : ByteArray) (s0_1 : Int) (a1 : Int) (a2 : Int) (r1 : ByteArray) (r2 : Int) (w0 w : World) (hI : zI w0 w g s0_0 s0_1) (hB : Below w0.heap.size w0 w) (h : bits_Writer_Put.f s0_0 s0_1 a1 a2 = some (r1, r2)) :
    Calls Try.prog 25 #[.pointer (some ⟨g, 0, none⟩), .int .u64 a1, .int .i64 a2] w fun e w' => e = .returned (.tuple #[]) ∧ zI w0 w' g r1 r2 ∧ Below w0.heap.size w0 w' ∧ KBe w0 w w' g := by
  have HGE := zG.mk hI.ge
  have HB := zG.mk hB
  have HK := zG.mk (KBe.refl w0 hI)
  clear hB
  have h2 := h
  unfold bits_Writer_Put.f at h2
  obtain ⟨t, ht, h3⟩ := Option.bind_eq_some_iff.1 h2
  obtain ⟨⟨q1, q2⟩, h4, h5⟩ := Option.map_eq_some_iff.1 h3
  simp only [Prod.mk.injEq] at h5
  obtain ⟨rfl, rfl⟩ := h5
  have HQ := zG.mk (bytes_ofB (bits_Writer_Put.l0_bd _ _ _ _ _ _ (bytesOf_bd s0_0) h4))
  have HT := zG.mk ht
  have H4 := zG.mk h4
  have HS : zG (PutSt w0 w g (bytesOf s0_0) s0_1) := ⟨by
    obtain ⟨v, h1, h6, h7, h8⟩ := hI
    obtain ⟨A, c, rfl⟩ := Kd.R_slice h7
    exact ⟨A, c, h1, h6, h7, fun e => h8 (by rw [← bytesOf_len, e]; rfl)⟩⟩
  clear h h2 h3 h4 ht hI
  go_enter Try.func25, Try.ntmps25
  go_wp2
  refine wp_scope_ghost_k 0 rfl (fun kq a_ w' => ∃ v2_ v3_ v4_ v5_ v6 v7_ v8_ v9_ v10_ v11_ v12_ v13_ v14_ v15_ v16_ v17_ v18_ v19_ v20_ v21_ v22_ v23_ v24_ v25_ v26_ v27_ v28_ v29_ v30_ v31_ v32_ v33_ v34_ v35_ v36_ v37_ v38_ v39_ v40_ v41_ v42_ v43_ v44_ v45_ v46_ v47_ v48_ v49_ v50_ v51_ v52_ v53_ v54_ v55_ v56_ v57_ v58_ v59_ v60_ v61_ v62_ v63_ v64_ v65_ v66_ v67_ v68_ v69_ v70_ v71_ v72_ v73_ v74_ v75_ : Value, (∃ (left p : Int) (b : List Int), v6 = .int .i64 left ∧ zG (bits_Writer_Put.l0 kq a1 left b p = some (q1, q2)) ∧ zG (PutSt w0 w' g b p) ∧ zG (KBe w0 w w' g) ∧ zG (Below w0.heap.size w0 w')) ∧ a_ = { tmps := #[.pointer (some ⟨g, 0, none⟩), .int .u64 a1, v2_, v3_, v4_, v5_, v6, v7_, v8_, v9_, v10_, v11_, v12_, v13_, v14_, v15_, v16_, v17_, v18_, v19_, v20_, v21_, v22_, v23_, v24_, v25_, v26_, v27_, v28_, v29_, v30_, v31_, v32_, v33_, v34_, v35_, v36_, v37_, v38_, v39_, v40_, v41_, v42_, v43_, v44_, v45_, v46_, v47_, v48_, v49_, v50_, v51_, v52_, v53_, v54_, v55_, v56_, v57_, v58_, v59_, v60_, v61_, v62_, v63_, v64_, v65_, v66_, v67_, v68_, v69_, v70_, v71_, v72_, v73_, v74_, v75_], defers := [] }) ?round ?first
  case first =>
    intro K_ hR_
    go_wp2_with (go_at_call 45; (with_reducible refine (bits_held.calls a2 t _ HT.out).mono ?_); rintro e w5 ⟨rfl, hb⟩; have HBB := zG.mk hb; clear hb)
    go_step3
    go_step
    go_step
    refine hR_ 80 _ _ ?_
    repeat apply Exists.intro
    refine ⟨?_, rfl⟩
    exact ⟨t, s0_1, bytesOf s0_0, rfl, H4, ⟨HS.out.below HBB.out⟩, ⟨HK.out.below HBB.out⟩, ⟨below_step HB.out HBB.out⟩⟩
  case round =>
    rintro gk a_ wr ⟨u2_, u3_, u4_, u5_, u6, u7_, u8_, u9_, u10_, u11_, u12_, u13_, u14_, u15_, u16_, u17_, u18_, u19_, u20_, u21_, u22_, u23_, u24_, u25_, u26_, u27_, u28_, u29_, u30_, u31_, u32_, u33_, u34_, u35_, u36_, u37_, u38_, u39_, u40_, u41_, u42_, u43_, u44_, u45_, u46_, u47_, u48_, u49_, u50_, u51_, u52_, u53_, u54_, u55_, u56_, u57_, u58_, u59_, u60_, u61_, u62_, u63_, u64_, u65_, u66_, u67_, u68_, u69_, u70_, u71_, u72_, u73_, u74_, u75_, hrel, rfl⟩ J_ K_ hJ_ hK_
    clear HS HK HB H4 HT
    obtain ⟨left, p, b, rfl, HA, HS, HK, HB⟩ := hrel
    cases gk with
    | zero => exact absurd HA.out (by simp [bits_Writer_Put.l0])
    | succ k =>
      have H := HA.out
      clear HA
      simp only [bits_Writer_Put.l0] at H
      by_cases c4 : left = 0
      · rw [if_pos c4] at H
        have c4b0 : (left == 0) = true := beq_iff_eq.mpr c4
        have c4b1 : (left != 0) = false := bne_eq_false_iff_eq.mpr c4
        clear c4
        simp only [Option.some.injEq, Prod.mk.injEq] at H
        obtain ⟨rfl, rfl⟩ := H
        go_wp2
        (try simp only [Exit.jump])
        first | go_end0 | ((try simp only [Exit.inBlock, Exit.then]); refine bodyPost_ret (results_none rfl _ _ _) rfl ?_)
        refine ⟨by first | rfl | (simp; done), ?_, HB.out, HK.out⟩
        obtain ⟨A, c, h1, h6, h7, h8⟩ := HS.out
        exact ⟨_, h1, h6, by rw [HQ.out]; exact h7, fun e => h8 (List.eq_nil_of_length_eq_zero (by have := bytesOf_len (ofB b); rw [HQ.out] at this; omega))⟩
      · rw [if_neg c4] at H
        have c4b0 : (left == 0) = false := beq_eq_false_iff_ne.mpr c4
        have c4b1 : (left != 0) = true := bne_iff_ne.mpr c4
        clear c4
        obtain ⟨y, hy, H2⟩ := Option.bind_eq_some_iff.1 H
        clear H
        have HY := zG.mk hy
        have HN := zG.mk H2
        clear hy H2
        obtain ⟨A, c, hbk, hge, hr, hz⟩ := HS.out
        have hcz0 : wr.cell? ⟨g, 0, none⟩ = some (.slice A b.length c) := (zN hbk 0).trans rfl
        have hcz1 : wr.cell? ⟨g, 1, none⟩ = some (.int .i64 p) := (zN hbk 1).trans rfl
        have HBK := zG.mk hbk
        have HR := zG.mk hr
        clear hbk hge hr hz
        go_upto_if 19 with (fail)
        go_cut [] (fun wc => ∃ z_ : Nat, zG (z_ = z_) ∧ zG (PutSt w0 wc g y p) ∧ zG (KBe w0 w wc g) ∧ zG (Below w0.heap.size w0 wc))
        case first =>
          have hy := HY.out
          clear HY HN
          unfold bits_Writer_Put.grow at hy
          by_cases c5 : (Int.tmod p 8) = 0
          · rw [if_pos c5] at hy
            have c5b0 : ((Int.tmod p 8) == 0) = true := beq_iff_eq.mpr c5
            have c5b1 : ((Int.tmod p 8) != 0) = false := bne_eq_false_iff_eq.mpr c5
            clear c5
            (first | rw [c5b0] | (simp only [i64_w, i32_w]; rw [c5b0]) | skip)
            by_cases c6 : b.length < 140737488355328
            · rw [if_pos c6] at hy
              have LM := zG.mk c6
              clear c6
              obtain rfl := Option.some.inj hy
              clear hy
              go_wp2_with (first | ((with_reducible refine gate_builtin (b := .append) (xs := #[.tmp 24, .tmp 25]) rfl ?_); at_builtin; refine Kd.R_append (Kd.int .u8) (w0 := w0) w0.heap.size rfl (.tmp 24) (.tmp 25) 26 5 (.int .u8 0) 1 rfl Try.underlying26 bits_Writer_Put.infoB rfl (by decide) (by omega) (.slice A b.length c) b 0 [.int .u8 0] (fun _ => True) (fun _ => False) rfl rfl ?aP (fun _ hk => hk.elim) ?aF ?aO ?aB ?aS ?aL ?_; (case aP => exact rfl); (case aB => exact HB.out); (case aF => exact (fun _ _ => trivial)); (case aO => exact HR.out); (case aS => exact HB.out.size); (case aL => have := LM.out; omega); intro v1 w1 ho hb hg hat; obtain ⟨A1, c1, eA⟩ := Kd.R_slice ho; subst eA; have HP := zG.mk (PutSt.grown HS.out HK.out HBK.out ho hg (fun k_ e_ => hat.elim (fun h_ => .inl (by rw [← h_]; exact e_)) (fun ⟨b_, h_, hle⟩ => .inr (by rw [h_] at e_; injection e_ with e_; omega))) (by simp)); have HB1 := zG.mk hb; have hb1 := blk_grown HBK.out hg (Kd.R_ne HR.out HBK.out (by decide)); have hc10 : w1.cell? ⟨g, 0, none⟩ = some (.slice A b.length c) := (zN hb1 0).trans rfl; have hf10 := zO hb1 0; clear ho hb hg hat hb1))
              go_meet
              case rel => exact ⟨0, ⟨by first | rfl | trivial⟩, ⟨by first | exact HP.out.1 | (have := HP.out.1; simpa using this)⟩, ⟨by first | exact HP.out.2 | (have := HP.out.2; simpa using this)⟩, ⟨zE HB1.out HGE.out⟩⟩
            · rw [if_neg c6] at hy
              exact absurd hy (by simp)
          · rw [if_neg c5] at hy
            have c5b0 : ((Int.tmod p 8) == 0) = false := beq_eq_false_iff_ne.mpr c5
            have c5b1 : ((Int.tmod p 8) != 0) = true := bne_iff_ne.mpr c5
            clear c5
            (first | rw [c5b0] | (simp only [i64_w, i32_w]; rw [c5b0]) | skip)
            obtain rfl := Option.some.inj hy
            clear hy
            go_wp2
            go_meet
            case rel => exact ⟨0, ⟨by first | rfl | trivial⟩, HS, HK, HB⟩
        case rest =>
          clear HY hcz0 hcz1 HS HK HB HBK HR
          obtain ⟨_, _, HS, HK, HB⟩ := hcut
          have H := HN.out
          clear HN
          obtain ⟨ji7, hji7⟩ : ∃ j_ : Int, (mn (wrap64 (8 - (Int.tmod p 8))) left) = j_ := ⟨_, rfl⟩
          simp only [hji7] at H
          have hji7_ : (if left < (wrap64 (8 - (Int.tmod p 8))) then left else (wrap64 (8 - (Int.tmod p 8)))) = ji7 := hji7
          obtain ⟨ji8, hji8⟩ : ∃ j_ : Int, (wrap64 (left - (ji7))) = j_ := ⟨_, rfl⟩
          simp only [hji8] at H
          have hji8w : (IntKind.i64.wrap (left - (ji7))) = ji8 := (i64_w _).trans hji8
          by_cases c9 : 0 ≤ (ji8)
          case neg => rw [if_neg c9] at H; exact absurd H (by simp)
          rw [if_pos c9] at H
          have c9b0 := eq_true c9
          have c9b1 : decide (0 ≤ (ji8)) = true := decide_eq_true c9
          clear c9
          obtain ⟨ji10, hji10⟩ : ∃ j_ : Int, (shr .u64 a1 (ji8)) = j_ := ⟨_, rfl⟩
          simp only [hji10] at H
          have hji10_ : (a1 / 2 ^ min (ji8).toNat 64) = ji10 := hji10
          have hji10z : (ji8) ≤ 64 → (a1 / 2 ^ (ji8).toNat) = ji10 := shr_small hji10
          by_cases c11 : 0 ≤ (ji7)
          case neg => rw [if_neg c11] at H; exact absurd H (by simp)
          rw [if_pos c11] at H
          have c11b0 := eq_true c11
          have c11b1 : decide (0 ≤ (ji7)) = true := decide_eq_true c11
          clear c11
          obtain ⟨ji12, hji12⟩ : ∃ j_ : Int, (shl .u8 1 (ji7)) = j_ := ⟨_, rfl⟩
          simp only [hji12] at H
          have hji12_ : (IntKind.u8.wrap (1 * 2 ^ min (ji7).toNat 8)) = ji12 := hji12
          have hji12z : (ji7) ≤ 8 → (IntKind.u8.wrap (1 * 2 ^ (ji7).toNat)) = ji12 := shl_small hji12
          have hji12u : (IntKind.u8.wrap (2 ^ min (ji7).toNat 8)) = ji12 := by have h_ := hji12_; rw [Int.one_mul] at h_; exact h_
          have hji12v : (ji7) ≤ 8 → (IntKind.u8.wrap (2 ^ (ji7).toNat)) = ji12 := fun hle_ => by have h_ := hji12z hle_; rw [Int.one_mul] at h_; exact h_
          obtain ⟨ji13, hji13⟩ : ∃ j_ : Int, (wrap64 ((y.length : Int) - 1)) = j_ := ⟨_, rfl⟩
          simp only [hji13] at H
          have hji13w : (IntKind.i64.wrap ((y.length : Int) - 1)) = ji13 := (i64_w _).trans hji13
          by_cases c14 : 0 ≤ (ji13)
          case neg => rw [if_neg c14] at H; exact absurd H (by simp)
          rw [if_pos c14] at H
          have c14b0 : decide (0 ≤ (ji13)) = true := decide_eq_true c14
          by_cases c15 : (ji13) < (y.length : Int)
          case neg => rw [if_neg c15] at H; exact absurd H (by simp)
          rw [if_pos c15] at H
          have c15b0 : decide ((ji13) < (y.length : Int)) = true := decide_eq_true c15
          obtain ⟨ji16, hji16⟩ : ∃ j_ : Int, (wrap64 ((wrap64 (8 - (Int.tmod p 8))) - (ji7))) = j_ := ⟨_, rfl⟩
          simp only [hji16] at H
          have hji16w : (IntKind.i64.wrap ((wrap64 (8 - (Int.tmod p 8))) - (ji7))) = ji16 := (i64_w _).trans hji16
          by_cases c17 : 0 ≤ (ji16)
          case neg => rw [if_neg c17] at H; exact absurd H (by simp)
          rw [if_pos c17] at H
          have c17b0 := eq_true c17
          have c17b1 : decide (0 ≤ (ji16)) = true := decide_eq_true c17
          clear c17
          obtain ⟨ji18, hji18⟩ : ∃ j_ : Int, (shl .u8 (Go.bits .and .u8 ((ji10) % 256) (((ji12) - 1) % 256)) (ji16)) = j_ := ⟨_, rfl⟩
          simp only [hji18] at H
          have hji18_ : (IntKind.u8.wrap ((Go.bits .and .u8 ((ji10) % 256) (((ji12) - 1) % 256)) * 2 ^ min (ji16).toNat 8)) = ji18 := hji18
          have hji18z : (ji16) ≤ 8 → (IntKind.u8.wrap ((Go.bits .and .u8 ((ji10) % 256) (((ji12) - 1) % 256)) * 2 ^ (ji16).toNat)) = ji18 := shl_small hji18
          have hji18w : (IntKind.u8.wrap ((Go.bits .and .u8 (IntKind.u8.wrap ji10) (IntKind.u8.wrap (ji12 - 1))) * 2 ^ min (ji16).toNat 8)) = ji18 := by rw [IntKind.wrap_u8 ji10, IntKind.wrap_u8 (ji12 - 1)]; exact hji18_
          have H' := zG.mk H
          clear H
          obtain ⟨A, c, hbk, hge, hr, hz⟩ := HS.out
          have hpos : 0 < y.length := by omega
          obtain ⟨go19, co19, eo19, gb19, gl19, cl19, HG19⟩ := Kd.R_form hr (by omega)
          injection eo19 with ea_ en_ ec_
          subst ea_
          subst ec_
          clear en_
          have HBK := zG.mk hbk
          have HR := zG.mk hr
          have HGR := zG.mk hge
          have HPOS := zG.mk hpos
          have hcz0 : wc.cell? ⟨g, 0, none⟩ = some (.slice (some ⟨go19, 0, none⟩) y.length c) := (zN hbk 0).trans rfl
          have hcz1 : wc.cell? ⟨g, 1, none⟩ = some (.int .i64 p) := (zN hbk 1).trans rfl
          clear hbk hge hr hz HS gb19 gl19 cl19 HG19 hpos
          go_wp2
          refine start_ (n := 9) (S := fun w' => True) (ds := []) #[false, false, false, false, false, false, false, false, false] (by kernel_rfl) rfl rfl trivial (fun hHeld => ?_); refine with_tabW bits_Writer_Put.tab7 bits_Writer_Put.bits7 (fun HT_ HW_ => ?_)
          refine pure_ (i := 0) (N := some 41) (v := ?_) (a' := ?_) #[true, false, false, false, false, false, false, false, false] rfl rfl (any_of HT_.out (by kernel_rfl)) (fun _ _ _ h => h) (Or.inl ⟨by rfl, ?_⟩) ?_ ?_
          rotate_left
          · intro w'
            go_simp
            with_reducible rfl
          rotate_left
          · simp only [Act.put, List.setIfInBounds_toArray, List.set_cons_zero, List.set_cons_succ, i64_w, i32_w]
            rfl
          refine pure_ (i := 1) (N := some 42) (v := ?_) (a' := ?_) #[true, true, false, false, false, false, false, false, false] rfl rfl (any_of HT_.out (by kernel_rfl)) (fun _ _ _ h => h) (Or.inl ⟨by rfl, ?_⟩) ?_ ?_
          rotate_left
          · intro w'
            go_simp
            with_reducible rfl
          rotate_left
          · simp only [Act.put, List.setIfInBounds_toArray, List.set_cons_zero, List.set_cons_succ, i64_w, i32_w]
            rfl
          refine pure_ (i := 2) (N := some 43) (v := ?_) (a' := ?_) #[true, true, true, false, false, false, false, false, false] rfl rfl (any_of HT_.out (by kernel_rfl)) (fun _ _ _ h => h) (Or.inl ⟨by rfl, ?_⟩) ?_ ?_
          rotate_left
          · intro w'
            go_simp
            with_reducible rfl
          rotate_left
          · simp only [Act.put, List.setIfInBounds_toArray, List.set_cons_zero, List.set_cons_succ, i64_w, i32_w]
            rfl
          refine pure_ (i := 3) (N := some 44) (v := ?_) (a' := ?_) #[true, true, true, true, false, false, false, false, false] rfl rfl (any_of HT_.out (by kernel_rfl)) (fun _ _ _ h => h) (Or.inl ⟨by rfl, ?_⟩) ?_ ?_
          rotate_left
          · intro w'
            go_simp
            with_reducible rfl
          rotate_left
          · simp only [Act.put, List.setIfInBounds_toArray, List.set_cons_zero, List.set_cons_succ, i64_w, i32_w]
            rfl
          refine pure_ (i := 4) (N := some 45) (v := ?_) (a' := ?_) #[true, true, true, true, true, false, false, false, false] rfl rfl (any_of HT_.out (by kernel_rfl)) (fun _ _ _ h => h) (Or.inl ⟨by rfl, ?_⟩) ?_ ?_
          rotate_left
          · intro w'
            go_simp
            with_reducible rfl
          rotate_left
          · simp only [Act.put, List.setIfInBounds_toArray, List.set_cons_zero, List.set_cons_succ, i64_w, i32_w]
            rfl
          refine pure_ (i := 5) (N := some 46) (v := ?_) (a' := ?_) #[true, true, true, true, true, true, false, false, false] rfl rfl (any_of HT_.out (by kernel_rfl)) (fun _ _ _ h => h) (Or.inl ⟨by rfl, ?_⟩) ?_ ?_
          rotate_left
          · intro w'
            go_simp
            with_reducible rfl
          rotate_left
          · simp only [Act.put, List.setIfInBounds_toArray, List.set_cons_zero, List.set_cons_succ, i64_w, i32_w]
            rfl
          refine pure_ (i := 6) (N := some 47) (v := ?_) (a' := ?_) #[true, true, true, true, true, true, true, false, false] rfl rfl (any_of HT_.out (by kernel_rfl)) (fun _ _ _ h => h) (Or.inl ⟨by rfl, ?_⟩) ?_ ?_
          rotate_left
          · intro w'
            go_simp
            with_reducible rfl
          rotate_left
          · simp only [Act.put, List.setIfInBounds_toArray, List.set_cons_zero, List.set_cons_succ, i64_w, i32_w]
            rfl
          refine pure_ (i := 7) (N := some 48) (v := ?_) (a' := ?_) #[true, true, true, true, true, true, true, true, false] rfl rfl (any_of HT_.out (by kernel_rfl)) (fun _ _ _ h => h) (Or.inl ⟨by rfl, ?_⟩) ?_ ?_
          rotate_left
          · intro w'
            go_simp
            with_reducible rfl
          rotate_left
          · simp only [Act.put, List.setIfInBounds_toArray, List.set_cons_zero, List.set_cons_succ, i64_w, i32_w]
            rfl
          refine pure_ (i := 8) (N := some 9) (v := ?_) (a' := ?_) #[true, true, true, true, true, true, true, true, true] rfl rfl (any_of HT_.out (by kernel_rfl)) (fun _ _ _ h => h) (Or.inl ⟨by rfl, ?_⟩) ?_ ?_
          rotate_left
          · intro w'
            go_simp
            with_reducible rfl
          rotate_left
          · simp only [Act.put, List.setIfInBounds_toArray, List.set_cons_zero, List.set_cons_succ, i64_w, i32_w]
            rfl
          refine done_ (done_of HT_.out (by kernel_rfl)) ?_
          try go_wp2
          obtain ⟨ad154, e154, hx154_0⟩ := Kd.at_int (Kd.R_reads' HR.out).2.2 (ji13) c14 c15
          cases e154
          simp only [add_plain] at hx154_0
          obtain ⟨hx19_0, hf19_0⟩ := Kd.R_celln 0 HR.out ((ji13) : Int) c14 c15
          have p154 := eq_true c14
          have q154 := eq_true c15
          clear c14 c15
          have HP24 := zG.mk (Kd.R_putn HR.out ((ji13) : Int) (Go.bits .or .u8 (rd y (ji13)) (ji18)))
          refine start_ (n := 20) (S := fun w' => w'.cell? ⟨g, 0, none⟩ = some (.slice (some ⟨go19, 0, none⟩) y.length c) ∧ w'.cell? ⟨go19, ((ji13)).toNat, none⟩ = some (.int .u8 (rd y (ji13)))) (ds := [19]) #[false, false, false, false, false, false, false, false, false, false, false, false, false, false, false, false, false, false, false, false] (by kernel_rfl) rfl rfl ⟨hcz0, hx154_0⟩ (fun hHeld => ?_); refine with_tabW bits_Writer_Put.tab8 bits_Writer_Put.bits8 (fun HT_ HW_ => ?_)
          refine pure_ (i := 0) (N := some 49) (v := ?_) (a' := ?_) #[true, false, false, false, false, false, false, false, false, false, false, false, false, false, false, false, false, false, false, false] rfl rfl (any_of HT_.out (by kernel_rfl)) (fun _ _ _ h => h) (Or.inl ⟨by rfl, ?_⟩) ?_ ?_
          rotate_left
          · intro w'
            go_simp
            with_reducible rfl
          rotate_left
          · simp only [Act.put, List.setIfInBounds_toArray, List.set_cons_zero, List.set_cons_succ, i64_w, i32_w]
            rfl
          refine pure_ (i := 1) (N := some 50) (v := ?_) (a' := ?_) #[true, true, false, false, false, false, false, false, false, false, false, false, false, false, false, false, false, false, false, false] rfl rfl (any_of HT_.out (by kernel_rfl)) (fun _ _ _ h => h) (Or.inl ⟨by rfl, ?_⟩) ?_ ?_
          rotate_left
          · intro w'
            go_simp
            with_reducible rfl
          rotate_left
          · simp only [Act.put, List.setIfInBounds_toArray, List.set_cons_zero, List.set_cons_succ, i64_w, i32_w]
            rfl
          refine pure_ (i := 2) (N := some 51) (v := ?_) (a' := ?_) #[true, true, true, false, false, false, false, false, false, false, false, false, false, false, false, false, false, false, false, false] rfl rfl (any_of HT_.out (by kernel_rfl)) (fun _ _ _ h => h) (Or.inl ⟨by rfl, ?_⟩) ?_ ?_
          rotate_left
          · intro w'
            go_simp
            with_reducible rfl
          rotate_left
          · simp only [Act.put, List.setIfInBounds_toArray, List.set_cons_zero, List.set_cons_succ, i64_w, i32_w]
            rfl
          refine take_ (i := 3) (N := some 52) (v := ?_) (a' := ?_) #[true, true, true, true, false, false, false, false, false, false, false, false, false, false, false, false, false, false, false, false] rfl rfl (take_ofW HT_.out HW_.out (by kernel_rfl)) (fun _ _ _ h => h) (Or.inl ⟨by rfl, ?_⟩) hHeld ?_ ?_
          rotate_left
          · rintro w' ⟨s0, s1⟩
            go_simp
            with_reducible rfl
          rotate_left
          · simp only [Act.put, List.setIfInBounds_toArray, List.set_cons_zero, List.set_cons_succ, i64_w, i32_w]
            rfl
          refine pure_ (i := 4) (N := some 53) (v := ?_) (a' := ?_) #[true, true, true, true, true, false, false, false, false, false, false, false, false, false, false, false, false, false, false, false] rfl rfl (any_of HT_.out (by kernel_rfl)) (fun _ _ _ h => h) (Or.inl ⟨by rfl, ?_⟩) ?_ ?_
          rotate_left
          · intro w'
            go_simp
            with_reducible rfl
          rotate_left
          · simp only [Act.put, List.setIfInBounds_toArray, List.set_cons_zero, List.set_cons_succ, i64_w, i32_w]
            rfl
          refine pure_ (i := 5) (N := some 54) (v := ?_) (a' := ?_) #[true, true, true, true, true, true, false, false, false, false, false, false, false, false, false, false, false, false, false, false] rfl rfl (any_of HT_.out (by kernel_rfl)) (fun _ _ _ h => h) (Or.inl ⟨by rfl, ?_⟩) ?_ ?_
          rotate_left
          · intro w'
            go_simp
            with_reducible rfl
          rotate_left
          · simp only [Act.put, List.setIfInBounds_toArray, List.set_cons_zero, List.set_cons_succ, i64_w, i32_w]
            rfl
          refine pure_ (i := 6) (N := some 55) (v := ?_) (a' := ?_) #[true, true, true, true, true, true, true, false, false, false, false, false, false, false, false, false, false, false, false, false] rfl rfl (any_of HT_.out (by kernel_rfl)) (fun _ _ _ h => h) (Or.inl ⟨by rfl, ?_⟩) ?_ ?_
          rotate_left
          · intro w'
            go_simp
            with_reducible rfl
          rotate_left
          · simp only [Act.put, List.setIfInBounds_toArray, List.set_cons_zero, List.set_cons_succ, i64_w, i32_w]
            rfl
          refine take_ (i := 7) (N := some 56) (v := ?_) (a' := ?_) #[true, true, true, true, true, true, true, true, false, false, false, false, false, false, false, false, false, false, false, false] rfl rfl (take_ofW HT_.out HW_.out (by kernel_rfl)) (fun _ _ _ h => h) (Or.inl ⟨by rfl, ?_⟩) hHeld ?_ ?_
          rotate_left
          · rintro w' ⟨s0, s1⟩
            go_simp
            with_reducible rfl
          rotate_left
          · simp only [Act.put, List.setIfInBounds_toArray, List.set_cons_zero, List.set_cons_succ, i64_w, i32_w]
            rfl
          refine pure_ (i := 8) (N := some 57) (v := ?_) (a' := ?_) #[true, true, true, true, true, true, true, true, true, false, false, false, false, false, false, false, false, false, false, false] rfl rfl (any_of HT_.out (by kernel_rfl)) (fun _ _ _ h => h) (Or.inl ⟨by rfl, ?_⟩) ?_ ?_
          rotate_left
          · intro w'
            go_simp
            with_reducible rfl
          rotate_left
          · simp only [Act.put, List.setIfInBounds_toArray, List.set_cons_zero, List.set_cons_succ, i64_w, i32_w]
            rfl
          refine pure_ (i := 9) (N := some 58) (v := ?_) (a' := ?_) #[true, true, true, true, true, true, true, true, true, true, false, false, false, false, false, false, false, false, false, false] rfl rfl (any_of HT_.out (by kernel_rfl)) (fun _ _ _ h => h) (Or.inl ⟨by rfl, ?_⟩) ?_ ?_
          rotate_left
          · intro w'
            go_simp
            with_reducible rfl
          rotate_left
          · simp only [Act.put, List.setIfInBounds_toArray, List.set_cons_zero, List.set_cons_succ, i64_w, i32_w]
            rfl
          refine pure_ (i := 10) (N := some 59) (v := ?_) (a' := ?_) #[true, true, true, true, true, true, true, true, true, true, true, false, false, false, false, false, false, false, false, false] rfl rfl (any_of HT_.out (by kernel_rfl)) (fun _ _ _ h => h) (Or.inl ⟨by rfl, ?_⟩) ?_ ?_
          rotate_left
          · intro w'
            go_simp
            with_reducible rfl
          rotate_left
          · simp only [Act.put, List.setIfInBounds_toArray, List.set_cons_zero, List.set_cons_succ, i64_w, i32_w]
            rfl
          refine take_ (i := 11) (N := some 60) (v := ?_) (a' := ?_) #[true, true, true, true, true, true, true, true, true, true, true, true, false, false, false, false, false, false, false, false] rfl rfl (take_ofW HT_.out HW_.out (by kernel_rfl)) (fun _ _ _ h => h) (Or.inl ⟨by rfl, ?_⟩) hHeld ?_ ?_
          rotate_left
          · rintro w' ⟨s0, s1⟩
            go_simp
            with_reducible rfl
          rotate_left
          · simp only [Act.put, List.setIfInBounds_toArray, List.set_cons_zero, List.set_cons_succ, i64_w, i32_w]
            rfl
          refine pure_ (i := 12) (N := some 61) (v := ?_) (a' := ?_) #[true, true, true, true, true, true, true, true, true, true, true, true, true, false, false, false, false, false, false, false] rfl rfl (any_of HT_.out (by kernel_rfl)) (fun _ _ _ h => h) (Or.inl ⟨by rfl, ?_⟩) ?_ ?_
          rotate_left
          · intro w'
            go_simp
            with_reducible rfl
          rotate_left
          · simp only [Act.put, List.setIfInBounds_toArray, List.set_cons_zero, List.set_cons_succ, i64_w, i32_w]
            rfl
          refine pure_ (i := 13) (N := some 62) (v := ?_) (a' := ?_) #[true, true, true, true, true, true, true, true, true, true, true, true, true, true, false, false, false, false, false, false] rfl rfl (any_of HT_.out (by kernel_rfl)) (fun _ _ _ h => h) (Or.inl ⟨by rfl, ?_⟩) ?_ ?_
          rotate_left
          · intro w'
            go_simp
            with_reducible rfl
          rotate_left
          · simp only [Act.put, List.setIfInBounds_toArray, List.set_cons_zero, List.set_cons_succ, i64_w, i32_w]
            rfl
          refine pure_ (i := 14) (N := some 63) (v := ?_) (a' := ?_) #[true, true, true, true, true, true, true, true, true, true, true, true, true, true, true, false, false, false, false, false] rfl rfl (any_of HT_.out (by kernel_rfl)) (fun _ _ _ h => h) (Or.inl ⟨by rfl, ?_⟩) ?_ ?_
          rotate_left
          · intro w'
            go_simp
            with_reducible rfl
          rotate_left
          · simp only [Act.put, List.setIfInBounds_toArray, List.set_cons_zero, List.set_cons_succ, i64_w, i32_w]
            rfl
          refine pure_ (i := 15) (N := some 64) (v := ?_) (a' := ?_) #[true, true, true, true, true, true, true, true, true, true, true, true, true, true, true, true, false, false, false, false] rfl rfl (any_of HT_.out (by kernel_rfl)) (fun _ _ _ h => h) (Or.inl ⟨by rfl, ?_⟩) ?_ ?_
          rotate_left
          · intro w'
            go_simp
            with_reducible rfl
          rotate_left
          · simp only [Act.put, List.setIfInBounds_toArray, List.set_cons_zero, List.set_cons_succ, i64_w, i32_w]
            rfl
          refine pure_ (i := 16) (N := some 65) (v := ?_) (a' := ?_) #[true, true, true, true, true, true, true, true, true, true, true, true, true, true, true, true, true, false, false, false] rfl rfl (any_of HT_.out (by kernel_rfl)) (fun _ _ _ h => h) (Or.inl ⟨by rfl, ?_⟩) ?_ ?_
          rotate_left
          · intro w'
            go_simp
            with_reducible rfl
          rotate_left
          · simp only [Act.put, List.setIfInBounds_toArray, List.set_cons_zero, List.set_cons_succ, i64_w, i32_w]
            rfl
          refine pure_ (i := 17) (N := some 66) (v := ?_) (a' := ?_) #[true, true, true, true, true, true, true, true, true, true, true, true, true, true, true, true, true, true, false, false] rfl rfl (any_of HT_.out (by kernel_rfl)) (fun _ _ _ h => h) (Or.inl ⟨by rfl, ?_⟩) ?_ ?_
          rotate_left
          · intro w'
            go_simp
            with_reducible rfl
          rotate_left
          · simp only [Act.put, List.setIfInBounds_toArray, List.set_cons_zero, List.set_cons_succ, i64_w, i32_w]
            rfl
          refine pure_ (i := 18) (N := some 67) (v := ?_) (a' := ?_) #[true, true, true, true, true, true, true, true, true, true, true, true, true, true, true, true, true, true, true, false] rfl rfl (any_of HT_.out (by kernel_rfl)) (fun _ _ _ h => h) (Or.inl ⟨by rfl, ?_⟩) ?_ ?_
          rotate_left
          · intro w'
            go_simp
            with_reducible rfl
          rotate_left
          · simp only [Act.put, List.setIfInBounds_toArray, List.set_cons_zero, List.set_cons_succ, i64_w, i32_w]
            rfl
          refine last_ (i := 19) (N := none) #[true, true, true, true, true, true, true, true, true, true, true, true, true, true, true, true, true, true, true, true] rfl rfl (one_of HT_.out (by kernel_rfl)) (by decide) (fun K hK => ?_)
          refine skip_ (w1 := ?_) (by rfl) rfl ?_ ?_
          rotate_left
          · go_simp
            rfl
          refine hK.out _ _ ?_
          clear hK K
          refine done_ (done_of HT_.out (by kernel_rfl)) ?_
          have HP := zG.mk (PutSt.stored (w := w) (q := ⟨go19, (ji13 : Int).toNat, none⟩) (x := .int .u8 (Go.bits .or .u8 (rd y (ji13)) (ji18))) (b1 := y.set (ji13 : Int).toNat (Go.bits .or .u8 (rd y (ji13)) (ji18))) HBK.out HGR.out (by simp) (fun e_ => by have h_ := congrArg List.length e_; rw [List.length_set] at h_; have := HPOS.out; simp at h_; rw [h_] at this; simp at this) (by rw [List.length_set]; exact HP24.out) HR.out rfl HK.out)
          have HB2 := zG.mk (zE (v := .int .u8 (Go.bits .or .u8 (rd y (ji13)) (ji18))) (j := (ji13 : Int).toNat) HB.out (Kd.R_base HR.out go19 rfl))
          have HS3 := zG.mk (PutSt.drew (PutSt.drew HP.out.1))
          have HK3 := zG.mk (KBe.drew (KBe.drew HP.out.2))
          have HB3 := zG.mk (zD (zD HB2.out))
          clear HP HB2 HP24 hx19_0 hf19_0 hx154_0 hcz0 hcz1 HBK HR
          generalize ((wc.setCell ⟨go19, (ji13 : Int).toNat, none⟩ (.int .u8 (Go.bits .or .u8 (rd y ji13) ji18))).drew.drew) = w9 at HS3 HK3 HB3 ⊢
          obtain ⟨A9, c9, hbk9, _, _, _⟩ := HS3.out
          have hcz9 : w9.cell? ⟨g, 1, none⟩ = some (.int .i64 p) := (zN hbk9 1).trans rfl
          have hfz9 := zO hbk9 1
          clear hbk9
          have HM := zG.mk (PutSt.moved HS3.out HK3.out (wrap64 (p + ji7)))
          try go_wp2
          go_step3
          refine ⟨rfl, hK_ _ _ ?_⟩
          go_roundg k
          case measure => omega
          case rel => exact ⟨ji8, (wrap64 (p + ji7)), (y.set (ji13 : Int).toNat (Go.bits .or .u8 (rd y (ji13)) (ji18))), (by first | rfl | (simp; done) | (simp only [← hji8] <;> (first | rfl | simp)) | (simp [*]; done)), H', ⟨HM.out.1⟩, ⟨HM.out.2⟩, ⟨zE HB3.out HGE.out⟩⟩
end Go.Proofs.Ytokdjeoecnnckaa.PA
end
section
namespace Go.Proofs.Ytokdjeoecnnckaa.PA
open Go Go.RowKit Go.Proofs.YtokdjeoecnnckaaW.PrintWords Go.Proofs.YtokdjeoecnnckaaW.PrintLast Go.Proofs.YtokdjeoecnnckaaW.PrintMore
attribute [local go_sem] max2_int min2_int max_two min_two max_three min_three max_four min_four Oper.semAt_some
set_option linter.unusedSimpArgs false
set_option linter.unusedVariables false
def KC (w0 W W' : World) : Prop := W.heap.size ≤ W'.heap.size ∧ (∀ i, i < w0.heap.size → W'.heap[i]? = W.heap[i]?) ∧ ∀ (i : Nat) (cs : Array Value) (t : TypeId) (f : Nat × Nat), W.heap[i]? = some (.cells cs t f) → t ≠ 5 → t ≠ 58 → t ≠ 22 → W'.heap[i]? = some (.cells cs t f)
theorem KC.refl (w0 W : World) : KC w0 W W := ⟨Nat.le_refl _, fun _ _ => rfl, fun _ _ _ _ h _ _ _ => h⟩
theorem KC.trans {w0 X Y Z : World} (h : KC w0 X Y) (k : KC w0 Y Z) : KC w0 X Z := ⟨Nat.le_trans h.1 k.1, fun i hi => (k.2.1 i hi).trans (h.2.1 i hi), fun i cs t f hb a b c => k.2.2 i cs t f (h.2.2 i cs t f hb a b c) a b c⟩
theorem KC.of_below {w0 X Y : World} (hs : w0.heap.size ≤ X.heap.size) (h : Below X.heap.size X Y) : KC w0 X Y :=
  ⟨h.size, fun i hi => h.block i (by omega), fun i cs t f hb _ _ _ => (h.block i (blk_lt hb)).trans hb⟩
theorem KC.set {w0 X : World} {B : Nat} {cs : Array Value} {t : TypeId} {f : Nat × Nat} (hb : X.heap[B]? = some (.cells cs t f)) (ht : t = 22) (h0 : w0.heap.size ≤ B) (j : Nat) (v : Value) : KC w0 X (X.setCell ⟨B, j, none⟩ v) :=
  ⟨by simp [World.setCell], fun i hi => Below.heap_setCell X ⟨B, j, none⟩ v i (by simp; omega), fun i cs' t' f' hb' _ _ h22 => (Below.heap_setCell X ⟨B, j, none⟩ v i (by rintro rfl; rw [hb] at hb'; cases hb'; exact h22 ht)).trans hb'⟩
theorem KC.R {w0 W W1 : World} {α : Type} {d : Kd α} {e : Nat} {base : Nat} {ok : Nat → Prop} {v : Value} {xs : List α} (ho : d.R e W base ok v xs) (ht : ∀ q, q ∈ e :: d.E → q ≠ 5 ∧ q ≠ 58 ∧ q ≠ 22) (hk : KC w0 W W1) : d.R e W1 base ok v xs :=
  Kd.R_mono (Kd.R_step (Kd.R_bound ho) (fun k h hlt => by
    obtain ⟨h0, _, _, q, hq, cs, hc⟩ := h
    obtain ⟨a, b, c⟩ := ht q hq
    exact (hk.2.2 k cs q (0, 0) hc a b c).trans hc.symm)) (fun _ h => h.1)
theorem KC.own {w0 W : World} {α : Type} {d : Kd α} {e : Nat} {base : Nat} {ok : Nat → Prop} {A : Option Addr} {n c : Nat} {xs : List α} (ho : d.R e W base ok (.slice A n c) xs) (ht : ∀ q, q ∈ e :: d.E → q ≠ 5 ∧ q ≠ 58 ∧ q ≠ 22) : ∀ W', KC w0 W W' → d.C W' A n xs := fun W' hk => by
  have h2 := Kd.R_reads' (KC.R ho ht hk)
  rw [h2.1]
  exact h2.2.2
theorem KC.came {w0 W : World} {α : Type} {d : Kd α} (hd : Kd.Heap d) {A : Option Addr} {n : Nat} {xs : List α} (h : d.C w0 A n xs) (hb : Below w0.heap.size w0 W) : ∀ W', KC w0 W W' → d.C W' A n xs := fun W' hk =>
  hd.C (fun k hlt => (hk.2.1 k hlt).trans (hb.block k hlt)) h
def Kp15 (w0 : World) (B : Nat) (W W' : World) : Prop := KC w0 W W' ∧ ∀ cs t f, W.heap[B]? = some (.cells cs t f) → W'.heap[B]? = some (.cells cs t f)
theorem Kp15.trans {w0 X Y Z : World} {B : Nat} (h : Kp15 w0 B X Y) (k : Kp15 w0 B Y Z) : Kp15 w0 B X Z := ⟨h.1.trans k.1, fun cs t f e => k.2 cs t f (h.2 cs t f e)⟩
theorem Kp15.book {w0 w : World} {B : Nat} (hs : w0.heap.size ≤ w.heap.size) (W : World) (l : Nat) (o o' : Obj) (hl : w.heap.size ≤ l) (h : W.heap[l]? = some o) (hc : o.isCells = false) (hw : o.isWalk = false) : Kp15 w0 B W (W.putObj l o') := by
  have key : ∀ (k : Nat) (cs : Array Value) (t : TypeId) (f : Nat × Nat), W.heap[k]? = some (.cells cs t f) → (W.putObj l o').heap[k]? = some (.cells cs t f) := fun k cs t f hk =>
    (World.putObj_heap_other (fun e => by rw [e, h] at hk; cases hk; cases hc)).trans hk
  exact ⟨⟨(grownBy_putObj' W l o').size, fun i hi => World.putObj_heap_other (by omega), fun i cs t f hb _ _ _ => key i cs t f hb⟩, fun cs t f e => key B cs t f e⟩
def Turn15 (B : Nat) (X Y : World) : Prop := ∃ (v u : Value), X.heap[B]? = some (.cells #[u] 22 (0, 0)) ∧ Y = X.setCell ⟨B, 0, none⟩ v
abbrev El := S50 × Option Addr × Nat × List Int
def encE (x : El) : Array Value := #[.agg #[.int .i64 x.1.f0, .bool x.1.f1], .slice x.2.1 x.2.2.2.length x.2.2.1]
def SFits : List Int → Nat → Prop
  | [], _ => True
  | n :: cs, r => 0 ≤ n ∧ n ≤ (r : Int) ∧ SFits cs (r - n.toNat)
def rows15 : List Int → Option Addr → Nat → List Int → List S50 → List El
  | n :: cs, A, c, l, p :: ps => (p, A, c, l.take n.toNat) :: rows15 cs (if n.toNat = c then A else A.map (·.add n.toNat)) (if n.toNat = c then 0 else c - n.toNat) (l.drop n.toNat) ps
  | _, _, _, _, _ => []
theorem prefix_mid {α : Type} {dn full rest : List α} {x : α} (h : dn ++ x :: rest = full) : dn ++ [x] <+: full := ⟨rest, by rw [← h]; simp⟩
set_option maxRecDepth 100000 in
set_option maxHeartbeats 8000000 in
theorem sec_each1 (n : Nat) (hn : 2 ≤ n) (k : Nat) (w0 w : World) (B1 B2 B3 : Nat) (A : Option Addr) (c : Nat) (l : List Int) (order : Int) (wd : Bool) (o : Int) (A3 : Option Addr) (c3 : Nat) (ps : List S50) (cuts : List Int)
    (hcut : parts_Cuts.f k (l.length : Int) order o = some cuts) (hfit : SFits cuts l.length) (hlen : cuts.length = ps.length) (hbig : cuts.length < 1000000) (hcap : l.length ≤ c) (hs0 : w0.heap.size ≤ w.heap.size) (hB1 : w0.heap.size ≤ B1)
    (hC3 : ∀ W', KC w0 w W' → Kd.C k50 W' A3 ps.length ps)
    (b1 : w.heap[B1]? = some (.cells #[.slice A l.length c] 22 (0, 0))) (b2 : w.heap[B2]? = some (.cells #[.int .i64 order] 3 (0, 0))) (b3 : w.heap[B3]? = some (.cells #[.bool wd, .int .i64 o, .slice A3 ps.length c3] 25 (0, 0))) :
    TurnGives Fence.wide n Try.prog 43 #[.pointer (some ⟨B1, 0, none⟩), .pointer (some ⟨B2, 0, none⟩), .pointer (some ⟨B3, 0, none⟩)] encE (Kp15 w0 B1) (Turn15 B1) (rows15 cuts A c l ps) w := by
  intro lp J Jx W hW hJ hT hY hJ0
  obtain ⟨full, hfull⟩ : ∃ full, rows15 cuts A c l ps = full := ⟨_, rfl⟩
  rw [hfull] at hY ⊢
  have HF := zG.mk hfull
  clear hfull
  have hu25 := Try.underlying25
  have hu50 := Try.underlying50
  have h1 : 1 ≤ n - 1 := by omega
  have hn1 : 1 ≤ n := by omega
  have HB1 := zG.mk hB1
  have HCUT := zG.mk hcut
  have HLEN := zG.mk hlen
  have HBIG := zG.mk hbig
  have HCAP := zG.mk hcap
  have HFIT := zG.mk hfit
  have HC3 := zG.mk hC3
  have hz1 : W.cell? ⟨B1, 0, none⟩ = some (.slice A l.length c) := (zN (blk_below b1 hW) 0).trans rfl
  have hz2 : W.cell? ⟨B2, 0, none⟩ = some (.int .i64 order) := (zN (blk_below b2 hW) 0).trans rfl
  have hz3 : W.cell? ⟨B3, 1, none⟩ = some (.int .i64 o) := (zN (blk_below b3 hW) 1).trans rfl
  have X1 := zG.mk (blk_below (g := B1) b1 hW)
  have X3 := zG.mk (blk_below (g := B3) b3 hW)
  have hsW : w0.heap.size ≤ W.heap.size := Nat.le_trans hs0 hW.size
  have KW := zG.mk (KC.of_below hs0 hW)
  have HSW := zG.mk hsW
  clear hB1 hcut hlen hbig hcap hfit hC3 b1 b2 b3 hW
  refine callsIn_of_wp Try.func43 rfl trivial ?_ rfl
  simp only [Try.ntmps43, List.size_toArray, List.length_cons, List.length_nil, Nat.reduceAdd, Nat.reduceSub, Array.replicate_succ, Array.replicate_zero, List.push_toArray, List.append_toArray, List.nil_append, List.cons_append]
  gi_wp2_with (refine ⟨trivial, ?_⟩; gi_at_call 28; refine (callsIn_wide.2 (parts_Cuts.calls k _ _ _ cuts _ HCUT.out)).mono ?_; rintro e w1 ⟨vC, rfl, hR, hb1⟩; have HRC := zG.mk hR; have HBW := zG.mk hb1; obtain ⟨Ac, cc, hvC, hcc, hCc⟩ := Kd.R_reads hR; subst hvC; clear hR hb1 hcc hCc)
  have hJ1 : J [] w1 := hJ [] _ _ none hJ0 (grown_of_below HBW.out none) (fun r e => by cases e)
  have hX1 := zG.mk (blk_below (g := B1) X1.out HBW.out)
  have hX3 := zG.mk (blk_below (g := B3) X3.out HBW.out)
  have K1 := zG.mk (KW.out.trans (KC.of_below HSW.out HBW.out))
  have KR := zG.mk (KC.refl w0 w1)
  clear hz1 hz2 hz3 X1 X3 hJ0
  gi_loopw [14] (fun v wr => ∃ (i : Nat) (A' : Option Addr) (c' : Nat) (l' : List Int) (dn : List El), i ≤ cuts.length ∧ v = .int .i64 (i : Int) ∧ J dn wr ∧ zG (dn ++ rows15 (cuts.drop i) A' c' l' (ps.drop i) = full) ∧ zG (l'.length ≤ c') ∧ zG (SFits (cuts.drop i) l'.length) ∧ zG (KC w0 w1 wr) ∧ zG (wr.heap[B1]? = some (.cells #[.slice A' l'.length c'] 22 (0, 0))))
    (fun v _ => cuts.length - (intOf v).toNat)
  case atStart => exact ⟨0, A, c, l, [], Nat.zero_le _, rfl, hJ1, ⟨by simpa using HF.out⟩, HCAP, HFIT, KR, hX1⟩
  case round =>
    clear hJ1 hX1 KR
    obtain ⟨i, A', c', l', dn, hi, rfl, hJd, HD, HCAP', HFIT', KR, X1⟩ := hrel
    by_cases hlt : i < cuts.length
    · have hd : decide ((i : Int) < (cuts.length : Int)) = true := decide_eq_true (by omega)
      obtain ⟨adc, hA, hcell⟩ := Kd.at_int (Kd.R_reads' (KC.R HRC.out (by decide) KR.out)).2.2 (i : Int) (by omega) (by omega)
      subst hA
      have hrd : rd cuts (i : Int) = cuts.getD i 0 := by unfold rd; simp
      rw [hrd] at hcell
      have hdr : cuts.drop i = cuts.getD i 0 :: cuts.drop (i + 1) := by rw [List.drop_eq_getElem_cons hlt, List.getD_eq_getElem?_getD, List.getElem?_eq_getElem hlt]; rfl
      have hip : i < ps.length := by have := HLEN.out; omega
      have hdp : ps.drop i = ps.getD i z50 :: ps.drop (i + 1) := by rw [List.drop_eq_getElem_cons hip, List.getD_eq_getElem?_getD, List.getElem?_eq_getElem hip]; rfl
      have hft := HFIT'.out
      have hdn := HD.out
      rw [hdr] at hft hdn
      rw [hdp] at hdn
      obtain ⟨nI, hn_⟩ : ∃ nI, cuts.getD i 0 = nI := ⟨_, rfl⟩
      rw [hn_] at hft hdn hcell
      obtain ⟨hn0, hn1', hft⟩ := hft
      obtain ⟨m, rfl⟩ : ∃ m : Nat, nI = (m : Int) := ⟨nI.toNat, by omega⟩
      simp only [Int.toNat_natCast, rows15] at hft hdn hcell
      have p1 : 0 ≤ (i : Int) := by omega
      have q1 : (i : Int) < (ps.length : Int) := by omega
      obtain ⟨ad3, hA3, hp0, hp1⟩ := at_T50 (HC3.out _ (K1.out.trans KR.out)) (i : Int) p1 q1
      subst hA3
      have hrp : rd_T50 ps (i : Int) = ps.getD i z50 := by unfold rd_T50; rw [Int.toNat_natCast]
      rw [hrp] at hp0 hp1
      obtain ⟨q, hq_⟩ : ∃ q, ps.getD i z50 = q := ⟨_, rfl⟩
      rw [hq_] at hp0 hp1 hdn
      simp only [Int.toNat_natCast] at hp0 hp1 hcell
      have hz1 : wr.cell? ⟨B1, 0, none⟩ = some (.slice A' l'.length c') := (zN X1.out 0).trans rfl
      have hX3' := KR.out.2.2 B3 _ _ _ hX3.out (by decide) (by decide) (by decide)
      have hz3 : wr.cell? ⟨B3, 2, none⟩ = some (.slice (some ad3) ps.length c3) := (zN hX3' 2).trans rfl
      have hml : m ≤ l'.length := by omega
      have hmc : m ≤ c' := by have := HCAP'.out; omega
      have hk1 : decide ((m : Int) ≤ (c' : Int)) = true := decide_eq_true (by omega)
      have hk2 : decide ((m : Int) ≤ (l'.length : Int)) = true := decide_eq_true (by omega)
      have hkq : decide ((i : Int) < (ps.length : Int)) = true := decide_eq_true q1
      replace q1 := eq_true q1
      have q2 := eq_true (show (i : Int) < (cuts.length : Int) by omega)
      replace p1 := eq_true p1
      have hlt' : (l'.take m).length = m := by rw [List.length_take]; omega
      obtain ⟨fn, tmps, assign, body, hy, hR⟩ := hY dn (q, A', c', l'.take m) wr.drew (hJ dn _ _ none hJd (grown_of_below (zD (Below.refl wr.heap.size wr)) none) (fun r e => by cases e)) (prefix_mid hdn)
      simp only [encE, hlt'] at hy
      have HDN := zG.mk hdn
      have HFT := zG.mk hft
      have HM := zG.mk (And.intro hml hmc)
      clear hdn hft hdr hdp hrd hn_ hn0 hn1' hX3' hrp hq_
      gi_wp2
      refine wpIn_region_any (by kernel_rfl) ?_
      change wpAnyIn _ _ _ _ _ _ _ _ _ (World.drew _)
      refine wpAnyIn_take (i := 0) (v := ?_) rfl rfl (by kernel_rfl) (by kernel_rfl) (by kernel_rfl) (fun _ _ _ h => h) ⟨Or.inl ⟨by rfl, ?_⟩, fun _ => rfl⟩ ?_
      rotate_left
      · intro w'; go_simp; first | done | (with_reducible rfl)
      refine wpAnyIn_take (i := 1) (v := ?_) rfl rfl (by kernel_rfl) (by kernel_rfl) (by kernel_rfl) (fun _ _ _ h => h) ⟨Or.inl ⟨by rfl, ?_⟩, fun _ => rfl⟩ ?_
      rotate_left
      · intro w'; go_simp; first | done | (with_reducible rfl)
      refine wpAnyIn_take (i := 3) (v := ?_) rfl rfl (by kernel_rfl) (by kernel_rfl) (by kernel_rfl) (fun _ _ _ h => h) ⟨Or.inl ⟨by rfl, ?_⟩, fun _ => rfl⟩ ?_
      rotate_left
      · intro w'; go_simp; first | done | (with_reducible rfl)
      refine wpAnyIn_take (i := 7) (v := ?_) rfl rfl (by kernel_rfl) (by kernel_rfl) (by kernel_rfl) (fun _ _ _ h => h) ⟨Or.inl ⟨by rfl, ?_⟩, fun _ => rfl⟩ ?_
      rotate_left
      · intro w'; go_simp; first | done | (with_reducible rfl)
      refine wpAnyIn_ready (rs := [2, 6]) (by kernel_rfl) (by simp) ?_
      refine AllReadyIn.cons rfl (fun K hK => ?_) ?_
      · go_simp
        refine hK _ _ ?_
        clear hK K
        refine wpAnyIn_take (i := 4) (v := ?_) rfl rfl (by kernel_rfl) (by kernel_rfl) (by kernel_rfl) (fun _ _ _ h => h) ⟨Or.inl ⟨by rfl, ?_⟩, fun _ => rfl⟩ ?_
        rotate_left
        · intro w'; go_simp; first | done | (with_reducible rfl)
        refine wpAnyIn_ready (rs := [5, 6]) (by kernel_rfl) (by simp) ?_
        refine AllReadyIn.cons rfl (fun K hK => ?_) ?_
        · go_simp
          refine hK _ _ ?_
          clear hK K
          refine wpAnyIn_ready (rs := [6]) (by kernel_rfl) (by simp) ?_
          refine AllReadyIn.cons rfl (fun K hK => ?_) AllReadyIn.nil
          go_simp
          refine hK _ _ ?_
          clear hK K
          refine wpAnyIn_take (i := 8) (v := ?_) rfl rfl (by kernel_rfl) (by kernel_rfl) (by kernel_rfl) (fun _ _ _ h => h) ⟨Or.inl ⟨by rfl, ?_⟩, fun _ => rfl⟩ ?_
          rotate_left
          · intro w'; go_simp; first | done | (with_reducible rfl)
          refine wpAnyIn_ready (rs := [9]) (by kernel_rfl) (by simp) ?_
          refine AllReadyIn.cons rfl (fun K hK => ?_) AllReadyIn.nil
          go_simp
          gi_wp2
          refine hR.mono ?_
          rintro e W3 (⟨rfl, hJ3, hk3⟩ | ⟨rfl, hJx3⟩)
          · dsimp only
            refine hK _ _ ?_
            clear hK K
            refine wpAnyIn_take (i := 10) (v := ?_) rfl rfl (by kernel_rfl) (by kernel_rfl) (by kernel_rfl) (fun _ _ _ h => h) ⟨Or.inl ⟨by rfl, ?_⟩, fun _ => rfl⟩ ?_
            rotate_left
            · intro w'; go_simp; first | done | (with_reducible rfl)
            refine wpAnyIn_done (by kernel_rfl) ?_ _
            have hX1' : W3.heap[B1]? = some (.cells #[.slice A' l'.length c'] 22 (0, 0)) := hk3.2 _ _ _ X1.out
            have KR3 := zG.mk (KR.out.trans hk3.1)
            clear hz1 hz3 hp0 hp1 hcell
            have hz1 : W3.cell? ⟨B1, 0, none⟩ = some (.slice A' l'.length c') := (zN hX1' 0).trans rfl
            have hf1 := zO hX1' 0
            have HX1' := zG.mk hX1'
            clear hX1' hk3
            obtain ⟨hml', hmc'⟩ := HM.out
            have hlow : (0 ≤ (m : Int)) = True := eq_true (by omega)
            have hbig := HBIG.out
            have hfit := HFT.out
            have hdn := HDN.out
            have hcap := HCAP'.out
            by_cases hmeq : m = c'
            · rw [if_pos hmeq, if_pos hmeq] at hdn
              subst hmeq
              have hz0 : l'.length - m = 0 := by omega
              have hJ4 := hT _ _ _ hJ3 ⟨.slice A' 0 0, _, HX1'.out, rfl⟩
              have hK4 := KR3.out.trans (KC.set HX1'.out rfl HB1.out 0 (.slice A' 0 0))
              have hX4 := blk_set HX1'.out 0 (.slice A' 0 0)
              have HJ4 := zG.mk (And.intro hJ4 (And.intro hK4 (And.intro hX4 (And.intro hfit hdn))))
              clear hJ4 hK4 hX4 hfit hdn
              gi_wp2
              go_roundw
              case rel =>
                obtain ⟨hJ4, hK4, hX4, hfit, hdn⟩ := HJ4.out
                exact ⟨i + 1, A', 0, l'.drop m, dn ++ [(q, A', m, l'.take m)], hlt, by simp, hJ4, ⟨by rw [← hdn, List.append_assoc, List.singleton_append]⟩, ⟨by rw [List.length_drop]; omega⟩, ⟨by rw [List.length_drop]; exact hfit⟩, ⟨hK4⟩, ⟨by rw [List.length_drop, hz0]; exact hX4⟩⟩
              case measure => simp [intOf]; omega
            · have hJ4 := hT _ _ _ hJ3 ⟨.slice (A'.map (·.add m)) (l'.length - m) (c' - m), _, HX1'.out, rfl⟩
              have hK4 := KR3.out.trans (KC.set HX1'.out rfl HB1.out 0 (.slice (A'.map (·.add m)) (l'.length - m) (c' - m)))
              have hX4 := blk_set HX1'.out 0 (.slice (A'.map (·.add m)) (l'.length - m) (c' - m))
              rw [if_neg hmeq, if_neg hmeq] at hdn
              have HJ4 := zG.mk (And.intro hJ4 (And.intro hK4 (And.intro hX4 (And.intro hfit hdn))))
              clear hJ4 hK4 hX4 hfit hdn
              gi_wp2
              go_roundw
              case rel =>
                obtain ⟨hJ4, hK4, hX4, hfit, hdn⟩ := HJ4.out
                exact ⟨i + 1, A'.map (·.add m), c' - m, l'.drop m, dn ++ [(q, A', c', l'.take m)], hlt, by simp, hJ4, ⟨by rw [← hdn, List.append_assoc, List.singleton_append]⟩, ⟨by rw [List.length_drop]; omega⟩, ⟨by rw [List.length_drop]; exact hfit⟩, ⟨hK4⟩, ⟨by rw [List.length_drop]; exact hX4⟩⟩
              case measure => simp [intOf]; omega
          · dsimp only
            refine hK _ _ ?_
            clear hK K
            refine wpAnyIn_take (i := 10) (v := ?_) rfl rfl (by kernel_rfl) (by kernel_rfl) (by kernel_rfl) (fun _ _ _ h => h) ⟨Or.inl ⟨by rfl, ?_⟩, fun _ => rfl⟩ ?_
            rotate_left
            · intro w'; go_simp; first | done | (with_reducible rfl)
            refine wpAnyIn_done (by kernel_rfl) ?_ _
            gi_wp2
            refine bodyPost_ret (results_none rfl _ _ _) rfl ?_
            exact ⟨⟨_, rfl⟩, .inr ⟨_, prefix_mid HDN.out, hJx3⟩⟩
        · refine AllReadyIn.cons rfl (fun K hK => ?_) ?_
          · go_simp
            refine hK _ _ ?_
            clear hK K
            refine wpAnyIn_take (i := 8) (v := ?_) rfl rfl (by kernel_rfl) (by kernel_rfl) (by kernel_rfl) (fun _ _ _ h => h) ⟨Or.inl ⟨by rfl, ?_⟩, fun _ => rfl⟩ ?_
            rotate_left
            · intro w'; go_simp; first | done | (with_reducible rfl)
            refine wpAnyIn_ready (rs := [5]) (by kernel_rfl) (by simp) ?_
            refine AllReadyIn.cons rfl (fun K hK => ?_) AllReadyIn.nil
            go_simp
            refine hK _ _ ?_
            clear hK K
            refine wpAnyIn_ready (rs := [9]) (by kernel_rfl) (by simp) ?_
            refine AllReadyIn.cons rfl (fun K hK => ?_) AllReadyIn.nil
            go_simp
            gi_wp2
            refine hR.mono ?_
            rintro e W3 (⟨rfl, hJ3, hk3⟩ | ⟨rfl, hJx3⟩)
            · dsimp only
              refine hK _ _ ?_
              clear hK K
              refine wpAnyIn_take (i := 10) (v := ?_) rfl rfl (by kernel_rfl) (by kernel_rfl) (by kernel_rfl) (fun _ _ _ h => h) ⟨Or.inl ⟨by rfl, ?_⟩, fun _ => rfl⟩ ?_
              rotate_left
              · intro w'; go_simp; first | done | (with_reducible rfl)
              refine wpAnyIn_done (by kernel_rfl) ?_ _
              have hX1' : W3.heap[B1]? = some (.cells #[.slice A' l'.length c'] 22 (0, 0)) := hk3.2 _ _ _ X1.out
              have KR3 := zG.mk (KR.out.trans hk3.1)
              clear hz1 hz3 hp0 hp1 hcell
              have hz1 : W3.cell? ⟨B1, 0, none⟩ = some (.slice A' l'.length c') := (zN hX1' 0).trans rfl
              have hf1 := zO hX1' 0
              have HX1' := zG.mk hX1'
              clear hX1' hk3
              obtain ⟨hml', hmc'⟩ := HM.out
              have hlow : (0 ≤ (m : Int)) = True := eq_true (by omega)
              have hbig := HBIG.out
              have hfit := HFT.out
              have hdn := HDN.out
              have hcap := HCAP'.out
              by_cases hmeq : m = c'
              · rw [if_pos hmeq, if_pos hmeq] at hdn
                subst hmeq
                have hz0 : l'.length - m = 0 := by omega
                have hJ4 := hT _ _ _ hJ3 ⟨.slice A' 0 0, _, HX1'.out, rfl⟩
                have hK4 := KR3.out.trans (KC.set HX1'.out rfl HB1.out 0 (.slice A' 0 0))
                have hX4 := blk_set HX1'.out 0 (.slice A' 0 0)
                have HJ4 := zG.mk (And.intro hJ4 (And.intro hK4 (And.intro hX4 (And.intro hfit hdn))))
                clear hJ4 hK4 hX4 hfit hdn
                gi_wp2
                go_roundw
                case rel =>
                  obtain ⟨hJ4, hK4, hX4, hfit, hdn⟩ := HJ4.out
                  exact ⟨i + 1, A', 0, l'.drop m, dn ++ [(q, A', m, l'.take m)], hlt, by simp, hJ4, ⟨by rw [← hdn, List.append_assoc, List.singleton_append]⟩, ⟨by rw [List.length_drop]; omega⟩, ⟨by rw [List.length_drop]; exact hfit⟩, ⟨hK4⟩, ⟨by rw [List.length_drop, hz0]; exact hX4⟩⟩
                case measure => simp [intOf]; omega
              · have hJ4 := hT _ _ _ hJ3 ⟨.slice (A'.map (·.add m)) (l'.length - m) (c' - m), _, HX1'.out, rfl⟩
                have hK4 := KR3.out.trans (KC.set HX1'.out rfl HB1.out 0 (.slice (A'.map (·.add m)) (l'.length - m) (c' - m)))
                have hX4 := blk_set HX1'.out 0 (.slice (A'.map (·.add m)) (l'.length - m) (c' - m))
                rw [if_neg hmeq, if_neg hmeq] at hdn
                have HJ4 := zG.mk (And.intro hJ4 (And.intro hK4 (And.intro hX4 (And.intro hfit hdn))))
                clear hJ4 hK4 hX4 hfit hdn
                gi_wp2
                go_roundw
                case rel =>
                  obtain ⟨hJ4, hK4, hX4, hfit, hdn⟩ := HJ4.out
                  exact ⟨i + 1, A'.map (·.add m), c' - m, l'.drop m, dn ++ [(q, A', c', l'.take m)], hlt, by simp, hJ4, ⟨by rw [← hdn, List.append_assoc, List.singleton_append]⟩, ⟨by rw [List.length_drop]; omega⟩, ⟨by rw [List.length_drop]; exact hfit⟩, ⟨hK4⟩, ⟨by rw [List.length_drop]; exact hX4⟩⟩
                case measure => simp [intOf]; omega
            · dsimp only
              refine hK _ _ ?_
              clear hK K
              refine wpAnyIn_take (i := 10) (v := ?_) rfl rfl (by kernel_rfl) (by kernel_rfl) (by kernel_rfl) (fun _ _ _ h => h) ⟨Or.inl ⟨by rfl, ?_⟩, fun _ => rfl⟩ ?_
              rotate_left
              · intro w'; go_simp; first | done | (with_reducible rfl)
              refine wpAnyIn_done (by kernel_rfl) ?_ _
              gi_wp2
              refine bodyPost_ret (results_none rfl _ _ _) rfl ?_
              exact ⟨⟨_, rfl⟩, .inr ⟨_, prefix_mid HDN.out, hJx3⟩⟩
          · exact AllReadyIn.nil
      · refine AllReadyIn.cons rfl (fun K hK => ?_) ?_
        · go_simp
          refine hK _ _ ?_
          clear hK K
          refine wpAnyIn_take (i := 8) (v := ?_) rfl rfl (by kernel_rfl) (by kernel_rfl) (by kernel_rfl) (fun _ _ _ h => h) ⟨Or.inl ⟨by rfl, ?_⟩, fun _ => rfl⟩ ?_
          rotate_left
          · intro w'; go_simp; first | done | (with_reducible rfl)
          refine wpAnyIn_ready (rs := [2]) (by kernel_rfl) (by simp) ?_
          refine AllReadyIn.cons rfl (fun K hK => ?_) AllReadyIn.nil
          go_simp
          refine hK _ _ ?_
          clear hK K
          refine wpAnyIn_take (i := 4) (v := ?_) rfl rfl (by kernel_rfl) (by kernel_rfl) (by kernel_rfl) (fun _ _ _ h => h) ⟨Or.inl ⟨by rfl, ?_⟩, fun _ => rfl⟩ ?_
          rotate_left
          · intro w'; go_simp; first | done | (with_reducible rfl)
          refine wpAnyIn_ready (rs := [5]) (by kernel_rfl) (by simp) ?_
          refine AllReadyIn.cons rfl (fun K hK => ?_) AllReadyIn.nil
          go_simp
          refine hK _ _ ?_
          clear hK K
          refine wpAnyIn_ready (rs := [9]) (by kernel_rfl) (by simp) ?_
          refine AllReadyIn.cons rfl (fun K hK => ?_) AllReadyIn.nil
          go_simp
          gi_wp2
          refine hR.mono ?_
          rintro e W3 (⟨rfl, hJ3, hk3⟩ | ⟨rfl, hJx3⟩)
          · dsimp only
            refine hK _ _ ?_
            clear hK K
            refine wpAnyIn_take (i := 10) (v := ?_) rfl rfl (by kernel_rfl) (by kernel_rfl) (by kernel_rfl) (fun _ _ _ h => h) ⟨Or.inl ⟨by rfl, ?_⟩, fun _ => rfl⟩ ?_
            rotate_left
            · intro w'; go_simp; first | done | (with_reducible rfl)
            refine wpAnyIn_done (by kernel_rfl) ?_ _
            have hX1' : W3.heap[B1]? = some (.cells #[.slice A' l'.length c'] 22 (0, 0)) := hk3.2 _ _ _ X1.out
            have KR3 := zG.mk (KR.out.trans hk3.1)
            clear hz1 hz3 hp0 hp1 hcell
            have hz1 : W3.cell? ⟨B1, 0, none⟩ = some (.slice A' l'.length c') := (zN hX1' 0).trans rfl
            have hf1 := zO hX1' 0
            have HX1' := zG.mk hX1'
            clear hX1' hk3
            obtain ⟨hml', hmc'⟩ := HM.out
            have hlow : (0 ≤ (m : Int)) = True := eq_true (by omega)
            have hbig := HBIG.out
            have hfit := HFT.out
            have hdn := HDN.out
            have hcap := HCAP'.out
            by_cases hmeq : m = c'
            · rw [if_pos hmeq, if_pos hmeq] at hdn
              subst hmeq
              have hz0 : l'.length - m = 0 := by omega
              have hJ4 := hT _ _ _ hJ3 ⟨.slice A' 0 0, _, HX1'.out, rfl⟩
              have hK4 := KR3.out.trans (KC.set HX1'.out rfl HB1.out 0 (.slice A' 0 0))
              have hX4 := blk_set HX1'.out 0 (.slice A' 0 0)
              have HJ4 := zG.mk (And.intro hJ4 (And.intro hK4 (And.intro hX4 (And.intro hfit hdn))))
              clear hJ4 hK4 hX4 hfit hdn
              gi_wp2
              go_roundw
              case rel =>
                obtain ⟨hJ4, hK4, hX4, hfit, hdn⟩ := HJ4.out
                exact ⟨i + 1, A', 0, l'.drop m, dn ++ [(q, A', m, l'.take m)], hlt, by simp, hJ4, ⟨by rw [← hdn, List.append_assoc, List.singleton_append]⟩, ⟨by rw [List.length_drop]; omega⟩, ⟨by rw [List.length_drop]; exact hfit⟩, ⟨hK4⟩, ⟨by rw [List.length_drop, hz0]; exact hX4⟩⟩
              case measure => simp [intOf]; omega
            · have hJ4 := hT _ _ _ hJ3 ⟨.slice (A'.map (·.add m)) (l'.length - m) (c' - m), _, HX1'.out, rfl⟩
              have hK4 := KR3.out.trans (KC.set HX1'.out rfl HB1.out 0 (.slice (A'.map (·.add m)) (l'.length - m) (c' - m)))
              have hX4 := blk_set HX1'.out 0 (.slice (A'.map (·.add m)) (l'.length - m) (c' - m))
              rw [if_neg hmeq, if_neg hmeq] at hdn
              have HJ4 := zG.mk (And.intro hJ4 (And.intro hK4 (And.intro hX4 (And.intro hfit hdn))))
              clear hJ4 hK4 hX4 hfit hdn
              gi_wp2
              go_roundw
              case rel =>
                obtain ⟨hJ4, hK4, hX4, hfit, hdn⟩ := HJ4.out
                exact ⟨i + 1, A'.map (·.add m), c' - m, l'.drop m, dn ++ [(q, A', c', l'.take m)], hlt, by simp, hJ4, ⟨by rw [← hdn, List.append_assoc, List.singleton_append]⟩, ⟨by rw [List.length_drop]; omega⟩, ⟨by rw [List.length_drop]; exact hfit⟩, ⟨hK4⟩, ⟨by rw [List.length_drop]; exact hX4⟩⟩
              case measure => simp [intOf]; omega
          · dsimp only
            refine hK _ _ ?_
            clear hK K
            refine wpAnyIn_take (i := 10) (v := ?_) rfl rfl (by kernel_rfl) (by kernel_rfl) (by kernel_rfl) (fun _ _ _ h => h) ⟨Or.inl ⟨by rfl, ?_⟩, fun _ => rfl⟩ ?_
            rotate_left
            · intro w'; go_simp; first | done | (with_reducible rfl)
            refine wpAnyIn_done (by kernel_rfl) ?_ _
            gi_wp2
            refine bodyPost_ret (results_none rfl _ _ _) rfl ?_
            exact ⟨⟨_, rfl⟩, .inr ⟨_, prefix_mid HDN.out, hJx3⟩⟩
        · exact AllReadyIn.nil
    · obtain rfl : i = cuts.length := by omega
      have hd : decide (((cuts.length : Nat) : Int) < (cuts.length : Int)) = false := decide_eq_false (by omega)
      have hdn := HD.out
      have hnil : ∀ (A : Option Addr) (c : Nat) (l : List Int) (ps : List S50), rows15 [] A c l ps = [] := fun _ _ _ _ => by simp [rows15]
      rw [List.drop_length, hnil, List.append_nil] at hdn
      subst hdn
      gi_wp2
      go_end0
      exact ⟨⟨_, rfl⟩, .inl hJd⟩
set_option maxHeartbeats 1000000 in
theorem sec_each_in (n : Nat) (A : Option Addr) (len c : Nat) (order : Int) (wd : Bool) (o : Int) (A3 : Option Addr) (n3 c3 : Nat) (w : World) :
    CallsIn Fence.wide n Try.prog 23 #[.slice A len c, .int .i64 order, .agg #[.bool wd, .int .i64 o, .slice A3 n3 c3]] w fun e w' => e = .returned (.func (.func 43) #[] #[.pointer (some ⟨w.heap.size, 0, none⟩), .pointer (some ⟨w.heap.size + 1, 0, none⟩), .pointer (some ⟨w.heap.size + 2, 0, none⟩)]) ∧
      w' = ((w.alloc (.cells #[.slice A len c] 22)).alloc (.cells #[.int .i64 order] 3)).alloc (.cells #[.bool wd, .int .i64 o, .slice A3 n3 c3] 25) := by
  have hu25 := Try.underlying25
  refine callsIn_of_wp Try.func23 rfl trivial ?_ rfl
  simp only [Try.ntmps23, List.size_toArray, List.length_cons, List.length_nil, Nat.reduceAdd, Nat.reduceSub, Array.replicate_succ, Array.replicate_zero, List.push_toArray, List.append_toArray, List.nil_append, List.cons_append]
  gi_wp2
  go_ret
  exact ⟨rfl, rfl⟩
end Go.Proofs.Ytokdjeoecnnckaa.PA
end
section
namespace Go.Proofs.Ytokdjeoecnnckaa.PA
open Go.RowKit Go.Proofs.YtokdjeoecnnckaaW.PrintWords Go.Proofs.YtokdjeoecnnckaaW.PrintLast Go.Proofs.YtokdjeoecnnckaaW.PrintMore
attribute [local go_sem] max2_int min2_int max_two min_two max_three min_three max_four min_four   -- for this text's walks alone
set_option linter.unusedVariables false
set_option linter.unusedSimpArgs false

def rice_Size.f (a0 : Int) (a1 : Int) : Option (Int) := (rice_Near.f a0).bind fun t113 => (if t113 = true then ((rice_held.f a1).bind fun t114 => ((rice_Fold.f a0).bind fun t115 => (if 0 ≤ t114 then (some (wrap64 ((wrap64 ((wrap64 (shr .u64 t115 t114)) + 1)) + t114))) else (none)))) else (some (-1)))
set_option maxHeartbeats 8000000 in
set_option maxRecDepth 100000 in
theorem rice_Size.calls (a0 : Int) (a1 : Int) (r : Int) (w : World) (h : rice_Size.f a0 a1 = some r) :
    Calls Try.prog 58 #[.int .i64 a0, .int .i64 a1] w fun e w' => e = .returned (.int .i64 r) ∧ Below w.heap.size w w' := by
  have HB := zG.mk (Below.refl w.heap.size w)
  have H : ((rice_Near.f a0).bind fun t113 => (if t113 = true then ((rice_held.f a1).bind fun t114 => ((rice_Fold.f a0).bind fun t115 => (if 0 ≤ t114 then (some (wrap64 ((wrap64 ((wrap64 (shr .u64 t115 t114)) + 1)) + t114))) else (none)))) else (some (-1)))) = some r := h
  clear h
  replace H := Option.bind_eq_some_iff.mp H
  obtain ⟨t113, A30, H⟩ := H
  replace H : (if t113 = true then ((rice_held.f a1).bind fun t114 => ((rice_Fold.f a0).bind fun t115 => (if 0 ≤ t114 then (some (wrap64 ((wrap64 ((wrap64 (shr .u64 t115 t114)) + 1)) + t114))) else (none)))) else (some (-1))) = some r := H
  have A3 := zG.mk A30
  clear A30
  by_cases c4 : t113 = true
  focus
    subst c4
    have H1 : ((rice_held.f a1).bind fun t114 => ((rice_Fold.f a0).bind fun t115 => (if 0 ≤ t114 then (some (wrap64 ((wrap64 ((wrap64 (shr .u64 t115 t114)) + 1)) + t114))) else (none)))) = some r := by rw [if_pos rfl] at H; exact H
    clear H
    have H := H1
    clear H1
    replace H := Option.bind_eq_some_iff.mp H
    obtain ⟨t114, A50, H⟩ := H
    replace H : ((rice_Fold.f a0).bind fun t115 => (if 0 ≤ t114 then (some (wrap64 ((wrap64 ((wrap64 (shr .u64 t115 t114)) + 1)) + t114))) else (none))) = some r := H
    have A5 := zG.mk A50
    clear A50
    replace H := Option.bind_eq_some_iff.mp H
    obtain ⟨t115, A60, H⟩ := H
    replace H : (if 0 ≤ t114 then (some (wrap64 ((wrap64 ((wrap64 (shr .u64 t115 t114)) + 1)) + t114))) else (none)) = some r := H
    have A6 := zG.mk A60
    clear A60
    by_cases c7 : 0 ≤ t114
    focus
      rw [if_pos c7] at H
      have c7b0 := eq_true c7
      have c7b1 : decide (0 ≤ t114) = true := decide_eq_true c7
      clear c7
      obtain ⟨ji8, hji8⟩ : ∃ j_ : Int, (shr .u64 t115 t114) = j_ := ⟨_, rfl⟩
      replace H : (some (wrap64 ((wrap64 ((wrap64 (ji8)) + 1)) + t114))) = some r := by first | (rw [hji8] at H; exact H) | (simp only [hji8] at H ⊢; exact H)
      (try rw [hji8] at A3)
      (try rw [hji8] at A5)
      (try rw [hji8] at A6)
      have hji8_ : (t115 / 2 ^ min t114.toNat 64) = ji8 := hji8
      have hji8z : t114 ≤ 64 → (t115 / 2 ^ t114.toNat) = ji8 := shr_small hji8
      obtain rfl := Option.some.inj H
      go_enter Try.func58, Try.ntmps58
    rotate_left 1
    focus
      rw [if_neg c7] at H
      exact absurd H (by simp)
  rotate_left 1
  focus
    replace c4 := Bool.eq_false_iff.mpr c4
    subst c4
    have H1 : (some (-1)) = some r := by rw [if_neg (show ¬ (false = true) by decide)] at H; exact H
    clear H
    have H := H1
    clear H1
    obtain rfl := Option.some.inj H
    go_enter Try.func58, Try.ntmps58
  all_goals
    go_wp2_with (first | ((with_reducible refine gate_callee (f := 47) rfl ?_); refine goesL_ (some 6) rfl rfl Try.func47 (by kernel_rfl) rfl #[.int .i64 a0] rfl (by (try simp only [List.map_toArray, List.map_cons, List.map_nil]); first | done | rfl | (simp only [List.length_drop, List.length_take]; rfl)) ?_; (with_reducible refine (rice_Near.calls a0 true _ A3.out).mono ?_); rintro e w' ⟨rfl, ⟨nd, rfl⟩⟩; refine ⟨_, rfl, ?_⟩) | ((with_reducible refine gate_callee (f := 46) rfl ?_); refine goesL_ (some 9) rfl rfl Try.func46 (by kernel_rfl) rfl #[.int .i64 a1] rfl (by (try simp only [List.map_toArray, List.map_cons, List.map_nil]); first | done | rfl | (simp only [List.length_drop, List.length_take]; rfl)) ?_; (with_reducible refine (rice_held.calls a1 t114 _ A5.out).mono ?_); rintro e w9 ⟨rfl, hb⟩; refine ⟨_, rfl, ?_⟩; have n0_ := zG.mk (below_step (by repeat (first | (with_reducible first | exact HB.out | apply zF | apply zC | apply zD) | exact HB.out)) hb); clear HB; have HB := n0_; clear n0_; (try clear hb); (try clear hb2); (try clear hk); (try clear hi)) | ((with_reducible refine gate_callee (f := 44) rfl ?_); refine goesL_ (some 11) rfl rfl Try.func44 (by kernel_rfl) rfl #[.int .i64 a0] rfl (by (try simp only [List.map_toArray, List.map_cons, List.map_nil]); first | done | rfl | (simp only [List.length_drop, List.length_take]; rfl)) ?_; (with_reducible refine (rice_Fold.calls a0 t115 _ A6.out).mono ?_); rintro e w' ⟨rfl, ⟨nd, rfl⟩⟩; refine ⟨_, rfl, ?_⟩) | ((with_reducible refine gate_callee (f := 47) rfl ?_); refine goesL_ (some 6) rfl rfl Try.func47 (by kernel_rfl) rfl #[.int .i64 a0] rfl (by (try simp only [List.map_toArray, List.map_cons, List.map_nil]); first | done | rfl | (simp only [List.length_drop, List.length_take]; rfl)) ?_; (with_reducible refine (rice_Near.calls a0 false _ A3.out).mono ?_); rintro e w' ⟨rfl, ⟨nd, rfl⟩⟩; refine ⟨_, rfl, ?_⟩))
    go_ret
    first | (exact ⟨by first | rfl | (simp [errW_none, errW_some] <;> rfl) | (simp only [← hji8]; first | rfl | (simp [errW_none, errW_some] <;> rfl)) | (simp [*, errW_none, errW_some] <;> rfl), by repeat (first | (with_reducible first | exact HB.out | apply zF | apply zC | apply zD) | exact HB.out)⟩) | (exact ⟨by first | rfl | (simp [errW_none, errW_some] <;> rfl) | (simp [*, errW_none, errW_some] <;> rfl), by repeat (first | (with_reducible first | exact HB.out | apply zF | apply zC | apply zD) | exact HB.out)⟩)

def cost_Bits.l0 : Nat → Int → Int → List Int → Int → Int → Option (Int)
  | 0, _, _, _, _, _ => none
  | k + 1, x1, x5, x10, x11, x12 => if x12 < x11 then (if 0 ≤ x12 then (if x12 < (x10.length : Int) then ((rice_Size.f (rd x10 x12) x1).bind fun t118 => (cost_Bits.l0 k x1 (wrap64 (x5 + t118)) x10 x11 (wrap64 (x12 + 1)))) else (none)) else (none)) else (some x5)
def cost_Bits.f (k : Nat) (l0 : List Int) (a1 : Int) : Option (Int) := (serinetteshadow_AnyFarCost.f k l0).bind fun t116 => (if t116 = true then (some (-1)) else (cost_Bits.l0 k a1 0 l0 (l0.length : Int) 0))
set_option maxHeartbeats 8000000 in
set_option maxRecDepth 100000 in
theorem cost_Bits.calls (k : Nat) (A0 : Option Addr) (c0 : Nat) (l0 : List Int) (a1 : Int) (r : Int) (w : World) (hr0 : Kd.C (Kd.int .i64) w A0 l0.length l0) (hc0 : l0.length ≤ c0) (h : cost_Bits.f k l0 a1 = some r) :
    Calls Try.prog 48 #[.slice A0 l0.length c0, .int .i64 a1] w fun e w' => e = .returned (.int .i64 r) ∧ Below w.heap.size w w' := by
  have HR0 := zG.mk hr0
  have HC0 := zG.mk hc0
  clear hr0 hc0
  have HB := zG.mk (Below.refl w.heap.size w)
  have H : ((serinetteshadow_AnyFarCost.f k l0).bind fun t116 => (if t116 = true then (some (-1)) else (cost_Bits.l0 k a1 0 l0 (l0.length : Int) 0))) = some r := h
  clear h
  replace H := Option.bind_eq_some_iff.mp H
  obtain ⟨t116, A30, H⟩ := H
  replace H : (if t116 = true then (some (-1)) else (cost_Bits.l0 k a1 0 l0 (l0.length : Int) 0)) = some r := H
  have A3 := zG.mk A30
  clear A30
  by_cases c4 : t116 = true
  · subst c4
    have H1 : (some (-1)) = some r := by rw [if_pos rfl] at H; exact H
    clear H
    have H := H1
    clear H1
    obtain rfl := Option.some.inj H
    go_enter Try.func48, Try.ntmps48
    go_wp2_with (first | ((with_reducible refine gate_callee (f := 53) rfl ?_); refine goesL_ (some 9) rfl rfl Try.func53 (by kernel_rfl) rfl #[.slice A0 l0.length c0, .func (.func 54) #[] #[]] rfl (by (try simp only [List.map_toArray, List.map_cons, List.map_nil]); first | done | rfl | (simp only [List.length_drop, List.length_take]; rfl)) ?_; (with_reducible refine (serinetteshadow_AnyFarCost.calls k _ _ l0 true _ ?side1 ?side2 A3.out).mono ?_); (case side1 => repeat (first | exact HR0.out | (with_reducible refine Kd.zV ?_ _) | (with_reducible refine Kd.zT ?_ _) | (with_reducible refine Kd.zU ?_))); (case side2 => exact HC0.out); rintro e w' ⟨rfl, ⟨nd, rfl⟩⟩; refine ⟨_, rfl, ?_⟩))
    go_ret
    exact ⟨by first | rfl | (simp [errW_none, errW_some] <;> rfl) | (simp [*, errW_none, errW_some] <;> rfl), by repeat (first | (with_reducible first | exact HB.out | apply zF | apply zC | apply zD) | exact HB.out)⟩
  · replace c4 := Bool.eq_false_iff.mpr c4
    subst c4
    have H1 : (cost_Bits.l0 k a1 0 l0 (l0.length : Int) 0) = some r := by rw [if_neg (show ¬ (false = true) by decide)] at H; exact H
    clear H
    have H := H1
    clear H1
    have H' := zG.mk H
    clear H
    go_enter Try.func48, Try.ntmps48
    go_wp2_with (first | ((with_reducible refine gate_callee (f := 53) rfl ?_); refine goesL_ (some 9) rfl rfl Try.func53 (by kernel_rfl) rfl #[.slice A0 l0.length c0, .func (.func 54) #[] #[]] rfl (by (try simp only [List.map_toArray, List.map_cons, List.map_nil]); first | done | rfl | (simp only [List.length_drop, List.length_take]; rfl)) ?_; (with_reducible refine (serinetteshadow_AnyFarCost.calls k _ _ l0 false _ ?side1 ?side2 A3.out).mono ?_); (case side1 => repeat (first | exact HR0.out | (with_reducible refine Kd.zV ?_ _) | (with_reducible refine Kd.zT ?_ _) | (with_reducible refine Kd.zU ?_))); (case side2 => exact HC0.out); rintro e w' ⟨rfl, ⟨nd, rfl⟩⟩; refine ⟨_, rfl, ?_⟩))
    go_loopg [5, 12] k (fun kq v5 v12 w' => ∃ (x5_1 : Int) (x12_1 : Int), v5 = .int .i64 x5_1 ∧ v12 = .int .i64 x12_1 ∧ zG (cost_Bits.l0 kq a1 x5_1 l0 (l0.length : Int) x12_1 = some r) ∧ zG (kq ≤ k) ∧ zG (Below w.heap.size w w'))
    case atStart => exact ⟨(0), (0), (by first | rfl | (simp; done) | (simp only [i64_w, i32_w]; done) | (simp [*]; done) | (simp only [i64_w, i32_w]; first | rfl | (simp; done) | (simp [*]; done))), (by first | rfl | (simp; done) | (simp only [i64_w, i32_w]; done) | (simp [*]; done) | (simp only [i64_w, i32_w]; first | rfl | (simp; done) | (simp [*]; done))), H', ⟨Nat.le_refl _⟩, ⟨by repeat (first | (with_reducible first | exact HB.out | apply zF | apply zC | apply zD) | exact HB.out)⟩⟩
    case round =>
      clear H'
      try clear p2
      try clear c4
      obtain ⟨x5_1, x12_1, rfl, rfl, HA, HK1, HB⟩ := hrel
      cases gk with
      | zero => exact absurd HA.out (by simp [cost_Bits.l0])
      | succ k1 =>
        have H := HA.out
        clear HA
        simp only [cost_Bits.l0] at H
        by_cases c5 : x12_1 < (l0.length : Int)
        · rw [if_pos c5] at H
          have c5b0 : decide (x12_1 < (l0.length : Int)) = true := decide_eq_true c5
          clear c5
          by_cases c6 : 0 ≤ x12_1
          · rw [if_pos c6] at H
            have c6b0 : decide (0 ≤ x12_1) = true := decide_eq_true c6
            clear c6
            by_cases c7 : x12_1 < (l0.length : Int)
            · rw [if_pos c7] at H
              have c7b0 : decide (x12_1 < (l0.length : Int)) = true := decide_eq_true c7
              clear c7
              replace H := Option.bind_eq_some_iff.mp H
              obtain ⟨t118, A80, H⟩ := H
              replace H : (cost_Bits.l0 k1 a1 (wrap64 (x5_1 + t118)) l0 (l0.length : Int) (wrap64 (x12_1 + 1))) = some r := H
              have A8 := zG.mk A80
              clear A80
              have H' := zG.mk H
              clear H
              have p117 : 0 ≤ (x12_1 : Int) := of_decide_eq_true (by first | (with_reducible assumption) | assumption)
              have q117 : x12_1 < (l0.length : Int) := of_decide_eq_true (by first | (with_reducible assumption) | assumption)
              obtain ⟨ad117, e117, hx117_0⟩ := Kd.at_int HR0.out x12_1 p117 q117
              cases e117
              replace hx117_0 := (HB.out.cell (World.block_lt_of_cell? w _ hx117_0)).trans hx117_0
              replace p117 := eq_true p117
              replace q117 := eq_true q117
              go_wp2_with (first | ((with_reducible refine gate_callee (f := 58) rfl ?_); refine goesL_ (some 19) rfl rfl Try.func58 (by kernel_rfl) rfl #[.int .i64 (rd l0 x12_1), .int .i64 a1] rfl (by (try simp only [List.map_toArray, List.map_cons, List.map_nil]); first | done | rfl | (simp only [List.length_drop, List.length_take]; rfl)) ?_; (with_reducible refine (rice_Size.calls (rd l0 x12_1) a1 t118 _ A8.out).mono ?_); rintro e w9 ⟨rfl, hb⟩; refine ⟨_, rfl, ?_⟩; have n0_ := zG.mk (below_step (by repeat (first | (with_reducible first | exact HB.out | apply zF | apply zC | apply zD) | exact HB.out)) hb); clear HB; have HB := n0_; clear n0_; (try clear hb); (try clear hb2); (try clear hk); (try clear hi)))
              go_roundg k1
              case measure => have := HK1.out; omega
              case rel => exact ⟨(wrap64 (x5_1 + t118)), (wrap64 (x12_1 + 1)), (by first | rfl | (simp; done) | (simp only [i64_w, i32_w]; done) | (simp [*]; done) | (simp only [i64_w, i32_w]; first | rfl | (simp; done) | (simp [*]; done))), (by first | rfl | (simp; done) | (simp only [i64_w, i32_w]; done) | (simp [*]; done) | (simp only [i64_w, i32_w]; first | rfl | (simp; done) | (simp [*]; done))), H', ⟨by have := HK1.out; omega⟩, ⟨by repeat (first | (with_reducible first | exact HB.out | apply zF | apply zC | apply zD) | exact HB.out)⟩⟩
            · rw [if_neg c7] at H
              exact absurd H (by simp)
          · rw [if_neg c6] at H
            exact absurd H (by simp)
        · rw [if_neg c5] at H
          have c5b0 : decide (x12_1 < (l0.length : Int)) = false := decide_eq_false c5
          clear c5
          obtain rfl := Option.some.inj H
          go_wp2
          go_ret
          exact ⟨by first | rfl | (simp [errW_none, errW_some] <;> rfl) | (simp [*, errW_none, errW_some] <;> rfl), by repeat (first | (with_reducible first | exact HB.out | apply zF | apply zC | apply zD) | exact HB.out)⟩

def cost_raw.f (l0 : List Int) (a1 : Int) : Option (Int) := some (wrap64 (5 + (wrap64 (a1 * (l0.length : Int)))))
set_option maxHeartbeats 8000000 in
set_option maxRecDepth 100000 in
theorem cost_raw.calls (A0 : Option Addr) (c0 : Nat) (l0 : List Int) (a1 : Int) (r : Int) (w : World) (hr0 : Kd.C (Kd.int .i64) w A0 l0.length l0) (hc0 : l0.length ≤ c0) (h : cost_raw.f l0 a1 = some r) :
    Calls Try.prog 49 #[.slice A0 l0.length c0, .int .i64 a1] w fun e w' => e = .returned (.int .i64 r) ∧ Drawn0 w w' := by
  have HR0 := zG.mk hr0
  have HC0 := zG.mk hc0
  clear hr0 hc0
  have H : (some (wrap64 (5 + (wrap64 (a1 * (l0.length : Int)))))) = some r := h
  clear h
  obtain rfl := Option.some.inj H
  go_enter Try.func49, Try.ntmps49
  go_wp2
  go_ret
  exact ⟨by first | rfl | (simp; done) | (simp [*]; done), by repeat (first | exact Drawn0.refl _ | apply Drawn0.step)⟩
end Go.Proofs.Ytokdjeoecnnckaa.PA
end
section
namespace Go.Proofs.Ytokdjeoecnnckaa.PL
open Go.RowKit Go.Proofs.Ytokdjeoecnnckaa.PA Go.Proofs.YtokdjeoecnnckaaW.PrintWords Go.Proofs.YtokdjeoecnnckaaW.PrintMore
set_option linter.unusedVariables false
set_option linter.unusedSimpArgs false
theorem u64_wrap (x : Int) : IntKind.u64.wrap x = x % 18446744073709551616 := by
  simp [IntKind.wrap, IntKind.signed, IntKind.bits]
def fold (n : Int) : Int := if n ≥ 0 then 2 * n else -2 * n - 1
theorem xor_ones (a : Nat) (h : a < 18446744073709551616) : a ^^^ 18446744073709551615 = 18446744073709551615 - a := by
  have e : (18446744073709551615 - a : Nat) = 2 ^ 64 - (a + 1) := by omega
  rw [e]
  apply Nat.eq_of_testBit_eq
  intro i
  rw [Nat.testBit_two_pow_sub_succ (by simpa using h), Nat.testBit_xor, show (18446744073709551615 : Nat) = 2 ^ 64 - 1 by decide, Nat.testBit_two_pow_sub_one]
  by_cases hi : i < 64
  · simp [hi]
  · have : a.testBit i = false := Nat.testBit_lt_two_pow (Nat.lt_of_lt_of_le h (by
      have : (2 : Nat) ^ 64 ≤ 2 ^ i := Nat.pow_le_pow_right (by decide) (by omega)
      simpa using this))
    simp [hi, this]
theorem fold_eq (n : Int) (h : -9223372036854775808 ≤ n ∧ n < 9223372036854775808) : rice_Fold.f n = some (fold n) := by
  unfold rice_Fold.f fold
  simp only [u64_wrap]
  congr 1
  by_cases hn : n ≥ 0
  · obtain ⟨m, rfl⟩ := Int.eq_ofNat_of_zero_le hn
    have e1 : ((m : Int) % 18446744073709551616 * 2) % 18446744073709551616 = ((2 * m : Nat) : Int) := by omega
    have e2 : ((m : Int) / 9223372036854775808) % 18446744073709551616 = ((0 : Nat) : Int) := by omega
    rw [e1, e2, bits_xor_u64_nat _ _ (by omega) (by omega), if_pos hn, Nat.xor_zero]; omega
  · obtain ⟨m, hm⟩ := Int.eq_ofNat_of_zero_le (show 0 ≤ -n - 1 by omega)
    have e1 : (n % 18446744073709551616 * 2) % 18446744073709551616 = ((18446744073709551616 - 2 * m - 2 : Nat) : Int) := by omega
    have e2 : (n / 9223372036854775808) % 18446744073709551616 = ((18446744073709551615 : Nat) : Int) := by omega
    rw [e1, e2, bits_xor_u64_nat _ _ (by omega) (by omega), xor_ones _ (by omega), if_neg hn]; omega
def IsNear (n : Int) : Prop := -8589934592 ≤ n ∧ n < 8589934592
instance (n : Int) : Decidable (IsNear n) := by unfold IsNear; infer_instance
theorem near_eq (n : Int) : rice_Near.f n = some (decide (IsNear n)) := by
  unfold rice_Near.f IsNear
  by_cases h : n ≥ -8589934592
  · rw [if_pos h]; congr 1; exact decide_eq_decide.2 ⟨fun g => ⟨h, g⟩, fun g => g.2⟩
  · rw [if_neg h]; congr 1; exact (decide_eq_false (by omega)).symm
theorem fold_near {n : Int} (h : IsNear n) : 0 ≤ fold n ∧ fold n < 17179869184 := by unfold IsNear at h; unfold fold; split <;> omega
def kk (k : Int) : Nat := (max 0 (min k 30)).toNat
theorem kk_le (k : Int) : kk k ≤ 30 := by unfold kk; omega
theorem kk_eq (k : Int) : (mx 0 (mn k 30)) = (kk k : Int) := by unfold mx mn kk; split <;> split <;> omega
theorem kk_nat {k : Nat} (h : k ≤ 30) : kk (k : Int) = k := by unfold kk; omega
def sz (n : Int) (k : Nat) : Int := fold n / 2 ^ k + 1 + k
theorem shr_u64 (x : Int) {s : Nat} (h : s ≤ 64) : shr .u64 x (s : Int) = x / 2 ^ s := by
  unfold shr
  rw [Int.toNat_natCast, show min s IntKind.u64.bits = s by simp [IntKind.bits]; omega]
theorem shr_eq' (x : Int) {s : Nat} (h : s ≤ 64) : shr .i64 x (s : Int) = x / 2 ^ s := by
  unfold shr
  rw [Int.toNat_natCast, show min s IntKind.i64.bits = s by simp [IntKind.bits]; omega]
theorem div_pow_bd {x : Int} {s : Nat} (h : 0 ≤ x) : 0 ≤ x / 2 ^ s ∧ x / 2 ^ s ≤ x := by
  have hp : (0 : Int) < 2 ^ s := Int.pow_pos (by decide)
  exact ⟨Int.ediv_nonneg h (Int.le_of_lt hp), Int.ediv_le_self _ h⟩
theorem sz_bd {n : Int} {k : Nat} (h : IsNear n) (hk : k ≤ 30) : 1 + k ≤ sz n k ∧ sz n k ≤ 17179869300 := by
  have := fold_near h
  have := div_pow_bd (x := fold n) (s := k) this.1
  unfold sz; omega
theorem near_64 {n : Int} (h : IsNear n) : -9223372036854775808 ≤ n ∧ n < 9223372036854775808 := by unfold IsNear at h; omega
theorem size_eq (n k : Int) : rice_Size.f n k = some (if IsNear n then sz n (kk k) else -1) := by
  unfold rice_Size.f
  rw [near_eq]
  simp only [Option.bind_some]
  by_cases h : IsNear n
  · have hf := fold_near h
    have hd := div_pow_bd (x := fold n) (s := kk k) hf.1
    have hk := kk_le k
    rw [if_pos (by simpa using h), if_pos h]
    unfold rice_held.f
    rw [fold_eq n (near_64 h)]
    simp only [Option.bind_some]
    rw [kk_eq, if_pos (by omega), shr_u64 _ (by omega), w64 (x := fold n / 2 ^ kk k) (by omega) (by omega), w64 (x := fold n / 2 ^ kk k + 1) (by omega) (by omega), w64 (by omega) (by omega)]
    rfl
  · rw [if_neg (by simpa using h), if_neg h]
end Go.Proofs.Ytokdjeoecnnckaa.PL
end
section
namespace Go.Proofs.Ytokdjeoecnnckaa.PA
open Go.RowKit Go.Proofs.YtokdjeoecnnckaaW.PrintWords Go.Proofs.YtokdjeoecnnckaaW.PrintLast Go.Proofs.YtokdjeoecnnckaaW.PrintMore
attribute [local go_sem] max2_int min2_int max_two min_two max_three min_three max_four min_four   -- for this text's walks alone
set_option linter.unusedVariables false
set_option linter.unusedSimpArgs false

def bits_Writer_Len.f (s0_0 : ByteArray) (s0_1 : Int) : Option (Int × ByteArray × Int) := some (s0_1, s0_0, s0_1)
theorem bits_Writer_Len.calls (g : Nat) (s0_0 : ByteArray) (s0_1 : Int) (r1 : Int) (r2 : ByteArray) (r3 : Int) (w0 w : World) (hI : zI w0 w g s0_0 s0_1) (hB : Below w0.heap.size w0 w) (h : bits_Writer_Len.f s0_0 s0_1 = some (r1, r2, r3)) :
    Calls Try.prog 11 #[.pointer (some ⟨g, 0, none⟩)] w fun e w' => e = .returned (.int .i64 r1) ∧ zI w0 w' g r2 r3 ∧ Below w0.heap.size w0 w' ∧ zJ w w' g none := by
  have HI := zG.mk hI
  have HK := zG.mk (zJ.refl w g none)
  have HB := zG.mk hB
  clear hB
  simp only [bits_Writer_Len.f, Option.some.injEq, Prod.mk.injEq] at h
  obtain ⟨rfl, rfl, rfl⟩ := h
  obtain ⟨v, hb, hg, hr, hz⟩ := hI
  have hc1 : w.cell? ⟨g, 1, none⟩ = some (.int .i64 s0_1) := (zN hb 1).trans rfl
  clear hb hg hr hz
  go_enter Try.func11, Try.ntmps11
  go_wp2
  go_ret
  exact ⟨rfl, HI.out, HB.out, HK.out⟩

def bytes_Clone.f (l0 : List Int) : Option (List Int) := (some (([] : List Int) : List Int)).bind fun y160 => (if y160.length + l0.length < 140737488355328 then (some (y160 ++ l0)) else (none))
set_option maxHeartbeats 8000000 in
set_option maxRecDepth 100000 in
theorem bytes_Clone.calls (A0 : Option Addr) (c0 : Nat) (l0 : List Int) (r : List Int) (w : World) (hr0 : Kd.C (Kd.int .u8) w A0 l0.length l0) (hc0 : l0.length ≤ c0) (h : bytes_Clone.f l0 = some r) :
    Calls Try.prog 31 #[.slice A0 l0.length c0] w fun e w' => ∃ v0_ : Value, e = .returned (v0_) ∧ Kd.R (Kd.int .u8) 5 w' w.heap.size (fun _ => True) v0_ r ∧ Below w.heap.size w w' := by
  have ue : ∀ w : World, (binOp .eql 26 (.slice A0 l0.length c0) (.slice none 0 0)).run Try.prog w = .ok (.bool A0.isNone) w := fun w => Lib.run_eql_slice_nil w _ _ _ _ _ _ _ Try.underlying26
  cases A0 with
  | none =>
    have hn : l0 = [] := by
      obtain ⟨h1, h2, h3⟩ := hr0
      cases l0 with
      | nil => rfl
      | cons a t => obtain ⟨ad, e, _⟩ := h3 (by simp); cases e
    subst hn
    have hr : r = [] := by
      have H : (if ([] : List Int).length + ([] : List Int).length < 140737488355328 then (some (([] : List Int) ++ [])) else none) = some r := h
      rw [if_pos (by simp)] at H
      exact (Option.some.inj H).symm
    subst hr
    clear h hr0 hc0
    simp only [Option.isNone_none, List.length_nil] at ue
    go_enter Try.func31, Try.ntmps31
    go_wp2
    go_ret
    exact ⟨_, rfl, Kd.R_nil _ _ _ _ _, Below.refl _ _⟩
  | some ad0 =>
    simp only [Option.isNone_some] at ue
    have HR0 := zG.mk hr0
    have HC0 := zG.mk hc0
    clear hr0 hc0
    have HB := zG.mk (Below.refl w.heap.size w)
    have H : ((some (([] : List Int) : List Int)).bind fun y160 => (if y160.length + l0.length < 140737488355328 then (some (y160 ++ l0)) else (none))) = some r := h
    clear h
    obtain ⟨y160, hy160⟩ : ∃ y_ : List Int, y_ = (([] : List Int)) := ⟨_, rfl⟩
    replace H : (if y160.length + l0.length < 140737488355328 then (some (y160 ++ l0)) else (none)) = some r := by first | (rw [hy160]; with_reducible exact H) | (have H2_ := (Option.bind_some _ _).symm.trans H; rw [hy160]; with_reducible exact H2_) | (have H2_ := (Option.bind_some _ _).symm.trans H; with_reducible exact H2_) | with_reducible exact H | (rw [hy160]; exact H) | exact H
    have Ny160 := zG.mk hy160
    clear hy160
    by_cases c2 : y160.length + l0.length < 140737488355328
    · rw [if_pos c2] at H
      have LMc2 := zG.mk c2
      clear c2
      obtain ⟨y163, hy163⟩ : ∃ y_ : List Int, y_ = (y160 ++ l0) := ⟨_, rfl⟩
      replace H : (some y163) = some r := by first | (rw [hy163]; with_reducible exact H) | (have H2_ := (Option.bind_some _ _).symm.trans H; rw [hy163]; with_reducible exact H2_) | (have H2_ := (Option.bind_some _ _).symm.trans H; with_reducible exact H2_) | with_reducible exact H | (rw [hy163]; exact H) | exact H
      have Ny163 := zG.mk hy163
      clear hy163
      obtain rfl := Option.some.inj H
      go_enter Try.func31, Try.ntmps31
      go_wp2_with (first | ((with_reducible refine gate_dst (N := 5) rfl ?_); refine Kd.R_lit (Kd.int .u8) _ 5 ?hg (N := 5) ?hd (xs := ([] : List Int)) (inner := []) (ok := fun _ => True) (okp := fun _ => True) ?hr ?hp (fun _ hk => hk) trivial (Below.refl _ _) (Nat.le_refl _) (by simp) ?_; (case hd => rfl); (case hg => rfl); (case hr => first | (go_simp; done) | (go_simp; rfl)); (case hp => exact (Reps.none _ _)); intro v161 w3 ho4 hb hg_ hnew_; clear hg_ hnew_; (first | rw [← Ny160.out] at ho4 | (simp only [Int.reduceToNat] at ho4; rw [← Ny160.out] at ho4)); have n0_ := zG.mk (Kd.R_lower ho4 (below_size (by repeat (first | (with_reducible first | exact HB.out | apply zF | apply zC | apply zD) | exact HB.out)))); have n1_ := zG.mk (below_step (by repeat (first | (with_reducible first | exact HB.out | apply zF | apply zC | apply zD) | exact HB.out)) hb); clear HB; have HO162 := n0_; have HB := n1_; clear n0_ n1_; clear hb ho4) | ((with_reducible refine gate_builtin (b := .append) (xs := #[.tmp 5, .tmp 6]) rfl ?_); at_builtin; refine Kd.R_append_rows (Kd.int .u8) (w0 := w) w.heap.size rfl (.tmp 5) (.tmp 6) 26 5 (.int .u8 0) 1 rfl Try.underlying26 info5 rfl (by decide) (by omega) v161 y160 l0 _ _ _ (fun _ => True) (fun _ => False) rfl rfl ?aO ?aR (fun _ _ h => h) (fun _ h => h.elim) ?aF ?aB ?aS ?aL ?_; (case aR => repeat (first | exact (Kd.C_below HR0.out HB.out) | (with_reducible refine Kd.zV ?_ _) | (with_reducible refine Kd.zT ?_ _) | (with_reducible refine Kd.zU ?_))); (case aB => exact (by repeat (first | (with_reducible first | exact HB.out | apply zF | apply zC | apply zD) | exact HB.out))); (case aF => exact (fun _ _ => trivial)); (case aO => exact (by (with_reducible repeat (first | apply Kd.zS | apply Kd.zQ | apply Kd.zR)); exact HO162.out)); (case aS => exact (below_size (by repeat (first | (with_reducible first | exact HB.out | apply zF | apply zC | apply zD) | exact HB.out)))); (case aL => have := LMc2.out; omega); intro v164 w5 ho hb hg hat; rw [← Ny163.out] at ho; have n0_ := zG.mk (hb); have n1_ := zG.mk (ho); clear HB; clear HO162; have HB := n0_; have HO165 := n1_; clear n0_ n1_; clear ho hb hg hat))
      go_ret
      exact ⟨_, by first | rfl | (simp [errW_none, errW_some] <;> rfl) | (simp [*, errW_none, errW_some] <;> rfl), by (with_reducible repeat (first | apply Kd.zS | apply Kd.zQ | apply Kd.zR)); exact HO165.out, by repeat (first | (with_reducible first | exact HB.out | apply zF | apply zC | apply zD) | exact HB.out)⟩
    · rw [if_neg c2] at H
      exact absurd H (by simp)

def bits_Writer_Bytes.f (s0_0 : ByteArray) (s0_1 : Int) : Option (List Int × ByteArray × Int) := (bytes_Clone.f (bytesOf s0_0)).map fun r => (r, s0_0, s0_1)
set_option maxRecDepth 100000 in
theorem bits_Writer_Bytes.calls (g : Nat) (s0_0 : ByteArray) (s0_1 : Int) (r1 : List Int) (r2 : ByteArray) (r3 : Int) (w0 w : World) (hI : zI w0 w g s0_0 s0_1) (hB : Below w0.heap.size w0 w) (h : bits_Writer_Bytes.f s0_0 s0_1 = some (r1, r2, r3)) :
    Calls Try.prog 13 #[.pointer (some ⟨g, 0, none⟩)] w fun e w' => ∃ v0_ : Value, e = .returned (v0_) ∧ Kd.R (Kd.int .u8) 5 w' w.heap.size (fun _ => True) v0_ r1 ∧ zI w0 w' g r2 r3 ∧ Below w0.heap.size w0 w' ∧ zJ w w' g none := by
  have HI := zG.mk hI
  have HB := zG.mk hB
  clear hB
  obtain ⟨r, hc, he⟩ := Option.map_eq_some_iff.1 h
  simp only [Prod.mk.injEq] at he
  obtain ⟨rfl, rfl, rfl⟩ := he
  clear h
  obtain ⟨v, hb, hg, hr, hz⟩ := hI
  obtain ⟨A, c, rfl⟩ := Kd.R_slice hr
  have hc0 : w.cell? ⟨g, 0, none⟩ = some (.slice A (bytesOf s0_0).length c) := (zN hb 0).trans rfl
  have HC := zG.mk (bytes_Clone.calls A c (bytesOf s0_0) r w (Kd.R_reads' hr).2.2 (Kd.R_reads' hr).2.1 hc)
  clear hb hg hr hz hc
  go_enter Try.func13, Try.ntmps13
  go_wp2_with (go_at_call 31; (with_reducible refine HC.out.mono ?_); rintro e w' ⟨v0, rfl, ho, hb⟩; have HO := zG.mk ho; have HBB := zG.mk hb; clear ho hb)
  go_ret
  exact ⟨_, rfl, HO.out, HI.out.below HBB.out, below_step HB.out HBB.out, zJ.of_below HBB.out _ _⟩

def serinetteref01_Same.l0 : Nat → List Int → List Int → Int → Option (Bool)
  | 0, _, _, _ => none
  | k + 1, x0, x1, x5 => if x5 < (x0.length : Int) then (if 0 ≤ x5 then (if x5 < (x1.length : Int) then (if (rd x0 x5) = (rd x1 x5) then (serinetteref01_Same.l0 k x0 x1 (wrap64 (x5 + 1))) else (some false)) else (none)) else (none)) else (some true)
def serinetteref01_Same.f (k : Nat) (l0 : List Int) (l1 : List Int) : Option (Bool) := if (l0.length : Int) = (l1.length : Int) then (serinetteref01_Same.l0 k l0 l1 0) else (some false)
theorem serinetteref01_Same.mono_l : ∀ k, (∀ y0 y1 y2, LeO (serinetteref01_Same.l0 k y0 y1 y2) (serinetteref01_Same.l0 (k + 1) y0 y1 y2))
  | 0 => fun _ _ _ r h => by simp [serinetteref01_Same.l0] at h
  | k + 1 => by
    have ih0 := serinetteref01_Same.mono_l k
    · intro y0 y1 y2
      unfold serinetteref01_Same.l0
      repeat' first
      | (with_reducible exact ih0 _ _ _)
      | (with_reducible exact LeO.refl _)
      | (with_reducible exact LeO.none _)
      | (with_reducible refine LeO.ite ?_ ?_)
      | (with_reducible refine LeO.bind ?_ (fun _ => ?_))
      | exact ih0 _ _ _
      | exact LeO.none _
      | refine LeO.ite ?_ ?_
      | refine LeO.bind ?_ (fun _ => ?_)
theorem serinetteref01_Same.mono : ∀ a0 a1 k, LeO (serinetteref01_Same.f k a0 a1) (serinetteref01_Same.f (k + 1) a0 a1) := by
  intro a0 a1 k
  have ih0 := serinetteref01_Same.mono_l k
  unfold serinetteref01_Same.f
  repeat' first
      | (with_reducible exact ih0 _ _ _)
      | (with_reducible exact LeO.refl _)
      | (with_reducible exact LeO.none _)
      | (with_reducible refine LeO.ite ?_ ?_)
      | (with_reducible refine LeO.bind ?_ (fun _ => ?_))
      | exact ih0 _ _ _
      | exact LeO.none _
      | refine LeO.ite ?_ ?_
      | refine LeO.bind ?_ (fun _ => ?_)
set_option maxHeartbeats 8000000 in
set_option maxRecDepth 100000 in
theorem serinetteref01_Same.calls (k : Nat) (A0 : Option Addr) (c0 : Nat) (l0 : List Int) (A1 : Option Addr) (c1 : Nat) (l1 : List Int) (r : Bool) (w : World) (hr0 : Kd.C (Kd.int .u8) w A0 l0.length l0) (hc0 : l0.length ≤ c0) (hr1 : Kd.C (Kd.int .u8) w A1 l1.length l1) (hc1 : l1.length ≤ c1) (h : serinetteref01_Same.f k l0 l1 = some r) :
    Calls Try.prog 19 #[.slice A0 l0.length c0, .slice A1 l1.length c1] w fun e w' => e = .returned (.bool r) ∧ Drawn0 w w' := by
  have HR0 := zG.mk hr0
  have HC0 := zG.mk hc0
  clear hr0 hc0
  have HR1 := zG.mk hr1
  have HC1 := zG.mk hc1
  clear hr1 hc1
  have H : (if (l0.length : Int) = (l1.length : Int) then (serinetteref01_Same.l0 k l0 l1 0) else (some false)) = some r := h
  clear h
  by_cases c3 : (l0.length : Int) = (l1.length : Int)
  · rw [if_pos c3] at H
    have c3b0 : ((l0.length : Int) == (l1.length : Int)) = true := beq_iff_eq.mpr c3
    have c3b1 : ((l0.length : Int) != (l1.length : Int)) = false := bne_eq_false_iff_eq.mpr c3
    have c3b2 : (l0.length == l1.length) = true := by first | simpa using c3 | (simp at c3 ⊢; omega)
    clear c3
    have H' := zG.mk H
    clear H
    go_enter Try.func19, Try.ntmps19
    go_wp2
    repeat (go_quiet (fail); try go_wp2)
    go_loopg [5] k (fun kq v5 w' => ∃ (x5_1 : Int), v5 = .int .i64 x5_1 ∧ zG (serinetteref01_Same.l0 kq l0 l1 x5_1 = some r) ∧ zG (kq ≤ k) ∧ Drawn0 w w')
    case atStart => exact ⟨(0), (by first | rfl | (simp; done) | (simp only [i64_w, i32_w]; done) | (simp [*]; done) | (simp only [i64_w, i32_w]; first | rfl | (simp; done) | (simp [*]; done))), H', ⟨Nat.le_refl _⟩, by repeat (first | exact Drawn0.refl _ | apply Drawn0.step)⟩
    case round =>
      clear H'
      try clear c1
      try clear p2
      try clear c3
      try clear c3b0
      try clear c3b1
      try clear c3b2
      obtain ⟨x5_1, rfl, HA, HK1, ⟨m1, rfl⟩⟩ := hrel
      cases gk with
      | zero => exact absurd HA.out (by simp [serinetteref01_Same.l0])
      | succ k1 =>
        have H := HA.out
        clear HA
        simp only [serinetteref01_Same.l0] at H
        by_cases c4 : x5_1 < (l0.length : Int)
        · rw [if_pos c4] at H
          have c4b0 : decide (x5_1 < (l0.length : Int)) = true := decide_eq_true c4
          clear c4
          by_cases c5 : 0 ≤ x5_1
          · rw [if_pos c5] at H
            have c5b0 : decide (0 ≤ x5_1) = true := decide_eq_true c5
            clear c5
            by_cases c6 : x5_1 < (l1.length : Int)
            · rw [if_pos c6] at H
              have c6b0 : decide (x5_1 < (l1.length : Int)) = true := decide_eq_true c6
              clear c6
              by_cases c7 : (rd l0 x5_1) = (rd l1 x5_1)
              · rw [if_pos c7] at H
                have c7b0 : ((rd l0 x5_1) == (rd l1 x5_1)) = true := beq_iff_eq.mpr c7
                have c7b1 : ((rd l0 x5_1) != (rd l1 x5_1)) = false := bne_eq_false_iff_eq.mpr c7
                clear c7
                have H' := zG.mk H
                clear H
                have p166 : 0 ≤ (x5_1 : Int) := of_decide_eq_true (by first | (with_reducible assumption) | assumption)
                have q166 : x5_1 < (l0.length : Int) := of_decide_eq_true (by first | (with_reducible assumption) | assumption)
                obtain ⟨ad166, e166, hx166_0⟩ := Kd.at_int HR0.out x5_1 p166 q166
                cases e166
                replace p166 := eq_true p166
                replace q166 := eq_true q166
                have p167 : 0 ≤ (x5_1 : Int) := of_decide_eq_true (by first | (with_reducible assumption) | assumption)
                have q167 : x5_1 < (l1.length : Int) := of_decide_eq_true (by first | (with_reducible assumption) | assumption)
                obtain ⟨ad167, e167, hx167_0⟩ := Kd.at_int HR1.out x5_1 p167 q167
                cases e167
                replace p167 := eq_true p167
                replace q167 := eq_true q167
                go_wp2
                repeat (go_quiet (fail); try go_wp2)
                go_roundg k1
                case measure => have := HK1.out; omega
                case rel => exact ⟨(wrap64 (x5_1 + 1)), (by first | rfl | (simp; done) | (simp only [i64_w, i32_w]; done) | (simp [*]; done) | (simp only [i64_w, i32_w]; first | rfl | (simp; done) | (simp [*]; done))), H', ⟨by have := HK1.out; omega⟩, by repeat (first | exact Drawn0.refl _ | apply Drawn0.step)⟩
              · rw [if_neg c7] at H
                have c7b0 : ((rd l0 x5_1) == (rd l1 x5_1)) = false := beq_eq_false_iff_ne.mpr c7
                have c7b1 : ((rd l0 x5_1) != (rd l1 x5_1)) = true := bne_iff_ne.mpr c7
                obtain rfl := Option.some.inj H
                have p166 : 0 ≤ (x5_1 : Int) := of_decide_eq_true (by first | (with_reducible assumption) | assumption)
                have q166 : x5_1 < (l0.length : Int) := of_decide_eq_true (by first | (with_reducible assumption) | assumption)
                obtain ⟨ad166, e166, hx166_0⟩ := Kd.at_int HR0.out x5_1 p166 q166
                cases e166
                replace p166 := eq_true p166
                replace q166 := eq_true q166
                have p167 : 0 ≤ (x5_1 : Int) := of_decide_eq_true (by first | (with_reducible assumption) | assumption)
                have q167 : x5_1 < (l1.length : Int) := of_decide_eq_true (by first | (with_reducible assumption) | assumption)
                obtain ⟨ad167, e167, hx167_0⟩ := Kd.at_int HR1.out x5_1 p167 q167
                cases e167
                replace p167 := eq_true p167
                replace q167 := eq_true q167
                go_wp2
                repeat (go_quiet (fail); try go_wp2)
                go_ret
                exact ⟨by first | rfl | (simp; done) | (simp [*]; done), by repeat (first | exact Drawn0.refl _ | apply Drawn0.step)⟩
            · rw [if_neg c6] at H
              exact absurd H (by simp)
          · rw [if_neg c5] at H
            exact absurd H (by simp)
        · rw [if_neg c4] at H
          have c4b0 : decide (x5_1 < (l0.length : Int)) = false := decide_eq_false c4
          clear c4
          obtain rfl := Option.some.inj H
          go_wp2
          repeat (go_quiet (fail); try go_wp2)
          go_ret
          exact ⟨by first | rfl | (simp; done) | (simp [*]; done), by repeat (first | exact Drawn0.refl _ | apply Drawn0.step)⟩
  · rw [if_neg c3] at H
    have c3b0 : ((l0.length : Int) == (l1.length : Int)) = false := beq_eq_false_iff_ne.mpr c3
    have c3b1 : ((l0.length : Int) != (l1.length : Int)) = true := bne_iff_ne.mpr c3
    have c3b2 : (l0.length == l1.length) = false := by first | simpa using c3 | (simp at c3 ⊢; omega)
    obtain rfl := Option.some.inj H
    go_enter Try.func19, Try.ntmps19
    go_wp2
    repeat (go_quiet (fail); try go_wp2)
    go_ret
    exact ⟨by first | rfl | (simp; done) | (simp [*]; done), by repeat (first | exact Drawn0.refl _ | apply Drawn0.step)⟩
end Go.Proofs.Ytokdjeoecnnckaa.PA
end
section
namespace Go.Proofs.Ytokdjeoecnnckaa.PL
open Go Go.RowKit Go.Proofs.Ytokdjeoecnnckaa.PA Go.Proofs.YtokdjeoecnnckaaW.PrintWords Go.Proofs.YtokdjeoecnnckaaW.PrintMore
set_option linter.unusedSimpArgs false
set_option linter.unusedVariables false
def hw (w : Int) : Nat := if w < 0 then 0 else if w > 64 then 64 else w.toNat
theorem hw_le (w : Int) : hw w ≤ 64 := by unfold hw; split <;> (try split) <;> omega
theorem hw_eq (w : Int) : mx 0 (mn w 64) = (hw w : Int) := by unfold mx mn hw; split <;> split <;> (try split) <;> omega
theorem hw_nat {w : Nat} (h : w ≤ 64) : hw (w : Int) = w := by unfold hw; rw [if_neg (by omega)]; split <;> omega
theorem held_eq (w : Int) : bits_held.f w = some (hw w : Int) := by unfold bits_held.f; rw [hw_eq]
theorem shr_u64' (x : Int) {s : Nat} (h : s ≤ 64) : shr .u64 x (s : Int) = x / 2 ^ s := by
  unfold shr
  rw [Int.toNat_natCast, show min s IntKind.u64.bits = s by simp [IntKind.bits]; omega]
theorem shr_u8' (x : Int) {s : Nat} (h : s ≤ 8) : shr .u8 x (s : Int) = x / 2 ^ s := by
  unfold shr
  rw [Int.toNat_natCast, show min s IntKind.u8.bits = s by simp [IntKind.bits]; omega]
theorem shl_u8' {x : Int} {s : Nat} (h : s ≤ 8) (h0 : 0 ≤ x * 2 ^ s) (h1 : x * 2 ^ s < 256) : shl .u8 x (s : Int) = x * 2 ^ s := by
  unfold shl
  rw [Int.toNat_natCast, show min s IntKind.u8.bits = s by simp [IntKind.bits]; omega]
  exact wraps_u8 _ h0 h1
theorem wrap_u64 (n : Int) : IntKind.u64.wrap n = n % 18446744073709551616 := by simp [IntKind.wrap, IntKind.bits, IntKind.signed]
theorem wraps_u64' (n : Int) (h₀ : 0 ≤ n) (h₁ : n < 18446744073709551616) : IntKind.u64.wrap n = n := by rw [wrap_u64]; omega
theorem pow64 : (2 : Int) ^ 64 = 18446744073709551616 := by decide
theorem wraps_u64 (n : Int) (h₀ : 0 ≤ n) (h₁ : n < 2 ^ 64) : IntKind.u64.wrap n = n := wraps_u64' n h₀ (by rw [← pow64]; exact h₁)
theorem shl_u64' {x : Int} {s : Nat} (h : s ≤ 64) (h0 : 0 ≤ x * 2 ^ s) (h1 : x * 2 ^ s < 18446744073709551616) : shl .u64 x (s : Int) = x * 2 ^ s := by
  unfold shl
  rw [Int.toNat_natCast, show min s IntKind.u64.bits = s by simp [IntKind.bits]; omega]
  exact wraps_u64' _ h0 h1
theorem mask8 {m : Nat} (h1 : 1 ≤ m) (h8 : m ≤ 8) : (shl .u8 1 (m : Int) - 1) % 256 = 2 ^ m - 1 := by
  have : m = 1 ∨ m = 2 ∨ m = 3 ∨ m = 4 ∨ m = 5 ∨ m = 6 ∨ m = 7 ∨ m = 8 := by omega
  rcases this with rfl | rfl | rfl | rfl | rfl | rfl | rfl | rfl <;> decide
theorem pow_le_256 {m : Nat} (h8 : m ≤ 8) : (2 : Int) ^ m ≤ 256 := by
  have : m = 0 ∨ m = 1 ∨ m = 2 ∨ m = 3 ∨ m = 4 ∨ m = 5 ∨ m = 6 ∨ m = 7 ∨ m = 8 := by omega
  rcases this with rfl | rfl | rfl | rfl | rfl | rfl | rfl | rfl | rfl <;> decide
theorem part_eq (x : Int) {m : Nat} (h1 : 1 ≤ m) (h8 : m ≤ 8) : Go.bits .and .u8 (x % 256) ((shl .u8 1 (m : Int) - 1) % 256) = x % 2 ^ m := by
  rw [mask8 h1 h8, bits_mask .u8 8 (by decide) wraps_u8 m h8 (x % 256) (by omega) (by omega)]
  refine Int.emod_emod_of_dvd x ?_
  have : m = 1 ∨ m = 2 ∨ m = 3 ∨ m = 4 ∨ m = 5 ∨ m = 6 ∨ m = 7 ∨ m = 8 := by omega
  rcases this with rfl | rfl | rfl | rfl | rfl | rfl | rfl | rfl <;> decide
theorem put_or (r : List Bool) (x : Int) (m : Nat) (hm : 1 ≤ m) (hr : r.length + m ≤ 8) (hx : 0 ≤ x ∧ x < 2 ^ m) : Go.bits .or .u8 (num (pad8 r)) (shl .u8 x ((8 - r.length - m : Nat) : Int)) = num (pad8 (r ++ digs x m)) := by
  have hl : (r ++ digs x m).length = r.length + m := by simp [digs_len]
  have hb := num_bd r
  have hs := pow2_pos (8 - r.length - m)
  have hm0 := pow2_pos m
  have e1 : (2 : Int) ^ (8 - r.length) = 2 ^ m * 2 ^ (8 - r.length - m) := by rw [← Int.pow_add]; congr 1; omega
  have e2 : (2 : Int) ^ r.length * (2 ^ m * 2 ^ (8 - r.length - m)) = 256 := by rw [← Int.pow_add, ← Int.pow_add, show r.length + (m + (8 - r.length - m)) = 8 by omega]; rfl
  have hx2 : x * 2 ^ (8 - r.length - m) < 2 ^ m * 2 ^ (8 - r.length - m) := Int.mul_lt_mul_of_pos_right hx.2 hs
  have hx0 : 0 ≤ x * 2 ^ (8 - r.length - m) := Int.mul_nonneg hx.1 (Int.le_of_lt hs)
  have h256 : (2 : Int) ^ m * 2 ^ (8 - r.length - m) ≤ 256 := by rw [← e1]; exact pow_le_256 (by omega)
  rw [shl_u8' (by omega) hx0 (by omega), num_pad8 (by omega), num_pad8 (by omega), num_append, num_digs, digs_len, hl, e1]
  have e3 : x % 2 ^ m = x := Int.emod_eq_of_lt hx.1 hx.2
  have hq : num r * (2 ^ m * 2 ^ (8 - r.length - m)) ≤ (2 ^ r.length - 1) * (2 ^ m * 2 ^ (8 - r.length - m)) := Int.mul_le_mul_of_nonneg_right (by omega) (Int.le_of_lt (Int.mul_pos hm0 hs))
  rw [Int.sub_mul, e2, Int.one_mul] at hq
  have hq0 : 0 ≤ num r * (2 ^ m * 2 ^ (8 - r.length - m)) := Int.mul_nonneg hb.1 (Int.le_of_lt (Int.mul_pos hm0 hs))
  have hpos := Int.mul_pos hm0 hs
  rw [bits_join .u8 8 (by decide) wraps_u8 (8 - r.length) _ _ hq0 (by rw [e1]; exact Int.mul_emod_left _ _) (by omega) hx0 (by rw [e1]; exact hx2) (by omega), e3, Int.add_mul, show 8 - (r.length + m) = 8 - r.length - m by omega, Int.mul_assoc]
theorem put_step (k : Nat) (n : Int) (left : Nat) (l : List Bool) (m : Nat) (hm : m = min (8 - l.length % 8) left) (h1 : 1 ≤ left) (h64 : left ≤ 64) (hll : l.length < 70368744177664) :
    bits_Writer_Put.l0 (k + 1) n (left : Int) (toB l) (l.length : Int) = bits_Writer_Put.l0 k n ((left - m : Nat) : Int) (toB (l ++ digs (n / 2 ^ (left - m)) m)) ((l ++ digs (n / 2 ^ (left - m)) m).length : Int) := by
  obtain ⟨f, r, rfl, hfl, hrl⟩ := split8 l
  have hlen : (f ++ r).length = f.length + r.length := by simp
  have hr8 : r.length < 8 := by omega
  have hm1 : 1 ≤ m := by omega
  have hm8 : m ≤ 8 - r.length := by omega
  have hm9 : m ≤ 8 := by omega
  have hrm : r.length + m ≤ 8 := by omega
  have hll2 : left - m ≤ 64 := by omega
  have htm : Int.tmod ((f ++ r).length : Int) 8 = (r.length : Int) := by rw [Int.tmod_eq_emod_of_nonneg (by omega)]; omega
  have htl : (toB f).length < 8796093022208 := by rw [toB_len]; omega
  have hy : bits_Writer_Put.grow (toB (f ++ r)) ((f ++ r).length : Int) = some (toB f ++ [num (pad8 r)]) := by
    unfold bits_Writer_Put.grow
    rw [htm, toB_app _ f r hfl]
    by_cases hr0 : r = []
    · subst hr0
      rw [if_pos (by simp), toB_nil, List.append_nil, if_pos (by omega)]
      rfl
    · have : 0 < r.length := List.length_pos_iff.2 hr0
      rw [if_neg (by omega), toB_short hr0 (by omega)]
  have hroom : wrap64 (8 - Int.tmod ((f ++ r).length : Int) 8) = ((8 - r.length : Nat) : Int) := by rw [htm, w64 (by omega) (by omega)]; omega
  have hmn : mn (wrap64 (8 - Int.tmod ((f ++ r).length : Int) 8)) (left : Int) = (m : Int) := by rw [hroom]; unfold mn; split <;> omega
  have hl1 : wrap64 ((left : Int) - (m : Int)) = ((left - m : Nat) : Int) := by rw [w64 (by omega) (by omega)]; omega
  have hylen : ((toB f ++ [num (pad8 r)]).length : Int) = ((toB f).length : Int) + 1 := by simp
  have hl2 : wrap64 (((toB f ++ [num (pad8 r)]).length : Int) - 1) = ((toB f).length : Int) := by
    rw [hylen, w64 (by omega) (by omega)]; omega
  have hsh : wrap64 (wrap64 (8 - Int.tmod ((f ++ r).length : Int) 8) - (m : Int)) = ((8 - r.length - m : Nat) : Int) := by rw [hroom, w64 (by omega) (by omega)]; omega
  have hp : wrap64 (((f ++ r).length : Int) + (m : Int)) = (((f ++ r).length + m : Nat) : Int) := by rw [w64 (by omega) (by omega)]; omega
  have hrd : rd (toB f ++ [num (pad8 r)]) ((toB f).length : Int) = num (pad8 r) := rd_at _ _ _
  have hset : ∀ z : Int, (toB f ++ [num (pad8 r)]).set (((toB f).length : Int)).toNat z = toB f ++ [z] := fun z => by rw [Int.toNat_natCast]; exact set_at _ _ _ _
  have hlt : ((toB f).length : Int) < ((toB f ++ [num (pad8 r)]).length : Int) := by rw [hylen]; omega
  have hne : ¬ ((left : Int) = 0) := by omega
  have e2 : (((f ++ r).length + m : Nat) : Int) = ((f ++ r ++ digs (n / 2 ^ (left - m)) m).length : Int) := by simp only [List.length_append, digs_len]
  have hne2 : r ++ digs (n / 2 ^ (left - m)) m ≠ [] := by
    intro e
    have h := congrArg List.length e
    rw [List.length_append, digs_len] at h
    exact absurd (Nat.add_eq_zero_iff.1 h).2 (Nat.one_le_iff_ne_zero.1 hm1)
  have hl9 : (r ++ digs (n / 2 ^ (left - m)) m).length ≤ 8 := by rw [List.length_append, digs_len]; exact hrm
  have e1 : toB f ++ [num (pad8 (r ++ digs (n / 2 ^ (left - m)) m))] = toB (f ++ r ++ digs (n / 2 ^ (left - m)) m) := by
    rw [List.append_assoc, toB_app _ f _ hfl, toB_short hne2 hl9]
  have hpart := part_eq (n / 2 ^ (left - m)) (m := m) hm1 hm9
  have hs64 := shr_u64' n (s := left - m) hll2
  have hx : 0 ≤ n / 2 ^ (left - m) % 2 ^ m ∧ n / 2 ^ (left - m) % 2 ^ m < 2 ^ m := ⟨Int.emod_nonneg _ (Int.ne_of_gt (pow2_pos m)), Int.emod_lt_of_pos _ (pow2_pos m)⟩
  simp only [bits_Writer_Put.l0]
  rw [if_neg hne, hy]
  simp only [Option.bind_some]
  rw [hmn, hl1, hl2, hsh, hp]
  rw [if_pos (Int.natCast_nonneg _), if_pos (Int.natCast_nonneg _), if_pos (Int.natCast_nonneg _), if_pos hlt, if_pos (Int.natCast_nonneg _), hrd, hset, hs64, hpart, put_or r _ m hm1 hrm hx, digs_mod, e1, e2]
theorem put_l0 : ∀ (left fuel : Nat) (n : Int) (l : List Bool), left ≤ 64 → left < fuel → l.length + left < 70368744177664 → bits_Writer_Put.l0 fuel n (left : Int) (toB l) (l.length : Int) = some (toB (l ++ digs n left), ((l.length + left : Nat) : Int)) := by
  intro left
  induction left using Nat.strongRecOn with
  | _ left ih =>
  intro fuel n l hl hf hll
  obtain ⟨k, rfl⟩ : ∃ k, fuel = k + 1 := ⟨fuel - 1, by omega⟩
  by_cases h0 : left = 0
  · subst h0
    have e0 : ((0 : Nat) : Int) = 0 := rfl
    simp only [bits_Writer_Put.l0]
    rw [e0, if_pos (rfl : (0 : Int) = 0)]
    simp [digs]
  obtain ⟨m, hm⟩ : ∃ m : Nat, m = min (8 - l.length % 8) left := ⟨_, rfl⟩
  have hm1 : 1 ≤ m := by omega
  have hm2 : m ≤ left := by omega
  have a1 : left - m < left := by omega
  have a2 : left - m ≤ 64 := by omega
  have a3 : left - m < k := by omega
  have a5 : l.length + m + (left - m) < 70368744177664 := by omega
  have a6 : l.length + m + (left - m) = l.length + left := by omega
  have a7 : m + (left - m) = left := by omega
  have hlen : (l ++ digs (n / 2 ^ (left - m)) m).length = l.length + m := by rw [List.length_append, digs_len]
  rw [put_step k n left l m hm (by omega) hl (by omega), ih (left - m) a1 k n _ a2 a3 (by rw [hlen]; exact a5), hlen, a6, List.append_assoc, ← digs_add, a7]
def WB (l : List Bool) : ByteArray := ofB (toB l)
theorem bytes_WB (l : List Bool) : bytesOf (WB l) = toB l := bytes_ofB (toB_bd l)
theorem WB_nil : WB [] = ⟨#[]⟩ := rfl
theorem put_eq (l : List Bool) (n w : Int) (hl : l.length < 70368744177600) : bits_Writer_Put.f (WB l) (l.length : Int) n w = some (WB (l ++ digs n (hw w)), ((l ++ digs n (hw w)).length : Int)) := by
  unfold bits_Writer_Put.f
  rw [held_eq, bytes_WB]
  simp only [Option.bind_some]
  rw [put_l0 (hw w) 80 n l (hw_le w) (by have := hw_le w; omega) (by have := hw_le w; omega)]
  simp [WB, digs_len]
theorem len_eq (l : List Bool) : bits_Writer_Len.f (WB l) (l.length : Int) = some ((l.length : Int), WB l, (l.length : Int)) := rfl
theorem bytes_eq (l : List Bool) (hl : l.length < 70368744177664) : bits_Writer_Bytes.f (WB l) (l.length : Int) = some (toB l, WB l, (l.length : Int)) := by
  unfold bits_Writer_Bytes.f bytes_Clone.f
  rw [bytes_WB]
  simp only [Option.bind_some, List.length_nil, List.nil_append]
  rw [if_pos (by rw [toB_len]; omega)]
  rfl
end Go.Proofs.Ytokdjeoecnnckaa.PL
end
section
namespace Go.Proofs.Ytokdjeoecnnckaa.PA
open Go.RowKit Go.Proofs.YtokdjeoecnnckaaW.PrintWords Go.Proofs.YtokdjeoecnnckaaW.PrintLast Go.Proofs.YtokdjeoecnnckaaW.PrintMore
attribute [local go_sem] max2_int min2_int max_two min_two max_three min_three max_four min_four   -- for this text's walks alone
set_option linter.unusedVariables false
set_option linter.unusedSimpArgs false

def section_size.f (a0 : Bool) : Option (Int) := if a0 = true then (some 5) else (some 4)
set_option maxHeartbeats 8000000 in
set_option maxRecDepth 100000 in
theorem section_size.calls (a0 : Bool) (r : Int) (w : World) (h : section_size.f a0 = some r) :
    Calls Try.prog 26 #[.bool a0] w fun e w' => e = .returned (.int .i64 r) ∧ Drawn0 w w' := by
  have H : (if a0 = true then (some 5) else (some 4)) = some r := h
  clear h
  by_cases c2 : a0 = true
  · subst c2
    have H1 : (some 5) = some r := by rw [if_pos rfl] at H; exact H
    clear H
    have H := H1
    clear H1
    obtain rfl := Option.some.inj H
    go_enter Try.func26, Try.ntmps26
    go_wp2
    go_ret
    exact ⟨by first | rfl | (simp; done) | (simp [*]; done), by repeat (first | exact Drawn0.refl _ | apply Drawn0.step)⟩
  · replace c2 := Bool.eq_false_iff.mpr c2
    subst c2
    have H1 : (some 4) = some r := by rw [if_neg (show ¬ (false = true) by decide)] at H; exact H
    clear H
    have H := H1
    clear H1
    obtain rfl := Option.some.inj H
    go_enter Try.func26, Try.ntmps26
    go_wp2
    go_ret
    exact ⟨by first | rfl | (simp; done) | (simp [*]; done), by repeat (first | exact Drawn0.refl _ | apply Drawn0.step)⟩

def rice_Put.l0 : Nat → Int → Int → Int → ByteArray → Int → Option (Int × ByteArray × Int)
  | 0, _, _, _, _, _ => none
  | k + 1, x2, x7, x8, x1000, x1001 => if x8 > 64 then ((bits_Writer_Put.f x1000 x1001 0 64).bind fun bt152 => (rice_Put.l0 k x2 x7 (wrap64 (x8 - 64)) bt152.1 bt152.2)) else ((bits_Writer_Put.f x1000 x1001 0 x8).bind fun bt154 => ((bits_Writer_Put.f bt154.1 bt154.2 1 1).bind fun bt156 => ((bits_Writer_Put.f bt156.1 bt156.2 x7 x2).bind fun bt158 => (some (0, bt158.1, bt158.2)))))
def rice_Put.f (k : Nat) (s0_0 : ByteArray) (s0_1 : Int) (a1 : Int) (a2 : Int) : Option (Int × ByteArray × Int) := (rice_held.f a2).bind fun t149 => ((rice_Fold.f a1).bind fun t150 => (if 0 ≤ t149 then ((rice_Near.f a1).bind fun t151 => (if t151 = true then (if (wrap64 (shr .u64 t150 t149)) > 65535 then (some (7, s0_0, s0_1)) else (rice_Put.l0 k t149 t150 (wrap64 (shr .u64 t150 t149)) s0_0 s0_1)) else (some (6, s0_0, s0_1)))) else (none)))
set_option maxHeartbeats 8000000 in
set_option maxRecDepth 100000 in
theorem rice_Put.calls (k : Nat) (g : Nat) (s0_0 : ByteArray) (s0_1 : Int) (a1 : Int) (a2 : Int) (r1 : Int) (r2 : ByteArray) (r3 : Int) (w0 w : World) (hI : zI w0 w g s0_0 s0_1) (hB : Below w0.heap.size w0 w) (h : rice_Put.f k s0_0 s0_1 a1 a2 = some (r1, r2, r3)) :
    Calls Try.prog 27 #[.pointer (some ⟨g, 0, none⟩), .int .i64 a1, .int .i64 a2] w fun e w' => e = .returned (.int .i64 r1) ∧ zI w0 w' g r2 r3 ∧ Below w0.heap.size w0 w' ∧ KBe w0 w w' g := by
  have HI0 := zG.mk hI
  have HK := zG.mk (KBe.refl w0 hI)
  have HL := zG.mk hB.size
  clear hI
  have HW0 := zG.mk hB.size
  have HB := zG.mk hB
  clear hB
  have H : ((rice_held.f a2).bind fun t101 => ((rice_Fold.f a1).bind fun t102 => (if 0 ≤ t101 then ((rice_Near.f a1).bind fun t103 => (if t103 = true then (if (wrap64 (shr .u64 t102 t101)) > 65535 then (some (7, s0_0, s0_1)) else (rice_Put.l0 k t101 t102 (wrap64 (shr .u64 t102 t101)) s0_0 s0_1)) else (some (6, s0_0, s0_1)))) else (none)))) = some (r1, r2, r3) := h
  clear h
  replace H := Option.bind_eq_some_iff.mp H
  obtain ⟨t101, A40, H⟩ := H
  replace H : ((rice_Fold.f a1).bind fun t102 => (if 0 ≤ t101 then ((rice_Near.f a1).bind fun t103 => (if t103 = true then (if (wrap64 (shr .u64 t102 t101)) > 65535 then (some (7, s0_0, s0_1)) else (rice_Put.l0 k t101 t102 (wrap64 (shr .u64 t102 t101)) s0_0 s0_1)) else (some (6, s0_0, s0_1)))) else (none))) = some (r1, r2, r3) := H
  have A4 := zG.mk A40
  clear A40
  replace H := Option.bind_eq_some_iff.mp H
  obtain ⟨t102, A50, H⟩ := H
  replace H : (if 0 ≤ t101 then ((rice_Near.f a1).bind fun t103 => (if t103 = true then (if (wrap64 (shr .u64 t102 t101)) > 65535 then (some (7, s0_0, s0_1)) else (rice_Put.l0 k t101 t102 (wrap64 (shr .u64 t102 t101)) s0_0 s0_1)) else (some (6, s0_0, s0_1)))) else (none)) = some (r1, r2, r3) := H
  have A5 := zG.mk A50
  clear A50
  go_enter Try.func27, Try.ntmps27
  go_wp2
  refine wp_scope_ghost_k 0 rfl (fun kq a_ w' => ∃ v1_ v3_ v4_ v5_ v6_ v8 v9_ v10_ v11_ v12_ v13_ v14_ v15_ v16_ v17_ v18_ v19_ v20_ v21_ v22_ v23_ v24_ v25_ v26_ v27_ v28_ v29_ v30_ v31_ v32_ v33_ v34_ v35_ v36_ v37_ v38_ : Value, (∃ (x8_1 : Int) (x1000_1 : ByteArray) (x1001_1 : Int), v8 = .int .i64 x8_1 ∧ zG (rice_Put.l0 kq t101 t102 x8_1 x1000_1 x1001_1 = some (r1, r2, r3)) ∧ zG (kq ≤ kq) ∧ zG (zI w0 w' g x1000_1 x1001_1) ∧ zG (KBe w0 w w' g) ∧ zG (Below w0.heap.size w0 w')) ∧ a_ = { tmps := #[.pointer (some ⟨g, 0, none⟩), v1_, .int .i64 t101, v3_, v4_, v5_, v6_, .int .u64 t102, v8, v9_, v10_, v11_, v12_, v13_, v14_, v15_, v16_, v17_, v18_, v19_, v20_, v21_, v22_, v23_, v24_, v25_, v26_, v27_, v28_, v29_, v30_, v31_, v32_, v33_, v34_, v35_, v36_, v37_, v38_], defers := [] }) ?round ?first
  case round =>
    rintro gk a_ wr ⟨u1_, u3_, u4_, u5_, u6_, u8, u9_, u10_, u11_, u12_, u13_, u14_, u15_, u16_, u17_, u18_, u19_, u20_, u21_, u22_, u23_, u24_, u25_, u26_, u27_, u28_, u29_, u30_, u31_, u32_, u33_, u34_, u35_, u36_, u37_, u38_, hrel, rfl⟩ J_ K_ hJ_ hK_
    try clear c1
    try clear c2
    try clear p2
    try clear c3
    try clear c6
    try clear c6b0
    try clear c6b1
    try clear p6
    try clear c9
    try clear c10
    try clear c10b0
    obtain ⟨x8_1, x1000_1, x1001_1, rfl, HA, HK1, HI0, HK, HB⟩ := hrel
    cases gk with
    | zero => exact absurd HA.out (by simp [rice_Put.l0])
    | succ k1 =>
      have H := HA.out
      clear HA
      simp only [rice_Put.l0] at H
      by_cases c13 : x8_1 > 64
      · rw [if_pos c13] at H
        have c13b0 : decide (64 < x8_1) = true := decide_eq_true c13
        clear c13
        replace H := Option.bind_eq_some_iff.mp H
        obtain ⟨⟨t104, t105⟩, A140, H⟩ := H
        replace H : (rice_Put.l0 k1 t101 t102 (wrap64 (x8_1 - 64)) t104 t105) = some (r1, r2, r3) := H
        have A14 := zG.mk A140
        clear A140
        have H' := zG.mk H
        clear H
        go_wp2_with (first | ((with_reducible refine gate_callee (f := 25) rfl ?_); refine goesL_ (some 27) rfl rfl Try.func25 (by kernel_rfl) rfl #[.pointer (some ⟨g, 0, none⟩), .int .u64 0, .int .i64 64] rfl (by (try simp only [List.map_toArray, List.map_cons, List.map_nil]); first | done | rfl | (simp only [List.length_drop, List.length_take]; rfl)) ?_; (with_reducible refine (bits_Writer_Put.calls g x1000_1 x1001_1 0 64 t104 t105 w0 _ ?side1 ?side2 A14.out).mono ?_); (case side1 => repeat (first | (with_reducible first | exact HI0.out | apply zI.alloc | apply zI.drewN | apply zI.drew | apply zI.set_0 | apply zI.set_1) | exact HI0.out)); (case side2 => repeat (first | (with_reducible first | exact HB.out | apply zF | apply zC | apply zD | refine zE ?_ (zI.ge HI0.out)) | exact HB.out)); rintro e w15 ⟨rfl, hi, hb, hk⟩; refine ⟨_, rfl, ?_⟩; have n0_ := zG.mk (KBe.trans (by repeat (first | (with_reducible first | exact HK.out | apply KBe.drewN | apply KBe.drew | apply KBe.alloc) | exact HK.out)) hk); have n1_ := zG.mk (hb); have n2_ := zG.mk (hi); clear HK; clear HB; clear HI0; have HK := n0_; have HB := n1_; have HI0 := n2_; clear n0_ n1_ n2_; (try clear hb); (try clear hb2); (try clear hk); (try clear hi)))
        go_step3
        refine ⟨rfl, hK_ _ _ ?_⟩
        go_roundg k1
        case measure => have := HK1.out; omega
        case rel => exact ⟨(wrap64 (x8_1 - 64)), (t104), (t105), (by first | rfl | (simp; done) | (simp only [i64_w, i32_w]; done) | (simp [*]; done) | (simp only [i64_w, i32_w]; first | rfl | (simp; done) | (simp [*]; done))), H', ⟨by have := HK1.out; omega⟩, ⟨by repeat (first | (with_reducible first | exact HI0.out | apply zI.alloc | apply zI.drewN | apply zI.drew | apply zI.set_0 | apply zI.set_1) | exact HI0.out)⟩, ⟨by repeat (first | (with_reducible first | exact HK.out | apply KBe.drewN | apply KBe.drew | apply KBe.alloc) | exact HK.out)⟩, ⟨by repeat (first | (with_reducible first | exact HB.out | apply zF | apply zC | apply zD | refine zE ?_ (zI.ge HI0.out)) | exact HB.out)⟩⟩
      · rw [if_neg c13] at H
        have c13b0 : decide (64 < x8_1) = false := decide_eq_false c13
        clear c13
        replace H := Option.bind_eq_some_iff.mp H
        obtain ⟨⟨t106, t107⟩, A160, H⟩ := H
        replace H : ((bits_Writer_Put.f t106 t107 1 1).bind fun bt108 => ((bits_Writer_Put.f bt108.1 bt108.2 t102 t101).bind fun bt110 => (some (0, bt110.1, bt110.2)))) = some (r1, r2, r3) := H
        have A16 := zG.mk A160
        clear A160
        replace H := Option.bind_eq_some_iff.mp H
        obtain ⟨⟨t108, t109⟩, A170, H⟩ := H
        replace H : ((bits_Writer_Put.f t108 t109 t102 t101).bind fun bt110 => (some (0, bt110.1, bt110.2))) = some (r1, r2, r3) := H
        have A17 := zG.mk A170
        clear A170
        replace H := Option.bind_eq_some_iff.mp H
        obtain ⟨⟨t110, t111⟩, A180, H⟩ := H
        replace H : (some (0, t110, t111)) = some (r1, r2, r3) := H
        have A18 := zG.mk A180
        clear A180
        simp only [Option.some.injEq, Prod.mk.injEq] at H
        obtain ⟨rfl, rfl, rfl⟩ := H
        go_wp2_with (first | ((with_reducible refine gate_callee (f := 25) rfl ?_); refine goesL_ (some 32) rfl rfl Try.func25 (by kernel_rfl) rfl #[.pointer (some ⟨g, 0, none⟩), .int .u64 0, .int .i64 x8_1] rfl (by (try simp only [List.map_toArray, List.map_cons, List.map_nil]); first | done | rfl | (simp only [List.length_drop, List.length_take]; rfl)) ?_; (with_reducible refine (bits_Writer_Put.calls g x1000_1 x1001_1 0 x8_1 t106 t107 w0 _ ?side1 ?side2 A16.out).mono ?_); (case side1 => repeat (first | (with_reducible first | exact HI0.out | apply zI.alloc | apply zI.drewN | apply zI.drew | apply zI.set_0 | apply zI.set_1) | exact HI0.out)); (case side2 => repeat (first | (with_reducible first | exact HB.out | apply zF | apply zC | apply zD | refine zE ?_ (zI.ge HI0.out)) | exact HB.out)); rintro e w19 ⟨rfl, hi, hb, hk⟩; refine ⟨_, rfl, ?_⟩; have n0_ := zG.mk (KBe.trans (by repeat (first | (with_reducible first | exact HK.out | apply KBe.drewN | apply KBe.drew | apply KBe.alloc) | exact HK.out)) hk); have n1_ := zG.mk (hb); have n2_ := zG.mk (hi); clear HK; clear HB; clear HI0; have HK := n0_; have HB := n1_; have HI0 := n2_; clear n0_ n1_ n2_; (try clear hb); (try clear hb2); (try clear hk); (try clear hi)) | ((with_reducible refine gate_callee (f := 25) rfl ?_); refine goesL_ (some 34) rfl rfl Try.func25 (by kernel_rfl) rfl #[.pointer (some ⟨g, 0, none⟩), .int .u64 1, .int .i64 1] rfl (by (try simp only [List.map_toArray, List.map_cons, List.map_nil]); first | done | rfl | (simp only [List.length_drop, List.length_take]; rfl)) ?_; (with_reducible refine (bits_Writer_Put.calls g t106 t107 1 1 t108 t109 w0 _ ?side1 ?side2 A17.out).mono ?_); (case side1 => repeat (first | (with_reducible first | exact HI0.out | apply zI.alloc | apply zI.drewN | apply zI.drew | apply zI.set_0 | apply zI.set_1) | exact HI0.out)); (case side2 => repeat (first | (with_reducible first | exact HB.out | apply zF | apply zC | apply zD | refine zE ?_ (zI.ge HI0.out)) | exact HB.out)); rintro e w20 ⟨rfl, hi, hb, hk⟩; refine ⟨_, rfl, ?_⟩; have n0_ := zG.mk (KBe.trans (by repeat (first | (with_reducible first | exact HK.out | apply KBe.drewN | apply KBe.drew | apply KBe.alloc) | exact HK.out)) hk); have n1_ := zG.mk (hb); have n2_ := zG.mk (hi); clear HK; clear HB; clear HI0; have HK := n0_; have HB := n1_; have HI0 := n2_; clear n0_ n1_ n2_; (try clear hb); (try clear hb2); (try clear hk); (try clear hi)) | ((with_reducible refine gate_callee (f := 25) rfl ?_); refine goesL_ (some 38) rfl rfl Try.func25 (by kernel_rfl) rfl #[.pointer (some ⟨g, 0, none⟩), .int .u64 t102, .int .i64 t101] rfl (by (try simp only [List.map_toArray, List.map_cons, List.map_nil]); first | done | rfl | (simp only [List.length_drop, List.length_take]; rfl)) ?_; (with_reducible refine (bits_Writer_Put.calls g t108 t109 t102 t101 t110 t111 w0 _ ?side1 ?side2 A18.out).mono ?_); (case side1 => repeat (first | (with_reducible first | exact HI0.out | apply zI.alloc | apply zI.drewN | apply zI.drew | apply zI.set_0 | apply zI.set_1) | exact HI0.out)); (case side2 => repeat (first | (with_reducible first | exact HB.out | apply zF | apply zC | apply zD | refine zE ?_ (zI.ge HI0.out)) | exact HB.out)); rintro e w21 ⟨rfl, hi, hb, hk⟩; refine ⟨_, rfl, ?_⟩; have n0_ := zG.mk (KBe.trans (by repeat (first | (with_reducible first | exact HK.out | apply KBe.drewN | apply KBe.drew | apply KBe.alloc) | exact HK.out)) hk); have n1_ := zG.mk (hb); have n2_ := zG.mk (hi); clear HK; clear HB; clear HI0; have HK := n0_; have HB := n1_; have HI0 := n2_; clear n0_ n1_ n2_; (try clear hb); (try clear hb2); (try clear hk); (try clear hi)))
        (try simp only [Exit.jump])
        go_ret
        exact ⟨by first | rfl | (simp [errW_none, errW_some] <;> rfl) | (simp only [← hji7]; first | rfl | (simp [errW_none, errW_some] <;> rfl)) | (simp [*, errW_none, errW_some] <;> rfl), by repeat (first | (with_reducible first | exact HI0.out | apply zI.alloc | apply zI.drewN | apply zI.drew | apply zI.set_0 | apply zI.set_1) | exact HI0.out), by repeat (first | (with_reducible first | exact HB.out | apply zF | apply zC | apply zD | refine zE ?_ (zI.ge HI0.out)) | exact HB.out), by repeat (first | (with_reducible first | exact HK.out | apply KBe.drewN | apply KBe.drew | apply KBe.alloc) | exact HK.out)⟩
  case first =>
    intro K_ hR_
    by_cases c6 : 0 ≤ t101
    · rw [if_pos c6] at H
      have c6b0 := eq_true c6
      have c6b1 : decide (0 ≤ t101) = true := decide_eq_true c6
      clear c6
      obtain ⟨ji7, hji7⟩ : ∃ j_ : Int, (shr .u64 t102 t101) = j_ := ⟨_, rfl⟩
      replace H : ((rice_Near.f a1).bind fun t103 => (if t103 = true then (if (wrap64 (ji7)) > 65535 then (some (7, s0_0, s0_1)) else (rice_Put.l0 k t101 t102 (wrap64 (ji7)) s0_0 s0_1)) else (some (6, s0_0, s0_1)))) = some (r1, r2, r3) := by first | (rw [hji7] at H; exact H) | (simp only [hji7] at H ⊢; exact H)
      (try rw [hji7] at A4)
      (try rw [hji7] at A5)
      have hji7_ : (t102 / 2 ^ min t101.toNat 64) = ji7 := hji7
      have hji7z : t101 ≤ 64 → (t102 / 2 ^ t101.toNat) = ji7 := shr_small hji7
      replace H := Option.bind_eq_some_iff.mp H
      obtain ⟨t103, A80, H⟩ := H
      replace H : (if t103 = true then (if (wrap64 (ji7)) > 65535 then (some (7, s0_0, s0_1)) else (rice_Put.l0 k t101 t102 (wrap64 (ji7)) s0_0 s0_1)) else (some (6, s0_0, s0_1))) = some (r1, r2, r3) := H
      have A8 := zG.mk A80
      clear A80
      by_cases c9 : t103 = true
      · subst c9
        have H1 : (if (wrap64 (ji7)) > 65535 then (some (7, s0_0, s0_1)) else (rice_Put.l0 k t101 t102 (wrap64 (ji7)) s0_0 s0_1)) = some (r1, r2, r3) := by rw [if_pos rfl] at H; exact H
        clear H
        have H := H1
        clear H1
        by_cases c10 : (wrap64 (ji7)) > 65535
        · rw [if_pos c10] at H
          have c10b0 : decide (65535 < (wrap64 (ji7))) = true := decide_eq_true c10
          clear c10
          simp only [Option.some.injEq, Prod.mk.injEq] at H
          obtain ⟨rfl, rfl, rfl⟩ := H
          go_wp2_with (first | ((with_reducible refine gate_callee (f := 46) rfl ?_); refine goesL_ (some 10) rfl rfl Try.func46 (by kernel_rfl) rfl #[.int .i64 a2] rfl (by (try simp only [List.map_toArray, List.map_cons, List.map_nil]); first | done | rfl | (simp only [List.length_drop, List.length_take]; rfl)) ?_; (with_reducible refine (rice_held.calls a2 t101 _ A4.out).mono ?_); rintro e w11 ⟨rfl, hb⟩; refine ⟨_, rfl, ?_⟩; have n0_ := zG.mk (zI.below (by repeat (first | (with_reducible first | exact HI0.out | apply zI.alloc | apply zI.drewN | apply zI.drew | apply zI.set_0 | apply zI.set_1) | exact HI0.out)) hb); have n1_ := zG.mk (KBe.below (by repeat (first | (with_reducible first | exact HK.out | apply KBe.drewN | apply KBe.drew | apply KBe.alloc) | exact HK.out)) hb); have n2_ := zG.mk (below_step (by repeat (first | (with_reducible first | exact HB.out | apply zF | apply zC | apply zD | refine zE ?_ (zI.ge HI0.out)) | exact HB.out)) hb); clear HI0; clear HK; clear HB; have HI0 := n0_; have HK := n1_; have HB := n2_; clear n0_ n1_ n2_; (try clear hb); (try clear hb2); (try clear hk); (try clear hi)) | ((with_reducible refine gate_callee (f := 44) rfl ?_); refine goesL_ (some 12) rfl rfl Try.func44 (by kernel_rfl) rfl #[.int .i64 a1] rfl (by (try simp only [List.map_toArray, List.map_cons, List.map_nil]); first | done | rfl | (simp only [List.length_drop, List.length_take]; rfl)) ?_; (with_reducible refine (rice_Fold.calls a1 t102 _ A5.out).mono ?_); rintro e w' ⟨rfl, ⟨nd, rfl⟩⟩; refine ⟨_, rfl, ?_⟩) | ((with_reducible refine gate_callee (f := 47) rfl ?_); refine goesL_ (some 19) rfl rfl Try.func47 (by kernel_rfl) rfl #[.int .i64 a1] rfl (by (try simp only [List.map_toArray, List.map_cons, List.map_nil]); first | done | rfl | (simp only [List.length_drop, List.length_take]; rfl)) ?_; (with_reducible refine (rice_Near.calls a1 true _ A8.out).mono ?_); rintro e w' ⟨rfl, ⟨nd, rfl⟩⟩; refine ⟨_, rfl, ?_⟩))
          (try simp only [Exit.jump])
          go_ret
          exact ⟨by first | rfl | (simp [errW_none, errW_some] <;> rfl) | (simp only [← hji7]; first | rfl | (simp [errW_none, errW_some] <;> rfl)) | (simp [*, errW_none, errW_some] <;> rfl), by repeat (first | (with_reducible first | exact HI0.out | apply zI.alloc | apply zI.drewN | apply zI.drew | apply zI.set_0 | apply zI.set_1) | exact HI0.out), by repeat (first | (with_reducible first | exact HB.out | apply zF | apply zC | apply zD | refine zE ?_ (zI.ge HI0.out)) | exact HB.out), by repeat (first | (with_reducible first | exact HK.out | apply KBe.drewN | apply KBe.drew | apply KBe.alloc) | exact HK.out)⟩
        · rw [if_neg c10] at H
          have c10b0 : decide (65535 < (wrap64 (ji7))) = false := decide_eq_false c10
          clear c10
          have H' := zG.mk H
          clear H
          go_wp2_with (first | ((with_reducible refine gate_callee (f := 46) rfl ?_); refine goesL_ (some 10) rfl rfl Try.func46 (by kernel_rfl) rfl #[.int .i64 a2] rfl (by (try simp only [List.map_toArray, List.map_cons, List.map_nil]); first | done | rfl | (simp only [List.length_drop, List.length_take]; rfl)) ?_; (with_reducible refine (rice_held.calls a2 t101 _ A4.out).mono ?_); rintro e w12 ⟨rfl, hb⟩; refine ⟨_, rfl, ?_⟩; have n0_ := zG.mk (zI.below (by repeat (first | (with_reducible first | exact HI0.out | apply zI.alloc | apply zI.drewN | apply zI.drew | apply zI.set_0 | apply zI.set_1) | exact HI0.out)) hb); have n1_ := zG.mk (KBe.below (by repeat (first | (with_reducible first | exact HK.out | apply KBe.drewN | apply KBe.drew | apply KBe.alloc) | exact HK.out)) hb); have n2_ := zG.mk (below_step (by repeat (first | (with_reducible first | exact HB.out | apply zF | apply zC | apply zD | refine zE ?_ (zI.ge HI0.out)) | exact HB.out)) hb); clear HI0; clear HK; clear HB; have HI0 := n0_; have HK := n1_; have HB := n2_; clear n0_ n1_ n2_; (try clear hb); (try clear hb2); (try clear hk); (try clear hi)) | ((with_reducible refine gate_callee (f := 44) rfl ?_); refine goesL_ (some 12) rfl rfl Try.func44 (by kernel_rfl) rfl #[.int .i64 a1] rfl (by (try simp only [List.map_toArray, List.map_cons, List.map_nil]); first | done | rfl | (simp only [List.length_drop, List.length_take]; rfl)) ?_; (with_reducible refine (rice_Fold.calls a1 t102 _ A5.out).mono ?_); rintro e w' ⟨rfl, ⟨nd, rfl⟩⟩; refine ⟨_, rfl, ?_⟩) | ((with_reducible refine gate_callee (f := 47) rfl ?_); refine goesL_ (some 19) rfl rfl Try.func47 (by kernel_rfl) rfl #[.int .i64 a1] rfl (by (try simp only [List.map_toArray, List.map_cons, List.map_nil]); first | done | rfl | (simp only [List.length_drop, List.length_take]; rfl)) ?_; (with_reducible refine (rice_Near.calls a1 true _ A8.out).mono ?_); rintro e w' ⟨rfl, ⟨nd, rfl⟩⟩; refine ⟨_, rfl, ?_⟩))
          go_wp2
          go_step3
          go_step
          go_step
          refine hR_ k _ _ ?_
          repeat apply Exists.intro
          refine ⟨?_, rfl⟩
          exact ⟨(wrap64 (ji7)), (s0_0), (s0_1), (by first | rfl | (simp; done) | (simp only [← hji7] <;> (first | rfl | simp)) | (simp [*]; done)), H', ⟨Nat.le_refl _⟩, ⟨by repeat (first | (with_reducible first | exact HI0.out | apply zI.alloc | apply zI.drewN | apply zI.drew | apply zI.set_0 | apply zI.set_1) | exact HI0.out)⟩, ⟨by repeat (first | (with_reducible first | exact HK.out | apply KBe.drewN | apply KBe.drew | apply KBe.alloc) | exact HK.out)⟩, ⟨by repeat (first | (with_reducible first | exact HB.out | apply zF | apply zC | apply zD | refine zE ?_ (zI.ge HI0.out)) | exact HB.out)⟩⟩
      · replace c9 := Bool.eq_false_iff.mpr c9
        subst c9
        have H1 : (some (6, s0_0, s0_1)) = some (r1, r2, r3) := by rw [if_neg (show ¬ (false = true) by decide)] at H; exact H
        clear H
        have H := H1
        clear H1
        simp only [Option.some.injEq, Prod.mk.injEq] at H
        obtain ⟨rfl, rfl, rfl⟩ := H
        go_wp2_with (first | ((with_reducible refine gate_callee (f := 46) rfl ?_); refine goesL_ (some 10) rfl rfl Try.func46 (by kernel_rfl) rfl #[.int .i64 a2] rfl (by (try simp only [List.map_toArray, List.map_cons, List.map_nil]); first | done | rfl | (simp only [List.length_drop, List.length_take]; rfl)) ?_; (with_reducible refine (rice_held.calls a2 t101 _ A4.out).mono ?_); rintro e w22 ⟨rfl, hb⟩; refine ⟨_, rfl, ?_⟩; have n0_ := zG.mk (zI.below (by repeat (first | (with_reducible first | exact HI0.out | apply zI.alloc | apply zI.drewN | apply zI.drew | apply zI.set_0 | apply zI.set_1) | exact HI0.out)) hb); have n1_ := zG.mk (KBe.below (by repeat (first | (with_reducible first | exact HK.out | apply KBe.drewN | apply KBe.drew | apply KBe.alloc) | exact HK.out)) hb); have n2_ := zG.mk (below_step (by repeat (first | (with_reducible first | exact HB.out | apply zF | apply zC | apply zD | refine zE ?_ (zI.ge HI0.out)) | exact HB.out)) hb); clear HI0; clear HK; clear HB; have HI0 := n0_; have HK := n1_; have HB := n2_; clear n0_ n1_ n2_; (try clear hb); (try clear hb2); (try clear hk); (try clear hi)) | ((with_reducible refine gate_callee (f := 44) rfl ?_); refine goesL_ (some 12) rfl rfl Try.func44 (by kernel_rfl) rfl #[.int .i64 a1] rfl (by (try simp only [List.map_toArray, List.map_cons, List.map_nil]); first | done | rfl | (simp only [List.length_drop, List.length_take]; rfl)) ?_; (with_reducible refine (rice_Fold.calls a1 t102 _ A5.out).mono ?_); rintro e w' ⟨rfl, ⟨nd, rfl⟩⟩; refine ⟨_, rfl, ?_⟩) | ((with_reducible refine gate_callee (f := 47) rfl ?_); refine goesL_ (some 19) rfl rfl Try.func47 (by kernel_rfl) rfl #[.int .i64 a1] rfl (by (try simp only [List.map_toArray, List.map_cons, List.map_nil]); first | done | rfl | (simp only [List.length_drop, List.length_take]; rfl)) ?_; (with_reducible refine (rice_Near.calls a1 false _ A8.out).mono ?_); rintro e w' ⟨rfl, ⟨nd, rfl⟩⟩; refine ⟨_, rfl, ?_⟩))
        (try simp only [Exit.jump])
        go_ret
        exact ⟨by first | rfl | (simp [errW_none, errW_some] <;> rfl) | (simp only [← hji7]; first | rfl | (simp [errW_none, errW_some] <;> rfl)) | (simp [*, errW_none, errW_some] <;> rfl), by repeat (first | (with_reducible first | exact HI0.out | apply zI.alloc | apply zI.drewN | apply zI.drew | apply zI.set_0 | apply zI.set_1) | exact HI0.out), by repeat (first | (with_reducible first | exact HB.out | apply zF | apply zC | apply zD | refine zE ?_ (zI.ge HI0.out)) | exact HB.out), by repeat (first | (with_reducible first | exact HK.out | apply KBe.drewN | apply KBe.drew | apply KBe.alloc) | exact HK.out)⟩
    · rw [if_neg c6] at H
      exact absurd H (by simp)
end Go.Proofs.Ytokdjeoecnnckaa.PA
end
section
namespace Go.Proofs.Ytokdjeoecnnckaa.PL
open Go Go.RowKit Go.Proofs.Ytokdjeoecnnckaa.PA Go.Proofs.YtokdjeoecnnckaaW.PrintWords Go.Proofs.YtokdjeoecnnckaaW.PrintMore
set_option linter.unusedSimpArgs false
set_option linter.unusedVariables false
def putB (n : Int) (k : Nat) : List Bool := List.replicate (fold n / 2 ^ k).toNat false ++ (true :: digs (fold n) k)
theorem putB_len (n : Int) (k : Nat) : (putB n k).length = (fold n / 2 ^ k).toNat + 1 + k := by
  unfold putB; rw [List.length_append, List.length_replicate, List.length_cons, digs_len]; omega
theorem hw_zero_digs (z : Nat) (h : z ≤ 64) : digs 0 (hw (z : Int)) = List.replicate z false := by rw [hw_nat h, digs_zero]
theorem rput_l0 (u : Int) (k : Nat) (hk : k ≤ 30) : ∀ (z : Nat) (l : List Bool), l.length + z < 1099511627776 →
    Ev (fun q => rice_Put.l0 q (k : Int) u (z : Int) (WB l) (l.length : Int)) (0, WB (l ++ (List.replicate z false ++ (true :: digs u k))), ((l ++ (List.replicate z false ++ (true :: digs u k))).length : Int)) := by
  intro z
  induction z using Nat.strongRecOn with
  | _ z ih =>
  intro l hl
  have e64 : digs 0 (hw 64) = List.replicate 64 false := hw_zero_digs 64 (by decide)
  have e1 : digs 1 (hw 1) = [true] := by decide
  have ek : hw (k : Int) = k := hw_nat (by omega)
  have p1 := put_eq l 0 64 (by omega)
  rw [e64] at p1
  by_cases hz : z > 64
  · have c : (z : Int) > 64 := by omega
    have hi := ih (z - 64) (by omega) (l ++ List.replicate 64 false) (by rw [List.length_append, List.length_replicate]; omega)
    have e3 : l ++ List.replicate 64 false ++ (List.replicate (z - 64) false ++ (true :: digs u k)) = l ++ (List.replicate z false ++ (true :: digs u k)) := by
      rw [List.append_assoc, ← List.append_assoc (List.replicate 64 false), List.replicate_append_replicate, show 64 + (z - 64) = z by omega]
    rw [e3] at hi
    have e2 : wrap64 ((z : Int) - 64) = ((z - 64 : Nat) : Int) := by rw [w64 (by omega) (by omega)]; omega
    refine succ ?_
    simp only [rice_Put.l0]
    rw [p1, e2]
    exact pos c hi
  · have c : ¬ (z : Int) > 64 := by omega
    have p2 := put_eq l 0 (z : Int) (by omega)
    rw [hw_zero_digs z (by omega)] at p2
    have p3 := put_eq (l ++ List.replicate z false) 1 1 (by rw [List.length_append, List.length_replicate]; omega)
    rw [e1] at p3
    have p4 := put_eq (l ++ List.replicate z false ++ [true]) u (k : Int) (by rw [List.length_append, List.length_append, List.length_replicate, List.length_singleton]; omega)
    rw [ek] at p4
    have e3 : l ++ List.replicate z false ++ [true] ++ digs u k = l ++ (List.replicate z false ++ (true :: digs u k)) := by simp
    rw [e3] at p4
    refine succ ?_
    simp only [rice_Put.l0]
    refine neg c ?_
    rw [p2]
    simp only [Option.bind_some]
    rw [p3]
    simp only [Option.bind_some]
    rw [p4]
    exact now _
def rputR (l : List Bool) (n : Int) (k : Nat) : Int × List Bool :=
  if ¬ IsNear n then (6, l) else if fold n / 2 ^ k > 65535 then (7, l) else (0, l ++ putB n k)
theorem rput_ev (l : List Bool) (n k : Int) (hn : -9223372036854775808 ≤ n ∧ n < 9223372036854775808) (hl : l.length < 1099511000000) :
    Ev (fun q => rice_Put.f q (WB l) (l.length : Int) n k) ((rputR l n (kk k)).1, WB (rputR l n (kk k)).2, ((rputR l n (kk k)).2.length : Int)) := by
  have hk := kk_le k
  unfold rice_Put.f rice_held.f
  rw [kk_eq, fold_eq n hn, near_eq]
  simp only [Option.bind_some]
  refine pos (by omega) ?_
  by_cases h : IsNear n
  · have hf := fold_near h
    have hd := div_pow_bd (x := fold n) (s := kk k) hf.1
    rw [shr_u64 _ (by omega), w64 (by omega) (by omega)]
    refine pos (by simpa using h) ?_
    by_cases hz : fold n / 2 ^ kk k > 65535
    · have e : rputR l n (kk k) = (7, l) := by unfold rputR; rw [if_neg (by simpa using h), if_pos hz]
      rw [e]
      exact pos hz (now _)
    · have e : rputR l n (kk k) = (0, l ++ putB n (kk k)) := by unfold rputR; rw [if_neg (by simpa using h), if_neg hz]
      rw [e]
      refine neg hz ?_
      have := rput_l0 (fold n) (kk k) hk (fold n / 2 ^ kk k).toNat l (by omega)
      rw [Int.toNat_of_nonneg hd.1] at this
      exact this
  · have e : rputR l n (kk k) = (6, l) := by unfold rputR; rw [if_pos h]
    rw [e]
    exact neg (by simpa using h) (now _)
end Go.Proofs.Ytokdjeoecnnckaa.PL
end
section
namespace Go.Proofs.Ytokdjeoecnnckaa.PA
open Go.RowKit Go.Proofs.YtokdjeoecnnckaaW.PrintWords Go.Proofs.YtokdjeoecnnckaaW.PrintLast Go.Proofs.YtokdjeoecnnckaaW.PrintMore
attribute [local go_sem] max2_int min2_int max_two min_two max_three min_three max_four min_four   -- for this text's walks alone
set_option linter.unusedVariables false
set_option linter.unusedSimpArgs false

def cost_Each.f (k : Nat) (l0 : List Int) (a1_0 : Int) (a1_1 : Bool) : Option (Int) := (cost_Width.f k l0).bind fun t120 => (if a1_1 = true then (if t120 < 0 then (some (-1)) else (if a1_0 < t120 then (some (-1)) else (if a1_0 > 31 then (some (-1)) else ((cost_raw.f l0 a1_0).bind fun t121 => (some t121))))) else ((cost_Bits.f k l0 a1_0).bind fun t122 => (some t122)))
set_option maxHeartbeats 8000000 in
set_option maxRecDepth 100000 in
theorem cost_Each.calls (k : Nat) (A0 : Option Addr) (c0 : Nat) (l0 : List Int) (a1_0 : Int) (a1_1 : Bool) (r : Int) (w : World) (hr0 : Kd.C (Kd.int .i64) w A0 l0.length l0) (hc0 : l0.length ≤ c0) (h : cost_Each.f k l0 a1_0 a1_1 = some r) :
    Calls Try.prog 30 #[.slice A0 l0.length c0, .agg #[.int .i64 a1_0, .bool a1_1]] w fun e w' => e = .returned (.int .i64 r) ∧ Below w.heap.size w w' := by
  have hu50 := Try.underlying50
  have HR0 := zG.mk hr0
  have HC0 := zG.mk hc0
  clear hr0 hc0
  have HB := zG.mk (Below.refl w.heap.size w)
  have H : ((cost_Width.f k l0).bind fun t120 => (if a1_1 = true then (if t120 < 0 then (some (-1)) else (if a1_0 < t120 then (some (-1)) else (if a1_0 > 31 then (some (-1)) else ((cost_raw.f l0 a1_0).bind fun t121 => (some t121))))) else ((cost_Bits.f k l0 a1_0).bind fun t122 => (some t122)))) = some r := h
  clear h
  replace H := Option.bind_eq_some_iff.mp H
  obtain ⟨t120, A30, H⟩ := H
  replace H : (if a1_1 = true then (if t120 < 0 then (some (-1)) else (if a1_0 < t120 then (some (-1)) else (if a1_0 > 31 then (some (-1)) else ((cost_raw.f l0 a1_0).bind fun t121 => (some t121))))) else ((cost_Bits.f k l0 a1_0).bind fun t122 => (some t122))) = some r := H
  have A3 := zG.mk A30
  clear A30
  by_cases c4 : a1_1 = true
  focus
    subst c4
    have H1 : (if t120 < 0 then (some (-1)) else (if a1_0 < t120 then (some (-1)) else (if a1_0 > 31 then (some (-1)) else ((cost_raw.f l0 a1_0).bind fun t121 => (some t121))))) = some r := by rw [if_pos rfl] at H; exact H
    clear H
    have H := H1
    clear H1
    by_cases c5 : t120 < 0
    focus
      rw [if_pos c5] at H
      have c5b0 : decide (t120 < 0) = true := decide_eq_true c5
      clear c5
      obtain rfl := Option.some.inj H
      go_enter Try.func30, Try.ntmps30
    rotate_left 1
    focus
      rw [if_neg c5] at H
      have c5b0 : decide (t120 < 0) = false := decide_eq_false c5
      clear c5
      by_cases c8 : a1_0 < t120
      focus
        rw [if_pos c8] at H
        have c8b0 : decide (a1_0 < t120) = true := decide_eq_true c8
        clear c8
        obtain rfl := Option.some.inj H
        go_enter Try.func30, Try.ntmps30
      rotate_left 1
      focus
        rw [if_neg c8] at H
        have c8b0 : decide (a1_0 < t120) = false := decide_eq_false c8
        clear c8
        by_cases c11 : a1_0 > 31
        focus
          rw [if_pos c11] at H
          have c11b0 : decide (31 < a1_0) = true := decide_eq_true c11
          clear c11
          obtain rfl := Option.some.inj H
          go_enter Try.func30, Try.ntmps30
        rotate_left 1
        focus
          rw [if_neg c11] at H
          have c11b0 : decide (31 < a1_0) = false := decide_eq_false c11
          clear c11
          replace H := Option.bind_eq_some_iff.mp H
          obtain ⟨t121, A140, H⟩ := H
          replace H : (some t121) = some r := H
          have A14 := zG.mk A140
          clear A140
          obtain rfl := Option.some.inj H
          go_enter Try.func30, Try.ntmps30
  rotate_left 4
  focus
    replace c4 := Bool.eq_false_iff.mpr c4
    subst c4
    have H1 : ((cost_Bits.f k l0 a1_0).bind fun t122 => (some t122)) = some r := by rw [if_neg (show ¬ (false = true) by decide)] at H; exact H
    clear H
    have H := H1
    clear H1
    replace H := Option.bind_eq_some_iff.mp H
    obtain ⟨t122, A170, H⟩ := H
    replace H : (some t122) = some r := H
    have A17 := zG.mk A170
    clear A170
    obtain rfl := Option.some.inj H
    go_enter Try.func30, Try.ntmps30
  all_goals
    go_wp2_with (first | ((with_reducible refine gate_dst (N := 3) rfl ?_); refine box_event ?hg (N := 3) ?hd (cs := #[.int .i64 a1_0, .bool true]) (t := 50) ?hr ?_; (case hd => rfl); (case hg => rfl); (case hr => first | (go_simp; done) | (go_simp; rfl)); intro gb119 hg w15 hbox hb; have n0_ := zG.mk (below_step (by repeat (first | (with_reducible first | exact HB.out | apply zF | apply zC | apply zD) | exact HB.out)) hb); have n1_ := zG.mk (hbox); have n2_ := zG.mk ((by rw [hg]; exact (below_size (by repeat (first | (with_reducible first | exact HB.out | apply zF | apply zC | apply zD) | exact HB.out))) : w.heap.size ≤ gb119)); have n3_ := zG.mk ((by rw [hg]; exact (below_size (by repeat (first | (with_reducible first | exact HB.out | apply zF | apply zC | apply zD) | exact HB.out))) : w.heap.size ≤ gb119)); clear HB; have HB := n0_; have BK119 := n1_; have GW119 := n2_; have GE119 := n3_; clear n0_ n1_ n2_ n3_; clear hb hbox hg) | ((with_reducible refine gate_callee (f := 36) rfl ?_); refine goesL_ (some 7) rfl rfl Try.func36 (by kernel_rfl) rfl #[.slice A0 l0.length c0] rfl (by (try simp only [List.map_toArray, List.map_cons, List.map_nil]); first | done | rfl | (simp only [List.length_drop, List.length_take]; rfl)) ?_; (with_reducible refine (cost_Width.calls k _ _ l0 t120 _ ?side1 ?side2 A3.out).mono ?_); (case side1 => repeat (first | exact (Kd.C_below HR0.out HB.out) | (with_reducible refine Kd.zV ?_ _) | (with_reducible refine Kd.zT ?_ _) | (with_reducible refine Kd.zU ?_))); (case side2 => exact HC0.out); rintro e w' ⟨rfl, ⟨nd, rfl⟩⟩; refine ⟨_, rfl, ?_⟩; have hcz16_0 : w15.cell? ⟨gb119, 0, none⟩ = some (.int .i64 a1_0) := (zN BK119.out 0).trans rfl; have hcz16_1 : w15.cell? ⟨gb119, 1, none⟩ = some (.bool true) := (zN BK119.out 1).trans rfl; have hfz16_0 := zO BK119.out 0; have hfz16_1 := zO BK119.out 1) | ((with_reducible refine gate_callee (f := 49) rfl ?_); refine goesL_ (some 33) rfl rfl Try.func49 (by kernel_rfl) rfl #[.slice A0 l0.length c0, .int .i64 a1_0] rfl (by (try simp only [List.map_toArray, List.map_cons, List.map_nil]); first | done | rfl | (simp only [List.length_drop, List.length_take]; rfl)) ?_; (with_reducible refine (cost_raw.calls _ _ l0 a1_0 t121 _ ?side1 ?side2 A14.out).mono ?_); (case side1 => repeat (first | exact (Kd.C_below HR0.out (by repeat (first | (with_reducible first | exact HB.out | apply zF | apply zC | apply zD | refine zE ?_ GE119.out) | exact HB.out))) | (with_reducible refine Kd.zV ?_ _) | (with_reducible refine Kd.zT ?_ _) | (with_reducible refine Kd.zU ?_))); (case side2 => exact HC0.out); rintro e w' ⟨rfl, ⟨nd, rfl⟩⟩; refine ⟨_, rfl, ?_⟩) | ((with_reducible refine gate_dst (N := 3) rfl ?_); refine box_event ?hg (N := 3) ?hd (cs := #[.int .i64 a1_0, .bool false]) (t := 50) ?hr ?_; (case hd => rfl); (case hg => rfl); (case hr => first | (go_simp; done) | (go_simp; rfl)); intro gb119 hg w18 hbox hb; have n0_ := zG.mk (below_step (by repeat (first | (with_reducible first | exact HB.out | apply zF | apply zC | apply zD) | exact HB.out)) hb); have n1_ := zG.mk (hbox); have n2_ := zG.mk ((by rw [hg]; exact (below_size (by repeat (first | (with_reducible first | exact HB.out | apply zF | apply zC | apply zD) | exact HB.out))) : w.heap.size ≤ gb119)); have n3_ := zG.mk ((by rw [hg]; exact (below_size (by repeat (first | (with_reducible first | exact HB.out | apply zF | apply zC | apply zD) | exact HB.out))) : w.heap.size ≤ gb119)); clear HB; have HB := n0_; have BK119 := n1_; have GW119 := n2_; have GE119 := n3_; clear n0_ n1_ n2_ n3_; clear hb hbox hg) | ((with_reducible refine gate_callee (f := 36) rfl ?_); refine goesL_ (some 7) rfl rfl Try.func36 (by kernel_rfl) rfl #[.slice A0 l0.length c0] rfl (by (try simp only [List.map_toArray, List.map_cons, List.map_nil]); first | done | rfl | (simp only [List.length_drop, List.length_take]; rfl)) ?_; (with_reducible refine (cost_Width.calls k _ _ l0 t120 _ ?side1 ?side2 A3.out).mono ?_); (case side1 => repeat (first | exact (Kd.C_below HR0.out HB.out) | (with_reducible refine Kd.zV ?_ _) | (with_reducible refine Kd.zT ?_ _) | (with_reducible refine Kd.zU ?_))); (case side2 => exact HC0.out); rintro e w' ⟨rfl, ⟨nd, rfl⟩⟩; refine ⟨_, rfl, ?_⟩; have hcz19_0 : w18.cell? ⟨gb119, 0, none⟩ = some (.int .i64 a1_0) := (zN BK119.out 0).trans rfl; have hcz19_1 : w18.cell? ⟨gb119, 1, none⟩ = some (.bool false) := (zN BK119.out 1).trans rfl; have hfz19_0 := zO BK119.out 0; have hfz19_1 := zO BK119.out 1) | ((with_reducible refine gate_callee (f := 48) rfl ?_); refine goesL_ (some 15) rfl rfl Try.func48 (by kernel_rfl) rfl #[.slice A0 l0.length c0, .int .i64 a1_0] rfl (by (try simp only [List.map_toArray, List.map_cons, List.map_nil]); first | done | rfl | (simp only [List.length_drop, List.length_take]; rfl)) ?_; (with_reducible refine (cost_Bits.calls k _ _ l0 a1_0 t122 _ ?side1 ?side2 A17.out).mono ?_); (case side1 => repeat (first | exact (Kd.C_below HR0.out (by repeat (first | (with_reducible first | exact HB.out | apply zF | apply zC | apply zD | refine zE ?_ GE119.out) | exact HB.out))) | (with_reducible refine Kd.zV ?_ _) | (with_reducible refine Kd.zT ?_ _) | (with_reducible refine Kd.zU ?_))); (case side2 => exact HC0.out); rintro e w20 ⟨rfl, hb⟩; refine ⟨_, rfl, ?_⟩; have n0_ := zG.mk (blk_below (g := gb119) (o := .cells #[.int .i64 a1_0, .bool false] 50 (0, 0)) (by (with_reducible repeat (first | refine zL ?_ _ | refine zM ?_ | refine zK ?_ _)); exact BK119.out) hb); have n1_ := zG.mk (below_step (by repeat (first | (with_reducible first | exact HB.out | apply zF | apply zC | apply zD | refine zE ?_ GE119.out) | exact HB.out)) hb); clear BK119; clear HB; have BK119 := n0_; have HB := n1_; clear n0_ n1_; (try clear hb); (try clear hb2); (try clear hk); (try clear hi)))
    go_ret
    exact ⟨by first | rfl | (simp [errW_none, errW_some] <;> rfl) | (simp [*, errW_none, errW_some] <;> rfl), by repeat (first | (with_reducible first | exact HB.out | apply zF | apply zC | apply zD | refine zE ?_ GE119.out) | exact HB.out)⟩
end Go.Proofs.Ytokdjeoecnnckaa.PA
end
