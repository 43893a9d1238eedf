/- What the law SectionBack needs, part 2: texts of this claim, merged; the row itself stands in the last part. Conditions: as each theorem says. -/
import Derived.Test.YtokdjeoecnnckaaProg
import Derived.Below
import Derived.Deep.Draws
import Derived.Deep.AppendLies
import Derived.Maps.AppendAt
import Derived.OwnWalk
import Derived.Laws.BytesArg
import Derived.Laws.MakeOwn
import Derived.Laws.OwnMore
import Derived.Deep.OwnRows
import Derived.Tactics
import Derived.Lib.ConvBytes
import Derived.Laws.Slices
import Derived.WalkKit
import Derived.KernelRfl
import Derived.RowKit3
import Derived.Deep.LoopGhost
import Derived.Deep.QuietTactic
import Derived.BigQuiet
import Derived.WideLaws
import Derived.Deep.DeepCutAuto
import Derived.Deep.CutBlock
import Derived.Deep.RegionHeld3
import Derived.Laws.Rows
import Derived.Lib.AppendStr
import Derived.ArgAppend
import Derived.Laws.IdiomCopy
import Derived.OrdersHeld
import Derived.Laws.BitsLemmas
import Derived.RowKit
import Derived.Test.YtokdjeoecnnckaaMBackA
section
namespace Go.Proofs.Ytokdjeoecnnckaa.PA
open Go.RowKit Go.Proofs.YtokdjeoecnnckaaW.PrintWords Go.Proofs.YtokdjeoecnnckaaW.PrintLast Go.Proofs.YtokdjeoecnnckaaW.PrintMore
attribute [local go_sem] max2_int min2_int max_two min_two max_three min_three max_four min_four   -- for this text's walks alone
set_option linter.unusedVariables false
set_option linter.unusedSimpArgs false
def errW : Option Int → Value
  | none => .nilIface
  | some c => .iface 0 (.int .i64 c)
theorem errW_none : errW none = .nilIface := rfl
theorem errW_some (c : Int) : errW (some c) = .iface 0 (.int .i64 c) := rfl
theorem info3 : (Try.prog.info? 3).map (fun i => (i.zero, i.size, i.bytes)) = some (some (.int .i64 0), 1, 8) := by kernel_rfl
theorem info5 : (Try.prog.info? 5).map (fun i => (i.zero, i.size, i.bytes)) = some (some (.int .u8 0), 1, 1) := by kernel_rfl
theorem info22 : (Try.prog.info? 22).map (fun i => (i.zero, i.size, i.bytes)) = some (some (.slice none 0 0), 1, 24) := by kernel_rfl
theorem info50 : (Try.prog.info? 50).map (fun i => (i.zero, i.size, i.bytes)) = some (some (.agg #[(.int .i64 0), (.bool false)]), 2, 16) := by kernel_rfl
-- the values' own types

structure S50 where
  f0 : Int
  f1 : Bool
def z50 : S50 := ⟨(0 : Int), false⟩
def k50 : Kd S50 := Kd.iso (Kd.pair (Kd.int .i64) Kd.bool) (fun x : S50 => (x.f0, x.f1))
theorem k50_heap : Kd.Heap k50 := Kd.heap_iso _ (Kd.heap_pair (Kd.heap_int .i64) Kd.heap_bool)
theorem k50_open {w : World} {x : S50} {cs : List Value} (h : k50.K w x cs) : cs = [.int .i64 x.f0, .bool x.f1] := by
  obtain ⟨_, _, rfl, rfl, rfl⟩ := h
  exact rfl
theorem k50_mkM (w : World) (base : Nat) (ok : Nat → Prop) (x : S50)  : k50.M w base ok x [.int .i64 x.f0, .bool x.f1] := ⟨[.int .i64 x.f0], [.bool x.f1], rfl, rfl, rfl⟩
def rd_T50 (xs : List S50) (i : Int) : S50 := xs.getD i.toNat z50
theorem at_T50 {w : World} {A : Option Addr} {n : Nat} {xs : List S50} (h : Kd.C k50 w A n xs) (i : Int) (h0 : 0 ≤ i) (h1 : i < n) : ∃ ad , A = some ad ∧ w.cell? (ad.add (i.toNat * 2)) = some (.int .i64 (rd_T50 xs i).f0) ∧ w.cell? ⟨(ad.add (i.toNat * 2)).block, (ad.add (i.toNat * 2)).off + 1, none⟩ = some (.bool (rd_T50 xs i).f1) := by
  obtain ⟨ad, c, e, _, hK, hc0⟩ := Kd.C_get h z50 i h0 h1
  have hc : ∀ j u, c[j]? = some u → w.cell? (ad.add (i.toNat * 2 + j)) = some u := hc0
  obtain rfl := k50_open hK
  exact ⟨ad, e, hc 0 _ rfl, by rw [← add_field _ _ 1 (by omega)]; exact hc 1 _ rfl⟩
def rd_L4 (xs : List (List Int)) (i : Int) : (List Int) := xs.getD i.toNat ([] : List Int)
theorem at_L4 {w : World} {A : Option Addr} {n : Nat} {xs : List (List Int)} (h : Kd.C (Kd.slice 3 (Kd.int .i64)) w A n xs) (i : Int) (h0 : 0 ≤ i) (h1 : i < n) : ∃ ad A0 c0, A = some ad ∧ w.cell? (ad.add i.toNat) = some (.slice A0 (rd_L4 xs i).length c0) ∧ (rd_L4 xs i).length ≤ c0 ∧ (Kd.int .i64).C w A0 (rd_L4 xs i).length (rd_L4 xs i) := by
  obtain ⟨ad, c, e, _, hK, hc0⟩ := Kd.C_get h ([] : List Int) i h0 h1
  have hc : ∀ j u, c[j]? = some u → w.cell? (ad.add (i.toNat * 1 + j)) = some u := hc0
  obtain ⟨A0, c0, rfl, l0, g0⟩ := hK
  exact ⟨ad, A0, c0, e, by have hq := hc 0 _ rfl; rwa [Nat.mul_one, Nat.add_zero] at hq, l0, g0⟩
end Go.Proofs.Ytokdjeoecnnckaa.PA
end
section
namespace Go.Proofs.Ytokdjeoecnnckaa.PA
open Go.RowKit Go.Proofs.YtokdjeoecnnckaaW.PrintWords Go.Proofs.YtokdjeoecnnckaaW.PrintLast Go.Proofs.YtokdjeoecnnckaaW.PrintMore
attribute [local go_sem] max2_int min2_int max_two min_two max_three min_three max_four min_four   -- for this text's walks alone
set_option linter.unusedVariables false
set_option linter.unusedSimpArgs false
def OffS58 (W : World) (g : Nat) (row : Option Nat) : Prop := some g ≠ row ∧ ∀ r cs, W.heap[r]? = some (.cells cs 5 (0, 0)) → some r ≠ row
def zH (w0 W : World) (g : Nat) (f0 : ByteArray) (f1 : Int) : Prop := ∃ v : Value, W.heap[g]? = some (.cells #[v, .int .i64 f1] 58 (0, 0)) ∧ w0.heap.size ≤ g ∧ Kd.R (Kd.int .u8) 5 W w0.heap.size (fun _ => True) v (bytesOf f0) ∧ (f0.size = 0 → v = .slice none 0 0)
theorem zH.grown {w0 W : World} {g : Nat} {f0 : ByteArray} {f1 : Int} {W1 : World} {row : Option Nat} (h : zH w0 W g f0 f1) (hw : W.grownBy W1 row) (hne : OffS58 W g row) : zH w0 W1 g f0 f1 := by
  obtain ⟨v, hb, hg, hr, hz⟩ := h
  exact ⟨v, blk_grown hb hw hne.1, hg, Kd.R_mono (Kd.R_grown (Kd.R_bound hr) hw (fun k hk => by
    obtain ⟨_, _, _, q, hq, cs, hc⟩ := hk
    obtain rfl : q = 5 := by simpa [Kd.int, Kd.scalar] using hq
    exact hne.2 k cs hc)) (fun _ _ => trivial), hz⟩
theorem zH.own_ne {w0 W : World} {g : Nat} {f0 : ByteArray} {f1 : Int} {α : Type} {d : Kd α} {e : Nat} {base : Nat} {ok : Nat → Prop} {v : Value} {xs : List α} (h : zH w0 W g f0 f1) (ho : d.R e W base ok v xs) (ht : e ≠ 58 ∧ e ≠ 5) : OffS58 W g v.ownBlock := by
  obtain ⟨v, hb, hg, hr, hz⟩ := h
  exact ⟨Kd.R_ne ho hb ht.1, fun r cs hr => Kd.R_ne ho hr ht.2⟩
theorem zH.below {w0 W : World} {g : Nat} {f0 : ByteArray} {f1 : Int} {W1 : World} (h : zH w0 W g f0 f1) (hw : Below W.heap.size W W1) : zH w0 W1 g f0 f1 := h.grown (grown_of_below hw none) ⟨by simp, fun _ _ _ => by simp⟩
theorem zH.alloc {w0 W : World} {g : Nat} {f0 : ByteArray} {f1 : Int} (h : zH w0 W g f0 f1) (o : Obj) : zH w0 (W.alloc o) g f0 f1 := h.below (zE (Below.refl _ _) o)
theorem zH.drewN {w0 W : World} {g : Nat} {f0 : ByteArray} {f1 : Int} (h : zH w0 W g f0 f1) (m : Nat) : zH w0 (W.drewN m) g f0 f1 := h
theorem zH.drew {w0 W : World} {g : Nat} {f0 : ByteArray} {f1 : Int} (h : zH w0 W g f0 f1) : zH w0 W.drew g f0 f1 := h
theorem zH.at_ {w0 W : World} {g : Nat} {f0 : ByteArray} {f1 : Int} {w' : World} {m : Nat} (hq : W.drewN m = w') (h : zH w0 W g f0 f1) : zH w0 w' g f0 f1 := by subst hq; exact zH.drewN h m
theorem zH.apart {w0 W : World} {g : Nat} {f0 : ByteArray} {f1 : Int} {α : Type} {d : Kd α} {e : Nat} {base : Nat} {ok : Nat → Prop} {v : Value} {xs : List α} (h : zH w0 W g f0 f1) (ho : d.R e W base ok v xs) (ht : ∀ q, q ∈ e :: d.E → q ≠ 58) : d.R e W base (fun k => ok k ∧ k ≠ g) v xs := by
  obtain ⟨v, hb, hg, hr, hz⟩ := h
  exact Kd.R_types ho hb ht
theorem zH.lt {w0 W : World} {g : Nat} {f0 : ByteArray} {f1 : Int} (h : zH w0 W g f0 f1) : g < W.heap.size := by
  obtain ⟨v, hb, hg, hr, hz⟩ := h
  exact blk_lt hb
theorem zH.ge {w0 W : World} {g : Nat} {f0 : ByteArray} {f1 : Int} (h : zH w0 W g f0 f1) : w0.heap.size ≤ g := by
  obtain ⟨v, hb, hg, hr, hz⟩ := h
  exact hg
theorem zH.ne_blk {w0 W : World} {g : Nat} {f0 : ByteArray} {f1 : Int} {a : Nat} {cs : Array Value} {t : TypeId} {fr : Nat × Nat} (h : zH w0 W g f0 f1) (hb2 : W.heap[a]? = some (.cells cs t fr)) (ht : t ≠ 58) : g ≠ a := by
  obtain ⟨v, hb, hg, hr, hz⟩ := h
  rintro rfl
  rw [hb] at hb2
  injection hb2 with hb2
  injection hb2 with _ ht2
  exact ht ht2.symm
theorem zH.far {w0 W : World} {g : Nat} {f0 : ByteArray} {f1 : Int} {p : Addr} (h : zH w0 W g f0 f1) (hne : OffS58 W g (some p.block)) (u : Value) : zH w0 (W.setCell p u) g f0 f1 := by
  obtain ⟨v, hb, hg, hr, hz⟩ := h
  exact ⟨v, zO hb (fun e => hne.1 (by rw [e])) u, hg, Kd.R_mono (Kd.R_far (Kd.R_bound hr) (fun k hk => by
    obtain ⟨_, _, _, q, hq, cs, hc⟩ := hk
    obtain rfl : q = 5 := by simpa [Kd.int, Kd.scalar] using hq
    exact fun e => hne.2 k cs hc (by rw [e])) u) (fun _ _ => trivial), hz⟩
theorem zH.set_1 {w0 W : World} {g : Nat} {f0 : ByteArray} {f1 : Int} (h : zH w0 W g f0 f1) (x : Int) : zH w0 (W.setCell ⟨g, 1, none⟩ (.int .i64 x)) g f0 x := by
  obtain ⟨v, hb, hg, hr, hz⟩ := h
  exact ⟨v, by simpa using blk_set hb 1 (.int .i64 x), hg, Kd.R_mono (Kd.R_far (Kd.R_types hr hb (by simp [Kd.int, Kd.scalar])) (fun k hk => hk.2) _) (fun _ _ => trivial), hz⟩
theorem zH.blk {w0 W : World} {g : Nat} {f0 : ByteArray} {f1 : Int} (h : zH w0 W g f0 f1) : ∃ cs, W.heap[g]? = some (.cells cs 58 (0, 0)) := by
  obtain ⟨v, hb, _⟩ := h
  exact ⟨_, hb⟩
theorem zH.keepG {w0 W : World} {g : Nat} {f0 : ByteArray} {f1 : Int} {W1 : World} {g' : Nat} {cs : Array Value} {t : TypeId} (h : zH w0 W g f0 f1) (hb' : W.heap[g']? = some (.cells cs t (0, 0))) (ht : t ≠ 58 ∧ t ≠ 5) (hk : zI W W1 g' none) : zH w0 W1 g f0 f1 := by
  obtain ⟨v, hb, hg, hr, hz⟩ := h
  exact ⟨v, hk.blk hb (blk_ne hb hb' (Ne.symm ht.1)) (by simp), hg, Kd.R_mono (Kd.R_keep (Kd.R_types hr hb' (by simp [Kd.int, Kd.scalar]; exact Ne.symm ht.2)) hk (fun _ hk => hk.2)) (fun _ _ => trivial), hz⟩
def KB (w0 w W : World) (g : Nat) : Prop := w.heap.size ≤ W.heap.size ∧ ∀ i, i < w.heap.size → i ≠ g → (i < w0.heap.size ∨ ∀ cs, w.heap[i]? ≠ some (.cells cs 5 (0, 0))) → W.heap[i]? = w.heap[i]?
theorem KB.R_keep {w0 W W1 : World} {g : Nat} {α : Type} {d : Kd α} {e : Nat} {base : Nat} {ok : Nat → Prop} {v : Value} {xs : List α} (ho : d.R e W base ok v xs) (hg : ∀ k, ok k → k ≠ g) (ht : ∀ q, q ∈ e :: d.E → q ≠ 5) (hk : KB w0 W W1 g) : d.R e W1 base ok v xs :=
  Kd.R_mono (Kd.R_step (Kd.R_bound ho) (fun k h hlt => by
    obtain ⟨h0, _, _, q, hq, cs, hc⟩ := h
    refine hk.2 k hlt (hg k h0) (.inr fun cs' hc' => ht q hq ?_)
    rw [hc] at hc'
    injection hc' with hc'
    injection hc')) (fun _ h => h.1)
theorem KB.blk {w0 w w1 : World} {g g' : Nat} {cs : Array Value} {t : TypeId} {fr : Nat × Nat} (h : KB w0 w w1 g) (hb : w.heap[g']? = some (.cells cs t fr)) (hg : g' ≠ g) (ht : t ≠ 5) : w1.heap[g']? = some (.cells cs t fr) :=
  (h.2 g' (blk_lt hb) hg (.inr fun cs' hc => ht (by rw [hb] at hc; injection hc with hc; injection hc))).trans hb
def rowAt (w : World) (g : Nat) : Option Nat := match w.heap[g]? with
  | some (.cells cs _ _) => (cs[0]?).bind Value.ownBlock
  | _ => none
theorem rowAt_of {w : World} {g : Nat} {v : Value} {x : Value} {t : TypeId} {fr : Nat × Nat} (h : w.heap[g]? = some (.cells #[v, x] t fr)) : rowAt w g = v.ownBlock := by
  unfold rowAt
  rw [h]
  rfl
theorem rowAt_eq {w w1 : World} {g : Nat} (h : w1.heap[g]? = w.heap[g]?) : rowAt w1 g = rowAt w g := by unfold rowAt; rw [h]
def KBe (w0 w W : World) (g : Nat) : Prop := KB w0 w W g ∧ (∀ i, i < w.heap.size → i ≠ g → some i ≠ rowAt w g → W.heap[i]? = w.heap[i]?) ∧ (∀ b, rowAt W g = some b → rowAt w g = some b ∨ w.heap.size ≤ b) ∧ g < w.heap.size
theorem KBe.refl (w0 : World) {w : World} {g : Nat} {f0 : ByteArray} {f1 : Int} (h : zH w0 w g f0 f1) : KBe w0 w w g := ⟨⟨Nat.le_refl _, fun _ _ _ _ => rfl⟩, fun _ _ _ _ => rfl, fun _ h => .inl h, h.lt⟩
theorem KBe.trans {w0 w W W2 : World} {g : Nat} (h : KBe w0 w W g) (k : KBe w0 W W2 g) : KBe w0 w W2 g := by
  obtain ⟨⟨h1, h2⟩, h3, h4, h5⟩ := h
  obtain ⟨⟨k1, k2⟩, k3, k4, k5⟩ := k
  refine ⟨⟨Nat.le_trans h1 k1, fun i hi hg ho => (k2 i (Nat.lt_of_lt_of_le hi h1) hg (ho.imp id (fun hh cs hc => hh cs ((h2 i hi hg (.inr hh)).symm.trans hc)))).trans (h2 i hi hg ho)⟩, fun i hi hg hr => ?_, fun b hb => ?_, h5⟩
  · refine (k3 i (Nat.lt_of_lt_of_le hi h1) hg (fun e => ?_)).trans (h3 i hi hg hr)
    rcases h4 i e.symm with h | h
    · exact hr h.symm
    · omega
  · rcases k4 b hb with h | h
    · exact h4 b h
    · exact .inr (Nat.le_trans h1 h)
theorem KBe.below {w0 w W W1 : World} {g : Nat} (h : KBe w0 w W g) (hb : Below W.heap.size W W1) : KBe w0 w W1 g := by
  have hlt : g < W.heap.size := Nat.lt_of_lt_of_le h.2.2.2 h.1.1
  exact h.trans ⟨⟨hb.size, fun i hi _ _ => hb.block i hi⟩, fun i hi _ _ => hb.block i hi, fun b e => .inl (by rw [← rowAt_eq (hb.block g hlt)]; exact e), hlt⟩
theorem KBe.alloc {w0 w W : World} {g : Nat} (h : KBe w0 w W g) (o : Obj) : KBe w0 w (W.alloc o) g := h.below (zE (Below.refl _ _) o)
theorem KBe.drewN {w0 w W : World} {g : Nat} (h : KBe w0 w W g) (m : Nat) : KBe w0 w (W.drewN m) g := h
theorem KBe.drew {w0 w W : World} {g : Nat} (h : KBe w0 w W g) : KBe w0 w W.drew g := h
theorem KBe.at_ {w0 w W W' : World} {g m : Nat} (hq : W.drewN m = W') (h : KBe w0 w W g) : KBe w0 w W' g := by subst hq; exact h
def RowsApart (W : World) (g g' : Nat) : Prop := ∀ b, rowAt W g = some b → rowAt W g' ≠ some b
theorem RowsApart.symm {W : World} {g g' : Nat} (h : RowsApart W g g') : RowsApart W g' g := fun b h1 h2 => h b h2 h1
theorem RowsApart.put {w0 W : World} {g : Nat} {f0 : ByteArray} {f1 : Int} {W1 : World} {g' : Nat} (h : zH w0 W g f0 f1) (hne : g ≠ g') (hap : RowsApart W g g') (hk : KBe w0 W W1 g') : RowsApart W1 g g' := by
  obtain ⟨v, hb, hg, hr, hz⟩ := h
  intro b h1 h2
  have hb1 := KB.blk hk.1 hb hne (by decide)
  rw [rowAt_of hb1] at h1
  rcases hk.2.2.1 b h2 with h | h
  · exact hap b (by rw [rowAt_of hb]; exact h1) h
  · exact absurd (Kd.R_lt hr b h1) (Nat.not_lt.2 h)

def bits_New.f : Option (ByteArray × Int) := some (⟨#[]⟩, 0)
set_option maxRecDepth 100000 in
theorem bits_New.calls (r1 : ByteArray) (r2 : Int) (w0 w : World) (hB : Below w0.heap.size w0 w) (h : bits_New.f = some (r1, r2)) :
    Calls Try.prog 8 #[] w fun e w' => ∃ g_ : Nat, e = .returned (.pointer (some ⟨g_, 0, none⟩)) ∧ zH w0 w' g_ r1 r2 ∧ Below w0.heap.size w0 w' ∧ Below w.heap.size w w' := by
  have hu := Try.underlying58
  have HBW := zF.mk (Below.refl w.heap.size w)
  have HW0 := zF.mk hB.size
  have HB := zF.mk hB
  clear hB
  simp only [bits_New.f, Option.some.injEq, Prod.mk.injEq] at h
  obtain ⟨rfl, rfl⟩ := h
  go_enter Try.func8, Try.ntmps8
  go_wp2_with (first | ((with_reducible refine gate_dst (N := 2) rfl ?_); refine box_event ?hg (N := 2) ?hd (cs := #[.slice none 0 0, .int .i64 0]) (t := 58) ?hr ?_; (case hd => rfl); (case hg => rfl); (case hr => first | (go_simp; done) | (go_simp; rfl)); intro gb101 hg w1 hbox hb; have n0_ := zF.mk (below_step HBW.out hb); have n1_ := zF.mk (below_step HB.out hb); have n2_ := zF.mk (hbox); have n3_ := zF.mk ((Nat.le_trans HW0.out (by rw [hg]; exact Nat.le_refl _) : w0.heap.size ≤ gb101)); clear HBW; clear HB; have HBW := n0_; have HB := n1_; have BK101 := n2_; have GE101 := n3_; clear n0_ n1_ n2_ n3_; clear hb hbox hg))
  go_ret
  exact ⟨_, rfl, ⟨.slice none 0 0, BK101.out, GE101.out, Kd.R_nil _ _ _ _ _, fun _ => rfl⟩, HB.out, HBW.out⟩
end Go.Proofs.Ytokdjeoecnnckaa.PA
end
section
namespace Go.Proofs.Ytokdjeoecnnckaa.PA
open Go.RowKit Go.Proofs.YtokdjeoecnnckaaW.PrintWords Go.Proofs.YtokdjeoecnnckaaW.PrintLast Go.Proofs.YtokdjeoecnnckaaW.PrintMore
attribute [local go_sem] max2_int min2_int max_two min_two max_three min_three max_four min_four   -- for this text's walks alone
set_option linter.unusedVariables false
set_option linter.unusedSimpArgs false

mutual
def parts_Cuts.j0 : Nat → Int → Int → Int → Bool → Option (List Int)
  | 0, _, _, _, _ => none
  | k + 1, x0, x1, x2, x24 => if x24 = true then (some ([] : List Int)) else (if 0 ≤ x2 then (if (shl .i64 (shr .i64 (wrap64 (x0 + x1)) x2) x2) = (wrap64 (x0 + x1)) then (parts_Cuts.j1 k x1 x2 (shr .i64 (wrap64 (x0 + x1)) x2) (decide ((shr .i64 (wrap64 (x0 + x1)) x2) ≤ x1))) else (parts_Cuts.j1 k x1 x2 (shr .i64 (wrap64 (x0 + x1)) x2) true)) else (none))
def parts_Cuts.j1 : Nat → Int → Int → Int → Bool → Option (List Int)
  | 0, _, _, _, _ => none
  | k + 1, x1, x2, x8, x40 => if x40 = true then (some ([] : List Int)) else (if 0 ≤ x2 then (if 0 ≤ (shl .i64 1 x2) then (if (shl .i64 1 x2 : Int).toNat ≤ 35184372088832 then ((some (List.replicate (shl .i64 1 x2 : Int).toNat 0 : List Int)).bind fun y101 => (parts_Cuts.l0 k x1 x8 y101 (y101.length : Int) 0)) else (none)) else (none)) else (none))
def parts_Cuts.l0 : Nat → Int → Int → List Int → Int → Int → Option (List Int)
  | 0, _, _, _, _, _ => none
  | k + 1, x1, x8, x9, x45, x46 => if x46 < x45 then (if 0 ≤ x46 then (if x46 < (x9.length : Int) then (parts_Cuts.l0 k x1 x8 (x9.set (x46 : Int).toNat x8) x45 (wrap64 (x46 + 1))) else (none)) else (none)) else (if 0 < (x9.length : Int) then (some (x9.set (0 : Int).toNat (wrap64 ((rd x9 0) - x1)))) else (none))
end
def parts_Cuts.f (k : Nat) (a0 : Int) (a1 : Int) (a2 : Int) : Option (List Int) := if a0 < 0 then (parts_Cuts.j0 k a0 a1 a2 true) else (if a1 < 0 then (parts_Cuts.j0 k a0 a1 a2 true) else (if a2 < 0 then (parts_Cuts.j0 k a0 a1 a2 true) else (parts_Cuts.j0 k a0 a1 a2 (decide (a2 > 15)))))
set_option maxHeartbeats 8000000 in
set_option maxRecDepth 100000 in
theorem parts_Cuts.calls (k : Nat) (a0 : Int) (a1 : Int) (a2 : Int) (r : List Int) (w : World) (h : parts_Cuts.f k a0 a1 a2 = some r) :
    Calls Try.prog 28 #[.int .i64 a0, .int .i64 a1, .int .i64 a2] w fun e w' => ∃ v0_ : Value, e = .returned (v0_) ∧ Kd.R (Kd.int .i64) 3 w' w.heap.size (fun _ => True) v0_ r ∧ Below w.heap.size w w' := by
  have HB := zF.mk (Below.refl w.heap.size w)
  have H : (if a0 < 0 then (parts_Cuts.j0 k a0 a1 a2 true) else (if a1 < 0 then (parts_Cuts.j0 k a0 a1 a2 true) else (if a2 < 0 then (parts_Cuts.j0 k a0 a1 a2 true) else (parts_Cuts.j0 k a0 a1 a2 (decide (a2 > 15)))))) = some r := h
  clear h
  have HC4 := zF.mk H
  clear H
  go_enter Try.func28, Try.ntmps28
  go_upto_region 1 with (fail)
  go_cut [24] (fun v24 wc => ∃ (kq : Nat) (x24_3 : Bool), v24 = .bool x24_3 ∧ zF (parts_Cuts.j0 kq a0 a1 a2 x24_3 = some r) ∧ zF (kq ≤ k) ∧ zF (Below w.heap.size w wc))
  case first =>
    have H := HC4.out
    clear HC4
    by_cases c5 : a0 < 0
    · rw [if_pos c5] at H
      have c5b0 : decide (a0 < 0) = true := decide_eq_true c5
      clear c5
      (first | rw [c5b0] | (simp only [i64_w, i32_w]; rw [c5b0]) | skip)
      have H' := zF.mk H
      clear H
      go_wp2
      go_meet
      case rel => exact ⟨_, (true), (by first | rfl | (simp; done) | (simp only [i64_w, i32_w]; done) | (simp [*]; done) | (simp only [i64_w, i32_w]; first | rfl | (simp; done) | (simp [*]; done))), H', ⟨by first | omega | exact Nat.le_refl _⟩, ⟨by repeat (first | (with_reducible first | exact HB.out | apply zE | apply zB | apply zC) | exact HB.out)⟩⟩
    · rw [if_neg c5] at H
      have c5b0 : decide (a0 < 0) = false := decide_eq_false c5
      clear c5
      (first | rw [c5b0] | (simp only [i64_w, i32_w]; rw [c5b0]) | skip)
      by_cases c6 : a1 < 0
      · rw [if_pos c6] at H
        have c6b0 : decide (a1 < 0) = true := decide_eq_true c6
        clear c6
        have H' := zF.mk H
        clear H
        go_wp2
        go_meet
        case rel => exact ⟨_, (true), (by first | rfl | (simp; done) | (simp only [i64_w, i32_w]; done) | (simp [*]; done) | (simp only [i64_w, i32_w]; first | rfl | (simp; done) | (simp [*]; done))), H', ⟨by first | omega | exact Nat.le_refl _⟩, ⟨by repeat (first | (with_reducible first | exact HB.out | apply zE | apply zB | apply zC) | exact HB.out)⟩⟩
      · rw [if_neg c6] at H
        have c6b0 : decide (a1 < 0) = false := decide_eq_false c6
        clear c6
        by_cases c7 : a2 < 0
        · rw [if_pos c7] at H
          have c7b0 : decide (a2 < 0) = true := decide_eq_true c7
          clear c7
          have H' := zF.mk H
          clear H
          go_wp2
          go_meet
          case rel => exact ⟨_, (true), (by first | rfl | (simp; done) | (simp only [i64_w, i32_w]; done) | (simp [*]; done) | (simp only [i64_w, i32_w]; first | rfl | (simp; done) | (simp [*]; done))), H', ⟨by first | omega | exact Nat.le_refl _⟩, ⟨by repeat (first | (with_reducible first | exact HB.out | apply zE | apply zB | apply zC) | exact HB.out)⟩⟩
        · rw [if_neg c7] at H
          have c7b0 : decide (a2 < 0) = false := decide_eq_false c7
          clear c7
          have H' := zF.mk H
          clear H
          go_wp2
          go_meet
          case rel => exact ⟨_, (decide (a2 > 15)), (by first | rfl | (simp; done) | (simp only [i64_w, i32_w]; done) | (simp [*]; done) | (simp only [i64_w, i32_w]; first | rfl | (simp; done) | (simp [*]; done))), H', ⟨by first | omega | exact Nat.le_refl _⟩, ⟨by repeat (first | (with_reducible first | exact HB.out | apply zE | apply zB | apply zC) | exact HB.out)⟩⟩
  case rest =>
    clear HC4
    try clear c2
    try clear p2
    try clear c5
    try clear c5b0
    try clear c6
    try clear c6b0
    try clear c7
    try clear c7b0
    obtain ⟨kq, x24_3, rfl, HA, HJ3, HB⟩ := hcut
    cases kq with
    | zero => exact absurd HA.out (by simp [parts_Cuts.j0])
    | succ kj3 =>
      have H := HA.out
      clear HA
      simp only [parts_Cuts.j0] at H
      by_cases c8 : x24_3 = true
      · subst c8
        have H1 : (some ([] : List Int)) = some r := by rw [if_pos rfl] at H; exact H
        clear H
        have H := H1
        clear H1
        obtain rfl := Option.some.inj H
        go_wp2
        go_ret
        exact ⟨_, by first | rfl | (simp [errW_none, errW_some] <;> rfl) | (simp [*, errW_none, errW_some] <;> rfl), by first | exact Kd.R_nil _ _ _ _ _ | exact Kd.N_nil _ _ _ _ _ | exact Kd.V_nil _ _ _ _ _ | exact Kd.Q_nil _ _ _ _ _ | exact Kd.S_nil _ _ _ _ _, by repeat (first | (with_reducible first | exact HB.out | apply zE | apply zB | apply zC) | exact HB.out)⟩
      · replace c8 := Bool.eq_false_iff.mpr c8
        subst c8
        have H1 : (if 0 ≤ a2 then (if (shl .i64 (shr .i64 (wrap64 (a0 + a1)) a2) a2) = (wrap64 (a0 + a1)) then (parts_Cuts.j1 kj3 a1 a2 (shr .i64 (wrap64 (a0 + a1)) a2) (decide ((shr .i64 (wrap64 (a0 + a1)) a2) ≤ a1))) else (parts_Cuts.j1 kj3 a1 a2 (shr .i64 (wrap64 (a0 + a1)) a2) true)) else (none)) = some r := by rw [if_neg (show ¬ (false = true) by decide)] at H; exact H
        clear H
        have H := H1
        clear H1
        by_cases c9 : 0 ≤ a2
        · rw [if_pos c9] at H
          have c9b0 := eq_true c9
          have c9b1 : decide (0 ≤ a2) = true := decide_eq_true c9
          clear c9
          obtain ⟨ji10, hji10⟩ : ∃ j_ : Int, (shr .i64 (wrap64 (a0 + a1)) a2) = j_ := ⟨_, rfl⟩
          replace H : (if (shl .i64 (ji10) a2) = (wrap64 (a0 + a1)) then (parts_Cuts.j1 kj3 a1 a2 ji10 (decide ((ji10) ≤ a1))) else (parts_Cuts.j1 kj3 a1 a2 ji10 true)) = some r := by first | (rw [hji10] at H; exact H) | (simp only [hji10] at H ⊢; exact H)
          have hji10_ : ((wrap64 (a0 + a1)) / 2 ^ min a2.toNat 64) = ji10 := hji10
          have hji10z : a2 ≤ 64 → ((wrap64 (a0 + a1)) / 2 ^ a2.toNat) = ji10 := shr_small hji10
          have HC11 := zF.mk H
          clear H
          go_upto_region 5 with (fail)
          go_cut [40] (fun v40 wc => ∃ (kq : Nat) (x40_10 : Bool), v40 = .bool x40_10 ∧ zF (parts_Cuts.j1 kq a1 a2 ji10 x40_10 = some r) ∧ zF (kq ≤ kj3) ∧ zF (Below w.heap.size w wc))
          case first =>
            have H := HC11.out
            clear HC11
            have c12b0 := eq_true (of_decide_eq_true (by first | (with_reducible assumption) | assumption) : 0 ≤ a2)
            obtain ⟨ji13, hji13⟩ : ∃ j_ : Int, (shl .i64 (ji10) a2) = j_ := ⟨_, rfl⟩
            replace H : (if (ji13) = (wrap64 (a0 + a1)) then (parts_Cuts.j1 kj3 a1 a2 ji10 (decide ((ji10) ≤ a1))) else (parts_Cuts.j1 kj3 a1 a2 ji10 true)) = some r := by first | (rw [hji13] at H; exact H) | (simp only [hji13] at H ⊢; exact H)
            have hji13_ : (IntKind.i64.wrap ((ji10) * 2 ^ min a2.toNat 64)) = ji13 := hji13
            have hji13z : a2 ≤ 64 → (IntKind.i64.wrap ((ji10) * 2 ^ a2.toNat)) = ji13 := shl_small hji13
            have hji13y : (wrap64 ((ji10) * 2 ^ min a2.toNat 64)) = ji13 := (i64_w _).symm.trans hji13_
            have hji13x : a2 ≤ 64 → (wrap64 ((ji10) * 2 ^ a2.toNat)) = ji13 := fun h_ => (i64_w _).symm.trans (hji13z h_)
            by_cases c14 : (ji13) = (wrap64 (a0 + a1))
            · rw [if_pos c14] at H
              have c14b0 : ((ji13) == (wrap64 (a0 + a1))) = true := beq_iff_eq.mpr c14
              have c14b1 : ((ji13) != (wrap64 (a0 + a1))) = false := bne_eq_false_iff_eq.mpr c14
              clear c14
              (first | rw [c14b0] | (simp only [i64_w, i32_w]; rw [c14b0]) | skip)
              have H' := zF.mk H
              clear H
              go_wp2
              go_meet
              case rel => exact ⟨_, (decide ((ji10) ≤ a1)), (by first | rfl | (simp; done) | (simp only [← hji10] <;> (first | rfl | simp)) | (simp [*]; done)), H', ⟨by have := HJ3.out; first | omega | exact Nat.le_refl _⟩, ⟨by repeat (first | (with_reducible first | exact HB.out | apply zE | apply zB | apply zC) | exact HB.out)⟩⟩
            · rw [if_neg c14] at H
              have c14b0 : ((ji13) == (wrap64 (a0 + a1))) = false := beq_eq_false_iff_ne.mpr c14
              have c14b1 : ((ji13) != (wrap64 (a0 + a1))) = true := bne_iff_ne.mpr c14
              (first | rw [c14b0] | (simp only [i64_w, i32_w]; rw [c14b0]) | skip)
              have H' := zF.mk H
              clear H
              go_wp2
              go_meet
              case rel => exact ⟨_, (true), (by first | rfl | (simp; done) | (simp only [i64_w, i32_w]; done) | (simp [*]; done) | (simp only [i64_w, i32_w]; first | rfl | (simp; done) | (simp [*]; done))), H', ⟨by have := HJ3.out; first | omega | exact Nat.le_refl _⟩, ⟨by repeat (first | (with_reducible first | exact HB.out | apply zE | apply zB | apply zC) | exact HB.out)⟩⟩
          case rest =>
            clear HC11
            try clear c1
            try clear c2
            try clear p2
            try clear c5
            try clear c5b0
            try clear c6
            try clear c6b0
            try clear p6
            try clear c7
            try clear c7b0
            try clear c8
            try clear c9
            try clear c9b0
            try clear c9b1
            try clear c12
            try clear c12b0
            try clear c14
            try clear c14b0
            try clear c14b1
            try clear p2
            obtain ⟨kq, x40_10, rfl, HA, HJ10, HB⟩ := hcut
            cases kq with
            | zero => exact absurd HA.out (by simp [parts_Cuts.j1])
            | succ kj10 =>
              have H := HA.out
              clear HA
              simp only [parts_Cuts.j1] at H
              by_cases c15 : x40_10 = true
              · subst c15
                have H1 : (some ([] : List Int)) = some r := by rw [if_pos rfl] at H; exact H
                clear H
                have H := H1
                clear H1
                obtain rfl := Option.some.inj H
                go_wp2
                go_ret
                exact ⟨_, by first | rfl | (simp [errW_none, errW_some] <;> rfl) | (simp only [← hji10]; first | rfl | (simp [errW_none, errW_some] <;> rfl)) | (simp [*, errW_none, errW_some] <;> rfl), by first | exact Kd.R_nil _ _ _ _ _ | exact Kd.N_nil _ _ _ _ _ | exact Kd.V_nil _ _ _ _ _ | exact Kd.Q_nil _ _ _ _ _ | exact Kd.S_nil _ _ _ _ _, by repeat (first | (with_reducible first | exact HB.out | apply zE | apply zB | apply zC) | exact HB.out)⟩
              · replace c15 := Bool.eq_false_iff.mpr c15
                subst c15
                have H1 : (if 0 ≤ a2 then (if 0 ≤ (shl .i64 1 a2) then (if (shl .i64 1 a2 : Int).toNat ≤ 35184372088832 then ((some (List.replicate (shl .i64 1 a2 : Int).toNat 0 : List Int)).bind fun y101 => (parts_Cuts.l0 kj10 a1 ji10 y101 (y101.length : Int) 0)) else (none)) else (none)) else (none)) = some r := by rw [if_neg (show ¬ (false = true) by decide)] at H; exact H
                clear H
                have H := H1
                clear H1
                by_cases c16 : 0 ≤ a2
                · rw [if_pos c16] at H
                  have c16b0 := eq_true c16
                  have c16b1 : decide (0 ≤ a2) = true := decide_eq_true c16
                  clear c16
                  obtain ⟨ji17, hji17⟩ : ∃ j_ : Int, (shl .i64 1 a2) = j_ := ⟨_, rfl⟩
                  replace H : (if 0 ≤ (ji17) then (if (ji17 : Int).toNat ≤ 35184372088832 then ((some (List.replicate (ji17 : Int).toNat 0 : List Int)).bind fun y101 => (parts_Cuts.l0 kj10 a1 ji10 y101 (y101.length : Int) 0)) else (none)) else (none)) = some r := by first | (rw [hji17] at H; exact H) | (simp only [hji17] at H ⊢; exact H)
                  have hji17_ : (IntKind.i64.wrap (1 * 2 ^ min a2.toNat 64)) = ji17 := hji17
                  have hji17z : a2 ≤ 64 → (IntKind.i64.wrap (1 * 2 ^ a2.toNat)) = ji17 := shl_small hji17
                  have hji17u : (IntKind.i64.wrap (2 ^ min a2.toNat 64)) = ji17 := by have h_ := hji17_; rw [Int.one_mul] at h_; exact h_
                  have hji17v : a2 ≤ 64 → (IntKind.i64.wrap (2 ^ a2.toNat)) = ji17 := fun hle_ => by have h_ := hji17z hle_; rw [Int.one_mul] at h_; exact h_
                  have hji17y : (wrap64 (1 * 2 ^ min a2.toNat 64)) = ji17 := (i64_w _).symm.trans hji17_
                  have hji17x : a2 ≤ 64 → (wrap64 (1 * 2 ^ a2.toNat)) = ji17 := fun h_ => (i64_w _).symm.trans (hji17z h_)
                  by_cases c18 : 0 ≤ (ji17)
                  · rw [if_pos c18] at H
                    have c18b0 := eq_true c18
                    have c18b1 : decide (0 ≤ (ji17)) = true := decide_eq_true c18
                    clear c18
                    by_cases c19 : (ji17 : Int).toNat ≤ 35184372088832
                    · rw [if_pos c19] at H
                      have c19b0 := eq_true c19
                      have c19b1 : decide ((ji17 : Int).toNat ≤ 35184372088832) = true := decide_eq_true c19
                      clear c19
                      obtain ⟨y101, hy101⟩ : ∃ y_ : List Int, y_ = (List.replicate (ji17 : Int).toNat 0) := ⟨_, rfl⟩
                      replace H : (parts_Cuts.l0 kj10 a1 ji10 y101 (y101.length : Int) 0) = some r := by first | (rw [hy101]; with_reducible exact H) | (have H2_ := (Option.bind_some _ _).symm.trans H; rw [hy101]; with_reducible exact H2_) | (have H2_ := (Option.bind_some _ _).symm.trans H; with_reducible exact H2_) | with_reducible exact H | (rw [hy101]; exact H) | exact H
                      have Ny101 := zF.mk hy101
                      clear hy101
                      have H' := zF.mk H
                      clear H
                      go_wp2_with (first | ((with_reducible refine gate_dst (N := 43) rfl ?_); refine Kd.R_make (Kd.int .i64) _ 3 rfl (N := 43) rfl 22 _ _ rfl ji17 rfl rfl Try.underlying22 (.int .i64 0) 8 info3 rfl (by decide) (by omega) 0 (ok := fun _ => True) (okp := fun _ => True) rfl (fun _ hk => hk) trivial (of_decide_eq_true (by first | (with_reducible assumption) | assumption)) (Nat.le_trans (Nat.mul_le_mul_right _ (of_decide_eq_true (by first | (with_reducible assumption) | assumption) : ji17.toNat ≤ 35184372088832)) (by omega)) (Below.refl _ _) (Nat.le_refl _) ?_; intro v102 w20 ho21 hb hg_ hnew_; clear hg_ hnew_; (first | rw [← Ny101.out] at ho21 | (simp only [Int.reduceToNat] at ho21; rw [← Ny101.out] at ho21)); have n0_ := zF.mk (Kd.R_lower ho21 (below_size (by repeat (first | (with_reducible first | exact HB.out | apply zE | apply zB | apply zC) | exact HB.out)))); have n1_ := zF.mk (below_step (by repeat (first | (with_reducible first | exact HB.out | apply zE | apply zB | apply zC) | exact HB.out)) hb); clear HB; have HO103 := n0_; have HB := n1_; clear n0_ n1_; clear hb ho21; obtain ⟨Ao22, co22, eo22⟩ := Kd.R_slice HO103.out; subst eo22))
                      go_loopg [46] kj10 (fun kq v46 w' => ∃ (x9_3 : List Int) (x46_3 : Int), v46 = .int .i64 x46_3 ∧ zF (parts_Cuts.l0 kq a1 ji10 x9_3 (y101.length : Int) x46_3 = some r) ∧ zF (kq ≤ kj10) ∧ zF (Kd.R (Kd.int .i64) 3 w' w.heap.size (fun _ => True) (.slice Ao22 y101.length co22) x9_3) ∧ zF (Below w.heap.size w w'))
                      case atStart => exact ⟨(y101), (0), (by first | rfl | (simp; done) | (simp only [i64_w, i32_w]; done) | (simp [*]; done) | (simp only [i64_w, i32_w]; first | rfl | (simp; done) | (simp [*]; done))), H', ⟨Nat.le_refl _⟩, ⟨by (with_reducible repeat (first | apply Kd.zR | apply Kd.zP | apply Kd.zQ)); exact HO103.out⟩, ⟨by repeat (first | (with_reducible first | exact HB.out | apply zE | apply zB | apply zC) | exact HB.out)⟩⟩
                      case round =>
                        clear H'
                        try clear c1
                        try clear c2
                        try clear p2
                        try clear c5
                        try clear c5b0
                        try clear c6
                        try clear c6b0
                        try clear p6
                        try clear c7
                        try clear c7b0
                        try clear c8
                        try clear c9
                        try clear c9b0
                        try clear c9b1
                        try clear c12
                        try clear c12b0
                        try clear c14
                        try clear c14b0
                        try clear c14b1
                        try clear c15
                        try clear c16
                        try clear c16b0
                        try clear c16b1
                        try clear c18
                        try clear c18b0
                        try clear c18b1
                        try clear c19
                        try clear c19b0
                        try clear c19b1
                        try clear p2
                        try clear p6
                        obtain ⟨x9_3, x46_3, rfl, HA, HK3, HO_9, HB⟩ := hrel
                        have hl9_3 := (Kd.R_reads' HO_9.out).1
                        rw [hl9_3] at HO_9
                        (try simp only [hl9_3])
                        cases gk with
                        | zero => exact absurd HA.out (by simp [parts_Cuts.l0])
                        | succ k3 =>
                          have H := HA.out
                          clear HA
                          simp only [parts_Cuts.l0] at H
                          by_cases c23 : x46_3 < (y101.length : Int)
                          · rw [if_pos c23] at H
                            have c23b0 : decide (x46_3 < (y101.length : Int)) = true := decide_eq_true c23
                            (try simp only [hl9_3] at c23b0)
                            clear c23
                            by_cases c24 : 0 ≤ x46_3
                            · rw [if_pos c24] at H
                              have c24b0 : decide (0 ≤ x46_3) = true := decide_eq_true c24
                              (try simp only [hl9_3] at c24b0)
                              clear c24
                              by_cases c25 : x46_3 < (x9_3.length : Int)
                              · rw [if_pos c25] at H
                                have c25b0 : decide (x46_3 < (x9_3.length : Int)) = true := decide_eq_true c25
                                (try simp only [hl9_3] at c25b0)
                                clear c25
                                obtain ⟨y104, hy104⟩ : ∃ y_ : List Int, y_ = (x9_3.set (x46_3 : Int).toNat ji10) := ⟨_, rfl⟩
                                replace H : (parts_Cuts.l0 k3 a1 ji10 y104 (y101.length : Int) (wrap64 (x46_3 + 1))) = some r := by first | (rw [hy104]; with_reducible exact H) | (have H2_ := (Option.bind_some _ _).symm.trans H; rw [hy104]; with_reducible exact H2_) | (have H2_ := (Option.bind_some _ _).symm.trans H; with_reducible exact H2_) | with_reducible exact H | (rw [hy104]; exact H) | exact H
                                have Ny104 := zF.mk hy104
                                clear hy104
                                have H' := zF.mk H
                                clear H
                                have p26 : 0 ≤ (x46_3 : Int) := of_decide_eq_true (by first | (with_reducible assumption) | assumption)
                                have q26 : (x46_3 : Int) < ((x9_3.length : Int) : Int) := of_decide_eq_true (by first | (with_reducible assumption) | assumption)
                                obtain ⟨go26, co26, eo26, gb26, gl26, cl26, HG26⟩ := Kd.R_form HO_9.out (by omega)
                                (first | cases eo26 | (injection eo26 with ea_ en_ ec_; (first | subst ea_ | (injection ea_ with ea_; subst ea_)); subst ec_; clear en_))
                                have GB26 := zF.mk gb26
                                have GG26 := zF.mk HG26
                                clear gb26 gl26 HG26
                                obtain ⟨hx26_0, hf26_0⟩ := Kd.R_celln 0 HO_9.out (x46_3 : Int) p26 q26
                                replace p26 := eq_true p26
                                replace q26 := eq_true q26
                                have HP27 := Kd.R_putg HO_9.out (x46_3 : Int) ji10
                                go_wp2_with (first | ((with_reducible refine gate_store (t := 3) (p := 52) rfl ?_); refine store_event (t := 3) (p := 52) (v := ?vo_w28) (w1 := (wr.setCell ⟨go26, (x46_3 : Int).toNat, none⟩ (.int .i64 ji10))) ?hg ?ho ?hn ?hr ?_; (case ho => rfl); (case hg => rfl); (case hn => rfl); (case hr => first | (go_simp; done) | (go_simp; rfl)); intro w28 hw; have hg : wr.grownBy w28 (some go26) := (by rw [hw]; exact HP27.2); have hp_ : Kd.R (Kd.int .i64) 3 w28 w.heap.size (fun _ => True) (.slice (some ⟨go26, 0, none⟩) x9_3.length co22) y104 := (by rw [hw, Ny104.out]; exact HP27.1); clear HP27; have n0_ := zF.mk (hp_); have n1_ := zF.mk ((by rw [hw]; exact zD (HB.out) GB26.out : Below w.heap.size w w28)); clear HO_9; clear HB; have HO_9 := n0_; have HB := n1_; clear n0_ n1_; clear hg hw hp_))
                                (try simp only [← hl9_3])
                                go_roundg k3
                                case measure => have := HJ3.out; have := HJ10.out; have := HK3.out; omega
                                case rel => exact ⟨(y104), (wrap64 (x46_3 + 1)), (by first | rfl | (simp; done) | (simp only [i64_w, i32_w]; done) | (simp [*]; done) | (simp only [i64_w, i32_w]; first | rfl | (simp; done) | (simp [*]; done))), H', ⟨by have := HJ3.out; have := HJ10.out; have := HK3.out; omega⟩, ⟨by (try simp only [hl9_3]); (with_reducible repeat (first | apply Kd.zR | apply Kd.zP | apply Kd.zQ)); exact HO_9.out⟩, ⟨by repeat (first | (with_reducible first | exact HB.out | apply zE | apply zB | apply zC) | exact HB.out)⟩⟩
                              · rw [if_neg c25] at H
                                exact absurd H (by simp)
                            · rw [if_neg c24] at H
                              exact absurd H (by simp)
                          · rw [if_neg c23] at H
                            have c23b0 : decide (x46_3 < (y101.length : Int)) = false := decide_eq_false c23
                            (try simp only [hl9_3] at c23b0)
                            clear c23
                            by_cases c29 : 0 < (x9_3.length : Int)
                            · rw [if_pos c29] at H
                              have c29b0 : decide (0 < (x9_3.length : Int)) = true := decide_eq_true c29
                              (try simp only [hl9_3] at c29b0)
                              have c29b1 : decide (0 < x9_3.length) = true := decide_eq_true (by omega)
                              (try simp only [hl9_3] at c29b1)
                              clear c29
                              obtain ⟨y106, hy106⟩ : ∃ y_ : List Int, y_ = (x9_3.set (0 : Int).toNat (wrap64 ((rd x9_3 0) - a1))) := ⟨_, rfl⟩
                              replace H : (some y106) = some r := by first | (rw [hy106]; with_reducible exact H) | (have H2_ := (Option.bind_some _ _).symm.trans H; rw [hy106]; with_reducible exact H2_) | (have H2_ := (Option.bind_some _ _).symm.trans H; with_reducible exact H2_) | with_reducible exact H | (rw [hy106]; exact H) | exact H
                              have Ny106 := zF.mk hy106
                              clear hy106
                              obtain rfl := Option.some.inj H
                              have p105 : 0 ≤ (0 : Int) := (by omega)
                              have q105 : 0 < (x9_3.length : Int) := of_decide_eq_true (by first | (with_reducible assumption) | assumption)
                              obtain ⟨ad105, e105, hx105_0⟩ := Kd.at_int (Kd.R_reads' HO_9.out).2.2 0 p105 q105
                              cases e105
                              have qi105 : (0 < x9_3.length) = True := eq_true (by omega)
                              (try rw [show ((0 : Int)).toNat = 0 from rfl] at hx105_0)
                              (try rw [Addr.add_zero'] at hx105_0)
                              replace p105 := eq_true p105
                              replace q105 := eq_true q105
                              have p30 : 0 ≤ (0 : Int) := (by omega)
                              have q30 : (0 : Int) < ((x9_3.length : Int) : Int) := of_decide_eq_true (by first | (with_reducible assumption) | assumption)
                              have qi30 : (0 < x9_3.length) = True := eq_true (by omega)
                              obtain ⟨go30, co30, eo30, gb30, gl30, cl30, HG30⟩ := Kd.R_form HO_9.out (by omega)
                              (first | cases eo30 | (injection eo30 with ea_ en_ ec_; (first | subst ea_ | (injection ea_ with ea_; subst ea_)); subst ec_; clear en_))
                              have GB30 := zF.mk gb30
                              have GG30 := zF.mk HG30
                              clear gb30 gl30 HG30
                              (first | simp only [add_plain] at hx105_0 | skip)
                              obtain ⟨hx30_0, hf30_0⟩ := Kd.R_celln 0 HO_9.out (0 : Int) p30 q30
                              (try rw [show ((0 : Int)).toNat = 0 from rfl] at hx30_0)
                              (try simp only [Nat.reduceMul, Nat.zero_mul, Nat.zero_add, Nat.reduceAdd] at hx30_0)
                              (try rw [show ((0 : Int)).toNat = 0 from rfl] at hf30_0)
                              (try simp only [Nat.reduceMul, Nat.zero_mul, Nat.zero_add, Nat.reduceAdd] at hf30_0)
                              replace p30 := eq_true p30
                              replace q30 := eq_true q30
                              have HP31 := Kd.R_putg HO_9.out (0 : Int) (wrap64 ((rd x9_3 0) - a1))
                              go_wp2_with (first | ((with_reducible refine gate_store (t := 3) (p := 59) rfl ?_); refine store_event (t := 3) (p := 59) (v := ?vo_w32) (w1 := (wr.setCell ⟨go30, (0 : Int).toNat, none⟩ (.int .i64 (wrap64 ((rd x9_3 0) - a1))))) ?hg ?ho ?hn ?hr ?_; (case ho => rfl); (case hg => rfl); (case hn => rfl); (case hr => first | (go_simp; done) | (go_simp; rfl)); intro w32 hw; have hg : wr.grownBy w32 (some go30) := (by rw [hw]; exact HP31.2); have hp_ : Kd.R (Kd.int .i64) 3 w32 w.heap.size (fun _ => True) (.slice (some ⟨go30, 0, none⟩) x9_3.length co22) y106 := (by rw [hw, Ny106.out]; exact HP31.1); clear HP31; have n0_ := zF.mk (hp_); have n1_ := zF.mk ((by rw [hw]; exact zD (HB.out) GB30.out : Below w.heap.size w w32)); clear HO_9; clear HB; have HO_9 := n0_; have HB := n1_; clear n0_ n1_; clear hg hw hp_))
                              go_ret
                              exact ⟨_, by first | rfl | (simp [errW_none, errW_some] <;> rfl) | (simp only [← hji10, ← hji17]; first | rfl | (simp [errW_none, errW_some] <;> rfl)) | (simp [*, errW_none, errW_some] <;> rfl), by (with_reducible repeat (first | apply Kd.zR | apply Kd.zP | apply Kd.zQ)); exact HO_9.out, by repeat (first | (with_reducible first | exact HB.out | apply zE | apply zB | apply zC) | exact HB.out)⟩
                            · rw [if_neg c29] at H
                              exact absurd H (by simp)
                    · rw [if_neg c19] at H
                      exact absurd H (by simp)
                  · rw [if_neg c18] at H
                    exact absurd H (by simp)
                · rw [if_neg c16] at H
                  exact absurd H (by simp)
        · rw [if_neg c9] at H
          exact absurd H (by simp)
end Go.Proofs.Ytokdjeoecnnckaa.PA
end
section
namespace Go.Proofs.Ytokdjeoecnnckaa.PA
open Go.RowKit Go.Proofs.YtokdjeoecnnckaaW.PrintWords Go.Proofs.YtokdjeoecnnckaaW.PrintLast Go.Proofs.YtokdjeoecnnckaaW.PrintMore
attribute [local go_sem] max2_int min2_int max_two min_two max_three min_three max_four min_four   -- for this text's walks alone
set_option linter.unusedVariables false
set_option linter.unusedSimpArgs false

def parts_top.f (a0 : Bool) : Option (Int × Int) := if a0 = true then (some (30, 5)) else (some (14, 4))
set_option maxHeartbeats 8000000 in
set_option maxRecDepth 100000 in
theorem parts_top.calls (a0 : Bool) (r1 : Int) (r2 : Int) (w : World) (h : parts_top.f a0 = some (r1, r2)) :
    Calls Try.prog 29 #[.bool a0] w fun e w' => e = .returned (.tuple #[.int .i64 r1, .int .i64 r2]) ∧ Drawn0 w w' := by
  have H : (if a0 = true then (some (30, 5)) else (some (14, 4))) = some (r1, r2) := h
  clear h
  by_cases c2 : a0 = true
  · subst c2
    have H1 : (some (30, 5)) = some (r1, r2) := by rw [if_pos rfl] at H; exact H
    clear H
    have H := H1
    clear H1
    simp only [Option.some.injEq, Prod.mk.injEq] at H
    obtain ⟨rfl, rfl⟩ := H
    go_enter Try.func29, Try.ntmps29
    go_wp2
    go_ret2
    exact ⟨by first | rfl | (simp; done) | (simp [*]; done), by repeat (first | exact Drawn0.refl _ | apply Drawn0.step)⟩
  · replace c2 := Bool.eq_false_iff.mpr c2
    subst c2
    have H1 : (some (14, 4)) = some (r1, r2) := by rw [if_neg (show ¬ (false = true) by decide)] at H; exact H
    clear H
    have H := H1
    clear H1
    simp only [Option.some.injEq, Prod.mk.injEq] at H
    obtain ⟨rfl, rfl⟩ := H
    go_enter Try.func29, Try.ntmps29
    go_wp2
    go_ret2
    exact ⟨by first | rfl | (simp; done) | (simp [*]; done), by repeat (first | exact Drawn0.refl _ | apply Drawn0.step)⟩

-- NOT PRINTED: function 60 (slices_IndexFunc_int_int)

-- NOT PRINTED: function 53 (slices_ContainsFunc_int_int)

def rice_Near.f (a0 : Int) : Option (Bool) := if a0 ≥ (-8589934592) then (some (decide (a0 < 8589934592))) else (some false)
set_option maxHeartbeats 8000000 in
set_option maxRecDepth 100000 in
theorem rice_Near.calls (a0 : Int) (r : Bool) (w : World) (h : rice_Near.f a0 = some r) :
    Calls Try.prog 47 #[.int .i64 a0] w fun e w' => e = .returned (.bool r) ∧ Drawn0 w w' := by
  have H : (if a0 ≥ (-8589934592) then (some (decide (a0 < 8589934592))) else (some false)) = some r := h
  clear h
  by_cases c2 : a0 ≥ (-8589934592)
  · rw [if_pos c2] at H
    have c2b0 : decide ((-8589934592) ≤ a0) = true := decide_eq_true c2
    clear c2
    obtain rfl := Option.some.inj H
    go_enter Try.func47, Try.ntmps47
    go_wp2
    go_ret
    exact ⟨by first | rfl | (simp; done) | (simp [*]; done), by repeat (first | exact Drawn0.refl _ | apply Drawn0.step)⟩
  · rw [if_neg c2] at H
    have c2b0 : decide ((-8589934592) ≤ a0) = false := decide_eq_false c2
    clear c2
    obtain rfl := Option.some.inj H
    go_enter Try.func47, Try.ntmps47
    go_wp2
    go_ret
    exact ⟨by first | rfl | (simp; done) | (simp [*]; done), by repeat (first | exact Drawn0.refl _ | apply Drawn0.step)⟩


def pcm_In.f (a0 : Int) (a1 : Int) : Option (Bool) := if a1 < 1 then (some false) else (if a1 > 62 then (some false) else (if 0 ≤ (wrap64 (a1 - 1)) then (if (shr .i64 a0 (wrap64 (a1 - 1))) = 0 then (some true) else (some ((shr .i64 a0 (wrap64 (a1 - 1))) == (-1)))) else (none)))
set_option maxHeartbeats 8000000 in
set_option maxRecDepth 100000 in
theorem pcm_In.calls (a0 : Int) (a1 : Int) (r : Bool) (w : World) (h : pcm_In.f a0 a1 = some r) :
    Calls Try.prog 55 #[.int .i64 a0, .int .i64 a1] w fun e w' => e = .returned (.bool r) ∧ Drawn0 w w' := by
  have H : (if a1 < 1 then (some false) else (if a1 > 62 then (some false) else (if 0 ≤ (wrap64 (a1 - 1)) then (if (shr .i64 a0 (wrap64 (a1 - 1))) = 0 then (some true) else (some ((shr .i64 a0 (wrap64 (a1 - 1))) == (-1)))) else (none)))) = some r := h
  clear h
  by_cases c3 : a1 < 1
  · rw [if_pos c3] at H
    have c3b0 : decide (a1 < 1) = true := decide_eq_true c3
    clear c3
    obtain rfl := Option.some.inj H
    go_enter Try.func55, Try.ntmps55
    go_wp2
    go_ret
    exact ⟨by first | rfl | (simp; done) | (simp [*]; done), by repeat (first | exact Drawn0.refl _ | apply Drawn0.step)⟩
  · rw [if_neg c3] at H
    have c3b0 : decide (a1 < 1) = false := decide_eq_false c3
    clear c3
    by_cases c4 : a1 > 62
    · rw [if_pos c4] at H
      have c4b0 : decide (62 < a1) = true := decide_eq_true c4
      clear c4
      obtain rfl := Option.some.inj H
      go_enter Try.func55, Try.ntmps55
      go_wp2
      go_ret
      exact ⟨by first | rfl | (simp; done) | (simp [*]; done), by repeat (first | exact Drawn0.refl _ | apply Drawn0.step)⟩
    · rw [if_neg c4] at H
      have c4b0 : decide (62 < a1) = false := decide_eq_false c4
      clear c4
      obtain ⟨ji5, hji5⟩ : ∃ j_ : Int, (wrap64 (a1 - 1)) = j_ := ⟨_, rfl⟩
      replace H : (if 0 ≤ (ji5) then (if (shr .i64 a0 (ji5)) = 0 then (some true) else (some ((shr .i64 a0 (ji5)) == (-1)))) else (none)) = some r := by first | (rw [hji5] at H; exact H) | (simp only [hji5] at H ⊢; exact H)
      have hji5w : (IntKind.i64.wrap (a1 - 1)) = ji5 := (i64_w _).trans hji5
      by_cases c6 : 0 ≤ (ji5)
      · rw [if_pos c6] at H
        have c6b0 := eq_true c6
        have c6b1 : decide (0 ≤ (ji5)) = true := decide_eq_true c6
        clear c6
        obtain ⟨ji7, hji7⟩ : ∃ j_ : Int, (shr .i64 a0 (ji5)) = j_ := ⟨_, rfl⟩
        replace H : (if (ji7) = 0 then (some true) else (some ((ji7) == (-1)))) = some r := by first | (rw [hji7] at H; exact H) | (simp only [hji7] at H ⊢; exact H)
        have hji7_ : (a0 / 2 ^ min (ji5).toNat 64) = ji7 := hji7
        have hji7z : (ji5) ≤ 64 → (a0 / 2 ^ (ji5).toNat) = ji7 := shr_small hji7
        by_cases c8 : (ji7) = 0
        · rw [if_pos c8] at H
          have c8b0 : ((ji7) == 0) = true := beq_iff_eq.mpr c8
          have c8b1 : ((ji7) != 0) = false := bne_eq_false_iff_eq.mpr c8
          clear c8
          obtain rfl := Option.some.inj H
          go_enter Try.func55, Try.ntmps55
          go_wp2
          go_ret
          exact ⟨by first | rfl | (simp; done) | (simp only [← hji5, ← hji7] <;> (first | rfl | simp)) | (simp [*]; done), by repeat (first | exact Drawn0.refl _ | apply Drawn0.step)⟩
        · rw [if_neg c8] at H
          have c8b0 : ((ji7) == 0) = false := beq_eq_false_iff_ne.mpr c8
          have c8b1 : ((ji7) != 0) = true := bne_iff_ne.mpr c8
          obtain rfl := Option.some.inj H
          go_enter Try.func55, Try.ntmps55
          go_wp2
          go_ret
          exact ⟨by first | rfl | (simp; done) | (simp only [← hji5, ← hji7] <;> (first | rfl | simp)) | (simp [*]; done), by repeat (first | exact Drawn0.refl _ | apply Drawn0.step)⟩
      · rw [if_neg c6] at H
        exact absurd H (by simp)

def serinetteshadow_AnyFarCost.l0 : Nat → List Int → Int → Int → Option (Bool)
  | 0, _, _, _ => none
  | k + 1, x0, x5, x6 => if x6 < x5 then (if 0 ≤ x6 then (if x6 < (x0.length : Int) then (if (rd x0 x6) < (-8589934592) then (some true) else (if (rd x0 x6) ≥ 8589934592 then (some true) else (serinetteshadow_AnyFarCost.l0 k x0 x5 (wrap64 (x6 + 1))))) else (none)) else (none)) else (some false)
def serinetteshadow_AnyFarCost.f (k : Nat) (l0 : List Int) : Option (Bool) := serinetteshadow_AnyFarCost.l0 k l0 (l0.length : Int) 0
def costB (n : Int) : Bool := decide (n < -8589934592) || decide (n ≥ 8589934592)
theorem near_f (n : Int) : rice_Near.f n = some (!costB n) := by
  unfold rice_Near.f costB
  by_cases h : n ≥ -8589934592
  · by_cases g : n < 8589934592
    · first | (simp [h, g]; done) | (simp [h, g]; omega)
    · first | (simp [h, g]; done) | (simp [h, g]; omega)
  · first | (simp [h]; done) | (simp [h]; omega)
theorem costFar.calls (n : Int) (w : World) : Calls Try.prog 54 #[.int .i64 n] w fun e w' => e = .returned (.bool (costB n)) ∧ Drawn0 w w' := by
  have hc := rice_Near.calls n (!costB n) w (near_f n)
  generalize costB n = b at hc ⊢
  have HC := zF.mk hc
  clear hc
  go_enter Try.func54, Try.ntmps54
  go_wp2_with (go_at_call 47; (with_reducible refine HC.out.mono ?_); rintro e w' ⟨rfl, ⟨nd, rfl⟩⟩)
  go_ret
  exact ⟨by first | rfl | (simp; done) | (simp [*]; done), by repeat (first | exact Drawn0.refl _ | apply Drawn0.step)⟩
set_option maxRecDepth 100000 in
theorem cost_IndexFunc.calls (A0 : Option Addr) (c0 : Nat) (l0 : List Int) (w : World) (hr0 : Kd.C (Kd.int .i64) w A0 l0.length l0) :
    Calls Try.prog 60 #[.slice A0 l0.length c0, .func (.func 54) #[] #[]] w fun e w' => e = .returned (.int .i64 (Idx.idxI costB l0)) ∧ Drawn0 w w' := by
  have HR0 := zF.mk hr0
  have HL : l0.length ≤ 9223372036854775807 := hr0.2.1
  clear hr0
  generalize hX : Idx.idxI costB l0 = X
  have HX := zF.mk hX
  clear hX
  go_enter Try.func60, Try.ntmps60
  go_wp2
  go_loopg [8] l0.length (fun kq v8 w' => ∃ (i : Nat), v8 = .int .i64 (i : Int) ∧ zF (i + kq = l0.length) ∧ zF (∀ j, j < i → costB (rd l0 (j : Int)) = false) ∧ Drawn0 w w')
  case atStart => exact ⟨0, rfl, ⟨by omega⟩, ⟨fun j hj => by omega⟩, Drawn0.refl _⟩
  case round =>
    obtain ⟨i, rfl, HK, HN, ⟨m1, rfl⟩⟩ := hrel
    by_cases hi : i < l0.length
    · have p1 : 0 ≤ (i : Int) := by omega
      have q1 : (i : Int) < (l0.length : Int) := by omega
      obtain ⟨ad1, e1, hx1⟩ := Kd.at_int HR0.out (i : Int) p1 q1
      cases e1
      simp only [Int.toNat_natCast] at hx1
      have hq := decide_eq_true q1
      replace q1 := eq_true q1
      replace p1 := eq_true p1
      have hw1 : wrap64 ((i : Int) + 1) = ((i + 1 : Nat) : Int) := by unfold wrap64; omega
      have HW := zF.mk hw1
      clear hw1
      cases hp : costB (rd l0 (i : Int)) with
      | true =>
        have HP := zF.mk hp
        clear hp
        have hcall := costFar.calls (rd l0 (i : Int)) (w.drewN m1)
        rw [HP.out] at hcall
        have HC := zF.mk hcall
        clear hcall
        go_wp2_with (go_at_call 54; (with_reducible refine HC.out.mono ?_); rintro e w' ⟨rfl, ⟨nd, rfl⟩⟩)
        go_ret
        have := Idx.idxI_found hi (p := costB) HP.out HN.out
        rw [HX.out] at this
        subst this
        exact ⟨by first | rfl | (simp; done) | (simp [*]; done), by repeat (first | exact Drawn0.refl _ | apply Drawn0.step)⟩
      | false =>
        have HP := zF.mk hp
        clear hp
        have hcall := costFar.calls (rd l0 (i : Int)) (w.drewN m1)
        rw [HP.out] at hcall
        have HC := zF.mk hcall
        clear hcall
        go_wp2_with (go_at_call 54; (with_reducible refine HC.out.mono ?_); rintro e w' ⟨rfl, ⟨nd, rfl⟩⟩)
        go_roundg (l0.length - (i + 1))
        case measure => have := HK.out; omega
        case rel => exact ⟨i + 1, by first | rfl | (simp; done) | (simp [HW.out]; done) | go_num, ⟨by omega⟩, ⟨fun j hj => by
          rcases Nat.lt_or_ge j i with h | h
          · exact HN.out j h
          · obtain rfl : j = i := by omega
            exact HP.out⟩, by repeat (first | exact Drawn0.refl _ | apply Drawn0.step)⟩
    · have hq : decide ((i : Int) < (l0.length : Int)) = false := decide_eq_false (by omega)
      go_wp2
      go_ret
      have := Idx.idxI_none (l := l0) (p := costB) (fun j hj => HN.out j (by omega))
      rw [HX.out] at this
      subst this
      exact ⟨by first | rfl | (simp; done) | (simp [*]; done), by repeat (first | exact Drawn0.refl _ | apply Drawn0.step)⟩
set_option maxRecDepth 100000 in
theorem cost_ContainsFunc.calls (A0 : Option Addr) (c0 : Nat) (l0 : List Int) (w : World) (hr0 : Kd.C (Kd.int .i64) w A0 l0.length l0) (t : Bool) (ht : l0.any costB = t) :
    Calls Try.prog 53 #[.slice A0 l0.length c0, .func (.func 54) #[] #[]] w fun e w' => e = .returned (.bool t) ∧ Drawn0 w w' := by
  have hI := cost_IndexFunc.calls A0 c0 l0 w hr0
  have hge := Idx.idxI_ge costB l0
  rw [ht] at hge
  generalize Idx.idxI costB l0 = X at hI hge
  have HI := zF.mk hI
  clear hI hr0 ht
  go_enter Try.func53, Try.ntmps53
  go_wp2_with (go_at_call 60; (with_reducible refine HI.out.mono ?_); rintro e w' ⟨rfl, ⟨nd, rfl⟩⟩)
  go_ret
  exact ⟨by first | rfl | (simp; done) | (simp [*]; done), by repeat (first | exact Drawn0.refl _ | apply Drawn0.step)⟩
theorem cost_any_l0 (l : List Int) (hl : l.length ≤ 9223372036854775807) : ∀ (k i : Nat) (t : Bool), serinetteshadow_AnyFarCost.l0 k l (l.length : Int) (i : Int) = some t → t = (l.drop i).any costB := by
  intro k
  induction k with
  | zero => intro i t h; simp [serinetteshadow_AnyFarCost.l0] at h
  | succ k ih =>
    intro i t h
    simp only [serinetteshadow_AnyFarCost.l0] at h
    by_cases hi : i < l.length
    · have hw : wrap64 ((i : Int) + 1) = ((i + 1 : Nat) : Int) := by unfold wrap64; omega
      rw [if_pos (by omega), if_pos (by omega), if_pos (by omega), hw] at h
      have hd : l.drop i = rd l (i : Int) :: l.drop (i + 1) := by
        rw [List.drop_eq_getElem_cons hi]; simp [rd, List.getD_eq_getElem?_getD, List.getElem?_eq_getElem hi]
      rw [hd, List.any_cons]
      generalize rd l (i : Int) = n at h ⊢
      by_cases h0 : n < (-8589934592)
      · rw [if_pos h0] at h
        rw [← Option.some.inj h]
        simp [costB, h0]
      · rw [if_neg h0] at h
        by_cases h1 : n ≥ 8589934592
        · rw [if_pos h1] at h
          rw [← Option.some.inj h]
          simp [costB, h1]
        · rw [if_neg h1] at h
          rw [← ih _ _ h]
          simp [costB]
          omega
    · rw [if_neg (by omega)] at h
      rw [← Option.some.inj h, List.drop_of_length_le (by omega)]
      rfl
set_option maxHeartbeats 8000000 in
set_option maxRecDepth 100000 in
theorem serinetteshadow_AnyFarCost.calls (k : Nat) (A0 : Option Addr) (c0 : Nat) (l0 : List Int) (r : Bool) (w : World) (hr0 : Kd.C (Kd.int .i64) w A0 l0.length l0) (hc0 : l0.length ≤ c0) (h : serinetteshadow_AnyFarCost.f k l0 = some r) :
    Calls Try.prog 53 #[.slice A0 l0.length c0, .func (.func 54) #[] #[]] w fun e w' => e = .returned (.bool r) ∧ Drawn0 w w' := by
  have e := cost_any_l0 l0 hr0.2.1 k 0 r h
  rw [List.drop_zero] at e
  exact cost_ContainsFunc.calls A0 c0 l0 w hr0 r e.symm
end Go.Proofs.Ytokdjeoecnnckaa.PA
end
section
namespace Go.Proofs.Ytokdjeoecnnckaa.PA
open Go.RowKit Go.Proofs.YtokdjeoecnnckaaW.PrintWords Go.Proofs.YtokdjeoecnnckaaW.PrintLast Go.Proofs.YtokdjeoecnnckaaW.PrintMore
attribute [local go_sem] max2_int min2_int max_two min_two max_three min_three max_four min_four   -- for this text's walks alone
set_option linter.unusedVariables false
set_option linter.unusedSimpArgs false

mutual
def cost_Width.l0 : Nat → Int → List Int → Int → Int → Option (Int)
  | 0, _, _, _, _ => none
  | k + 1, x3, x8, x9, x10 => if x10 < x9 then (if 0 ≤ x10 then (if x10 < (x8.length : Int) then (cost_Width.l1 k x3 (rd x8 x10) x8 x9 x10) else (none)) else (none)) else (some x3)
def cost_Width.l1 : Nat → Int → Int → List Int → Int → Int → Option (Int)
  | 0, _, _, _, _, _ => none
  | k + 1, x3, x5, x8, x9, x10 => if x5 = 0 then (cost_Width.l0 k x3 x8 x9 (wrap64 (x10 + 1))) else ((pcm_In.f x5 x3).bind fun t112 => (if t112 = true then (cost_Width.l0 k x3 x8 x9 (wrap64 (x10 + 1))) else (cost_Width.l1 k (wrap64 (x3 + 1)) x5 x8 x9 x10)))
end
def cost_Width.f (k : Nat) (l0 : List Int) : Option (Int) := (serinetteshadow_AnyFarCost.f k l0).bind fun t110 => (if t110 = true then (some (-1)) else (cost_Width.l0 k 0 l0 (l0.length : Int) 0))
set_option maxHeartbeats 8000000 in
set_option maxRecDepth 100000 in
theorem cost_Width.calls (k : Nat) (A0 : Option Addr) (c0 : Nat) (l0 : List Int) (r : Int) (w : World) (hr0 : Kd.C (Kd.int .i64) w A0 l0.length l0) (hc0 : l0.length ≤ c0) (h : cost_Width.f k l0 = some r) :
    Calls Try.prog 36 #[.slice A0 l0.length c0] w fun e w' => e = .returned (.int .i64 r) ∧ Drawn0 w w' := by
  have HR0 := zF.mk hr0
  have HC0 := zF.mk hc0
  clear hr0 hc0
  have H : ((serinetteshadow_AnyFarCost.f k l0).bind fun t110 => (if t110 = true then (some (-1)) else (cost_Width.l0 k 0 l0 (l0.length : Int) 0))) = some r := h
  clear h
  replace H := Option.bind_eq_some_iff.mp H
  obtain ⟨t110, A20, H⟩ := H
  replace H : (if t110 = true then (some (-1)) else (cost_Width.l0 k 0 l0 (l0.length : Int) 0)) = some r := H
  have A2 := zF.mk A20
  clear A20
  by_cases c3 : t110 = true
  · subst c3
    have H1 : (some (-1)) = some r := by rw [if_pos rfl] at H; exact H
    clear H
    have H := H1
    clear H1
    obtain rfl := Option.some.inj H
    go_enter Try.func36, Try.ntmps36
    go_wp2_with (first | ((with_reducible refine gate_callee (f := 53) rfl ?_); refine goesL_ (some 7) rfl rfl Try.func53 (by kernel_rfl) rfl #[.slice A0 l0.length c0, .func (.func 54) #[] #[]] rfl (by (try simp only [List.map_toArray, List.map_cons, List.map_nil]); first | done | rfl | (simp only [List.length_drop, List.length_take]; rfl)) ?_; (with_reducible refine (serinetteshadow_AnyFarCost.calls k _ _ l0 true _ ?side1 ?side2 A2.out).mono ?_); (case side1 => repeat (first | exact HR0.out | (with_reducible refine Kd.zU ?_ _) | (with_reducible refine Kd.zS ?_ _) | (with_reducible refine Kd.zT ?_))); (case side2 => exact HC0.out); rintro e w' ⟨rfl, ⟨nd, rfl⟩⟩; refine ⟨_, rfl, ?_⟩))
    go_ret
    exact ⟨by first | rfl | (simp; done) | (simp [*]; done), by repeat (first | exact Drawn0.refl _ | apply Drawn0.step)⟩
  · replace c3 := Bool.eq_false_iff.mpr c3
    subst c3
    have H1 : (cost_Width.l0 k 0 l0 (l0.length : Int) 0) = some r := by rw [if_neg (show ¬ (false = true) by decide)] at H; exact H
    clear H
    have H := H1
    clear H1
    have H' := zF.mk H
    clear H
    go_enter Try.func36, Try.ntmps36
    go_wp2_with (first | ((with_reducible refine gate_callee (f := 53) rfl ?_); refine goesL_ (some 7) rfl rfl Try.func53 (by kernel_rfl) rfl #[.slice A0 l0.length c0, .func (.func 54) #[] #[]] rfl (by (try simp only [List.map_toArray, List.map_cons, List.map_nil]); first | done | rfl | (simp only [List.length_drop, List.length_take]; rfl)) ?_; (with_reducible refine (serinetteshadow_AnyFarCost.calls k _ _ l0 false _ ?side1 ?side2 A2.out).mono ?_); (case side1 => repeat (first | exact HR0.out | (with_reducible refine Kd.zU ?_ _) | (with_reducible refine Kd.zS ?_ _) | (with_reducible refine Kd.zT ?_))); (case side2 => exact HC0.out); rintro e w' ⟨rfl, ⟨nd, rfl⟩⟩; refine ⟨_, rfl, ?_⟩))
    go_loopg [3, 10] k (fun kq v3 v10 w' => ∃ (x3_1 : Int) (x10_1 : Int), v3 = .int .i64 x3_1 ∧ v10 = .int .i64 x10_1 ∧ zF (cost_Width.l0 kq x3_1 l0 (l0.length : Int) x10_1 = some r) ∧ zF (kq ≤ k) ∧ Drawn0 w w')
    case atStart => exact ⟨(0), (0), (by first | rfl | (simp; done) | (simp only [i64_w, i32_w]; done) | (simp [*]; done) | (simp only [i64_w, i32_w]; first | rfl | (simp; done) | (simp [*]; done))), (by first | rfl | (simp; done) | (simp only [i64_w, i32_w]; done) | (simp [*]; done) | (simp only [i64_w, i32_w]; first | rfl | (simp; done) | (simp [*]; done))), H', ⟨Nat.le_refl _⟩, by repeat (first | exact Drawn0.refl _ | apply Drawn0.step)⟩
    case round =>
      clear H'
      try clear p2
      try clear c3
      obtain ⟨x3_1, x10_1, rfl, rfl, HA, HK1, ⟨m1, rfl⟩⟩ := hrel
      cases gk with
      | zero => exact absurd HA.out (by simp [cost_Width.l0])
      | succ k1 =>
        have H := HA.out
        clear HA
        simp only [cost_Width.l0] at H
        by_cases c4 : x10_1 < (l0.length : Int)
        · rw [if_pos c4] at H
          have c4b0 : decide (x10_1 < (l0.length : Int)) = true := decide_eq_true c4
          clear c4
          by_cases c5 : 0 ≤ x10_1
          · rw [if_pos c5] at H
            have c5b0 : decide (0 ≤ x10_1) = true := decide_eq_true c5
            clear c5
            by_cases c6 : x10_1 < (l0.length : Int)
            · rw [if_pos c6] at H
              have c6b0 : decide (x10_1 < (l0.length : Int)) = true := decide_eq_true c6
              clear c6
              have H' := zF.mk H
              clear H
              have p111 : 0 ≤ (x10_1 : Int) := of_decide_eq_true (by first | (with_reducible assumption) | assumption)
              have q111 : x10_1 < (l0.length : Int) := of_decide_eq_true (by first | (with_reducible assumption) | assumption)
              obtain ⟨ad111, e111, hx111_0⟩ := Kd.at_int HR0.out x10_1 p111 q111
              cases e111
              replace p111 := eq_true p111
              replace q111 := eq_true q111
              go_wp2
              go_loopg [3] k1 (fun kq v3 w' => ∃ (x3_2 : Int), v3 = .int .i64 x3_2 ∧ zF (cost_Width.l1 kq x3_2 (rd l0 x10_1) l0 (l0.length : Int) x10_1 = some r) ∧ zF (kq ≤ k1) ∧ Drawn0 w w')
              case atStart => exact ⟨(x3_1), (by first | rfl | (simp; done) | (simp only [i64_w, i32_w]; done) | (simp [*]; done) | (simp only [i64_w, i32_w]; first | rfl | (simp; done) | (simp [*]; done))), H', ⟨Nat.le_refl _⟩, by repeat (first | exact Drawn0.refl _ | apply Drawn0.step)⟩
              case round =>
                clear H'
                try clear p1
                try clear q1
                try clear hx1
                try clear p2
                try clear c3
                try clear c4
                try clear c4b0
                try clear c5
                try clear c5b0
                try clear c6
                try clear c6b0
                try clear hx111_0
                try clear p111
                try clear p2
                try clear q111
                obtain ⟨x3_2, rfl, HA, HK2, ⟨m2, rfl⟩⟩ := hrel
                cases gk with
                | zero => exact absurd HA.out (by simp [cost_Width.l1])
                | succ k2 =>
                  have H := HA.out
                  clear HA
                  simp only [cost_Width.l1] at H
                  by_cases c7 : (rd l0 x10_1) = 0
                  · rw [if_pos c7] at H
                    have c7b0 : ((rd l0 x10_1) == 0) = true := beq_iff_eq.mpr c7
                    have c7b1 : ((rd l0 x10_1) != 0) = false := bne_eq_false_iff_eq.mpr c7
                    clear c7
                    have H' := zF.mk H
                    clear H
                    go_wp2
                    go_roundg k2
                    case measure => have := HK1.out; have := HK2.out; omega
                    case rel => exact ⟨(x3_2), (wrap64 (x10_1 + 1)), (by first | rfl | (simp; done) | (simp only [i64_w, i32_w]; done) | (simp [*]; done) | (simp only [i64_w, i32_w]; first | rfl | (simp; done) | (simp [*]; done))), (by first | rfl | (simp; done) | (simp only [i64_w, i32_w]; done) | (simp [*]; done) | (simp only [i64_w, i32_w]; first | rfl | (simp; done) | (simp [*]; done))), H', ⟨by have := HK1.out; have := HK2.out; omega⟩, by repeat (first | exact Drawn0.refl _ | apply Drawn0.step)⟩
                  · rw [if_neg c7] at H
                    have c7b0 : ((rd l0 x10_1) == 0) = false := beq_eq_false_iff_ne.mpr c7
                    have c7b1 : ((rd l0 x10_1) != 0) = true := bne_iff_ne.mpr c7
                    replace H := Option.bind_eq_some_iff.mp H
                    obtain ⟨t112, A80, H⟩ := H
                    replace H : (if t112 = true then (cost_Width.l0 k2 x3_2 l0 (l0.length : Int) (wrap64 (x10_1 + 1))) else (cost_Width.l1 k2 (wrap64 (x3_2 + 1)) (rd l0 x10_1) l0 (l0.length : Int) x10_1)) = some r := H
                    have A8 := zF.mk A80
                    clear A80
                    by_cases c9 : t112 = true
                    · subst c9
                      have H1 : (cost_Width.l0 k2 x3_2 l0 (l0.length : Int) (wrap64 (x10_1 + 1))) = some r := by rw [if_pos rfl] at H; exact H
                      clear H
                      have H := H1
                      clear H1
                      have H' := zF.mk H
                      clear H
                      go_wp2_with (first | (go_at_call 55; (with_reducible refine (pcm_In.calls (rd l0 x10_1) x3_2 true _ A8.out).mono ?_); rintro e w' ⟨rfl, ⟨nd, rfl⟩⟩))
                      go_roundg k2
                      case measure => have := HK1.out; have := HK2.out; omega
                      case rel => exact ⟨(x3_2), (wrap64 (x10_1 + 1)), (by first | rfl | (simp; done) | (simp only [i64_w, i32_w]; done) | (simp [*]; done) | (simp only [i64_w, i32_w]; first | rfl | (simp; done) | (simp [*]; done))), (by first | rfl | (simp; done) | (simp only [i64_w, i32_w]; done) | (simp [*]; done) | (simp only [i64_w, i32_w]; first | rfl | (simp; done) | (simp [*]; done))), H', ⟨by have := HK1.out; have := HK2.out; omega⟩, by repeat (first | exact Drawn0.refl _ | apply Drawn0.step)⟩
                    · replace c9 := Bool.eq_false_iff.mpr c9
                      subst c9
                      have H1 : (cost_Width.l1 k2 (wrap64 (x3_2 + 1)) (rd l0 x10_1) l0 (l0.length : Int) x10_1) = some r := by rw [if_neg (show ¬ (false = true) by decide)] at H; exact H
                      clear H
                      have H := H1
                      clear H1
                      have H' := zF.mk H
                      clear H
                      go_wp2_with (first | (go_at_call 55; (with_reducible refine (pcm_In.calls (rd l0 x10_1) x3_2 false _ A8.out).mono ?_); rintro e w' ⟨rfl, ⟨nd, rfl⟩⟩))
                      go_roundg k2
                      case measure => have := HK1.out; have := HK2.out; omega
                      case rel => exact ⟨(wrap64 (x3_2 + 1)), (by first | rfl | (simp; done) | (simp only [i64_w, i32_w]; done) | (simp [*]; done) | (simp only [i64_w, i32_w]; first | rfl | (simp; done) | (simp [*]; done))), H', ⟨by have := HK1.out; have := HK2.out; omega⟩, by repeat (first | exact Drawn0.refl _ | apply Drawn0.step)⟩
            · rw [if_neg c6] at H
              exact absurd H (by simp)
          · rw [if_neg c5] at H
            exact absurd H (by simp)
        · rw [if_neg c4] at H
          have c4b0 : decide (x10_1 < (l0.length : Int)) = false := decide_eq_false c4
          clear c4
          obtain rfl := Option.some.inj H
          go_wp2
          go_ret
          exact ⟨by first | rfl | (simp; done) | (simp [*]; done), by repeat (first | exact Drawn0.refl _ | apply Drawn0.step)⟩

def rice_Fold.f (a0 : Int) : Option (Int) := some (Go.bits .xor .u64 (IntKind.u64.wrap ((IntKind.u64.wrap (a0)) * 2)) (IntKind.u64.wrap (a0 / 9223372036854775808)))
set_option maxHeartbeats 8000000 in
set_option maxRecDepth 100000 in
theorem rice_Fold.calls (a0 : Int) (r : Int) (w : World) (h : rice_Fold.f a0 = some r) :
    Calls Try.prog 44 #[.int .i64 a0] w fun e w' => e = .returned (.int .u64 r) ∧ Drawn0 w w' := by
  have H : (some (Go.bits .xor .u64 (IntKind.u64.wrap ((IntKind.u64.wrap (a0)) * 2)) (IntKind.u64.wrap (a0 / 9223372036854775808)))) = some r := h
  clear h
  obtain rfl := Option.some.inj H
  go_enter Try.func44, Try.ntmps44
  go_wp2
  go_ret
  exact ⟨by first | rfl | (simp; done) | (simp [*]; done), by repeat (first | exact Drawn0.refl _ | apply Drawn0.step)⟩

def rice_held.f (a0 : Int) : Option (Int) := some (mx 0 (mn a0 30))
set_option maxHeartbeats 8000000 in
set_option maxRecDepth 100000 in
theorem rice_held.calls (a0 : Int) (r : Int) (w : World) (h : rice_held.f a0 = some r) :
    Calls Try.prog 46 #[.int .i64 a0] w fun e w' => e = .returned (.int .i64 r) ∧ Below w.heap.size w w' := by
  have HB := zF.mk (Below.refl w.heap.size w)
  have H : (some (mx 0 (mn a0 30))) = some r := h
  clear h
  obtain ⟨ji2, hji2⟩ : ∃ j_ : Int, (mn a0 30) = j_ := ⟨_, rfl⟩
  replace H : (some (mx 0 (ji2))) = some r := by first | (rw [hji2] at H; exact H) | (simp only [hji2] at H ⊢; exact H)
  (try (have hji2h : ji2 ≤ 30 := by (rw [← hji2]; unfold mn; (repeat' split) <;> omega)))
  (try (have hji2g : ji2 ≤ 64 := by omega))
  have hji2_ : (if 30 < a0 then 30 else a0) = ji2 := hji2
  obtain ⟨ji3, hji3⟩ : ∃ j_ : Int, (mx 0 (ji2)) = j_ := ⟨_, rfl⟩
  replace H : (some ji3) = some r := by first | (rw [hji3] at H; exact H) | (simp only [hji3] at H ⊢; exact H)
  have hji3_ : (if 0 < (ji2) then (ji2) else 0) = ji3 := hji3
  obtain rfl := Option.some.inj H
  go_enter Try.func46, Try.ntmps46
  go_wp2
  go_ret
  exact ⟨by first | rfl | (simp [errW_none, errW_some] <;> rfl) | (simp only [← hji2, ← hji3]; first | rfl | (simp [errW_none, errW_some] <;> rfl)) | (simp [*, errW_none, errW_some] <;> rfl), by repeat (first | (with_reducible first | exact HB.out | apply zE | apply zB | apply zC) | exact HB.out)⟩
end Go.Proofs.Ytokdjeoecnnckaa.PA
end
section
namespace Go.Proofs.Ytokdjeoecnnckaa.PA
open Go.RowKit Go.Proofs.YtokdjeoecnnckaaW.PrintWords Go.Proofs.YtokdjeoecnnckaaW.PrintLast Go.Proofs.YtokdjeoecnnckaaW.PrintMore
attribute [local go_sem] max2_int min2_int max_two min_two max_three min_three max_four min_four   -- for this text's walks alone
set_option linter.unusedVariables false
set_option linter.unusedSimpArgs false

def rice_Size.f (a0 : Int) (a1 : Int) : Option (Int) := (rice_Near.f a0).bind fun t113 => (if t113 = true then ((rice_held.f a1).bind fun t114 => ((rice_Fold.f a0).bind fun t115 => (if 0 ≤ t114 then (some (wrap64 ((wrap64 ((wrap64 (shr .u64 t115 t114)) + 1)) + t114))) else (none)))) else (some (-1)))
set_option maxHeartbeats 8000000 in
set_option maxRecDepth 100000 in
theorem rice_Size.calls (a0 : Int) (a1 : Int) (r : Int) (w : World) (h : rice_Size.f a0 a1 = some r) :
    Calls Try.prog 58 #[.int .i64 a0, .int .i64 a1] w fun e w' => e = .returned (.int .i64 r) ∧ Below w.heap.size w w' := by
  have HB := zF.mk (Below.refl w.heap.size w)
  have H : ((rice_Near.f a0).bind fun t113 => (if t113 = true then ((rice_held.f a1).bind fun t114 => ((rice_Fold.f a0).bind fun t115 => (if 0 ≤ t114 then (some (wrap64 ((wrap64 ((wrap64 (shr .u64 t115 t114)) + 1)) + t114))) else (none)))) else (some (-1)))) = some r := h
  clear h
  replace H := Option.bind_eq_some_iff.mp H
  obtain ⟨t113, A30, H⟩ := H
  replace H : (if t113 = true then ((rice_held.f a1).bind fun t114 => ((rice_Fold.f a0).bind fun t115 => (if 0 ≤ t114 then (some (wrap64 ((wrap64 ((wrap64 (shr .u64 t115 t114)) + 1)) + t114))) else (none)))) else (some (-1))) = some r := H
  have A3 := zF.mk A30
  clear A30
  by_cases c4 : t113 = true
  focus
    subst c4
    have H1 : ((rice_held.f a1).bind fun t114 => ((rice_Fold.f a0).bind fun t115 => (if 0 ≤ t114 then (some (wrap64 ((wrap64 ((wrap64 (shr .u64 t115 t114)) + 1)) + t114))) else (none)))) = some r := by rw [if_pos rfl] at H; exact H
    clear H
    have H := H1
    clear H1
    replace H := Option.bind_eq_some_iff.mp H
    obtain ⟨t114, A50, H⟩ := H
    replace H : ((rice_Fold.f a0).bind fun t115 => (if 0 ≤ t114 then (some (wrap64 ((wrap64 ((wrap64 (shr .u64 t115 t114)) + 1)) + t114))) else (none))) = some r := H
    have A5 := zF.mk A50
    clear A50
    replace H := Option.bind_eq_some_iff.mp H
    obtain ⟨t115, A60, H⟩ := H
    replace H : (if 0 ≤ t114 then (some (wrap64 ((wrap64 ((wrap64 (shr .u64 t115 t114)) + 1)) + t114))) else (none)) = some r := H
    have A6 := zF.mk A60
    clear A60
    by_cases c7 : 0 ≤ t114
    focus
      rw [if_pos c7] at H
      have c7b0 := eq_true c7
      have c7b1 : decide (0 ≤ t114) = true := decide_eq_true c7
      clear c7
      obtain ⟨ji8, hji8⟩ : ∃ j_ : Int, (shr .u64 t115 t114) = j_ := ⟨_, rfl⟩
      replace H : (some (wrap64 ((wrap64 ((wrap64 (ji8)) + 1)) + t114))) = some r := by first | (rw [hji8] at H; exact H) | (simp only [hji8] at H ⊢; exact H)
      (try rw [hji8] at A3)
      (try rw [hji8] at A5)
      (try rw [hji8] at A6)
      have hji8_ : (t115 / 2 ^ min t114.toNat 64) = ji8 := hji8
      have hji8z : t114 ≤ 64 → (t115 / 2 ^ t114.toNat) = ji8 := shr_small hji8
      obtain rfl := Option.some.inj H
      go_enter Try.func58, Try.ntmps58
    rotate_left 1
    focus
      rw [if_neg c7] at H
      exact absurd H (by simp)
  rotate_left 1
  focus
    replace c4 := Bool.eq_false_iff.mpr c4
    subst c4
    have H1 : (some (-1)) = some r := by rw [if_neg (show ¬ (false = true) by decide)] at H; exact H
    clear H
    have H := H1
    clear H1
    obtain rfl := Option.some.inj H
    go_enter Try.func58, Try.ntmps58
  all_goals
    go_wp2_with (first | ((with_reducible refine gate_callee (f := 47) rfl ?_); refine goesL_ (some 6) rfl rfl Try.func47 (by kernel_rfl) rfl #[.int .i64 a0] rfl (by (try simp only [List.map_toArray, List.map_cons, List.map_nil]); first | done | rfl | (simp only [List.length_drop, List.length_take]; rfl)) ?_; (with_reducible refine (rice_Near.calls a0 true _ A3.out).mono ?_); rintro e w' ⟨rfl, ⟨nd, rfl⟩⟩; refine ⟨_, rfl, ?_⟩) | ((with_reducible refine gate_callee (f := 46) rfl ?_); refine goesL_ (some 9) rfl rfl Try.func46 (by kernel_rfl) rfl #[.int .i64 a1] rfl (by (try simp only [List.map_toArray, List.map_cons, List.map_nil]); first | done | rfl | (simp only [List.length_drop, List.length_take]; rfl)) ?_; (with_reducible refine (rice_held.calls a1 t114 _ A5.out).mono ?_); rintro e w9 ⟨rfl, hb⟩; refine ⟨_, rfl, ?_⟩; have n0_ := zF.mk (below_step (by repeat (first | (with_reducible first | exact HB.out | apply zE | apply zB | apply zC) | exact HB.out)) hb); clear HB; have HB := n0_; clear n0_; (try clear hb); (try clear hb2); (try clear hk); (try clear hi)) | ((with_reducible refine gate_callee (f := 44) rfl ?_); refine goesL_ (some 11) rfl rfl Try.func44 (by kernel_rfl) rfl #[.int .i64 a0] rfl (by (try simp only [List.map_toArray, List.map_cons, List.map_nil]); first | done | rfl | (simp only [List.length_drop, List.length_take]; rfl)) ?_; (with_reducible refine (rice_Fold.calls a0 t115 _ A6.out).mono ?_); rintro e w' ⟨rfl, ⟨nd, rfl⟩⟩; refine ⟨_, rfl, ?_⟩) | ((with_reducible refine gate_callee (f := 47) rfl ?_); refine goesL_ (some 6) rfl rfl Try.func47 (by kernel_rfl) rfl #[.int .i64 a0] rfl (by (try simp only [List.map_toArray, List.map_cons, List.map_nil]); first | done | rfl | (simp only [List.length_drop, List.length_take]; rfl)) ?_; (with_reducible refine (rice_Near.calls a0 false _ A3.out).mono ?_); rintro e w' ⟨rfl, ⟨nd, rfl⟩⟩; refine ⟨_, rfl, ?_⟩))
    go_ret
    first | (exact ⟨by first | rfl | (simp [errW_none, errW_some] <;> rfl) | (simp only [← hji8]; first | rfl | (simp [errW_none, errW_some] <;> rfl)) | (simp [*, errW_none, errW_some] <;> rfl), by repeat (first | (with_reducible first | exact HB.out | apply zE | apply zB | apply zC) | exact HB.out)⟩) | (exact ⟨by first | rfl | (simp [errW_none, errW_some] <;> rfl) | (simp [*, errW_none, errW_some] <;> rfl), by repeat (first | (with_reducible first | exact HB.out | apply zE | apply zB | apply zC) | exact HB.out)⟩)

def cost_Bits.l0 : Nat → Int → Int → List Int → Int → Int → Option (Int)
  | 0, _, _, _, _, _ => none
  | k + 1, x1, x5, x10, x11, x12 => if x12 < x11 then (if 0 ≤ x12 then (if x12 < (x10.length : Int) then ((rice_Size.f (rd x10 x12) x1).bind fun t118 => (cost_Bits.l0 k x1 (wrap64 (x5 + t118)) x10 x11 (wrap64 (x12 + 1)))) else (none)) else (none)) else (some x5)
def cost_Bits.f (k : Nat) (l0 : List Int) (a1 : Int) : Option (Int) := (serinetteshadow_AnyFarCost.f k l0).bind fun t116 => (if t116 = true then (some (-1)) else (cost_Bits.l0 k a1 0 l0 (l0.length : Int) 0))
set_option maxHeartbeats 8000000 in
set_option maxRecDepth 100000 in
theorem cost_Bits.calls (k : Nat) (A0 : Option Addr) (c0 : Nat) (l0 : List Int) (a1 : Int) (r : Int) (w : World) (hr0 : Kd.C (Kd.int .i64) w A0 l0.length l0) (hc0 : l0.length ≤ c0) (h : cost_Bits.f k l0 a1 = some r) :
    Calls Try.prog 48 #[.slice A0 l0.length c0, .int .i64 a1] w fun e w' => e = .returned (.int .i64 r) ∧ Below w.heap.size w w' := by
  have HR0 := zF.mk hr0
  have HC0 := zF.mk hc0
  clear hr0 hc0
  have HB := zF.mk (Below.refl w.heap.size w)
  have H : ((serinetteshadow_AnyFarCost.f k l0).bind fun t116 => (if t116 = true then (some (-1)) else (cost_Bits.l0 k a1 0 l0 (l0.length : Int) 0))) = some r := h
  clear h
  replace H := Option.bind_eq_some_iff.mp H
  obtain ⟨t116, A30, H⟩ := H
  replace H : (if t116 = true then (some (-1)) else (cost_Bits.l0 k a1 0 l0 (l0.length : Int) 0)) = some r := H
  have A3 := zF.mk A30
  clear A30
  by_cases c4 : t116 = true
  · subst c4
    have H1 : (some (-1)) = some r := by rw [if_pos rfl] at H; exact H
    clear H
    have H := H1
    clear H1
    obtain rfl := Option.some.inj H
    go_enter Try.func48, Try.ntmps48
    go_wp2_with (first | ((with_reducible refine gate_callee (f := 53) rfl ?_); refine goesL_ (some 9) rfl rfl Try.func53 (by kernel_rfl) rfl #[.slice A0 l0.length c0, .func (.func 54) #[] #[]] rfl (by (try simp only [List.map_toArray, List.map_cons, List.map_nil]); first | done | rfl | (simp only [List.length_drop, List.length_take]; rfl)) ?_; (with_reducible refine (serinetteshadow_AnyFarCost.calls k _ _ l0 true _ ?side1 ?side2 A3.out).mono ?_); (case side1 => repeat (first | exact HR0.out | (with_reducible refine Kd.zU ?_ _) | (with_reducible refine Kd.zS ?_ _) | (with_reducible refine Kd.zT ?_))); (case side2 => exact HC0.out); rintro e w' ⟨rfl, ⟨nd, rfl⟩⟩; refine ⟨_, rfl, ?_⟩))
    go_ret
    exact ⟨by first | rfl | (simp [errW_none, errW_some] <;> rfl) | (simp [*, errW_none, errW_some] <;> rfl), by repeat (first | (with_reducible first | exact HB.out | apply zE | apply zB | apply zC) | exact HB.out)⟩
  · replace c4 := Bool.eq_false_iff.mpr c4
    subst c4
    have H1 : (cost_Bits.l0 k a1 0 l0 (l0.length : Int) 0) = some r := by rw [if_neg (show ¬ (false = true) by decide)] at H; exact H
    clear H
    have H := H1
    clear H1
    have H' := zF.mk H
    clear H
    go_enter Try.func48, Try.ntmps48
    go_wp2_with (first | ((with_reducible refine gate_callee (f := 53) rfl ?_); refine goesL_ (some 9) rfl rfl Try.func53 (by kernel_rfl) rfl #[.slice A0 l0.length c0, .func (.func 54) #[] #[]] rfl (by (try simp only [List.map_toArray, List.map_cons, List.map_nil]); first | done | rfl | (simp only [List.length_drop, List.length_take]; rfl)) ?_; (with_reducible refine (serinetteshadow_AnyFarCost.calls k _ _ l0 false _ ?side1 ?side2 A3.out).mono ?_); (case side1 => repeat (first | exact HR0.out | (with_reducible refine Kd.zU ?_ _) | (with_reducible refine Kd.zS ?_ _) | (with_reducible refine Kd.zT ?_))); (case side2 => exact HC0.out); rintro e w' ⟨rfl, ⟨nd, rfl⟩⟩; refine ⟨_, rfl, ?_⟩))
    go_loopg [5, 12] k (fun kq v5 v12 w' => ∃ (x5_1 : Int) (x12_1 : Int), v5 = .int .i64 x5_1 ∧ v12 = .int .i64 x12_1 ∧ zF (cost_Bits.l0 kq a1 x5_1 l0 (l0.length : Int) x12_1 = some r) ∧ zF (kq ≤ k) ∧ zF (Below w.heap.size w w'))
    case atStart => exact ⟨(0), (0), (by first | rfl | (simp; done) | (simp only [i64_w, i32_w]; done) | (simp [*]; done) | (simp only [i64_w, i32_w]; first | rfl | (simp; done) | (simp [*]; done))), (by first | rfl | (simp; done) | (simp only [i64_w, i32_w]; done) | (simp [*]; done) | (simp only [i64_w, i32_w]; first | rfl | (simp; done) | (simp [*]; done))), H', ⟨Nat.le_refl _⟩, ⟨by repeat (first | (with_reducible first | exact HB.out | apply zE | apply zB | apply zC) | exact HB.out)⟩⟩
    case round =>
      clear H'
      try clear p2
      try clear c4
      obtain ⟨x5_1, x12_1, rfl, rfl, HA, HK1, HB⟩ := hrel
      cases gk with
      | zero => exact absurd HA.out (by simp [cost_Bits.l0])
      | succ k1 =>
        have H := HA.out
        clear HA
        simp only [cost_Bits.l0] at H
        by_cases c5 : x12_1 < (l0.length : Int)
        · rw [if_pos c5] at H
          have c5b0 : decide (x12_1 < (l0.length : Int)) = true := decide_eq_true c5
          clear c5
          by_cases c6 : 0 ≤ x12_1
          · rw [if_pos c6] at H
            have c6b0 : decide (0 ≤ x12_1) = true := decide_eq_true c6
            clear c6
            by_cases c7 : x12_1 < (l0.length : Int)
            · rw [if_pos c7] at H
              have c7b0 : decide (x12_1 < (l0.length : Int)) = true := decide_eq_true c7
              clear c7
              replace H := Option.bind_eq_some_iff.mp H
              obtain ⟨t118, A80, H⟩ := H
              replace H : (cost_Bits.l0 k1 a1 (wrap64 (x5_1 + t118)) l0 (l0.length : Int) (wrap64 (x12_1 + 1))) = some r := H
              have A8 := zF.mk A80
              clear A80
              have H' := zF.mk H
              clear H
              have p117 : 0 ≤ (x12_1 : Int) := of_decide_eq_true (by first | (with_reducible assumption) | assumption)
              have q117 : x12_1 < (l0.length : Int) := of_decide_eq_true (by first | (with_reducible assumption) | assumption)
              obtain ⟨ad117, e117, hx117_0⟩ := Kd.at_int HR0.out x12_1 p117 q117
              cases e117
              replace hx117_0 := (HB.out.cell (World.block_lt_of_cell? w _ hx117_0)).trans hx117_0
              replace p117 := eq_true p117
              replace q117 := eq_true q117
              go_wp2_with (first | ((with_reducible refine gate_callee (f := 58) rfl ?_); refine goesL_ (some 19) rfl rfl Try.func58 (by kernel_rfl) rfl #[.int .i64 (rd l0 x12_1), .int .i64 a1] rfl (by (try simp only [List.map_toArray, List.map_cons, List.map_nil]); first | done | rfl | (simp only [List.length_drop, List.length_take]; rfl)) ?_; (with_reducible refine (rice_Size.calls (rd l0 x12_1) a1 t118 _ A8.out).mono ?_); rintro e w9 ⟨rfl, hb⟩; refine ⟨_, rfl, ?_⟩; have n0_ := zF.mk (below_step (by repeat (first | (with_reducible first | exact HB.out | apply zE | apply zB | apply zC) | exact HB.out)) hb); clear HB; have HB := n0_; clear n0_; (try clear hb); (try clear hb2); (try clear hk); (try clear hi)))
              go_roundg k1
              case measure => have := HK1.out; omega
              case rel => exact ⟨(wrap64 (x5_1 + t118)), (wrap64 (x12_1 + 1)), (by first | rfl | (simp; done) | (simp only [i64_w, i32_w]; done) | (simp [*]; done) | (simp only [i64_w, i32_w]; first | rfl | (simp; done) | (simp [*]; done))), (by first | rfl | (simp; done) | (simp only [i64_w, i32_w]; done) | (simp [*]; done) | (simp only [i64_w, i32_w]; first | rfl | (simp; done) | (simp [*]; done))), H', ⟨by have := HK1.out; omega⟩, ⟨by repeat (first | (with_reducible first | exact HB.out | apply zE | apply zB | apply zC) | exact HB.out)⟩⟩
            · rw [if_neg c7] at H
              exact absurd H (by simp)
          · rw [if_neg c6] at H
            exact absurd H (by simp)
        · rw [if_neg c5] at H
          have c5b0 : decide (x12_1 < (l0.length : Int)) = false := decide_eq_false c5
          clear c5
          obtain rfl := Option.some.inj H
          go_wp2
          go_ret
          exact ⟨by first | rfl | (simp [errW_none, errW_some] <;> rfl) | (simp [*, errW_none, errW_some] <;> rfl), by repeat (first | (with_reducible first | exact HB.out | apply zE | apply zB | apply zC) | exact HB.out)⟩

def cost_raw.f (l0 : List Int) (a1 : Int) : Option (Int) := some (wrap64 (5 + (wrap64 (a1 * (l0.length : Int)))))
set_option maxHeartbeats 8000000 in
set_option maxRecDepth 100000 in
theorem cost_raw.calls (A0 : Option Addr) (c0 : Nat) (l0 : List Int) (a1 : Int) (r : Int) (w : World) (hr0 : Kd.C (Kd.int .i64) w A0 l0.length l0) (hc0 : l0.length ≤ c0) (h : cost_raw.f l0 a1 = some r) :
    Calls Try.prog 49 #[.slice A0 l0.length c0, .int .i64 a1] w fun e w' => e = .returned (.int .i64 r) ∧ Drawn0 w w' := by
  have HR0 := zF.mk hr0
  have HC0 := zF.mk hc0
  clear hr0 hc0
  have H : (some (wrap64 (5 + (wrap64 (a1 * (l0.length : Int)))))) = some r := h
  clear h
  obtain rfl := Option.some.inj H
  go_enter Try.func49, Try.ntmps49
  go_wp2
  go_ret
  exact ⟨by first | rfl | (simp; done) | (simp [*]; done), by repeat (first | exact Drawn0.refl _ | apply Drawn0.step)⟩
end Go.Proofs.Ytokdjeoecnnckaa.PA
end
section
namespace Go.Proofs.Ytokdjeoecnnckaa.PA
open Go.RowKit Go.Proofs.YtokdjeoecnnckaaW.PrintWords Go.Proofs.YtokdjeoecnnckaaW.PrintLast Go.Proofs.YtokdjeoecnnckaaW.PrintMore
attribute [local go_sem] max2_int min2_int max_two min_two max_three min_three max_four min_four   -- for this text's walks alone
set_option linter.unusedVariables false
set_option linter.unusedSimpArgs false

def cost_Each.f (k : Nat) (l0 : List Int) (a1_0 : Int) (a1_1 : Bool) : Option (Int) := (cost_Width.f k l0).bind fun t120 => (if a1_1 = true then (if t120 < 0 then (some (-1)) else (if a1_0 < t120 then (some (-1)) else (if a1_0 > 31 then (some (-1)) else ((cost_raw.f l0 a1_0).bind fun t121 => (some t121))))) else ((cost_Bits.f k l0 a1_0).bind fun t122 => (some t122)))
set_option maxHeartbeats 8000000 in
set_option maxRecDepth 100000 in
theorem cost_Each.calls (k : Nat) (A0 : Option Addr) (c0 : Nat) (l0 : List Int) (a1_0 : Int) (a1_1 : Bool) (r : Int) (w : World) (hr0 : Kd.C (Kd.int .i64) w A0 l0.length l0) (hc0 : l0.length ≤ c0) (h : cost_Each.f k l0 a1_0 a1_1 = some r) :
    Calls Try.prog 30 #[.slice A0 l0.length c0, .agg #[.int .i64 a1_0, .bool a1_1]] w fun e w' => e = .returned (.int .i64 r) ∧ Below w.heap.size w w' := by
  have hu50 := Try.underlying50
  have HR0 := zF.mk hr0
  have HC0 := zF.mk hc0
  clear hr0 hc0
  have HB := zF.mk (Below.refl w.heap.size w)
  have H : ((cost_Width.f k l0).bind fun t120 => (if a1_1 = true then (if t120 < 0 then (some (-1)) else (if a1_0 < t120 then (some (-1)) else (if a1_0 > 31 then (some (-1)) else ((cost_raw.f l0 a1_0).bind fun t121 => (some t121))))) else ((cost_Bits.f k l0 a1_0).bind fun t122 => (some t122)))) = some r := h
  clear h
  replace H := Option.bind_eq_some_iff.mp H
  obtain ⟨t120, A30, H⟩ := H
  replace H : (if a1_1 = true then (if t120 < 0 then (some (-1)) else (if a1_0 < t120 then (some (-1)) else (if a1_0 > 31 then (some (-1)) else ((cost_raw.f l0 a1_0).bind fun t121 => (some t121))))) else ((cost_Bits.f k l0 a1_0).bind fun t122 => (some t122))) = some r := H
  have A3 := zF.mk A30
  clear A30
  by_cases c4 : a1_1 = true
  focus
    subst c4
    have H1 : (if t120 < 0 then (some (-1)) else (if a1_0 < t120 then (some (-1)) else (if a1_0 > 31 then (some (-1)) else ((cost_raw.f l0 a1_0).bind fun t121 => (some t121))))) = some r := by rw [if_pos rfl] at H; exact H
    clear H
    have H := H1
    clear H1
    by_cases c5 : t120 < 0
    focus
      rw [if_pos c5] at H
      have c5b0 : decide (t120 < 0) = true := decide_eq_true c5
      clear c5
      obtain rfl := Option.some.inj H
      go_enter Try.func30, Try.ntmps30
    rotate_left 1
    focus
      rw [if_neg c5] at H
      have c5b0 : decide (t120 < 0) = false := decide_eq_false c5
      clear c5
      by_cases c8 : a1_0 < t120
      focus
        rw [if_pos c8] at H
        have c8b0 : decide (a1_0 < t120) = true := decide_eq_true c8
        clear c8
        obtain rfl := Option.some.inj H
        go_enter Try.func30, Try.ntmps30
      rotate_left 1
      focus
        rw [if_neg c8] at H
        have c8b0 : decide (a1_0 < t120) = false := decide_eq_false c8
        clear c8
        by_cases c11 : a1_0 > 31
        focus
          rw [if_pos c11] at H
          have c11b0 : decide (31 < a1_0) = true := decide_eq_true c11
          clear c11
          obtain rfl := Option.some.inj H
          go_enter Try.func30, Try.ntmps30
        rotate_left 1
        focus
          rw [if_neg c11] at H
          have c11b0 : decide (31 < a1_0) = false := decide_eq_false c11
          clear c11
          replace H := Option.bind_eq_some_iff.mp H
          obtain ⟨t121, A140, H⟩ := H
          replace H : (some t121) = some r := H
          have A14 := zF.mk A140
          clear A140
          obtain rfl := Option.some.inj H
          go_enter Try.func30, Try.ntmps30
  rotate_left 4
  focus
    replace c4 := Bool.eq_false_iff.mpr c4
    subst c4
    have H1 : ((cost_Bits.f k l0 a1_0).bind fun t122 => (some t122)) = some r := by rw [if_neg (show ¬ (false = true) by decide)] at H; exact H
    clear H
    have H := H1
    clear H1
    replace H := Option.bind_eq_some_iff.mp H
    obtain ⟨t122, A170, H⟩ := H
    replace H : (some t122) = some r := H
    have A17 := zF.mk A170
    clear A170
    obtain rfl := Option.some.inj H
    go_enter Try.func30, Try.ntmps30
  all_goals
    go_wp2_with (first | ((with_reducible refine gate_dst (N := 3) rfl ?_); refine box_event ?hg (N := 3) ?hd (cs := #[.int .i64 a1_0, .bool true]) (t := 50) ?hr ?_; (case hd => rfl); (case hg => rfl); (case hr => first | (go_simp; done) | (go_simp; rfl)); intro gb119 hg w15 hbox hb; have n0_ := zF.mk (below_step (by repeat (first | (with_reducible first | exact HB.out | apply zE | apply zB | apply zC) | exact HB.out)) hb); have n1_ := zF.mk (hbox); have n2_ := zF.mk ((by rw [hg]; exact (below_size (by repeat (first | (with_reducible first | exact HB.out | apply zE | apply zB | apply zC) | exact HB.out))) : w.heap.size ≤ gb119)); have n3_ := zF.mk ((by rw [hg]; exact (below_size (by repeat (first | (with_reducible first | exact HB.out | apply zE | apply zB | apply zC) | exact HB.out))) : w.heap.size ≤ gb119)); clear HB; have HB := n0_; have BK119 := n1_; have GW119 := n2_; have GE119 := n3_; clear n0_ n1_ n2_ n3_; clear hb hbox hg) | ((with_reducible refine gate_callee (f := 36) rfl ?_); refine goesL_ (some 7) rfl rfl Try.func36 (by kernel_rfl) rfl #[.slice A0 l0.length c0] rfl (by (try simp only [List.map_toArray, List.map_cons, List.map_nil]); first | done | rfl | (simp only [List.length_drop, List.length_take]; rfl)) ?_; (with_reducible refine (cost_Width.calls k _ _ l0 t120 _ ?side1 ?side2 A3.out).mono ?_); (case side1 => repeat (first | exact (Kd.C_below HR0.out HB.out) | (with_reducible refine Kd.zU ?_ _) | (with_reducible refine Kd.zS ?_ _) | (with_reducible refine Kd.zT ?_))); (case side2 => exact HC0.out); rintro e w' ⟨rfl, ⟨nd, rfl⟩⟩; refine ⟨_, rfl, ?_⟩; have hcz16_0 : w15.cell? ⟨gb119, 0, none⟩ = some (.int .i64 a1_0) := (zM BK119.out 0).trans rfl; have hcz16_1 : w15.cell? ⟨gb119, 1, none⟩ = some (.bool true) := (zM BK119.out 1).trans rfl; have hfz16_0 := zN BK119.out 0; have hfz16_1 := zN BK119.out 1) | ((with_reducible refine gate_callee (f := 49) rfl ?_); refine goesL_ (some 33) rfl rfl Try.func49 (by kernel_rfl) rfl #[.slice A0 l0.length c0, .int .i64 a1_0] rfl (by (try simp only [List.map_toArray, List.map_cons, List.map_nil]); first | done | rfl | (simp only [List.length_drop, List.length_take]; rfl)) ?_; (with_reducible refine (cost_raw.calls _ _ l0 a1_0 t121 _ ?side1 ?side2 A14.out).mono ?_); (case side1 => repeat (first | exact (Kd.C_below HR0.out (by repeat (first | (with_reducible first | exact HB.out | apply zE | apply zB | apply zC | refine zD ?_ GE119.out) | exact HB.out))) | (with_reducible refine Kd.zU ?_ _) | (with_reducible refine Kd.zS ?_ _) | (with_reducible refine Kd.zT ?_))); (case side2 => exact HC0.out); rintro e w' ⟨rfl, ⟨nd, rfl⟩⟩; refine ⟨_, rfl, ?_⟩) | ((with_reducible refine gate_dst (N := 3) rfl ?_); refine box_event ?hg (N := 3) ?hd (cs := #[.int .i64 a1_0, .bool false]) (t := 50) ?hr ?_; (case hd => rfl); (case hg => rfl); (case hr => first | (go_simp; done) | (go_simp; rfl)); intro gb119 hg w18 hbox hb; have n0_ := zF.mk (below_step (by repeat (first | (with_reducible first | exact HB.out | apply zE | apply zB | apply zC) | exact HB.out)) hb); have n1_ := zF.mk (hbox); have n2_ := zF.mk ((by rw [hg]; exact (below_size (by repeat (first | (with_reducible first | exact HB.out | apply zE | apply zB | apply zC) | exact HB.out))) : w.heap.size ≤ gb119)); have n3_ := zF.mk ((by rw [hg]; exact (below_size (by repeat (first | (with_reducible first | exact HB.out | apply zE | apply zB | apply zC) | exact HB.out))) : w.heap.size ≤ gb119)); clear HB; have HB := n0_; have BK119 := n1_; have GW119 := n2_; have GE119 := n3_; clear n0_ n1_ n2_ n3_; clear hb hbox hg) | ((with_reducible refine gate_callee (f := 36) rfl ?_); refine goesL_ (some 7) rfl rfl Try.func36 (by kernel_rfl) rfl #[.slice A0 l0.length c0] rfl (by (try simp only [List.map_toArray, List.map_cons, List.map_nil]); first | done | rfl | (simp only [List.length_drop, List.length_take]; rfl)) ?_; (with_reducible refine (cost_Width.calls k _ _ l0 t120 _ ?side1 ?side2 A3.out).mono ?_); (case side1 => repeat (first | exact (Kd.C_below HR0.out HB.out) | (with_reducible refine Kd.zU ?_ _) | (with_reducible refine Kd.zS ?_ _) | (with_reducible refine Kd.zT ?_))); (case side2 => exact HC0.out); rintro e w' ⟨rfl, ⟨nd, rfl⟩⟩; refine ⟨_, rfl, ?_⟩; have hcz19_0 : w18.cell? ⟨gb119, 0, none⟩ = some (.int .i64 a1_0) := (zM BK119.out 0).trans rfl; have hcz19_1 : w18.cell? ⟨gb119, 1, none⟩ = some (.bool false) := (zM BK119.out 1).trans rfl; have hfz19_0 := zN BK119.out 0; have hfz19_1 := zN BK119.out 1) | ((with_reducible refine gate_callee (f := 48) rfl ?_); refine goesL_ (some 15) rfl rfl Try.func48 (by kernel_rfl) rfl #[.slice A0 l0.length c0, .int .i64 a1_0] rfl (by (try simp only [List.map_toArray, List.map_cons, List.map_nil]); first | done | rfl | (simp only [List.length_drop, List.length_take]; rfl)) ?_; (with_reducible refine (cost_Bits.calls k _ _ l0 a1_0 t122 _ ?side1 ?side2 A17.out).mono ?_); (case side1 => repeat (first | exact (Kd.C_below HR0.out (by repeat (first | (with_reducible first | exact HB.out | apply zE | apply zB | apply zC | refine zD ?_ GE119.out) | exact HB.out))) | (with_reducible refine Kd.zU ?_ _) | (with_reducible refine Kd.zS ?_ _) | (with_reducible refine Kd.zT ?_))); (case side2 => exact HC0.out); rintro e w20 ⟨rfl, hb⟩; refine ⟨_, rfl, ?_⟩; have n0_ := zF.mk (blk_below (g := gb119) (o := .cells #[.int .i64 a1_0, .bool false] 50 (0, 0)) (by (with_reducible repeat (first | refine zK ?_ _ | refine zL ?_ | refine zJ ?_ _)); exact BK119.out) hb); have n1_ := zF.mk (below_step (by repeat (first | (with_reducible first | exact HB.out | apply zE | apply zB | apply zC | refine zD ?_ GE119.out) | exact HB.out)) hb); clear BK119; clear HB; have BK119 := n0_; have HB := n1_; clear n0_ n1_; (try clear hb); (try clear hb2); (try clear hk); (try clear hi)))
    go_ret
    exact ⟨by first | rfl | (simp [errW_none, errW_some] <;> rfl) | (simp [*, errW_none, errW_some] <;> rfl), by repeat (first | (with_reducible first | exact HB.out | apply zE | apply zB | apply zC | refine zD ?_ GE119.out) | exact HB.out)⟩
end Go.Proofs.Ytokdjeoecnnckaa.PA
end
section
namespace Go.Proofs.Ytokdjeoecnnckaa.PA
open Go.RowKit Go.Proofs.YtokdjeoecnnckaaW.PrintWords Go.Proofs.YtokdjeoecnnckaaW.PrintLast Go.Proofs.YtokdjeoecnnckaaW.PrintMore
attribute [local go_sem] max2_int min2_int max_two min_two max_three min_three max_four min_four   -- for this text's walks alone
set_option linter.unusedVariables false
set_option linter.unusedSimpArgs false

mutual
def parts_Bits.j0 : Nat → List Int → List Int → Bool → Bool → Int → List (S50) → Option (Int)
  | 0, _, _, _, _, _, _ => none
  | k + 1, x0, x7, x31, x124000, x124001, x124002 => if x31 = true then (some (-1)) else ((parts_top.f x124000).bind fun bt127 => (parts_Bits.l0 k x0 bt127.1 bt127.2 6 x7 (x7.length : Int) 0 x124000 x124001 x124002))
def parts_Bits.l0 : Nat → List Int → Int → Int → Int → List Int → Int → Int → Bool → Int → List (S50) → Option (Int)
  | 0, _, _, _, _, _, _, _, _, _, _ => none
  | k + 1, x0, x8, x9, x10, x38, x39, x40, x124000, x124001, x124002 => if x40 < x39 then (if 0 ≤ x40 then (if x40 < (x38.length : Int) then (if x40 < (x124002.length : Int) then (if 0 ≤ (rd x38 x40) then (if (rd x38 x40) ≤ (x0.length : Int) then ((cost_Each.f k (x0.take ((rd x38 x40) : Int).toNat) ((rd_T50 x124002 x40).f0) ((rd_T50 x124002 x40).f1)).bind fun t137 => (if t137 < 0 then (some (-1)) else (if ((rd_T50 x124002 x40).f1 = true) then (parts_Bits.l0 k (x0.drop ((rd x38 x40) : Int).toNat) x8 x9 (wrap64 (x10 + (wrap64 (x9 + t137)))) x38 x39 (wrap64 (x40 + 1)) x124000 x124001 x124002) else (if ((rd_T50 x124002 x40).f0) < 0 then (some (-1)) else (if ((rd_T50 x124002 x40).f0) > x8 then (some (-1)) else (parts_Bits.l0 k (x0.drop ((rd x38 x40) : Int).toNat) x8 x9 (wrap64 (x10 + (wrap64 (x9 + t137)))) x38 x39 (wrap64 (x40 + 1)) x124000 x124001 x124002)))))) else (none)) else (none)) else (none)) else (none)) else (none)) else (some x10)
end
def parts_Bits.f (k : Nat) (l0 : List Int) (a1 : Int) (a2_0 : Bool) (a2_1 : Int) (l2_2 : List (S50)) : Option (Int) := (parts_Cuts.f k (l0.length : Int) a1 a2_1).bind fun t124 => (if (t124.length : Int) = 0 then (parts_Bits.j0 k l0 t124 true a2_0 a2_1 l2_2) else (parts_Bits.j0 k l0 t124 ((t124.length : Int) != (l2_2.length : Int)) a2_0 a2_1 l2_2))
set_option maxHeartbeats 8000000 in
set_option maxRecDepth 100000 in
theorem parts_Bits.calls (k : Nat) (P0_ : Nat → Prop) (A0 : Option Addr) (c0 : Nat) (l0 : List Int) (a1 : Int) (a2_0 : Bool) (a2_1 : Int) (A2_2 : Option Addr) (c2_2 : Nat) (l2_2 : List (S50)) (r : Int) (w : World) (hs0 : Kd.V (Kd.int .i64) 3 w w.heap.size (fun k_ => P0_ k_) (.slice A0 l0.length c0) l0) (hr2_2 : Kd.C k50 w A2_2 l2_2.length l2_2) (hc2_2 : l2_2.length ≤ c2_2) (h : parts_Bits.f k l0 a1 a2_0 a2_1 l2_2 = some r) :
    Calls Try.prog 10 #[.slice A0 l0.length c0, .int .i64 a1, .agg #[.bool a2_0, .int .i64 a2_1, .slice A2_2 l2_2.length c2_2]] w fun e w' => e = .returned (.int .i64 r) ∧ Below w.heap.size w w' := by
  have hu25 := Try.underlying25
  have hu50 := Try.underlying50
  have HO0 := zF.mk (show Kd.V (Kd.int .i64) 3 w w.heap.size (fun k_ => (P0_ k_ ∨ w.heap.size ≤ k_)) (.slice A0 l0.length c0) l0 from Kd.V_mono hs0 (fun k_ hk => .inl hk))
  have HR2_2 := zF.mk hr2_2
  have HC2_2 := zF.mk hc2_2
  clear hr2_2 hc2_2
  have HB := zF.mk (Below.refl w.heap.size w)
  have H : ((parts_Cuts.f k (l0.length : Int) a1 a2_1).bind fun t124 => (if (t124.length : Int) = 0 then (parts_Bits.j0 k l0 t124 true a2_0 a2_1 l2_2) else (parts_Bits.j0 k l0 t124 ((t124.length : Int) != (l2_2.length : Int)) a2_0 a2_1 l2_2))) = some r := h
  clear h
  replace H := Option.bind_eq_some_iff.mp H
  obtain ⟨t124, A40, H⟩ := H
  replace H : (if (t124.length : Int) = 0 then (parts_Bits.j0 k l0 t124 true a2_0 a2_1 l2_2) else (parts_Bits.j0 k l0 t124 ((t124.length : Int) != (l2_2.length : Int)) a2_0 a2_1 l2_2)) = some r := H
  have A4 := zF.mk A40
  clear A40
  have HC5 := zF.mk H
  clear H
  go_enter Try.func10, Try.ntmps10
  go_upto_region 2 with (first | ((with_reducible refine gate_dst (N := 5) rfl ?_); (try (refine gate_guard (by rfl) ?_; dsimp only)); refine box_event ?hg (N := 5) ?hd (cs := #[.bool a2_0, .int .i64 a2_1, .slice A2_2 l2_2.length c2_2]) (t := 25) ?hr ?_; (case hd => rfl); (case hg => rfl); (case hr => first | (go_simp; done) | (go_simp; rfl)); intro gb123 hg w6 hbox hb; have n0_ := zF.mk (Kd.V_below (Kd.V_elderB (by (with_reducible repeat (first | apply Kd.V_alloc | apply Kd.V_drewN | apply Kd.V_drew)); exact HO0.out) gb123 (Nat.le_of_eq hg.symm)) hb); have n1_ := zF.mk (below_step (by repeat (first | (with_reducible first | exact HB.out | apply zE | apply zB | apply zC) | exact HB.out)) hb); have n2_ := zF.mk (hbox); have n3_ := zF.mk ((by rw [hg]; exact (below_size (by repeat (first | (with_reducible first | exact HB.out | apply zE | apply zB | apply zC) | exact HB.out))) : w.heap.size ≤ gb123)); have n4_ := zF.mk ((by rw [hg]; exact (below_size (by repeat (first | (with_reducible first | exact HB.out | apply zE | apply zB | apply zC) | exact HB.out))) : w.heap.size ≤ gb123)); clear HO0; clear HB; have HO0 := n0_; have HB := n1_; have BK123 := n2_; have GW123 := n3_; have GE123 := n4_; clear n0_ n1_ n2_ n3_ n4_; clear hb hbox hg; have hcz7_0 : w6.cell? ⟨gb123, 0, none⟩ = some (.bool a2_0) := (zM BK123.out 0).trans rfl; have hcz7_1 : w6.cell? ⟨gb123, 1, none⟩ = some (.int .i64 a2_1) := (zM BK123.out 1).trans rfl; have hcz7_2 : w6.cell? ⟨gb123, 2, none⟩ = some (.slice A2_2 l2_2.length c2_2) := (zM BK123.out 2).trans rfl; have hfz7_0 := zN BK123.out 0; have hfz7_1 := zN BK123.out 1; have hfz7_2 := zN BK123.out 2) | ((with_reducible refine gate_callee (f := 28) rfl ?_); refine goesL_ (some 20) rfl rfl Try.func28 (by kernel_rfl) rfl #[.int .i64 (l0.length : Int), .int .i64 a1, .int .i64 a2_1] rfl (by (try simp only [List.map_toArray, List.map_cons, List.map_nil]); first | done | rfl | (simp only [List.length_drop, List.length_take]; rfl)) ?_; (with_reducible refine (parts_Cuts.calls k (l0.length : Int) a1 a2_1 t124 _ A4.out).mono ?_); rintro e w8 ⟨v125, rfl, ho0, hb⟩; refine ⟨_, rfl, ?_⟩; have n0_ := zF.mk (Kd.V_elder' (by (with_reducible repeat (first | apply Kd.V_alloc | apply Kd.V_drewN | apply Kd.V_drew)); exact HO0.out) (Kd.R_base ho0) hb); have n1_ := zF.mk (Kd.R_lower (Kd.R_newM (M := fun k_ => (w.heap.size ≤ k_)) ho0 (below_size (by repeat (first | (with_reducible first | exact HB.out | apply zE | apply zB | apply zC | refine zD ?_ GE123.out) | exact HB.out))) (fun k_ h_ => h_)) (below_size (by repeat (first | (with_reducible first | exact HB.out | apply zE | apply zB | apply zC | refine zD ?_ GE123.out) | exact HB.out)))); have n2_ := zF.mk (blk_below (g := gb123) (o := .cells #[.bool a2_0, .int .i64 a2_1, .slice A2_2 l2_2.length c2_2] 25 (0, 0)) (by (with_reducible repeat (first | refine zK ?_ _ | refine zL ?_ | refine zJ ?_ _)); exact BK123.out) hb); have n3_ := zF.mk (below_step (by repeat (first | (with_reducible first | exact HB.out | apply zE | apply zB | apply zC | refine zD ?_ GE123.out) | exact HB.out)) hb); clear HO0; clear BK123; clear HB; have HO0 := n0_; have HO126 := n1_; have BK123 := n2_; have HB := n3_; clear n0_ n1_ n2_ n3_; (try clear hb); (try clear hb2); (try clear hk); (try clear hi); (try clear ho0)))
  (try simp only [Act.put, List.setIfInBounds_toArray, List.set_cons_zero, List.set_cons_succ])
  go_cut [31] (fun v31 wc => ∃ (kq : Nat) (x31_4 : Bool), v31 = .bool x31_4 ∧ zF (parts_Bits.j0 kq l0 t124 x31_4 a2_0 a2_1 l2_2 = some r) ∧ zF (kq ≤ k) ∧ zF (Kd.V (Kd.int .i64) 3 wc w.heap.size (fun k_ => (P0_ k_ ∨ w.heap.size ≤ k_) ∧ some k_ ≠ (v125 : Value).ownBlock ∧ k_ ≠ gb123) (.slice A0 l0.length c0) l0) ∧ zF (Kd.R (Kd.int .i64) 3 wc w.heap.size (fun k_ => (w.heap.size ≤ k_)) v125 t124) ∧ zF (wc.heap[gb123]? = some (.cells #[.bool a2_0, .int .i64 a2_1, (.slice A2_2 l2_2.length c2_2)] 25 (0, 0))) ∧ zF (Below w.heap.size w wc))
  case first =>
    have H := HC5.out
    clear HC5
    by_cases c9 : (t124.length : Int) = 0
    · rw [if_pos c9] at H
      have c9b0 : ((t124.length : Int) == 0) = true := beq_iff_eq.mpr c9
      have c9b1 : ((t124.length : Int) != 0) = false := bne_eq_false_iff_eq.mpr c9
      clear c9
      (first | rw [c9b0] | (simp only [i64_w, i32_w]; rw [c9b0]) | skip)
      have H' := zF.mk H
      clear H
      obtain ⟨Ao10, co10, eo10⟩ := Kd.R_slice HO126.out
      subst eo10
      go_wp2
      go_meet
      case rel => exact ⟨_, (true), (by first | rfl | (simp; done) | (simp only [i64_w, i32_w]; done) | (simp [*]; done) | (simp only [i64_w, i32_w]; first | rfl | (simp; done) | (simp [*]; done))), H', ⟨by first | omega | exact Nat.le_refl _⟩, ⟨by (with_reducible repeat (first | apply Kd.V_alloc | apply Kd.V_drewN | apply Kd.V_drew)); exact Kd.V_mono HO0.out (fun _ hk => ⟨hk.1.1, ⟨hk.2, hk.1.2⟩⟩)⟩, ⟨by (with_reducible repeat (first | apply Kd.zR | apply Kd.zP | apply Kd.zQ)); exact Kd.R_mono HO126.out (fun _ hk => hk.1)⟩, ⟨by (with_reducible repeat (first | refine zK ?_ _ | refine zL ?_ | refine zJ ?_ _)); exact BK123.out⟩, ⟨by repeat (first | (with_reducible first | exact HB.out | apply zE | apply zB | apply zC | refine zD ?_ GE123.out) | exact HB.out)⟩⟩
    · rw [if_neg c9] at H
      have c9b0 : ((t124.length : Int) == 0) = false := beq_eq_false_iff_ne.mpr c9
      have c9b1 : ((t124.length : Int) != 0) = true := bne_iff_ne.mpr c9
      have c9b2 : ¬ (t124 = []) := fun h_ => c9 (by rw [h_]; rfl)
      (first | rw [c9b0] | (simp only [i64_w, i32_w]; rw [c9b0]) | skip)
      have H' := zF.mk H
      clear H
      obtain ⟨Ao11, co11, eo11⟩ := Kd.R_slice HO126.out
      subst eo11
      have hcz12_0 : w8.cell? ⟨gb123, 0, none⟩ = some (.bool a2_0) := (zM BK123.out 0).trans rfl
      have hcz12_1 : w8.cell? ⟨gb123, 1, none⟩ = some (.int .i64 a2_1) := (zM BK123.out 1).trans rfl
      have hcz12_2 : w8.cell? ⟨gb123, 2, none⟩ = some (.slice A2_2 l2_2.length c2_2) := (zM BK123.out 2).trans rfl
      have hfz12_0 := zN BK123.out 0
      have hfz12_1 := zN BK123.out 1
      have hfz12_2 := zN BK123.out 2
      go_wp2
      go_meet
      case rel => exact ⟨_, (((t124.length : Int) != (l2_2.length : Int))), (by first | rfl | (simp; done) | (simp only [i64_w, i32_w]; done) | (simp [*]; done) | (simp only [i64_w, i32_w]; first | rfl | (simp; done) | (simp [*]; done))), H', ⟨by first | omega | exact Nat.le_refl _⟩, ⟨by (with_reducible repeat (first | apply Kd.V_alloc | apply Kd.V_drewN | apply Kd.V_drew)); exact Kd.V_mono HO0.out (fun _ hk => ⟨hk.1.1, ⟨hk.2, hk.1.2⟩⟩)⟩, ⟨by (with_reducible repeat (first | apply Kd.zR | apply Kd.zP | apply Kd.zQ)); exact Kd.R_mono HO126.out (fun _ hk => hk.1)⟩, ⟨by (with_reducible repeat (first | refine zK ?_ _ | refine zL ?_ | refine zJ ?_ _)); exact BK123.out⟩, ⟨by repeat (first | (with_reducible first | exact HB.out | apply zE | apply zB | apply zC | refine zD ?_ GE123.out) | exact HB.out)⟩⟩
  case rest =>
    clear HC5
    try clear c1
    try clear c2
    try clear p2
    try clear c9
    try clear c9b0
    try clear c9b1
    try clear c9b2
    try clear c10
    try clear hcz12_0
    try clear hcz12_1
    try clear hcz12_2
    try clear hcz7_0
    try clear hcz7_1
    try clear hcz7_2
    try clear hfz12_0
    try clear hfz12_1
    try clear hfz12_2
    try clear hfz7_0
    try clear hfz7_1
    try clear hfz7_2
    obtain ⟨kq, x31_4, rfl, HA, HJ4, HO_0, HO_7, BK123, HB⟩ := hcut
    cases kq with
    | zero => exact absurd HA.out (by simp [parts_Bits.j0])
    | succ kj4 =>
      have H := HA.out
      clear HA
      simp only [parts_Bits.j0] at H
      by_cases c13 : x31_4 = true
      · subst c13
        have H1 : (some (-1)) = some r := by rw [if_pos rfl] at H; exact H
        clear H
        have H := H1
        clear H1
        obtain rfl := Option.some.inj H
        go_wp2
        go_ret
        exact ⟨by first | rfl | (simp [errW_none, errW_some] <;> rfl) | (simp [*, errW_none, errW_some] <;> rfl), by repeat (first | (with_reducible first | exact HB.out | apply zE | apply zB | apply zC | refine zD ?_ GE123.out) | exact HB.out)⟩
      · replace c13 := Bool.eq_false_iff.mpr c13
        subst c13
        have H1 : ((parts_top.f a2_0).bind fun bt127 => (parts_Bits.l0 kj4 l0 bt127.1 bt127.2 6 t124 (t124.length : Int) 0 a2_0 a2_1 l2_2)) = some r := by rw [if_neg (show ¬ (false = true) by decide)] at H; exact H
        clear H
        have H := H1
        clear H1
        replace H := Option.bind_eq_some_iff.mp H
        obtain ⟨⟨t127, t128⟩, A140, H⟩ := H
        replace H : (parts_Bits.l0 kj4 l0 t127 t128 6 t124 (t124.length : Int) 0 a2_0 a2_1 l2_2) = some r := H
        have A14 := zF.mk A140
        clear A140
        have H' := zF.mk H
        clear H
        have hcz15_0 : wc.cell? ⟨gb123, 0, none⟩ = some (.bool a2_0) := (zM BK123.out 0).trans rfl
        have hcz15_1 : wc.cell? ⟨gb123, 1, none⟩ = some (.int .i64 a2_1) := (zM BK123.out 1).trans rfl
        have hcz15_2 : wc.cell? ⟨gb123, 2, none⟩ = some (.slice A2_2 l2_2.length c2_2) := (zM BK123.out 2).trans rfl
        have hfz15_0 := zN BK123.out 0
        have hfz15_1 := zN BK123.out 1
        have hfz15_2 := zN BK123.out 2
        go_wp2_with (first | ((with_reducible refine gate_callee (f := 29) rfl ?_); refine goesL_ (some 35) rfl rfl Try.func29 (by kernel_rfl) rfl #[.bool a2_0] rfl (by (try simp only [List.map_toArray, List.map_cons, List.map_nil]); first | done | rfl | (simp only [List.length_drop, List.length_take]; rfl)) ?_; (with_reducible refine (parts_top.calls a2_0 t127 t128 _ A14.out).mono ?_); rintro e w' ⟨rfl, ⟨nd, rfl⟩⟩; refine ⟨_, rfl, ?_⟩; obtain ⟨Ao16, co16, eo16⟩ := Kd.R_slice HO_7.out; subst eo16))
        go_loopg [0, 10, 40] kj4 (fun kq v0 v10 v40 w' => ∃ (x0_2 : List Int) (x10_2 : Int) (x40_2 : Int), v10 = .int .i64 x10_2 ∧ v40 = .int .i64 x40_2 ∧ zF (parts_Bits.l0 kq x0_2 t127 t128 x10_2 t124 (t124.length : Int) x40_2 a2_0 a2_1 l2_2 = some r) ∧ zF (kq ≤ kj4) ∧ zF (Kd.V (Kd.int .i64) 3 w' w.heap.size (fun k_ => (P0_ k_ ∨ w.heap.size ≤ k_) ∧ some k_ ≠ ((.slice Ao16 t124.length co16) : Value).ownBlock ∧ k_ ≠ gb123) v0 x0_2) ∧ zF (Kd.R (Kd.int .i64) 3 w' w.heap.size (fun k_ => (w.heap.size ≤ k_)) (.slice Ao16 t124.length co16) t124) ∧ zF (w'.heap[gb123]? = some (.cells #[.bool a2_0, .int .i64 a2_1, (.slice A2_2 l2_2.length c2_2)] 25 (0, 0))) ∧ zF (Below w.heap.size w w'))
        case atStart => exact ⟨(l0), (6), (0), (by first | rfl | (simp; done) | (simp only [i64_w, i32_w]; done) | (simp [*]; done) | (simp only [i64_w, i32_w]; first | rfl | (simp; done) | (simp [*]; done))), (by first | rfl | (simp; done) | (simp only [i64_w, i32_w]; done) | (simp [*]; done) | (simp only [i64_w, i32_w]; first | rfl | (simp; done) | (simp [*]; done))), H', ⟨Nat.le_refl _⟩, ⟨by (with_reducible repeat (first | apply Kd.V_alloc | apply Kd.V_drewN | apply Kd.V_drew)); exact HO_0.out⟩, ⟨by (with_reducible repeat (first | apply Kd.zR | apply Kd.zP | apply Kd.zQ)); exact HO_7.out⟩, ⟨by (with_reducible repeat (first | refine zK ?_ _ | refine zL ?_ | refine zJ ?_ _)); exact BK123.out⟩, ⟨by repeat (first | (with_reducible first | exact HB.out | apply zE | apply zB | apply zC | refine zD ?_ GE123.out) | exact HB.out)⟩⟩
        case round =>
          clear H'
          try clear c1
          try clear c2
          try clear p2
          try clear c9
          try clear c9b0
          try clear c9b1
          try clear c9b2
          try clear c10
          try clear c13
          try clear hcz12_0
          try clear hcz12_1
          try clear hcz12_2
          try clear hcz15_0
          try clear hcz15_1
          try clear hcz15_2
          try clear hcz7_0
          try clear hcz7_1
          try clear hcz7_2
          try clear hfz12_0
          try clear hfz12_1
          try clear hfz12_2
          try clear hfz15_0
          try clear hfz15_1
          try clear hfz15_2
          try clear hfz7_0
          try clear hfz7_1
          try clear hfz7_2
          try clear p2
          obtain ⟨x0_2, x10_2, x40_2, rfl, rfl, HA, HK2, HO_0, HO_38, BK123, HB⟩ := hrel
          cases gk with
          | zero => exact absurd HA.out (by simp [parts_Bits.l0])
          | succ k2 =>
            have H := HA.out
            clear HA
            simp only [parts_Bits.l0] at H
            by_cases c17 : x40_2 < (t124.length : Int)
            · rw [if_pos c17] at H
              have c17b0 : decide (x40_2 < (t124.length : Int)) = true := decide_eq_true c17
              clear c17
              by_cases c18 : 0 ≤ x40_2
              · rw [if_pos c18] at H
                have c18b0 : decide (0 ≤ x40_2) = true := decide_eq_true c18
                clear c18
                by_cases c19 : x40_2 < (t124.length : Int)
                · rw [if_pos c19] at H
                  have c19b0 : decide (x40_2 < (t124.length : Int)) = true := decide_eq_true c19
                  clear c19
                  by_cases c20 : x40_2 < (l2_2.length : Int)
                  · rw [if_pos c20] at H
                    have c20b0 : decide (x40_2 < (l2_2.length : Int)) = true := decide_eq_true c20
                    clear c20
                    by_cases c21 : 0 ≤ (rd t124 x40_2)
                    · rw [if_pos c21] at H
                      have c21b0 := eq_true c21
                      have c21b1 : decide (0 ≤ (rd t124 x40_2)) = true := decide_eq_true c21
                      clear c21
                      by_cases c22 : (rd t124 x40_2) ≤ (x0_2.length : Int)
                      · rw [if_pos c22] at H
                        have c22b0 := eq_true c22
                        have c22b1 : decide ((rd t124 x40_2) ≤ (x0_2.length : Int)) = true := decide_eq_true c22
                        clear c22
                        obtain ⟨y132, hy132⟩ : ∃ y_ : List Int, y_ = (x0_2.take ((rd t124 x40_2) : Int).toNat) := ⟨_, rfl⟩
                        replace H : ((cost_Each.f k2 y132 ((rd_T50 l2_2 x40_2).f0) ((rd_T50 l2_2 x40_2).f1)).bind fun t137 => (if t137 < 0 then (some (-1)) else (if ((rd_T50 l2_2 x40_2).f1 = true) then (parts_Bits.l0 k2 (x0_2.drop ((rd t124 x40_2) : Int).toNat) t127 t128 (wrap64 (x10_2 + (wrap64 (t128 + t137)))) t124 (t124.length : Int) (wrap64 (x40_2 + 1)) a2_0 a2_1 l2_2) else (if ((rd_T50 l2_2 x40_2).f0) < 0 then (some (-1)) else (if ((rd_T50 l2_2 x40_2).f0) > t127 then (some (-1)) else (parts_Bits.l0 k2 (x0_2.drop ((rd t124 x40_2) : Int).toNat) t127 t128 (wrap64 (x10_2 + (wrap64 (t128 + t137)))) t124 (t124.length : Int) (wrap64 (x40_2 + 1)) a2_0 a2_1 l2_2)))))) = some r := by first | (rw [hy132]; with_reducible exact H) | (have H2_ := (Option.bind_some _ _).symm.trans H; rw [hy132]; with_reducible exact H2_) | (have H2_ := (Option.bind_some _ _).symm.trans H; with_reducible exact H2_) | with_reducible exact H | (rw [hy132]; exact H) | exact H
                        have Ny132 := zF.mk hy132
                        clear hy132
                        replace H := Option.bind_eq_some_iff.mp H
                        obtain ⟨t137, A230, H⟩ := H
                        replace H : (if t137 < 0 then (some (-1)) else (if ((rd_T50 l2_2 x40_2).f1 = true) then (parts_Bits.l0 k2 (x0_2.drop ((rd t124 x40_2) : Int).toNat) t127 t128 (wrap64 (x10_2 + (wrap64 (t128 + t137)))) t124 (t124.length : Int) (wrap64 (x40_2 + 1)) a2_0 a2_1 l2_2) else (if ((rd_T50 l2_2 x40_2).f0) < 0 then (some (-1)) else (if ((rd_T50 l2_2 x40_2).f0) > t127 then (some (-1)) else (parts_Bits.l0 k2 (x0_2.drop ((rd t124 x40_2) : Int).toNat) t127 t128 (wrap64 (x10_2 + (wrap64 (t128 + t137)))) t124 (t124.length : Int) (wrap64 (x40_2 + 1)) a2_0 a2_1 l2_2))))) = some r := H
                        have A23 := zF.mk A230
                        clear A230
                        by_cases c24 : t137 < 0
                        · rw [if_pos c24] at H
                          have c24b0 : decide (t137 < 0) = true := decide_eq_true c24
                          clear c24
                          obtain rfl := Option.some.inj H
                          have p129 : 0 ≤ (x40_2 : Int) := of_decide_eq_true (by first | (with_reducible assumption) | assumption)
                          have q129 : x40_2 < (t124.length : Int) := of_decide_eq_true (by first | (with_reducible assumption) | assumption)
                          obtain ⟨ad129, e129, hx129_0⟩ := Kd.at_int (Kd.R_reads' HO_38.out).2.2 x40_2 p129 q129
                          cases e129
                          replace p129 := eq_true p129
                          replace q129 := eq_true q129
                          have hcz25_0 : wr.cell? ⟨gb123, 0, none⟩ = some (.bool a2_0) := (zM BK123.out 0).trans rfl
                          have hcz25_1 : wr.cell? ⟨gb123, 1, none⟩ = some (.int .i64 a2_1) := (zM BK123.out 1).trans rfl
                          have hcz25_2 : wr.cell? ⟨gb123, 2, none⟩ = some (.slice A2_2 l2_2.length c2_2) := (zM BK123.out 2).trans rfl
                          have hfz25_0 := zN BK123.out 0
                          have hfz25_1 := zN BK123.out 1
                          have hfz25_2 := zN BK123.out 2
                          have p130 : 0 ≤ (x40_2 : Int) := of_decide_eq_true (by first | (with_reducible assumption) | assumption)
                          have q130 : x40_2 < (l2_2.length : Int) := of_decide_eq_true (by first | (with_reducible assumption) | assumption)
                          obtain ⟨ad130, e130, hx130_0, hx130_1⟩ := at_T50 HR2_2.out x40_2 p130 q130
                          cases e130
                          replace hx130_0 := (HB.out.cell (World.block_lt_of_cell? w _ hx130_0)).trans hx130_0
                          replace hx130_1 := (HB.out.cell (World.block_lt_of_cell? w _ hx130_1)).trans hx130_1
                          replace p130 := eq_true p130
                          replace q130 := eq_true q130
                          try go_wp2_with (first | ((with_reducible refine gate_dst (N := 13) rfl ?_); (try (refine gate_guard (by rfl) ?_; dsimp only)); refine box_event ?hg (N := 13) ?hd (cs := #[.int .i64 0, .bool false]) (t := 50) ?hr ?_; (case hd => rfl); (case hg => rfl); (case hr => first | (go_simp; done) | (go_simp; rfl)); intro gb131 hg w26 hbox hb; have n0_ := zF.mk (Kd.V_below (Kd.V_elderB (by (with_reducible repeat (first | apply Kd.V_alloc | apply Kd.V_drewN | apply Kd.V_drew)); exact HO_0.out) gb131 (Nat.le_of_eq hg.symm)) hb); have n1_ := zF.mk (Kd.R_below (by (with_reducible repeat (first | apply Kd.zR | apply Kd.zP | apply Kd.zQ)); exact HO_38.out) hb); have n2_ := zF.mk (blk_below (g := gb123) (o := .cells #[.bool a2_0, .int .i64 a2_1, .slice (some ad130) l2_2.length c2_2] 25 (0, 0)) (by (with_reducible repeat (first | refine zK ?_ _ | refine zL ?_ | refine zJ ?_ _)); exact BK123.out) hb); have n3_ := zF.mk (below_step (by repeat (first | (with_reducible first | exact HB.out | apply zE | apply zB | apply zC | refine zD ?_ GE123.out) | exact HB.out)) hb); have n4_ := zF.mk (hbox); have n5_ := zF.mk ((by rw [hg]; exact (below_size (by repeat (first | (with_reducible first | exact HB.out | apply zE | apply zB | apply zC | refine zD ?_ GE123.out) | exact HB.out))) : w.heap.size ≤ gb131)); have n6_ := zF.mk ((by rw [hg]; exact (below_size (by repeat (first | (with_reducible first | exact HB.out | apply zE | apply zB | apply zC | refine zD ?_ GE123.out) | exact HB.out))) : w.heap.size ≤ gb131)); have n7_ := zF.mk ((by rw [hg]; exact Nat.ne_of_lt (blk_lt (g := gb123) (o := .cells #[.bool a2_0, .int .i64 a2_1, .slice (some ad130) l2_2.length c2_2] 25 (0, 0)) (by (with_reducible repeat (first | refine zK ?_ _ | refine zL ?_ | refine zJ ?_ _)); exact BK123.out)) : gb123 ≠ gb131)); have n8_ := zF.mk ((by rw [hg]; exact Nat.ne_of_gt (blk_lt (g := gb123) (o := .cells #[.bool a2_0, .int .i64 a2_1, .slice (some ad130) l2_2.length c2_2] 25 (0, 0)) (by (with_reducible repeat (first | refine zK ?_ _ | refine zL ?_ | refine zJ ?_ _)); exact BK123.out)) : gb131 ≠ gb123)); clear HO_0; clear HO_38; clear BK123; clear HB; have HO_0 := n0_; have HO_38 := n1_; have BK123 := n2_; have HB := n3_; have BK131 := n4_; have GW131 := n5_; have GE131 := n6_; have NB123_131 := n7_; have NB131_123 := n8_; clear n0_ n1_ n2_ n3_ n4_ n5_ n6_ n7_ n8_; clear hb hbox hg; have hnb27 := NB131_123.out; have hnc27 := NB123_131.out; have hcz28_0 : w26.cell? ⟨gb131, 0, none⟩ = some (.int .i64 0) := (zM BK131.out 0).trans rfl; have hcz28_1 : w26.cell? ⟨gb131, 1, none⟩ = some (.bool false) := (zM BK131.out 1).trans rfl; have hfz28_0 := zN BK131.out 0; have hfz28_1 := zN BK131.out 1))
                          have n0_ : zF (Kd.V (Kd.int .i64) 3 ((w26.setCell ⟨gb131, 0, none⟩ (.int .i64 ((rd_T50 l2_2 x40_2).f0))).setCell ⟨gb131, 1, none⟩ (.bool ((rd_T50 l2_2 x40_2).f1))) w.heap.size (fun k_ => (P0_ k_ ∨ w.heap.size ≤ k_) ∧ some k_ ≠ (.slice (some ad129) t124.length co16 : Value).ownBlock ∧ k_ ≠ gb123 ∧ k_ ≠ gb131) u0 x0_2) := ⟨by (with_reducible repeat (first | apply Kd.V_alloc | apply Kd.V_drewN | apply Kd.V_drew)); exact Kd.V_mono (Kd.V_far (p := ⟨gb131, 1, none⟩) (Kd.V_far (p := ⟨gb131, 0, none⟩) (Kd.V_mono HO_0.out (fun k_ hk => (⟨hk, hk.2⟩ : _ ∧ k_ ≠ gb131))) (fun _ hk => hk.2) (.int .i64 ((rd_T50 l2_2 x40_2).f0))) (fun _ hk => hk.2) (.bool ((rd_T50 l2_2 x40_2).f1))) (fun _ hk => ⟨hk.1.1.1, ⟨hk.1.1.2.1, ⟨hk.1.1.2.2, hk.1.2⟩⟩⟩)⟩
                          have n1_ : zF (Kd.R (Kd.int .i64) 3 ((w26.setCell ⟨gb131, 0, none⟩ (.int .i64 ((rd_T50 l2_2 x40_2).f0))).setCell ⟨gb131, 1, none⟩ (.bool ((rd_T50 l2_2 x40_2).f1))) w.heap.size (fun k_ => (w.heap.size ≤ k_)) (.slice (some ad129) t124.length co16) t124) := ⟨by (with_reducible repeat (first | apply Kd.zR | apply Kd.zP | apply Kd.zQ)); exact Kd.R_mono (Kd.R_far (p := ⟨gb131, 1, none⟩) (Kd.R_far (p := ⟨gb131, 0, none⟩) (Kd.R_types HO_38.out BK131.out (by decide)) (fun _ hk => hk.2) (.int .i64 ((rd_T50 l2_2 x40_2).f0))) (fun _ hk => hk.2) (.bool ((rd_T50 l2_2 x40_2).f1))) (fun _ hk => hk.1)⟩
                          have n2_ : zF (((w26.setCell ⟨gb131, 0, none⟩ (.int .i64 ((rd_T50 l2_2 x40_2).f0))).setCell ⟨gb131, 1, none⟩ (.bool ((rd_T50 l2_2 x40_2).f1))).heap[gb123]? = some (.cells #[.bool a2_0, .int .i64 a2_1, .slice (some ad130) l2_2.length c2_2] 25 (0, 0))) := ⟨by (with_reducible repeat (first | refine zK ?_ _ | refine zL ?_ | refine zJ ?_ _)); refine zO ?_ NB123_131.out _; (with_reducible repeat (first | refine zK ?_ _ | refine zL ?_ | refine zJ ?_ _)); refine zO ?_ NB123_131.out _; (with_reducible repeat (first | refine zK ?_ _ | refine zL ?_ | refine zJ ?_ _)); exact BK123.out⟩
                          have n3_ : zF (((w26.setCell ⟨gb131, 0, none⟩ (.int .i64 ((rd_T50 l2_2 x40_2).f0))).setCell ⟨gb131, 1, none⟩ (.bool ((rd_T50 l2_2 x40_2).f1))).heap[gb131]? = some (.cells #[.int .i64 ((rd_T50 l2_2 x40_2).f0), .bool ((rd_T50 l2_2 x40_2).f1)] 50 (0, 0))) := ⟨by (with_reducible repeat (first | refine zK ?_ _ | refine zL ?_ | refine zJ ?_ _)); refine blk_put (cs := #[.int .i64 ((rd_T50 l2_2 x40_2).f0), .bool false]) ?_ 1 _ rfl; (with_reducible repeat (first | refine zK ?_ _ | refine zL ?_ | refine zJ ?_ _)); refine blk_put (cs := #[.int .i64 0, .bool false]) ?_ 0 _ rfl; (with_reducible repeat (first | refine zK ?_ _ | refine zL ?_ | refine zJ ?_ _)); exact BK131.out⟩
                          have n4_ : zF (Below w.heap.size w ((w26.setCell ⟨gb131, 0, none⟩ (.int .i64 ((rd_T50 l2_2 x40_2).f0))).setCell ⟨gb131, 1, none⟩ (.bool ((rd_T50 l2_2 x40_2).f1)))) := ⟨by repeat (first | (with_reducible first | exact HB.out | apply zE | apply zB | apply zC | refine zD ?_ GE123.out | refine zD ?_ GE131.out) | exact HB.out)⟩
                          (try clear HO_0)
                          (try clear HO_38)
                          (try clear BK123)
                          (try clear BK131)
                          (try clear HB)
                          generalize ((w26.setCell ⟨gb131, 0, none⟩ (.int .i64 ((rd_T50 l2_2 x40_2).f0))).setCell ⟨gb131, 1, none⟩ (.bool ((rd_T50 l2_2 x40_2).f1))) = w29 at n0_ n1_ n2_ n3_ n4_ ⊢
                          have HO_0 := n0_
                          have HO_38 := n1_
                          have BK123 := n2_
                          have BK131 := n3_
                          have HB := n4_
                          clear n0_ n1_ n2_ n3_ n4_
                          have n0_ := zF.mk (Kd.V_drew HO_0.out)
                          have n1_ := zF.mk (Kd.zQ HO_38.out)
                          have n2_ := zF.mk (zL BK123.out)
                          have n3_ := zF.mk (zL BK131.out)
                          have n4_ := zF.mk (zC HB.out)
                          clear HO_0
                          clear HO_38
                          clear BK123
                          clear BK131
                          clear HB
                          have HO_0 := n0_
                          have HO_38 := n1_
                          have BK123 := n2_
                          have BK131 := n3_
                          have HB := n4_
                          clear n0_ n1_ n2_ n3_ n4_
                          obtain ⟨Ao32, co32, eo32⟩ := Kd.V_slice HO_0.out
                          (first | subst eo32 | (injection eo32 with f1_ f2_ f3_; have f4_ := f1_.symm; have f5_ := f3_.symm; clear f1_ f2_ f3_; subst f4_; subst f5_))
                          have q31 : ((rd t124 x40_2) : Int) ≤ ((x0_2.length : Int) : Int) := of_decide_eq_true (by first | (with_reducible assumption) | assumption)
                          obtain ⟨i031, hi031, _, hsz31, _⟩ := info_parts info3
                          have hroom31 : x0_2.length ≤ co32 := (Kd.V_reads' HO_0.out).2.1
                          have hC31 : Kd.F (Kd.int .i64) _ _ Ao32 x0_2.length x0_2 := (Kd.V_at (base := w.heap.size) HO_0.out).2.2
                          have hcut31 := cut_to (P := Try.prog) 22 3 .i64 Try.underlying22 hi031 Ao32 x0_2.length co32 (rd t124 x40_2) (of_decide_eq_true (by first | (with_reducible assumption) | assumption)) q31 hroom31
                          have hr31 := Kd.F_take (m := ((rd t124 x40_2) : Int).toNat) hC31 (by omega)
                          have hy31 : y132.length = ((rd t124 x40_2) : Int).toNat := (by rw [Ny132.out, List.length_take]; omega)
                          rw [← Ny132.out] at hr31
                          rw [← hy31] at hcut31
                          have HO136 := zF.mk (show Kd.V (Kd.int .i64) 3 _ w.heap.size _ (.slice Ao32 y132.length co32) y132 from Kd.V_mk (by omega) hr31)
                          have HC136 := zF.mk (show y132.length ≤ co32 from by omega)
                          clear hr31 hC31 hroom31 hi031 hsz31
                          have KY31 := zF.mk hy31
                          clear hy31
                          replace q31 := eq_true q31
                          refine start_ (n := 6) (S := fun w' => w'.cell? ⟨gb131, 0, none⟩ = some (.int .i64 ((rd_T50 l2_2 x40_2).f0)) ∧ w'.cell? ⟨gb131, 1, none⟩ = some (.bool ((rd_T50 l2_2 x40_2).f1))) (ds := []) #[false, false, false, false, false, false] (by kernel_rfl) rfl rfl ⟨(zM BK131.out 0).trans rfl, (zM BK131.out 1).trans rfl⟩ (fun hHeld => ?_)
                          generalize w29.drew = w30 at HO_0 HO_38 BK123 BK131 HB HO136 hHeld ⊢
                          refine pure_ (i := 0) (N := some 50) (v := ?_) (a' := ?_) #[true, false, false, false, false, false] rfl rfl (by kernel_rfl) (fun _ _ _ h => h) (Or.inl ⟨by rfl, ?_⟩) ?_ ?_
                          rotate_left
                          · intro w'
                            go_simp
                            with_reducible rfl
                          rotate_left
                          · simp only [Act.put, List.setIfInBounds_toArray, List.set_cons_zero, List.set_cons_succ, i64_w, i32_w]
                            rfl
                          refine pure_ (i := 1) (N := some 51) (v := ?_) (a' := ?_) #[true, true, false, false, false, false] rfl rfl (by kernel_rfl) (fun _ _ _ h => h) (Or.inl ⟨by rfl, ?_⟩) ?_ ?_
                          rotate_left
                          · intro w'
                            go_simp
                            with_reducible rfl
                          rotate_left
                          · simp only [Act.put, List.setIfInBounds_toArray, List.set_cons_zero, List.set_cons_succ, i64_w, i32_w]
                            rfl
                          refine pure_ (i := 2) (N := some 52) (v := ?_) (a' := ?_) #[true, true, true, false, false, false] rfl rfl (by kernel_rfl) (fun _ _ _ h => h) (Or.inl ⟨by rfl, ?_⟩) ?_ ?_
                          rotate_left
                          · intro w'
                            go_simp
                            with_reducible rfl
                          rotate_left
                          · simp only [Act.put, List.setIfInBounds_toArray, List.set_cons_zero, List.set_cons_succ, i64_w, i32_w]
                            rfl
                          refine take_ (i := 3) (N := some 53) (v := ?_) (a' := ?_) #[true, true, true, true, false, false] rfl rfl (by kernel_rfl) (fun _ _ _ h => h) (Or.inl ⟨by rfl, ?_⟩) hHeld ?_ ?_
                          rotate_left
                          · rintro w' ⟨s0, s1⟩
                            go_simp
                            with_reducible rfl
                          rotate_left
                          · simp only [Act.put, List.setIfInBounds_toArray, List.set_cons_zero, List.set_cons_succ, i64_w, i32_w]
                            rfl
                          refine one_ (i := 4) (N := some 54) #[true, true, true, true, true, false] rfl rfl (by kernel_rfl) (by decide) (fun K hK => ?_)
                          refine goes_ Try.func30 (by kernel_rfl) rfl #[.slice Ao32 y132.length co32, .agg #[.int .i64 ((rd_T50 l2_2 x40_2).f0), .bool ((rd_T50 l2_2 x40_2).f1)]] (by rfl) rfl rfl (by (try simp only [List.map_toArray, List.map_cons, List.map_nil]); first | done | rfl | (simp only [List.length_drop, List.length_take]; rfl)) ?_
                          with_reducible refine (cost_Each.calls k2 _ _ y132 ((rd_T50 l2_2 x40_2).f0) ((rd_T50 l2_2 x40_2).f1) t137 _ ?side1 ?side2 A23.out).mono ?_
                          (case side1 => repeat (first | exact (Kd.V_reads' HO136.out).2.2 | (with_reducible refine Kd.zU ?_ _) | (with_reducible refine Kd.zS ?_ _) | (with_reducible refine Kd.zT ?_)))
                          (case side2 => exact (Kd.V_reads' HO136.out).2.1)
                          rintro e w33 ⟨rfl, hb⟩
                          refine ⟨_, rfl, ?_⟩
                          have n0_ := zF.mk (Kd.V_below (by (with_reducible repeat (first | apply Kd.V_alloc | apply Kd.V_drewN | apply Kd.V_drew)); exact HO_0.out) hb)
                          have n1_ := zF.mk (Kd.R_below (by (with_reducible repeat (first | apply Kd.zR | apply Kd.zP | apply Kd.zQ)); exact HO_38.out) hb)
                          have n2_ := zF.mk (Kd.V_below (by (with_reducible repeat (first | apply Kd.V_alloc | apply Kd.V_drewN | apply Kd.V_drew)); exact HO136.out) hb)
                          have n3_ := zF.mk (blk_below (g := gb123) (o := .cells #[.bool a2_0, .int .i64 a2_1, .slice (some ad130) l2_2.length c2_2] 25 (0, 0)) (by (with_reducible repeat (first | refine zK ?_ _ | refine zL ?_ | refine zJ ?_ _)); exact BK123.out) hb)
                          have n4_ := zF.mk (blk_below (g := gb131) (o := .cells #[.int .i64 ((rd_T50 l2_2 x40_2).f0), .bool ((rd_T50 l2_2 x40_2).f1)] 50 (0, 0)) (by (with_reducible repeat (first | refine zK ?_ _ | refine zL ?_ | refine zJ ?_ _)); exact BK131.out) hb)
                          have n5_ := zF.mk (below_step (by repeat (first | (with_reducible first | exact HB.out | apply zE | apply zB | apply zC | refine zD ?_ GE123.out | refine zD ?_ GE131.out) | exact HB.out)) hb)
                          clear HO_0
                          clear HO_38
                          clear HO136
                          clear BK123
                          clear BK131
                          clear HB
                          have HO_0 := n0_
                          have HO_38 := n1_
                          have HO136 := n2_
                          have BK123 := n3_
                          have BK131 := n4_
                          have HB := n5_
                          clear n0_ n1_ n2_ n3_ n4_ n5_
                          (try clear hb)
                          (try clear hb2)
                          (try clear hk)
                          (try clear hi)
                          refine hK.out _ _ ⟨(zM BK131.out 0).trans rfl, (zM BK131.out 1).trans rfl⟩ (fun hHeld => ?_)
                          clear hK K
                          refine norm_ (a' := ?_) ?_ ?_
                          rotate_left
                          · show Act.put _ (some 54) _ = _
                            simp only [Act.put, List.setIfInBounds_toArray, List.set_cons_zero, List.set_cons_succ, i64_w, i32_w]
                            rfl
                          refine pure_ (i := 5) (N := some 14) (v := ?_) (a' := ?_) #[true, true, true, true, true, true] rfl rfl (by kernel_rfl) (fun _ _ _ h => h) (Or.inl ⟨by rfl, ?_⟩) ?_ ?_
                          rotate_left
                          · intro w'
                            go_simp
                            with_reducible rfl
                          rotate_left
                          · simp only [Act.put, List.setIfInBounds_toArray, List.set_cons_zero, List.set_cons_succ, i64_w, i32_w]
                            rfl
                          refine done_ (by kernel_rfl) ?_
                          try go_wp2
                          go_ret
                          exact ⟨by first | rfl | (simp [errW_none, errW_some] <;> rfl) | (simp [*, errW_none, errW_some] <;> rfl), by repeat (first | (with_reducible first | exact HB.out | apply zE | apply zB | apply zC | refine zD ?_ GE123.out | refine zD ?_ GE131.out) | exact HB.out)⟩
                        · rw [if_neg c24] at H
                          have c24b0 : decide (t137 < 0) = false := decide_eq_false c24
                          clear c24
                          obtain ⟨bq34, hbq34⟩ : ∃ b_ : Bool, b_ = ((rd_T50 l2_2 x40_2).f1) := ⟨_, rfl⟩
                          replace H : (if (bq34 = true) then (parts_Bits.l0 k2 (x0_2.drop ((rd t124 x40_2) : Int).toNat) t127 t128 (wrap64 (x10_2 + (wrap64 (t128 + t137)))) t124 (t124.length : Int) (wrap64 (x40_2 + 1)) a2_0 a2_1 l2_2) else (if ((rd_T50 l2_2 x40_2).f0) < 0 then (some (-1)) else (if ((rd_T50 l2_2 x40_2).f0) > t127 then (some (-1)) else (parts_Bits.l0 k2 (x0_2.drop ((rd t124 x40_2) : Int).toNat) t127 t128 (wrap64 (x10_2 + (wrap64 (t128 + t137)))) t124 (t124.length : Int) (wrap64 (x40_2 + 1)) a2_0 a2_1 l2_2)))) = some r := by rw [← hbq34] at H; exact H
                          have Nbq34 := zF.mk hbq34
                          clear hbq34
                          by_cases c35 : (bq34 = true)
                          · subst c35
                            have H1 : (parts_Bits.l0 k2 (x0_2.drop ((rd t124 x40_2) : Int).toNat) t127 t128 (wrap64 (x10_2 + (wrap64 (t128 + t137)))) t124 (t124.length : Int) (wrap64 (x40_2 + 1)) a2_0 a2_1 l2_2) = some r := by rw [if_pos rfl] at H; exact H
                            clear H
                            have H := H1
                            clear H1
                            have c36b0 := eq_true (of_decide_eq_true (by first | (with_reducible assumption) | assumption) : 0 ≤ (rd t124 x40_2))
                            have c37b0 := eq_true (of_decide_eq_true (by first | (with_reducible assumption) | assumption) : (rd t124 x40_2) ≤ (x0_2.length : Int))
                            obtain ⟨y138, hy138⟩ : ∃ y_ : List Int, y_ = (x0_2.drop ((rd t124 x40_2) : Int).toNat) := ⟨_, rfl⟩
                            replace H : (parts_Bits.l0 k2 y138 t127 t128 (wrap64 (x10_2 + (wrap64 (t128 + t137)))) t124 (t124.length : Int) (wrap64 (x40_2 + 1)) a2_0 a2_1 l2_2) = some r := by first | (rw [hy138]; with_reducible exact H) | (have H2_ := (Option.bind_some _ _).symm.trans H; rw [hy138]; with_reducible exact H2_) | (have H2_ := (Option.bind_some _ _).symm.trans H; with_reducible exact H2_) | with_reducible exact H | (rw [hy138]; exact H) | exact H
                            have Ny138 := zF.mk hy138
                            clear hy138
                            have H' := zF.mk H
                            clear H
                            have p129 : 0 ≤ (x40_2 : Int) := of_decide_eq_true (by first | (with_reducible assumption) | assumption)
                            have q129 : x40_2 < (t124.length : Int) := of_decide_eq_true (by first | (with_reducible assumption) | assumption)
                            obtain ⟨ad129, e129, hx129_0⟩ := Kd.at_int (Kd.R_reads' HO_38.out).2.2 x40_2 p129 q129
                            cases e129
                            replace p129 := eq_true p129
                            replace q129 := eq_true q129
                            have hcz38_0 : wr.cell? ⟨gb123, 0, none⟩ = some (.bool a2_0) := (zM BK123.out 0).trans rfl
                            have hcz38_1 : wr.cell? ⟨gb123, 1, none⟩ = some (.int .i64 a2_1) := (zM BK123.out 1).trans rfl
                            have hcz38_2 : wr.cell? ⟨gb123, 2, none⟩ = some (.slice A2_2 l2_2.length c2_2) := (zM BK123.out 2).trans rfl
                            have hfz38_0 := zN BK123.out 0
                            have hfz38_1 := zN BK123.out 1
                            have hfz38_2 := zN BK123.out 2
                            have p130 : 0 ≤ (x40_2 : Int) := of_decide_eq_true (by first | (with_reducible assumption) | assumption)
                            have q130 : x40_2 < (l2_2.length : Int) := of_decide_eq_true (by first | (with_reducible assumption) | assumption)
                            obtain ⟨ad130, e130, hx130_0, hx130_1⟩ := at_T50 HR2_2.out x40_2 p130 q130
                            (try rw [← Nbq34.out] at hx130_1)
                            cases e130
                            replace hx130_0 := (HB.out.cell (World.block_lt_of_cell? w _ hx130_0)).trans hx130_0
                            replace hx130_1 := (HB.out.cell (World.block_lt_of_cell? w _ hx130_1)).trans hx130_1
                            replace p130 := eq_true p130
                            replace q130 := eq_true q130
                            try go_wp2_with (first | ((with_reducible refine gate_dst (N := 13) rfl ?_); (try (refine gate_guard (by rfl) ?_; dsimp only)); refine box_event ?hg (N := 13) ?hd (cs := #[.int .i64 0, .bool false]) (t := 50) ?hr ?_; (case hd => rfl); (case hg => rfl); (case hr => first | (go_simp; done) | (go_simp; rfl)); intro gb131 hg w39 hbox hb; have n0_ := zF.mk (Kd.V_below (Kd.V_elderB (by (with_reducible repeat (first | apply Kd.V_alloc | apply Kd.V_drewN | apply Kd.V_drew)); exact HO_0.out) gb131 (Nat.le_of_eq hg.symm)) hb); have n1_ := zF.mk (Kd.R_below (by (with_reducible repeat (first | apply Kd.zR | apply Kd.zP | apply Kd.zQ)); exact HO_38.out) hb); have n2_ := zF.mk (blk_below (g := gb123) (o := .cells #[.bool a2_0, .int .i64 a2_1, .slice (some ad130) l2_2.length c2_2] 25 (0, 0)) (by (with_reducible repeat (first | refine zK ?_ _ | refine zL ?_ | refine zJ ?_ _)); exact BK123.out) hb); have n3_ := zF.mk (below_step (by repeat (first | (with_reducible first | exact HB.out | apply zE | apply zB | apply zC | refine zD ?_ GE123.out) | exact HB.out)) hb); have n4_ := zF.mk (hbox); have n5_ := zF.mk ((by rw [hg]; exact (below_size (by repeat (first | (with_reducible first | exact HB.out | apply zE | apply zB | apply zC | refine zD ?_ GE123.out) | exact HB.out))) : w.heap.size ≤ gb131)); have n6_ := zF.mk ((by rw [hg]; exact (below_size (by repeat (first | (with_reducible first | exact HB.out | apply zE | apply zB | apply zC | refine zD ?_ GE123.out) | exact HB.out))) : w.heap.size ≤ gb131)); have n7_ := zF.mk ((by rw [hg]; exact Nat.ne_of_lt (blk_lt (g := gb123) (o := .cells #[.bool a2_0, .int .i64 a2_1, .slice (some ad130) l2_2.length c2_2] 25 (0, 0)) (by (with_reducible repeat (first | refine zK ?_ _ | refine zL ?_ | refine zJ ?_ _)); exact BK123.out)) : gb123 ≠ gb131)); have n8_ := zF.mk ((by rw [hg]; exact Nat.ne_of_gt (blk_lt (g := gb123) (o := .cells #[.bool a2_0, .int .i64 a2_1, .slice (some ad130) l2_2.length c2_2] 25 (0, 0)) (by (with_reducible repeat (first | refine zK ?_ _ | refine zL ?_ | refine zJ ?_ _)); exact BK123.out)) : gb131 ≠ gb123)); clear HO_0; clear HO_38; clear BK123; clear HB; have HO_0 := n0_; have HO_38 := n1_; have BK123 := n2_; have HB := n3_; have BK131 := n4_; have GW131 := n5_; have GE131 := n6_; have NB123_131 := n7_; have NB131_123 := n8_; clear n0_ n1_ n2_ n3_ n4_ n5_ n6_ n7_ n8_; clear hb hbox hg; have hnb40 := NB131_123.out; have hnc40 := NB123_131.out; have hcz41_0 : w39.cell? ⟨gb131, 0, none⟩ = some (.int .i64 0) := (zM BK131.out 0).trans rfl; have hcz41_1 : w39.cell? ⟨gb131, 1, none⟩ = some (.bool false) := (zM BK131.out 1).trans rfl; have hfz41_0 := zN BK131.out 0; have hfz41_1 := zN BK131.out 1))
                            have n0_ : zF (Kd.V (Kd.int .i64) 3 ((w39.setCell ⟨gb131, 0, none⟩ (.int .i64 ((rd_T50 l2_2 x40_2).f0))).setCell ⟨gb131, 1, none⟩ (.bool true)) w.heap.size (fun k_ => (P0_ k_ ∨ w.heap.size ≤ k_) ∧ some k_ ≠ (.slice (some ad129) t124.length co16 : Value).ownBlock ∧ k_ ≠ gb123 ∧ k_ ≠ gb131) u0 x0_2) := ⟨by (with_reducible repeat (first | apply Kd.V_alloc | apply Kd.V_drewN | apply Kd.V_drew)); exact Kd.V_mono (Kd.V_far (p := ⟨gb131, 1, none⟩) (Kd.V_far (p := ⟨gb131, 0, none⟩) (Kd.V_mono HO_0.out (fun k_ hk => (⟨hk, hk.2⟩ : _ ∧ k_ ≠ gb131))) (fun _ hk => hk.2) (.int .i64 ((rd_T50 l2_2 x40_2).f0))) (fun _ hk => hk.2) (.bool true)) (fun _ hk => ⟨hk.1.1.1, ⟨hk.1.1.2.1, ⟨hk.1.1.2.2, hk.1.2⟩⟩⟩)⟩
                            have n1_ : zF (Kd.R (Kd.int .i64) 3 ((w39.setCell ⟨gb131, 0, none⟩ (.int .i64 ((rd_T50 l2_2 x40_2).f0))).setCell ⟨gb131, 1, none⟩ (.bool true)) w.heap.size (fun k_ => (w.heap.size ≤ k_)) (.slice (some ad129) t124.length co16) t124) := ⟨by (with_reducible repeat (first | apply Kd.zR | apply Kd.zP | apply Kd.zQ)); exact Kd.R_mono (Kd.R_far (p := ⟨gb131, 1, none⟩) (Kd.R_far (p := ⟨gb131, 0, none⟩) (Kd.R_types HO_38.out BK131.out (by decide)) (fun _ hk => hk.2) (.int .i64 ((rd_T50 l2_2 x40_2).f0))) (fun _ hk => hk.2) (.bool true)) (fun _ hk => hk.1)⟩
                            have n2_ : zF (((w39.setCell ⟨gb131, 0, none⟩ (.int .i64 ((rd_T50 l2_2 x40_2).f0))).setCell ⟨gb131, 1, none⟩ (.bool true)).heap[gb123]? = some (.cells #[.bool a2_0, .int .i64 a2_1, .slice (some ad130) l2_2.length c2_2] 25 (0, 0))) := ⟨by (with_reducible repeat (first | refine zK ?_ _ | refine zL ?_ | refine zJ ?_ _)); refine zO ?_ NB123_131.out _; (with_reducible repeat (first | refine zK ?_ _ | refine zL ?_ | refine zJ ?_ _)); refine zO ?_ NB123_131.out _; (with_reducible repeat (first | refine zK ?_ _ | refine zL ?_ | refine zJ ?_ _)); exact BK123.out⟩
                            have n3_ : zF (((w39.setCell ⟨gb131, 0, none⟩ (.int .i64 ((rd_T50 l2_2 x40_2).f0))).setCell ⟨gb131, 1, none⟩ (.bool true)).heap[gb131]? = some (.cells #[.int .i64 ((rd_T50 l2_2 x40_2).f0), .bool true] 50 (0, 0))) := ⟨by (with_reducible repeat (first | refine zK ?_ _ | refine zL ?_ | refine zJ ?_ _)); refine blk_put (cs := #[.int .i64 ((rd_T50 l2_2 x40_2).f0), .bool false]) ?_ 1 _ rfl; (with_reducible repeat (first | refine zK ?_ _ | refine zL ?_ | refine zJ ?_ _)); refine blk_put (cs := #[.int .i64 0, .bool false]) ?_ 0 _ rfl; (with_reducible repeat (first | refine zK ?_ _ | refine zL ?_ | refine zJ ?_ _)); exact BK131.out⟩
                            have n4_ : zF (Below w.heap.size w ((w39.setCell ⟨gb131, 0, none⟩ (.int .i64 ((rd_T50 l2_2 x40_2).f0))).setCell ⟨gb131, 1, none⟩ (.bool true))) := ⟨by repeat (first | (with_reducible first | exact HB.out | apply zE | apply zB | apply zC | refine zD ?_ GE123.out | refine zD ?_ GE131.out) | exact HB.out)⟩
                            (try clear HO_0)
                            (try clear HO_38)
                            (try clear BK123)
                            (try clear BK131)
                            (try clear HB)
                            generalize ((w39.setCell ⟨gb131, 0, none⟩ (.int .i64 ((rd_T50 l2_2 x40_2).f0))).setCell ⟨gb131, 1, none⟩ (.bool true)) = w42 at n0_ n1_ n2_ n3_ n4_ ⊢
                            have HO_0 := n0_
                            have HO_38 := n1_
                            have BK123 := n2_
                            have BK131 := n3_
                            have HB := n4_
                            clear n0_ n1_ n2_ n3_ n4_
                            have n0_ := zF.mk (Kd.V_drew HO_0.out)
                            have n1_ := zF.mk (Kd.zQ HO_38.out)
                            have n2_ := zF.mk (zL BK123.out)
                            have n3_ := zF.mk (zL BK131.out)
                            have n4_ := zF.mk (zC HB.out)
                            clear HO_0
                            clear HO_38
                            clear BK123
                            clear BK131
                            clear HB
                            have HO_0 := n0_
                            have HO_38 := n1_
                            have BK123 := n2_
                            have BK131 := n3_
                            have HB := n4_
                            clear n0_ n1_ n2_ n3_ n4_
                            obtain ⟨Ao45, co45, eo45⟩ := Kd.V_slice HO_0.out
                            (first | subst eo45 | (injection eo45 with f1_ f2_ f3_; have f4_ := f1_.symm; have f5_ := f3_.symm; clear f1_ f2_ f3_; subst f4_; subst f5_))
                            have q44 : ((rd t124 x40_2) : Int) ≤ ((x0_2.length : Int) : Int) := of_decide_eq_true (by first | (with_reducible assumption) | assumption)
                            obtain ⟨i044, hi044, _, hsz44, _⟩ := info_parts info3
                            have hroom44 : x0_2.length ≤ co45 := (Kd.V_reads' HO_0.out).2.1
                            have hC44 : Kd.F (Kd.int .i64) _ _ Ao45 x0_2.length x0_2 := (Kd.V_at (base := w.heap.size) HO_0.out).2.2
                            have hcut44 := cut_to (P := Try.prog) 22 3 .i64 Try.underlying22 hi044 Ao45 x0_2.length co45 (rd t124 x40_2) (of_decide_eq_true (by first | (with_reducible assumption) | assumption)) q44 hroom44
                            have hr44 := Kd.F_take (m := ((rd t124 x40_2) : Int).toNat) hC44 (by omega)
                            have hy44 : y132.length = ((rd t124 x40_2) : Int).toNat := (by rw [Ny132.out, List.length_take]; omega)
                            rw [← Ny132.out] at hr44
                            rw [← hy44] at hcut44
                            have HO136 := zF.mk (show Kd.V (Kd.int .i64) 3 _ w.heap.size _ (.slice Ao45 y132.length co45) y132 from Kd.V_mk (by omega) hr44)
                            have HC136 := zF.mk (show y132.length ≤ co45 from by omega)
                            clear hr44 hC44 hroom44 hi044 hsz44
                            have KY44 := zF.mk hy44
                            clear hy44
                            replace q44 := eq_true q44
                            refine start_ (n := 6) (S := fun w' => w'.cell? ⟨gb131, 0, none⟩ = some (.int .i64 ((rd_T50 l2_2 x40_2).f0)) ∧ w'.cell? ⟨gb131, 1, none⟩ = some (.bool true)) (ds := []) #[false, false, false, false, false, false] (by kernel_rfl) rfl rfl ⟨(zM BK131.out 0).trans rfl, (zM BK131.out 1).trans rfl⟩ (fun hHeld => ?_)
                            generalize w42.drew = w43 at HO_0 HO_38 BK123 BK131 HB HO136 hHeld ⊢
                            refine pure_ (i := 0) (N := some 50) (v := ?_) (a' := ?_) #[true, false, false, false, false, false] rfl rfl (by kernel_rfl) (fun _ _ _ h => h) (Or.inl ⟨by rfl, ?_⟩) ?_ ?_
                            rotate_left
                            · intro w'
                              go_simp
                              with_reducible rfl
                            rotate_left
                            · simp only [Act.put, List.setIfInBounds_toArray, List.set_cons_zero, List.set_cons_succ, i64_w, i32_w]
                              rfl
                            refine pure_ (i := 1) (N := some 51) (v := ?_) (a' := ?_) #[true, true, false, false, false, false] rfl rfl (by kernel_rfl) (fun _ _ _ h => h) (Or.inl ⟨by rfl, ?_⟩) ?_ ?_
                            rotate_left
                            · intro w'
                              go_simp
                              with_reducible rfl
                            rotate_left
                            · simp only [Act.put, List.setIfInBounds_toArray, List.set_cons_zero, List.set_cons_succ, i64_w, i32_w]
                              rfl
                            refine pure_ (i := 2) (N := some 52) (v := ?_) (a' := ?_) #[true, true, true, false, false, false] rfl rfl (by kernel_rfl) (fun _ _ _ h => h) (Or.inl ⟨by rfl, ?_⟩) ?_ ?_
                            rotate_left
                            · intro w'
                              go_simp
                              with_reducible rfl
                            rotate_left
                            · simp only [Act.put, List.setIfInBounds_toArray, List.set_cons_zero, List.set_cons_succ, i64_w, i32_w]
                              rfl
                            refine take_ (i := 3) (N := some 53) (v := ?_) (a' := ?_) #[true, true, true, true, false, false] rfl rfl (by kernel_rfl) (fun _ _ _ h => h) (Or.inl ⟨by rfl, ?_⟩) hHeld ?_ ?_
                            rotate_left
                            · rintro w' ⟨s0, s1⟩
                              go_simp
                              with_reducible rfl
                            rotate_left
                            · simp only [Act.put, List.setIfInBounds_toArray, List.set_cons_zero, List.set_cons_succ, i64_w, i32_w]
                              rfl
                            refine one_ (i := 4) (N := some 54) #[true, true, true, true, true, false] rfl rfl (by kernel_rfl) (by decide) (fun K hK => ?_)
                            refine goes_ Try.func30 (by kernel_rfl) rfl #[.slice Ao45 y132.length co45, .agg #[.int .i64 ((rd_T50 l2_2 x40_2).f0), .bool true]] (by rfl) rfl rfl (by (try simp only [List.map_toArray, List.map_cons, List.map_nil]); first | done | rfl | (simp only [List.length_drop, List.length_take]; rfl)) ?_
                            with_reducible refine (cost_Each.calls k2 _ _ y132 ((rd_T50 l2_2 x40_2).f0) true t137 _ ?side1 ?side2 (by first | exact A23.out | (rw [Nbq34.out]; exact A23.out))).mono ?_
                            (case side1 => repeat (first | exact (Kd.V_reads' HO136.out).2.2 | (with_reducible refine Kd.zU ?_ _) | (with_reducible refine Kd.zS ?_ _) | (with_reducible refine Kd.zT ?_)))
                            (case side2 => exact (Kd.V_reads' HO136.out).2.1)
                            rintro e w46 ⟨rfl, hb⟩
                            refine ⟨_, rfl, ?_⟩
                            have n0_ := zF.mk (Kd.V_below (by (with_reducible repeat (first | apply Kd.V_alloc | apply Kd.V_drewN | apply Kd.V_drew)); exact HO_0.out) hb)
                            have n1_ := zF.mk (Kd.R_below (by (with_reducible repeat (first | apply Kd.zR | apply Kd.zP | apply Kd.zQ)); exact HO_38.out) hb)
                            have n2_ := zF.mk (Kd.V_below (by (with_reducible repeat (first | apply Kd.V_alloc | apply Kd.V_drewN | apply Kd.V_drew)); exact HO136.out) hb)
                            have n3_ := zF.mk (blk_below (g := gb123) (o := .cells #[.bool a2_0, .int .i64 a2_1, .slice (some ad130) l2_2.length c2_2] 25 (0, 0)) (by (with_reducible repeat (first | refine zK ?_ _ | refine zL ?_ | refine zJ ?_ _)); exact BK123.out) hb)
                            have n4_ := zF.mk (blk_below (g := gb131) (o := .cells #[.int .i64 ((rd_T50 l2_2 x40_2).f0), .bool true] 50 (0, 0)) (by (with_reducible repeat (first | refine zK ?_ _ | refine zL ?_ | refine zJ ?_ _)); exact BK131.out) hb)
                            have n5_ := zF.mk (below_step (by repeat (first | (with_reducible first | exact HB.out | apply zE | apply zB | apply zC | refine zD ?_ GE123.out | refine zD ?_ GE131.out) | exact HB.out)) hb)
                            clear HO_0
                            clear HO_38
                            clear HO136
                            clear BK123
                            clear BK131
                            clear HB
                            have HO_0 := n0_
                            have HO_38 := n1_
                            have HO136 := n2_
                            have BK123 := n3_
                            have BK131 := n4_
                            have HB := n5_
                            clear n0_ n1_ n2_ n3_ n4_ n5_
                            (try clear hb)
                            (try clear hb2)
                            (try clear hk)
                            (try clear hi)
                            refine hK.out _ _ ⟨(zM BK131.out 0).trans rfl, (zM BK131.out 1).trans rfl⟩ (fun hHeld => ?_)
                            clear hK K
                            refine norm_ (a' := ?_) ?_ ?_
                            rotate_left
                            · show Act.put _ (some 54) _ = _
                              simp only [Act.put, List.setIfInBounds_toArray, List.set_cons_zero, List.set_cons_succ, i64_w, i32_w]
                              rfl
                            refine pure_ (i := 5) (N := some 14) (v := ?_) (a' := ?_) #[true, true, true, true, true, true] rfl rfl (by kernel_rfl) (fun _ _ _ h => h) (Or.inl ⟨by rfl, ?_⟩) ?_ ?_
                            rotate_left
                            · intro w'
                              go_simp
                              with_reducible rfl
                            rotate_left
                            · simp only [Act.put, List.setIfInBounds_toArray, List.set_cons_zero, List.set_cons_succ, i64_w, i32_w]
                              rfl
                            refine done_ (by kernel_rfl) ?_
                            have hcz47_0 : w46.cell? ⟨gb131, 0, none⟩ = some (.int .i64 ((rd_T50 l2_2 x40_2).f0)) := (zM BK131.out 0).trans rfl
                            have hcz47_1 : w46.cell? ⟨gb131, 1, none⟩ = some (.bool true) := (zM BK131.out 1).trans rfl
                            have hfz47_0 := zN BK131.out 0
                            have hfz47_1 := zN BK131.out 1
                            have q48 : ((rd t124 x40_2) : Int) ≤ ((x0_2.length : Int) : Int) := of_decide_eq_true (by first | (with_reducible assumption) | assumption)
                            obtain ⟨i048, hi048, _, hsz48, _⟩ := info_parts info3
                            have hroom48 : x0_2.length ≤ co45 := (Kd.V_reads' HO_0.out).2.1
                            have hC48 : Kd.F (Kd.int .i64) _ _ Ao45 x0_2.length x0_2 := (Kd.V_at (base := w.heap.size) HO_0.out).2.2
                            have q048 : (0 : Int) ≤ ((rd t124 x40_2) : Int) := of_decide_eq_true (by first | (with_reducible assumption) | assumption)
                            have hcut48 := cut_from (P := Try.prog) 22 3 .i64 Try.underlying22 hi048 1 hsz48 Ao45 x0_2.length co45 (rd t124 x40_2) q048 q48
                            have hr48 := Kd.F_cut (m := ((rd t124 x40_2) : Int).toNat) (c := co45) hC48 (by omega) hroom48
                            obtain ⟨A48, hA48⟩ : ∃ A1, A1 = (if co45 = ((rd t124 x40_2) : Int).toNat then Ao45 else (Ao45 : Option Addr).map (·.add (((rd t124 x40_2) : Int).toNat * 1))) := ⟨_, rfl⟩
                            obtain ⟨c48, hc48⟩ : ∃ c1, c1 = co45 - ((rd t124 x40_2) : Int).toNat := ⟨_, rfl⟩
                            have hy48 : y138.length = x0_2.length - ((rd t124 x40_2) : Int).toNat := (by rw [Ny138.out, List.length_drop] <;> omega)
                            rw [show (x0_2).drop ((rd t124 x40_2) : Int).toNat = y138 from Ny138.out.symm] at hr48
                            replace hr48 : Kd.F (Kd.int .i64) _ _ A48 y138.length y138 := (by rw [hA48]; exact hr48)
                            rw [← hy48, ← hA48, ← hc48] at hcut48
                            have HO142 := zF.mk (show Kd.V (Kd.int .i64) 3 _ w.heap.size _ (.slice A48 y138.length c48) y138 from Kd.V_mk (by rw [hy48, hc48]; exact Nat.sub_le_sub_right hroom48 _) hr48)
                            have HC142 := zF.mk (show y138.length ≤ c48 from by rw [hy48, hc48]; exact Nat.sub_le_sub_right hroom48 _)
                            clear hr48 hC48 hroom48 hi048 hsz48 hc48
                            have KY48 := zF.mk hy48
                            have KA48 := zF.mk hA48
                            clear hy48 hA48
                            replace q48 := eq_true q48
                            try go_wp2
                            go_roundg k2
                            case measure => have := HJ4.out; have := HK2.out; omega
                            case rel => exact ⟨(y138), (wrap64 (x10_2 + (wrap64 (t128 + t137)))), (wrap64 (x40_2 + 1)), (by first | rfl | (simp; done) | (simp only [i64_w, i32_w]; done) | (simp [*]; done) | (simp only [i64_w, i32_w]; first | rfl | (simp; done) | (simp [*]; done))), (by first | rfl | (simp; done) | (simp only [i64_w, i32_w]; done) | (simp [*]; done) | (simp only [i64_w, i32_w]; first | rfl | (simp; done) | (simp [*]; done))), H', ⟨by have := HJ4.out; have := HK2.out; omega⟩, ⟨by (with_reducible repeat (first | apply Kd.V_alloc | apply Kd.V_drewN | apply Kd.V_drew)); exact Kd.V_mono HO142.out (fun _ hk => ⟨hk.1, ⟨hk.2.1, hk.2.2.1⟩⟩)⟩, ⟨by (with_reducible repeat (first | apply Kd.zR | apply Kd.zP | apply Kd.zQ)); exact HO_38.out⟩, ⟨by (with_reducible repeat (first | refine zK ?_ _ | refine zL ?_ | refine zJ ?_ _)); exact BK123.out⟩, ⟨by repeat (first | (with_reducible first | exact HB.out | apply zE | apply zB | apply zC | refine zD ?_ GE123.out | refine zD ?_ GE131.out) | exact HB.out)⟩⟩
                          · replace c35 := Bool.eq_false_iff.mpr c35
                            subst c35
                            have H1 : (if ((rd_T50 l2_2 x40_2).f0) < 0 then (some (-1)) else (if ((rd_T50 l2_2 x40_2).f0) > t127 then (some (-1)) else (parts_Bits.l0 k2 (x0_2.drop ((rd t124 x40_2) : Int).toNat) t127 t128 (wrap64 (x10_2 + (wrap64 (t128 + t137)))) t124 (t124.length : Int) (wrap64 (x40_2 + 1)) a2_0 a2_1 l2_2))) = some r := by rw [if_neg (show ¬ (false = true) by decide)] at H; exact H
                            clear H
                            have H := H1
                            clear H1
                            by_cases c49 : ((rd_T50 l2_2 x40_2).f0) < 0
                            · rw [if_pos c49] at H
                              have c49b0 : decide (((rd_T50 l2_2 x40_2).f0) < 0) = true := decide_eq_true c49
                              clear c49
                              obtain rfl := Option.some.inj H
                              have p129 : 0 ≤ (x40_2 : Int) := of_decide_eq_true (by first | (with_reducible assumption) | assumption)
                              have q129 : x40_2 < (t124.length : Int) := of_decide_eq_true (by first | (with_reducible assumption) | assumption)
                              obtain ⟨ad129, e129, hx129_0⟩ := Kd.at_int (Kd.R_reads' HO_38.out).2.2 x40_2 p129 q129
                              cases e129
                              replace p129 := eq_true p129
                              replace q129 := eq_true q129
                              have hcz50_0 : wr.cell? ⟨gb123, 0, none⟩ = some (.bool a2_0) := (zM BK123.out 0).trans rfl
                              have hcz50_1 : wr.cell? ⟨gb123, 1, none⟩ = some (.int .i64 a2_1) := (zM BK123.out 1).trans rfl
                              have hcz50_2 : wr.cell? ⟨gb123, 2, none⟩ = some (.slice A2_2 l2_2.length c2_2) := (zM BK123.out 2).trans rfl
                              have hfz50_0 := zN BK123.out 0
                              have hfz50_1 := zN BK123.out 1
                              have hfz50_2 := zN BK123.out 2
                              have p130 : 0 ≤ (x40_2 : Int) := of_decide_eq_true (by first | (with_reducible assumption) | assumption)
                              have q130 : x40_2 < (l2_2.length : Int) := of_decide_eq_true (by first | (with_reducible assumption) | assumption)
                              obtain ⟨ad130, e130, hx130_0, hx130_1⟩ := at_T50 HR2_2.out x40_2 p130 q130
                              (try rw [← Nbq34.out] at hx130_1)
                              cases e130
                              replace hx130_0 := (HB.out.cell (World.block_lt_of_cell? w _ hx130_0)).trans hx130_0
                              replace hx130_1 := (HB.out.cell (World.block_lt_of_cell? w _ hx130_1)).trans hx130_1
                              replace p130 := eq_true p130
                              replace q130 := eq_true q130
                              try go_wp2_with (first | ((with_reducible refine gate_dst (N := 13) rfl ?_); (try (refine gate_guard (by rfl) ?_; dsimp only)); refine box_event ?hg (N := 13) ?hd (cs := #[.int .i64 0, .bool false]) (t := 50) ?hr ?_; (case hd => rfl); (case hg => rfl); (case hr => first | (go_simp; done) | (go_simp; rfl)); intro gb131 hg w51 hbox hb; have n0_ := zF.mk (Kd.V_below (Kd.V_elderB (by (with_reducible repeat (first | apply Kd.V_alloc | apply Kd.V_drewN | apply Kd.V_drew)); exact HO_0.out) gb131 (Nat.le_of_eq hg.symm)) hb); have n1_ := zF.mk (Kd.R_below (by (with_reducible repeat (first | apply Kd.zR | apply Kd.zP | apply Kd.zQ)); exact HO_38.out) hb); have n2_ := zF.mk (blk_below (g := gb123) (o := .cells #[.bool a2_0, .int .i64 a2_1, .slice (some ad130) l2_2.length c2_2] 25 (0, 0)) (by (with_reducible repeat (first | refine zK ?_ _ | refine zL ?_ | refine zJ ?_ _)); exact BK123.out) hb); have n3_ := zF.mk (below_step (by repeat (first | (with_reducible first | exact HB.out | apply zE | apply zB | apply zC | refine zD ?_ GE123.out) | exact HB.out)) hb); have n4_ := zF.mk (hbox); have n5_ := zF.mk ((by rw [hg]; exact (below_size (by repeat (first | (with_reducible first | exact HB.out | apply zE | apply zB | apply zC | refine zD ?_ GE123.out) | exact HB.out))) : w.heap.size ≤ gb131)); have n6_ := zF.mk ((by rw [hg]; exact (below_size (by repeat (first | (with_reducible first | exact HB.out | apply zE | apply zB | apply zC | refine zD ?_ GE123.out) | exact HB.out))) : w.heap.size ≤ gb131)); have n7_ := zF.mk ((by rw [hg]; exact Nat.ne_of_lt (blk_lt (g := gb123) (o := .cells #[.bool a2_0, .int .i64 a2_1, .slice (some ad130) l2_2.length c2_2] 25 (0, 0)) (by (with_reducible repeat (first | refine zK ?_ _ | refine zL ?_ | refine zJ ?_ _)); exact BK123.out)) : gb123 ≠ gb131)); have n8_ := zF.mk ((by rw [hg]; exact Nat.ne_of_gt (blk_lt (g := gb123) (o := .cells #[.bool a2_0, .int .i64 a2_1, .slice (some ad130) l2_2.length c2_2] 25 (0, 0)) (by (with_reducible repeat (first | refine zK ?_ _ | refine zL ?_ | refine zJ ?_ _)); exact BK123.out)) : gb131 ≠ gb123)); clear HO_0; clear HO_38; clear BK123; clear HB; have HO_0 := n0_; have HO_38 := n1_; have BK123 := n2_; have HB := n3_; have BK131 := n4_; have GW131 := n5_; have GE131 := n6_; have NB123_131 := n7_; have NB131_123 := n8_; clear n0_ n1_ n2_ n3_ n4_ n5_ n6_ n7_ n8_; clear hb hbox hg; have hnb52 := NB131_123.out; have hnc52 := NB123_131.out; have hcz53_0 : w51.cell? ⟨gb131, 0, none⟩ = some (.int .i64 0) := (zM BK131.out 0).trans rfl; have hcz53_1 : w51.cell? ⟨gb131, 1, none⟩ = some (.bool false) := (zM BK131.out 1).trans rfl; have hfz53_0 := zN BK131.out 0; have hfz53_1 := zN BK131.out 1))
                              have n0_ : zF (Kd.V (Kd.int .i64) 3 ((w51.setCell ⟨gb131, 0, none⟩ (.int .i64 ((rd_T50 l2_2 x40_2).f0))).setCell ⟨gb131, 1, none⟩ (.bool false)) w.heap.size (fun k_ => (P0_ k_ ∨ w.heap.size ≤ k_) ∧ some k_ ≠ (.slice (some ad129) t124.length co16 : Value).ownBlock ∧ k_ ≠ gb123 ∧ k_ ≠ gb131) u0 x0_2) := ⟨by (with_reducible repeat (first | apply Kd.V_alloc | apply Kd.V_drewN | apply Kd.V_drew)); exact Kd.V_mono (Kd.V_far (p := ⟨gb131, 1, none⟩) (Kd.V_far (p := ⟨gb131, 0, none⟩) (Kd.V_mono HO_0.out (fun k_ hk => (⟨hk, hk.2⟩ : _ ∧ k_ ≠ gb131))) (fun _ hk => hk.2) (.int .i64 ((rd_T50 l2_2 x40_2).f0))) (fun _ hk => hk.2) (.bool false)) (fun _ hk => ⟨hk.1.1.1, ⟨hk.1.1.2.1, ⟨hk.1.1.2.2, hk.1.2⟩⟩⟩)⟩
                              have n1_ : zF (Kd.R (Kd.int .i64) 3 ((w51.setCell ⟨gb131, 0, none⟩ (.int .i64 ((rd_T50 l2_2 x40_2).f0))).setCell ⟨gb131, 1, none⟩ (.bool false)) w.heap.size (fun k_ => (w.heap.size ≤ k_)) (.slice (some ad129) t124.length co16) t124) := ⟨by (with_reducible repeat (first | apply Kd.zR | apply Kd.zP | apply Kd.zQ)); exact Kd.R_mono (Kd.R_far (p := ⟨gb131, 1, none⟩) (Kd.R_far (p := ⟨gb131, 0, none⟩) (Kd.R_types HO_38.out BK131.out (by decide)) (fun _ hk => hk.2) (.int .i64 ((rd_T50 l2_2 x40_2).f0))) (fun _ hk => hk.2) (.bool false)) (fun _ hk => hk.1)⟩
                              have n2_ : zF (((w51.setCell ⟨gb131, 0, none⟩ (.int .i64 ((rd_T50 l2_2 x40_2).f0))).setCell ⟨gb131, 1, none⟩ (.bool false)).heap[gb123]? = some (.cells #[.bool a2_0, .int .i64 a2_1, .slice (some ad130) l2_2.length c2_2] 25 (0, 0))) := ⟨by (with_reducible repeat (first | refine zK ?_ _ | refine zL ?_ | refine zJ ?_ _)); refine zO ?_ NB123_131.out _; (with_reducible repeat (first | refine zK ?_ _ | refine zL ?_ | refine zJ ?_ _)); refine zO ?_ NB123_131.out _; (with_reducible repeat (first | refine zK ?_ _ | refine zL ?_ | refine zJ ?_ _)); exact BK123.out⟩
                              have n3_ : zF (((w51.setCell ⟨gb131, 0, none⟩ (.int .i64 ((rd_T50 l2_2 x40_2).f0))).setCell ⟨gb131, 1, none⟩ (.bool false)).heap[gb131]? = some (.cells #[.int .i64 ((rd_T50 l2_2 x40_2).f0), .bool false] 50 (0, 0))) := ⟨by (with_reducible repeat (first | refine zK ?_ _ | refine zL ?_ | refine zJ ?_ _)); refine blk_put (cs := #[.int .i64 ((rd_T50 l2_2 x40_2).f0), .bool false]) ?_ 1 _ rfl; (with_reducible repeat (first | refine zK ?_ _ | refine zL ?_ | refine zJ ?_ _)); refine blk_put (cs := #[.int .i64 0, .bool false]) ?_ 0 _ rfl; (with_reducible repeat (first | refine zK ?_ _ | refine zL ?_ | refine zJ ?_ _)); exact BK131.out⟩
                              have n4_ : zF (Below w.heap.size w ((w51.setCell ⟨gb131, 0, none⟩ (.int .i64 ((rd_T50 l2_2 x40_2).f0))).setCell ⟨gb131, 1, none⟩ (.bool false))) := ⟨by repeat (first | (with_reducible first | exact HB.out | apply zE | apply zB | apply zC | refine zD ?_ GE123.out | refine zD ?_ GE131.out) | exact HB.out)⟩
                              (try clear HO_0)
                              (try clear HO_38)
                              (try clear BK123)
                              (try clear BK131)
                              (try clear HB)
                              generalize ((w51.setCell ⟨gb131, 0, none⟩ (.int .i64 ((rd_T50 l2_2 x40_2).f0))).setCell ⟨gb131, 1, none⟩ (.bool false)) = w54 at n0_ n1_ n2_ n3_ n4_ ⊢
                              have HO_0 := n0_
                              have HO_38 := n1_
                              have BK123 := n2_
                              have BK131 := n3_
                              have HB := n4_
                              clear n0_ n1_ n2_ n3_ n4_
                              have n0_ := zF.mk (Kd.V_drew HO_0.out)
                              have n1_ := zF.mk (Kd.zQ HO_38.out)
                              have n2_ := zF.mk (zL BK123.out)
                              have n3_ := zF.mk (zL BK131.out)
                              have n4_ := zF.mk (zC HB.out)
                              clear HO_0
                              clear HO_38
                              clear BK123
                              clear BK131
                              clear HB
                              have HO_0 := n0_
                              have HO_38 := n1_
                              have BK123 := n2_
                              have BK131 := n3_
                              have HB := n4_
                              clear n0_ n1_ n2_ n3_ n4_
                              obtain ⟨Ao57, co57, eo57⟩ := Kd.V_slice HO_0.out
                              (first | subst eo57 | (injection eo57 with f1_ f2_ f3_; have f4_ := f1_.symm; have f5_ := f3_.symm; clear f1_ f2_ f3_; subst f4_; subst f5_))
                              have q56 : ((rd t124 x40_2) : Int) ≤ ((x0_2.length : Int) : Int) := of_decide_eq_true (by first | (with_reducible assumption) | assumption)
                              obtain ⟨i056, hi056, _, hsz56, _⟩ := info_parts info3
                              have hroom56 : x0_2.length ≤ co57 := (Kd.V_reads' HO_0.out).2.1
                              have hC56 : Kd.F (Kd.int .i64) _ _ Ao57 x0_2.length x0_2 := (Kd.V_at (base := w.heap.size) HO_0.out).2.2
                              have hcut56 := cut_to (P := Try.prog) 22 3 .i64 Try.underlying22 hi056 Ao57 x0_2.length co57 (rd t124 x40_2) (of_decide_eq_true (by first | (with_reducible assumption) | assumption)) q56 hroom56
                              have hr56 := Kd.F_take (m := ((rd t124 x40_2) : Int).toNat) hC56 (by omega)
                              have hy56 : y132.length = ((rd t124 x40_2) : Int).toNat := (by rw [Ny132.out, List.length_take]; omega)
                              rw [← Ny132.out] at hr56
                              rw [← hy56] at hcut56
                              have HO136 := zF.mk (show Kd.V (Kd.int .i64) 3 _ w.heap.size _ (.slice Ao57 y132.length co57) y132 from Kd.V_mk (by omega) hr56)
                              have HC136 := zF.mk (show y132.length ≤ co57 from by omega)
                              clear hr56 hC56 hroom56 hi056 hsz56
                              have KY56 := zF.mk hy56
                              clear hy56
                              replace q56 := eq_true q56
                              refine start_ (n := 6) (S := fun w' => w'.cell? ⟨gb131, 0, none⟩ = some (.int .i64 ((rd_T50 l2_2 x40_2).f0)) ∧ w'.cell? ⟨gb131, 1, none⟩ = some (.bool false)) (ds := []) #[false, false, false, false, false, false] (by kernel_rfl) rfl rfl ⟨(zM BK131.out 0).trans rfl, (zM BK131.out 1).trans rfl⟩ (fun hHeld => ?_)
                              generalize w54.drew = w55 at HO_0 HO_38 BK123 BK131 HB HO136 hHeld ⊢
                              refine pure_ (i := 0) (N := some 50) (v := ?_) (a' := ?_) #[true, false, false, false, false, false] rfl rfl (by kernel_rfl) (fun _ _ _ h => h) (Or.inl ⟨by rfl, ?_⟩) ?_ ?_
                              rotate_left
                              · intro w'
                                go_simp
                                with_reducible rfl
                              rotate_left
                              · simp only [Act.put, List.setIfInBounds_toArray, List.set_cons_zero, List.set_cons_succ, i64_w, i32_w]
                                rfl
                              refine pure_ (i := 1) (N := some 51) (v := ?_) (a' := ?_) #[true, true, false, false, false, false] rfl rfl (by kernel_rfl) (fun _ _ _ h => h) (Or.inl ⟨by rfl, ?_⟩) ?_ ?_
                              rotate_left
                              · intro w'
                                go_simp
                                with_reducible rfl
                              rotate_left
                              · simp only [Act.put, List.setIfInBounds_toArray, List.set_cons_zero, List.set_cons_succ, i64_w, i32_w]
                                rfl
                              refine pure_ (i := 2) (N := some 52) (v := ?_) (a' := ?_) #[true, true, true, false, false, false] rfl rfl (by kernel_rfl) (fun _ _ _ h => h) (Or.inl ⟨by rfl, ?_⟩) ?_ ?_
                              rotate_left
                              · intro w'
                                go_simp
                                with_reducible rfl
                              rotate_left
                              · simp only [Act.put, List.setIfInBounds_toArray, List.set_cons_zero, List.set_cons_succ, i64_w, i32_w]
                                rfl
                              refine take_ (i := 3) (N := some 53) (v := ?_) (a' := ?_) #[true, true, true, true, false, false] rfl rfl (by kernel_rfl) (fun _ _ _ h => h) (Or.inl ⟨by rfl, ?_⟩) hHeld ?_ ?_
                              rotate_left
                              · rintro w' ⟨s0, s1⟩
                                go_simp
                                with_reducible rfl
                              rotate_left
                              · simp only [Act.put, List.setIfInBounds_toArray, List.set_cons_zero, List.set_cons_succ, i64_w, i32_w]
                                rfl
                              refine one_ (i := 4) (N := some 54) #[true, true, true, true, true, false] rfl rfl (by kernel_rfl) (by decide) (fun K hK => ?_)
                              refine goes_ Try.func30 (by kernel_rfl) rfl #[.slice Ao57 y132.length co57, .agg #[.int .i64 ((rd_T50 l2_2 x40_2).f0), .bool false]] (by rfl) rfl rfl (by (try simp only [List.map_toArray, List.map_cons, List.map_nil]); first | done | rfl | (simp only [List.length_drop, List.length_take]; rfl)) ?_
                              with_reducible refine (cost_Each.calls k2 _ _ y132 ((rd_T50 l2_2 x40_2).f0) false t137 _ ?side1 ?side2 (by first | exact A23.out | (rw [Nbq34.out]; exact A23.out))).mono ?_
                              (case side1 => repeat (first | exact (Kd.V_reads' HO136.out).2.2 | (with_reducible refine Kd.zU ?_ _) | (with_reducible refine Kd.zS ?_ _) | (with_reducible refine Kd.zT ?_)))
                              (case side2 => exact (Kd.V_reads' HO136.out).2.1)
                              rintro e w58 ⟨rfl, hb⟩
                              refine ⟨_, rfl, ?_⟩
                              have n0_ := zF.mk (Kd.V_below (by (with_reducible repeat (first | apply Kd.V_alloc | apply Kd.V_drewN | apply Kd.V_drew)); exact HO_0.out) hb)
                              have n1_ := zF.mk (Kd.R_below (by (with_reducible repeat (first | apply Kd.zR | apply Kd.zP | apply Kd.zQ)); exact HO_38.out) hb)
                              have n2_ := zF.mk (Kd.V_below (by (with_reducible repeat (first | apply Kd.V_alloc | apply Kd.V_drewN | apply Kd.V_drew)); exact HO136.out) hb)
                              have n3_ := zF.mk (blk_below (g := gb123) (o := .cells #[.bool a2_0, .int .i64 a2_1, .slice (some ad130) l2_2.length c2_2] 25 (0, 0)) (by (with_reducible repeat (first | refine zK ?_ _ | refine zL ?_ | refine zJ ?_ _)); exact BK123.out) hb)
                              have n4_ := zF.mk (blk_below (g := gb131) (o := .cells #[.int .i64 ((rd_T50 l2_2 x40_2).f0), .bool false] 50 (0, 0)) (by (with_reducible repeat (first | refine zK ?_ _ | refine zL ?_ | refine zJ ?_ _)); exact BK131.out) hb)
                              have n5_ := zF.mk (below_step (by repeat (first | (with_reducible first | exact HB.out | apply zE | apply zB | apply zC | refine zD ?_ GE123.out | refine zD ?_ GE131.out) | exact HB.out)) hb)
                              clear HO_0
                              clear HO_38
                              clear HO136
                              clear BK123
                              clear BK131
                              clear HB
                              have HO_0 := n0_
                              have HO_38 := n1_
                              have HO136 := n2_
                              have BK123 := n3_
                              have BK131 := n4_
                              have HB := n5_
                              clear n0_ n1_ n2_ n3_ n4_ n5_
                              (try clear hb)
                              (try clear hb2)
                              (try clear hk)
                              (try clear hi)
                              refine hK.out _ _ ⟨(zM BK131.out 0).trans rfl, (zM BK131.out 1).trans rfl⟩ (fun hHeld => ?_)
                              clear hK K
                              refine norm_ (a' := ?_) ?_ ?_
                              rotate_left
                              · show Act.put _ (some 54) _ = _
                                simp only [Act.put, List.setIfInBounds_toArray, List.set_cons_zero, List.set_cons_succ, i64_w, i32_w]
                                rfl
                              refine pure_ (i := 5) (N := some 14) (v := ?_) (a' := ?_) #[true, true, true, true, true, true] rfl rfl (by kernel_rfl) (fun _ _ _ h => h) (Or.inl ⟨by rfl, ?_⟩) ?_ ?_
                              rotate_left
                              · intro w'
                                go_simp
                                with_reducible rfl
                              rotate_left
                              · simp only [Act.put, List.setIfInBounds_toArray, List.set_cons_zero, List.set_cons_succ, i64_w, i32_w]
                                rfl
                              refine done_ (by kernel_rfl) ?_
                              have hcz59_0 : w58.cell? ⟨gb131, 0, none⟩ = some (.int .i64 ((rd_T50 l2_2 x40_2).f0)) := (zM BK131.out 0).trans rfl
                              have hcz59_1 : w58.cell? ⟨gb131, 1, none⟩ = some (.bool false) := (zM BK131.out 1).trans rfl
                              have hfz59_0 := zN BK131.out 0
                              have hfz59_1 := zN BK131.out 1
                              try go_wp2
                              go_ret
                              exact ⟨by first | rfl | (simp [errW_none, errW_some] <;> rfl) | (simp [*, errW_none, errW_some] <;> rfl), by repeat (first | (with_reducible first | exact HB.out | apply zE | apply zB | apply zC | refine zD ?_ GE123.out | refine zD ?_ GE131.out) | exact HB.out)⟩
                            · rw [if_neg c49] at H
                              have c49b0 : decide (((rd_T50 l2_2 x40_2).f0) < 0) = false := decide_eq_false c49
                              clear c49
                              by_cases c60 : ((rd_T50 l2_2 x40_2).f0) > t127
                              · rw [if_pos c60] at H
                                have c60b0 : decide (t127 < ((rd_T50 l2_2 x40_2).f0)) = true := decide_eq_true c60
                                clear c60
                                obtain rfl := Option.some.inj H
                                have p129 : 0 ≤ (x40_2 : Int) := of_decide_eq_true (by first | (with_reducible assumption) | assumption)
                                have q129 : x40_2 < (t124.length : Int) := of_decide_eq_true (by first | (with_reducible assumption) | assumption)
                                obtain ⟨ad129, e129, hx129_0⟩ := Kd.at_int (Kd.R_reads' HO_38.out).2.2 x40_2 p129 q129
                                cases e129
                                replace p129 := eq_true p129
                                replace q129 := eq_true q129
                                have hcz61_0 : wr.cell? ⟨gb123, 0, none⟩ = some (.bool a2_0) := (zM BK123.out 0).trans rfl
                                have hcz61_1 : wr.cell? ⟨gb123, 1, none⟩ = some (.int .i64 a2_1) := (zM BK123.out 1).trans rfl
                                have hcz61_2 : wr.cell? ⟨gb123, 2, none⟩ = some (.slice A2_2 l2_2.length c2_2) := (zM BK123.out 2).trans rfl
                                have hfz61_0 := zN BK123.out 0
                                have hfz61_1 := zN BK123.out 1
                                have hfz61_2 := zN BK123.out 2
                                have p130 : 0 ≤ (x40_2 : Int) := of_decide_eq_true (by first | (with_reducible assumption) | assumption)
                                have q130 : x40_2 < (l2_2.length : Int) := of_decide_eq_true (by first | (with_reducible assumption) | assumption)
                                obtain ⟨ad130, e130, hx130_0, hx130_1⟩ := at_T50 HR2_2.out x40_2 p130 q130
                                (try rw [← Nbq34.out] at hx130_1)
                                cases e130
                                replace hx130_0 := (HB.out.cell (World.block_lt_of_cell? w _ hx130_0)).trans hx130_0
                                replace hx130_1 := (HB.out.cell (World.block_lt_of_cell? w _ hx130_1)).trans hx130_1
                                replace p130 := eq_true p130
                                replace q130 := eq_true q130
                                try go_wp2_with (first | ((with_reducible refine gate_dst (N := 13) rfl ?_); (try (refine gate_guard (by rfl) ?_; dsimp only)); refine box_event ?hg (N := 13) ?hd (cs := #[.int .i64 0, .bool false]) (t := 50) ?hr ?_; (case hd => rfl); (case hg => rfl); (case hr => first | (go_simp; done) | (go_simp; rfl)); intro gb131 hg w62 hbox hb; have n0_ := zF.mk (Kd.V_below (Kd.V_elderB (by (with_reducible repeat (first | apply Kd.V_alloc | apply Kd.V_drewN | apply Kd.V_drew)); exact HO_0.out) gb131 (Nat.le_of_eq hg.symm)) hb); have n1_ := zF.mk (Kd.R_below (by (with_reducible repeat (first | apply Kd.zR | apply Kd.zP | apply Kd.zQ)); exact HO_38.out) hb); have n2_ := zF.mk (blk_below (g := gb123) (o := .cells #[.bool a2_0, .int .i64 a2_1, .slice (some ad130) l2_2.length c2_2] 25 (0, 0)) (by (with_reducible repeat (first | refine zK ?_ _ | refine zL ?_ | refine zJ ?_ _)); exact BK123.out) hb); have n3_ := zF.mk (below_step (by repeat (first | (with_reducible first | exact HB.out | apply zE | apply zB | apply zC | refine zD ?_ GE123.out) | exact HB.out)) hb); have n4_ := zF.mk (hbox); have n5_ := zF.mk ((by rw [hg]; exact (below_size (by repeat (first | (with_reducible first | exact HB.out | apply zE | apply zB | apply zC | refine zD ?_ GE123.out) | exact HB.out))) : w.heap.size ≤ gb131)); have n6_ := zF.mk ((by rw [hg]; exact (below_size (by repeat (first | (with_reducible first | exact HB.out | apply zE | apply zB | apply zC | refine zD ?_ GE123.out) | exact HB.out))) : w.heap.size ≤ gb131)); have n7_ := zF.mk ((by rw [hg]; exact Nat.ne_of_lt (blk_lt (g := gb123) (o := .cells #[.bool a2_0, .int .i64 a2_1, .slice (some ad130) l2_2.length c2_2] 25 (0, 0)) (by (with_reducible repeat (first | refine zK ?_ _ | refine zL ?_ | refine zJ ?_ _)); exact BK123.out)) : gb123 ≠ gb131)); have n8_ := zF.mk ((by rw [hg]; exact Nat.ne_of_gt (blk_lt (g := gb123) (o := .cells #[.bool a2_0, .int .i64 a2_1, .slice (some ad130) l2_2.length c2_2] 25 (0, 0)) (by (with_reducible repeat (first | refine zK ?_ _ | refine zL ?_ | refine zJ ?_ _)); exact BK123.out)) : gb131 ≠ gb123)); clear HO_0; clear HO_38; clear BK123; clear HB; have HO_0 := n0_; have HO_38 := n1_; have BK123 := n2_; have HB := n3_; have BK131 := n4_; have GW131 := n5_; have GE131 := n6_; have NB123_131 := n7_; have NB131_123 := n8_; clear n0_ n1_ n2_ n3_ n4_ n5_ n6_ n7_ n8_; clear hb hbox hg; have hnb63 := NB131_123.out; have hnc63 := NB123_131.out; have hcz64_0 : w62.cell? ⟨gb131, 0, none⟩ = some (.int .i64 0) := (zM BK131.out 0).trans rfl; have hcz64_1 : w62.cell? ⟨gb131, 1, none⟩ = some (.bool false) := (zM BK131.out 1).trans rfl; have hfz64_0 := zN BK131.out 0; have hfz64_1 := zN BK131.out 1))
                                have n0_ : zF (Kd.V (Kd.int .i64) 3 ((w62.setCell ⟨gb131, 0, none⟩ (.int .i64 ((rd_T50 l2_2 x40_2).f0))).setCell ⟨gb131, 1, none⟩ (.bool false)) w.heap.size (fun k_ => (P0_ k_ ∨ w.heap.size ≤ k_) ∧ some k_ ≠ (.slice (some ad129) t124.length co16 : Value).ownBlock ∧ k_ ≠ gb123 ∧ k_ ≠ gb131) u0 x0_2) := ⟨by (with_reducible repeat (first | apply Kd.V_alloc | apply Kd.V_drewN | apply Kd.V_drew)); exact Kd.V_mono (Kd.V_far (p := ⟨gb131, 1, none⟩) (Kd.V_far (p := ⟨gb131, 0, none⟩) (Kd.V_mono HO_0.out (fun k_ hk => (⟨hk, hk.2⟩ : _ ∧ k_ ≠ gb131))) (fun _ hk => hk.2) (.int .i64 ((rd_T50 l2_2 x40_2).f0))) (fun _ hk => hk.2) (.bool false)) (fun _ hk => ⟨hk.1.1.1, ⟨hk.1.1.2.1, ⟨hk.1.1.2.2, hk.1.2⟩⟩⟩)⟩
                                have n1_ : zF (Kd.R (Kd.int .i64) 3 ((w62.setCell ⟨gb131, 0, none⟩ (.int .i64 ((rd_T50 l2_2 x40_2).f0))).setCell ⟨gb131, 1, none⟩ (.bool false)) w.heap.size (fun k_ => (w.heap.size ≤ k_)) (.slice (some ad129) t124.length co16) t124) := ⟨by (with_reducible repeat (first | apply Kd.zR | apply Kd.zP | apply Kd.zQ)); exact Kd.R_mono (Kd.R_far (p := ⟨gb131, 1, none⟩) (Kd.R_far (p := ⟨gb131, 0, none⟩) (Kd.R_types HO_38.out BK131.out (by decide)) (fun _ hk => hk.2) (.int .i64 ((rd_T50 l2_2 x40_2).f0))) (fun _ hk => hk.2) (.bool false)) (fun _ hk => hk.1)⟩
                                have n2_ : zF (((w62.setCell ⟨gb131, 0, none⟩ (.int .i64 ((rd_T50 l2_2 x40_2).f0))).setCell ⟨gb131, 1, none⟩ (.bool false)).heap[gb123]? = some (.cells #[.bool a2_0, .int .i64 a2_1, .slice (some ad130) l2_2.length c2_2] 25 (0, 0))) := ⟨by (with_reducible repeat (first | refine zK ?_ _ | refine zL ?_ | refine zJ ?_ _)); refine zO ?_ NB123_131.out _; (with_reducible repeat (first | refine zK ?_ _ | refine zL ?_ | refine zJ ?_ _)); refine zO ?_ NB123_131.out _; (with_reducible repeat (first | refine zK ?_ _ | refine zL ?_ | refine zJ ?_ _)); exact BK123.out⟩
                                have n3_ : zF (((w62.setCell ⟨gb131, 0, none⟩ (.int .i64 ((rd_T50 l2_2 x40_2).f0))).setCell ⟨gb131, 1, none⟩ (.bool false)).heap[gb131]? = some (.cells #[.int .i64 ((rd_T50 l2_2 x40_2).f0), .bool false] 50 (0, 0))) := ⟨by (with_reducible repeat (first | refine zK ?_ _ | refine zL ?_ | refine zJ ?_ _)); refine blk_put (cs := #[.int .i64 ((rd_T50 l2_2 x40_2).f0), .bool false]) ?_ 1 _ rfl; (with_reducible repeat (first | refine zK ?_ _ | refine zL ?_ | refine zJ ?_ _)); refine blk_put (cs := #[.int .i64 0, .bool false]) ?_ 0 _ rfl; (with_reducible repeat (first | refine zK ?_ _ | refine zL ?_ | refine zJ ?_ _)); exact BK131.out⟩
                                have n4_ : zF (Below w.heap.size w ((w62.setCell ⟨gb131, 0, none⟩ (.int .i64 ((rd_T50 l2_2 x40_2).f0))).setCell ⟨gb131, 1, none⟩ (.bool false))) := ⟨by repeat (first | (with_reducible first | exact HB.out | apply zE | apply zB | apply zC | refine zD ?_ GE123.out | refine zD ?_ GE131.out) | exact HB.out)⟩
                                (try clear HO_0)
                                (try clear HO_38)
                                (try clear BK123)
                                (try clear BK131)
                                (try clear HB)
                                generalize ((w62.setCell ⟨gb131, 0, none⟩ (.int .i64 ((rd_T50 l2_2 x40_2).f0))).setCell ⟨gb131, 1, none⟩ (.bool false)) = w65 at n0_ n1_ n2_ n3_ n4_ ⊢
                                have HO_0 := n0_
                                have HO_38 := n1_
                                have BK123 := n2_
                                have BK131 := n3_
                                have HB := n4_
                                clear n0_ n1_ n2_ n3_ n4_
                                have n0_ := zF.mk (Kd.V_drew HO_0.out)
                                have n1_ := zF.mk (Kd.zQ HO_38.out)
                                have n2_ := zF.mk (zL BK123.out)
                                have n3_ := zF.mk (zL BK131.out)
                                have n4_ := zF.mk (zC HB.out)
                                clear HO_0
                                clear HO_38
                                clear BK123
                                clear BK131
                                clear HB
                                have HO_0 := n0_
                                have HO_38 := n1_
                                have BK123 := n2_
                                have BK131 := n3_
                                have HB := n4_
                                clear n0_ n1_ n2_ n3_ n4_
                                obtain ⟨Ao68, co68, eo68⟩ := Kd.V_slice HO_0.out
                                (first | subst eo68 | (injection eo68 with f1_ f2_ f3_; have f4_ := f1_.symm; have f5_ := f3_.symm; clear f1_ f2_ f3_; subst f4_; subst f5_))
                                have q67 : ((rd t124 x40_2) : Int) ≤ ((x0_2.length : Int) : Int) := of_decide_eq_true (by first | (with_reducible assumption) | assumption)
                                obtain ⟨i067, hi067, _, hsz67, _⟩ := info_parts info3
                                have hroom67 : x0_2.length ≤ co68 := (Kd.V_reads' HO_0.out).2.1
                                have hC67 : Kd.F (Kd.int .i64) _ _ Ao68 x0_2.length x0_2 := (Kd.V_at (base := w.heap.size) HO_0.out).2.2
                                have hcut67 := cut_to (P := Try.prog) 22 3 .i64 Try.underlying22 hi067 Ao68 x0_2.length co68 (rd t124 x40_2) (of_decide_eq_true (by first | (with_reducible assumption) | assumption)) q67 hroom67
                                have hr67 := Kd.F_take (m := ((rd t124 x40_2) : Int).toNat) hC67 (by omega)
                                have hy67 : y132.length = ((rd t124 x40_2) : Int).toNat := (by rw [Ny132.out, List.length_take]; omega)
                                rw [← Ny132.out] at hr67
                                rw [← hy67] at hcut67
                                have HO136 := zF.mk (show Kd.V (Kd.int .i64) 3 _ w.heap.size _ (.slice Ao68 y132.length co68) y132 from Kd.V_mk (by omega) hr67)
                                have HC136 := zF.mk (show y132.length ≤ co68 from by omega)
                                clear hr67 hC67 hroom67 hi067 hsz67
                                have KY67 := zF.mk hy67
                                clear hy67
                                replace q67 := eq_true q67
                                refine start_ (n := 6) (S := fun w' => w'.cell? ⟨gb131, 0, none⟩ = some (.int .i64 ((rd_T50 l2_2 x40_2).f0)) ∧ w'.cell? ⟨gb131, 1, none⟩ = some (.bool false)) (ds := []) #[false, false, false, false, false, false] (by kernel_rfl) rfl rfl ⟨(zM BK131.out 0).trans rfl, (zM BK131.out 1).trans rfl⟩ (fun hHeld => ?_)
                                generalize w65.drew = w66 at HO_0 HO_38 BK123 BK131 HB HO136 hHeld ⊢
                                refine pure_ (i := 0) (N := some 50) (v := ?_) (a' := ?_) #[true, false, false, false, false, false] rfl rfl (by kernel_rfl) (fun _ _ _ h => h) (Or.inl ⟨by rfl, ?_⟩) ?_ ?_
                                rotate_left
                                · intro w'
                                  go_simp
                                  with_reducible rfl
                                rotate_left
                                · simp only [Act.put, List.setIfInBounds_toArray, List.set_cons_zero, List.set_cons_succ, i64_w, i32_w]
                                  rfl
                                refine pure_ (i := 1) (N := some 51) (v := ?_) (a' := ?_) #[true, true, false, false, false, false] rfl rfl (by kernel_rfl) (fun _ _ _ h => h) (Or.inl ⟨by rfl, ?_⟩) ?_ ?_
                                rotate_left
                                · intro w'
                                  go_simp
                                  with_reducible rfl
                                rotate_left
                                · simp only [Act.put, List.setIfInBounds_toArray, List.set_cons_zero, List.set_cons_succ, i64_w, i32_w]
                                  rfl
                                refine pure_ (i := 2) (N := some 52) (v := ?_) (a' := ?_) #[true, true, true, false, false, false] rfl rfl (by kernel_rfl) (fun _ _ _ h => h) (Or.inl ⟨by rfl, ?_⟩) ?_ ?_
                                rotate_left
                                · intro w'
                                  go_simp
                                  with_reducible rfl
                                rotate_left
                                · simp only [Act.put, List.setIfInBounds_toArray, List.set_cons_zero, List.set_cons_succ, i64_w, i32_w]
                                  rfl
                                refine take_ (i := 3) (N := some 53) (v := ?_) (a' := ?_) #[true, true, true, true, false, false] rfl rfl (by kernel_rfl) (fun _ _ _ h => h) (Or.inl ⟨by rfl, ?_⟩) hHeld ?_ ?_
                                rotate_left
                                · rintro w' ⟨s0, s1⟩
                                  go_simp
                                  with_reducible rfl
                                rotate_left
                                · simp only [Act.put, List.setIfInBounds_toArray, List.set_cons_zero, List.set_cons_succ, i64_w, i32_w]
                                  rfl
                                refine one_ (i := 4) (N := some 54) #[true, true, true, true, true, false] rfl rfl (by kernel_rfl) (by decide) (fun K hK => ?_)
                                refine goes_ Try.func30 (by kernel_rfl) rfl #[.slice Ao68 y132.length co68, .agg #[.int .i64 ((rd_T50 l2_2 x40_2).f0), .bool false]] (by rfl) rfl rfl (by (try simp only [List.map_toArray, List.map_cons, List.map_nil]); first | done | rfl | (simp only [List.length_drop, List.length_take]; rfl)) ?_
                                with_reducible refine (cost_Each.calls k2 _ _ y132 ((rd_T50 l2_2 x40_2).f0) false t137 _ ?side1 ?side2 (by first | exact A23.out | (rw [Nbq34.out]; exact A23.out))).mono ?_
                                (case side1 => repeat (first | exact (Kd.V_reads' HO136.out).2.2 | (with_reducible refine Kd.zU ?_ _) | (with_reducible refine Kd.zS ?_ _) | (with_reducible refine Kd.zT ?_)))
                                (case side2 => exact (Kd.V_reads' HO136.out).2.1)
                                rintro e w69 ⟨rfl, hb⟩
                                refine ⟨_, rfl, ?_⟩
                                have n0_ := zF.mk (Kd.V_below (by (with_reducible repeat (first | apply Kd.V_alloc | apply Kd.V_drewN | apply Kd.V_drew)); exact HO_0.out) hb)
                                have n1_ := zF.mk (Kd.R_below (by (with_reducible repeat (first | apply Kd.zR | apply Kd.zP | apply Kd.zQ)); exact HO_38.out) hb)
                                have n2_ := zF.mk (Kd.V_below (by (with_reducible repeat (first | apply Kd.V_alloc | apply Kd.V_drewN | apply Kd.V_drew)); exact HO136.out) hb)
                                have n3_ := zF.mk (blk_below (g := gb123) (o := .cells #[.bool a2_0, .int .i64 a2_1, .slice (some ad130) l2_2.length c2_2] 25 (0, 0)) (by (with_reducible repeat (first | refine zK ?_ _ | refine zL ?_ | refine zJ ?_ _)); exact BK123.out) hb)
                                have n4_ := zF.mk (blk_below (g := gb131) (o := .cells #[.int .i64 ((rd_T50 l2_2 x40_2).f0), .bool false] 50 (0, 0)) (by (with_reducible repeat (first | refine zK ?_ _ | refine zL ?_ | refine zJ ?_ _)); exact BK131.out) hb)
                                have n5_ := zF.mk (below_step (by repeat (first | (with_reducible first | exact HB.out | apply zE | apply zB | apply zC | refine zD ?_ GE123.out | refine zD ?_ GE131.out) | exact HB.out)) hb)
                                clear HO_0
                                clear HO_38
                                clear HO136
                                clear BK123
                                clear BK131
                                clear HB
                                have HO_0 := n0_
                                have HO_38 := n1_
                                have HO136 := n2_
                                have BK123 := n3_
                                have BK131 := n4_
                                have HB := n5_
                                clear n0_ n1_ n2_ n3_ n4_ n5_
                                (try clear hb)
                                (try clear hb2)
                                (try clear hk)
                                (try clear hi)
                                refine hK.out _ _ ⟨(zM BK131.out 0).trans rfl, (zM BK131.out 1).trans rfl⟩ (fun hHeld => ?_)
                                clear hK K
                                refine norm_ (a' := ?_) ?_ ?_
                                rotate_left
                                · show Act.put _ (some 54) _ = _
                                  simp only [Act.put, List.setIfInBounds_toArray, List.set_cons_zero, List.set_cons_succ, i64_w, i32_w]
                                  rfl
                                refine pure_ (i := 5) (N := some 14) (v := ?_) (a' := ?_) #[true, true, true, true, true, true] rfl rfl (by kernel_rfl) (fun _ _ _ h => h) (Or.inl ⟨by rfl, ?_⟩) ?_ ?_
                                rotate_left
                                · intro w'
                                  go_simp
                                  with_reducible rfl
                                rotate_left
                                · simp only [Act.put, List.setIfInBounds_toArray, List.set_cons_zero, List.set_cons_succ, i64_w, i32_w]
                                  rfl
                                refine done_ (by kernel_rfl) ?_
                                have hcz70_0 : w69.cell? ⟨gb131, 0, none⟩ = some (.int .i64 ((rd_T50 l2_2 x40_2).f0)) := (zM BK131.out 0).trans rfl
                                have hcz70_1 : w69.cell? ⟨gb131, 1, none⟩ = some (.bool false) := (zM BK131.out 1).trans rfl
                                have hfz70_0 := zN BK131.out 0
                                have hfz70_1 := zN BK131.out 1
                                try go_wp2
                                go_ret
                                exact ⟨by first | rfl | (simp [errW_none, errW_some] <;> rfl) | (simp [*, errW_none, errW_some] <;> rfl), by repeat (first | (with_reducible first | exact HB.out | apply zE | apply zB | apply zC | refine zD ?_ GE123.out | refine zD ?_ GE131.out) | exact HB.out)⟩
                              · rw [if_neg c60] at H
                                have c60b0 : decide (t127 < ((rd_T50 l2_2 x40_2).f0)) = false := decide_eq_false c60
                                clear c60
                                have c71b0 := eq_true (of_decide_eq_true (by first | (with_reducible assumption) | assumption) : 0 ≤ (rd t124 x40_2))
                                have c72b0 := eq_true (of_decide_eq_true (by first | (with_reducible assumption) | assumption) : (rd t124 x40_2) ≤ (x0_2.length : Int))
                                obtain ⟨y143, hy143⟩ : ∃ y_ : List Int, y_ = (x0_2.drop ((rd t124 x40_2) : Int).toNat) := ⟨_, rfl⟩
                                replace H : (parts_Bits.l0 k2 y143 t127 t128 (wrap64 (x10_2 + (wrap64 (t128 + t137)))) t124 (t124.length : Int) (wrap64 (x40_2 + 1)) a2_0 a2_1 l2_2) = some r := by first | (rw [hy143]; with_reducible exact H) | (have H2_ := (Option.bind_some _ _).symm.trans H; rw [hy143]; with_reducible exact H2_) | (have H2_ := (Option.bind_some _ _).symm.trans H; with_reducible exact H2_) | with_reducible exact H | (rw [hy143]; exact H) | exact H
                                have Ny143 := zF.mk hy143
                                clear hy143
                                have H' := zF.mk H
                                clear H
                                have p129 : 0 ≤ (x40_2 : Int) := of_decide_eq_true (by first | (with_reducible assumption) | assumption)
                                have q129 : x40_2 < (t124.length : Int) := of_decide_eq_true (by first | (with_reducible assumption) | assumption)
                                obtain ⟨ad129, e129, hx129_0⟩ := Kd.at_int (Kd.R_reads' HO_38.out).2.2 x40_2 p129 q129
                                cases e129
                                replace p129 := eq_true p129
                                replace q129 := eq_true q129
                                have hcz73_0 : wr.cell? ⟨gb123, 0, none⟩ = some (.bool a2_0) := (zM BK123.out 0).trans rfl
                                have hcz73_1 : wr.cell? ⟨gb123, 1, none⟩ = some (.int .i64 a2_1) := (zM BK123.out 1).trans rfl
                                have hcz73_2 : wr.cell? ⟨gb123, 2, none⟩ = some (.slice A2_2 l2_2.length c2_2) := (zM BK123.out 2).trans rfl
                                have hfz73_0 := zN BK123.out 0
                                have hfz73_1 := zN BK123.out 1
                                have hfz73_2 := zN BK123.out 2
                                have p130 : 0 ≤ (x40_2 : Int) := of_decide_eq_true (by first | (with_reducible assumption) | assumption)
                                have q130 : x40_2 < (l2_2.length : Int) := of_decide_eq_true (by first | (with_reducible assumption) | assumption)
                                obtain ⟨ad130, e130, hx130_0, hx130_1⟩ := at_T50 HR2_2.out x40_2 p130 q130
                                (try rw [← Nbq34.out] at hx130_1)
                                cases e130
                                replace hx130_0 := (HB.out.cell (World.block_lt_of_cell? w _ hx130_0)).trans hx130_0
                                replace hx130_1 := (HB.out.cell (World.block_lt_of_cell? w _ hx130_1)).trans hx130_1
                                replace p130 := eq_true p130
                                replace q130 := eq_true q130
                                try go_wp2_with (first | ((with_reducible refine gate_dst (N := 13) rfl ?_); (try (refine gate_guard (by rfl) ?_; dsimp only)); refine box_event ?hg (N := 13) ?hd (cs := #[.int .i64 0, .bool false]) (t := 50) ?hr ?_; (case hd => rfl); (case hg => rfl); (case hr => first | (go_simp; done) | (go_simp; rfl)); intro gb131 hg w74 hbox hb; have n0_ := zF.mk (Kd.V_below (Kd.V_elderB (by (with_reducible repeat (first | apply Kd.V_alloc | apply Kd.V_drewN | apply Kd.V_drew)); exact HO_0.out) gb131 (Nat.le_of_eq hg.symm)) hb); have n1_ := zF.mk (Kd.R_below (by (with_reducible repeat (first | apply Kd.zR | apply Kd.zP | apply Kd.zQ)); exact HO_38.out) hb); have n2_ := zF.mk (blk_below (g := gb123) (o := .cells #[.bool a2_0, .int .i64 a2_1, .slice (some ad130) l2_2.length c2_2] 25 (0, 0)) (by (with_reducible repeat (first | refine zK ?_ _ | refine zL ?_ | refine zJ ?_ _)); exact BK123.out) hb); have n3_ := zF.mk (below_step (by repeat (first | (with_reducible first | exact HB.out | apply zE | apply zB | apply zC | refine zD ?_ GE123.out) | exact HB.out)) hb); have n4_ := zF.mk (hbox); have n5_ := zF.mk ((by rw [hg]; exact (below_size (by repeat (first | (with_reducible first | exact HB.out | apply zE | apply zB | apply zC | refine zD ?_ GE123.out) | exact HB.out))) : w.heap.size ≤ gb131)); have n6_ := zF.mk ((by rw [hg]; exact (below_size (by repeat (first | (with_reducible first | exact HB.out | apply zE | apply zB | apply zC | refine zD ?_ GE123.out) | exact HB.out))) : w.heap.size ≤ gb131)); have n7_ := zF.mk ((by rw [hg]; exact Nat.ne_of_lt (blk_lt (g := gb123) (o := .cells #[.bool a2_0, .int .i64 a2_1, .slice (some ad130) l2_2.length c2_2] 25 (0, 0)) (by (with_reducible repeat (first | refine zK ?_ _ | refine zL ?_ | refine zJ ?_ _)); exact BK123.out)) : gb123 ≠ gb131)); have n8_ := zF.mk ((by rw [hg]; exact Nat.ne_of_gt (blk_lt (g := gb123) (o := .cells #[.bool a2_0, .int .i64 a2_1, .slice (some ad130) l2_2.length c2_2] 25 (0, 0)) (by (with_reducible repeat (first | refine zK ?_ _ | refine zL ?_ | refine zJ ?_ _)); exact BK123.out)) : gb131 ≠ gb123)); clear HO_0; clear HO_38; clear BK123; clear HB; have HO_0 := n0_; have HO_38 := n1_; have BK123 := n2_; have HB := n3_; have BK131 := n4_; have GW131 := n5_; have GE131 := n6_; have NB123_131 := n7_; have NB131_123 := n8_; clear n0_ n1_ n2_ n3_ n4_ n5_ n6_ n7_ n8_; clear hb hbox hg; have hnb75 := NB131_123.out; have hnc75 := NB123_131.out; have hcz76_0 : w74.cell? ⟨gb131, 0, none⟩ = some (.int .i64 0) := (zM BK131.out 0).trans rfl; have hcz76_1 : w74.cell? ⟨gb131, 1, none⟩ = some (.bool false) := (zM BK131.out 1).trans rfl; have hfz76_0 := zN BK131.out 0; have hfz76_1 := zN BK131.out 1))
                                have n0_ : zF (Kd.V (Kd.int .i64) 3 ((w74.setCell ⟨gb131, 0, none⟩ (.int .i64 ((rd_T50 l2_2 x40_2).f0))).setCell ⟨gb131, 1, none⟩ (.bool false)) w.heap.size (fun k_ => (P0_ k_ ∨ w.heap.size ≤ k_) ∧ some k_ ≠ (.slice (some ad129) t124.length co16 : Value).ownBlock ∧ k_ ≠ gb123 ∧ k_ ≠ gb131) u0 x0_2) := ⟨by (with_reducible repeat (first | apply Kd.V_alloc | apply Kd.V_drewN | apply Kd.V_drew)); exact Kd.V_mono (Kd.V_far (p := ⟨gb131, 1, none⟩) (Kd.V_far (p := ⟨gb131, 0, none⟩) (Kd.V_mono HO_0.out (fun k_ hk => (⟨hk, hk.2⟩ : _ ∧ k_ ≠ gb131))) (fun _ hk => hk.2) (.int .i64 ((rd_T50 l2_2 x40_2).f0))) (fun _ hk => hk.2) (.bool false)) (fun _ hk => ⟨hk.1.1.1, ⟨hk.1.1.2.1, ⟨hk.1.1.2.2, hk.1.2⟩⟩⟩)⟩
                                have n1_ : zF (Kd.R (Kd.int .i64) 3 ((w74.setCell ⟨gb131, 0, none⟩ (.int .i64 ((rd_T50 l2_2 x40_2).f0))).setCell ⟨gb131, 1, none⟩ (.bool false)) w.heap.size (fun k_ => (w.heap.size ≤ k_)) (.slice (some ad129) t124.length co16) t124) := ⟨by (with_reducible repeat (first | apply Kd.zR | apply Kd.zP | apply Kd.zQ)); exact Kd.R_mono (Kd.R_far (p := ⟨gb131, 1, none⟩) (Kd.R_far (p := ⟨gb131, 0, none⟩) (Kd.R_types HO_38.out BK131.out (by decide)) (fun _ hk => hk.2) (.int .i64 ((rd_T50 l2_2 x40_2).f0))) (fun _ hk => hk.2) (.bool false)) (fun _ hk => hk.1)⟩
                                have n2_ : zF (((w74.setCell ⟨gb131, 0, none⟩ (.int .i64 ((rd_T50 l2_2 x40_2).f0))).setCell ⟨gb131, 1, none⟩ (.bool false)).heap[gb123]? = some (.cells #[.bool a2_0, .int .i64 a2_1, .slice (some ad130) l2_2.length c2_2] 25 (0, 0))) := ⟨by (with_reducible repeat (first | refine zK ?_ _ | refine zL ?_ | refine zJ ?_ _)); refine zO ?_ NB123_131.out _; (with_reducible repeat (first | refine zK ?_ _ | refine zL ?_ | refine zJ ?_ _)); refine zO ?_ NB123_131.out _; (with_reducible repeat (first | refine zK ?_ _ | refine zL ?_ | refine zJ ?_ _)); exact BK123.out⟩
                                have n3_ : zF (((w74.setCell ⟨gb131, 0, none⟩ (.int .i64 ((rd_T50 l2_2 x40_2).f0))).setCell ⟨gb131, 1, none⟩ (.bool false)).heap[gb131]? = some (.cells #[.int .i64 ((rd_T50 l2_2 x40_2).f0), .bool false] 50 (0, 0))) := ⟨by (with_reducible repeat (first | refine zK ?_ _ | refine zL ?_ | refine zJ ?_ _)); refine blk_put (cs := #[.int .i64 ((rd_T50 l2_2 x40_2).f0), .bool false]) ?_ 1 _ rfl; (with_reducible repeat (first | refine zK ?_ _ | refine zL ?_ | refine zJ ?_ _)); refine blk_put (cs := #[.int .i64 0, .bool false]) ?_ 0 _ rfl; (with_reducible repeat (first | refine zK ?_ _ | refine zL ?_ | refine zJ ?_ _)); exact BK131.out⟩
                                have n4_ : zF (Below w.heap.size w ((w74.setCell ⟨gb131, 0, none⟩ (.int .i64 ((rd_T50 l2_2 x40_2).f0))).setCell ⟨gb131, 1, none⟩ (.bool false))) := ⟨by repeat (first | (with_reducible first | exact HB.out | apply zE | apply zB | apply zC | refine zD ?_ GE123.out | refine zD ?_ GE131.out) | exact HB.out)⟩
                                (try clear HO_0)
                                (try clear HO_38)
                                (try clear BK123)
                                (try clear BK131)
                                (try clear HB)
                                generalize ((w74.setCell ⟨gb131, 0, none⟩ (.int .i64 ((rd_T50 l2_2 x40_2).f0))).setCell ⟨gb131, 1, none⟩ (.bool false)) = w77 at n0_ n1_ n2_ n3_ n4_ ⊢
                                have HO_0 := n0_
                                have HO_38 := n1_
                                have BK123 := n2_
                                have BK131 := n3_
                                have HB := n4_
                                clear n0_ n1_ n2_ n3_ n4_
                                have n0_ := zF.mk (Kd.V_drew HO_0.out)
                                have n1_ := zF.mk (Kd.zQ HO_38.out)
                                have n2_ := zF.mk (zL BK123.out)
                                have n3_ := zF.mk (zL BK131.out)
                                have n4_ := zF.mk (zC HB.out)
                                clear HO_0
                                clear HO_38
                                clear BK123
                                clear BK131
                                clear HB
                                have HO_0 := n0_
                                have HO_38 := n1_
                                have BK123 := n2_
                                have BK131 := n3_
                                have HB := n4_
                                clear n0_ n1_ n2_ n3_ n4_
                                obtain ⟨Ao80, co80, eo80⟩ := Kd.V_slice HO_0.out
                                (first | subst eo80 | (injection eo80 with f1_ f2_ f3_; have f4_ := f1_.symm; have f5_ := f3_.symm; clear f1_ f2_ f3_; subst f4_; subst f5_))
                                have q79 : ((rd t124 x40_2) : Int) ≤ ((x0_2.length : Int) : Int) := of_decide_eq_true (by first | (with_reducible assumption) | assumption)
                                obtain ⟨i079, hi079, _, hsz79, _⟩ := info_parts info3
                                have hroom79 : x0_2.length ≤ co80 := (Kd.V_reads' HO_0.out).2.1
                                have hC79 : Kd.F (Kd.int .i64) _ _ Ao80 x0_2.length x0_2 := (Kd.V_at (base := w.heap.size) HO_0.out).2.2
                                have hcut79 := cut_to (P := Try.prog) 22 3 .i64 Try.underlying22 hi079 Ao80 x0_2.length co80 (rd t124 x40_2) (of_decide_eq_true (by first | (with_reducible assumption) | assumption)) q79 hroom79
                                have hr79 := Kd.F_take (m := ((rd t124 x40_2) : Int).toNat) hC79 (by omega)
                                have hy79 : y132.length = ((rd t124 x40_2) : Int).toNat := (by rw [Ny132.out, List.length_take]; omega)
                                rw [← Ny132.out] at hr79
                                rw [← hy79] at hcut79
                                have HO136 := zF.mk (show Kd.V (Kd.int .i64) 3 _ w.heap.size _ (.slice Ao80 y132.length co80) y132 from Kd.V_mk (by omega) hr79)
                                have HC136 := zF.mk (show y132.length ≤ co80 from by omega)
                                clear hr79 hC79 hroom79 hi079 hsz79
                                have KY79 := zF.mk hy79
                                clear hy79
                                replace q79 := eq_true q79
                                refine start_ (n := 6) (S := fun w' => w'.cell? ⟨gb131, 0, none⟩ = some (.int .i64 ((rd_T50 l2_2 x40_2).f0)) ∧ w'.cell? ⟨gb131, 1, none⟩ = some (.bool false)) (ds := []) #[false, false, false, false, false, false] (by kernel_rfl) rfl rfl ⟨(zM BK131.out 0).trans rfl, (zM BK131.out 1).trans rfl⟩ (fun hHeld => ?_)
                                generalize w77.drew = w78 at HO_0 HO_38 BK123 BK131 HB HO136 hHeld ⊢
                                refine pure_ (i := 0) (N := some 50) (v := ?_) (a' := ?_) #[true, false, false, false, false, false] rfl rfl (by kernel_rfl) (fun _ _ _ h => h) (Or.inl ⟨by rfl, ?_⟩) ?_ ?_
                                rotate_left
                                · intro w'
                                  go_simp
                                  with_reducible rfl
                                rotate_left
                                · simp only [Act.put, List.setIfInBounds_toArray, List.set_cons_zero, List.set_cons_succ, i64_w, i32_w]
                                  rfl
                                refine pure_ (i := 1) (N := some 51) (v := ?_) (a' := ?_) #[true, true, false, false, false, false] rfl rfl (by kernel_rfl) (fun _ _ _ h => h) (Or.inl ⟨by rfl, ?_⟩) ?_ ?_
                                rotate_left
                                · intro w'
                                  go_simp
                                  with_reducible rfl
                                rotate_left
                                · simp only [Act.put, List.setIfInBounds_toArray, List.set_cons_zero, List.set_cons_succ, i64_w, i32_w]
                                  rfl
                                refine pure_ (i := 2) (N := some 52) (v := ?_) (a' := ?_) #[true, true, true, false, false, false] rfl rfl (by kernel_rfl) (fun _ _ _ h => h) (Or.inl ⟨by rfl, ?_⟩) ?_ ?_
                                rotate_left
                                · intro w'
                                  go_simp
                                  with_reducible rfl
                                rotate_left
                                · simp only [Act.put, List.setIfInBounds_toArray, List.set_cons_zero, List.set_cons_succ, i64_w, i32_w]
                                  rfl
                                refine take_ (i := 3) (N := some 53) (v := ?_) (a' := ?_) #[true, true, true, true, false, false] rfl rfl (by kernel_rfl) (fun _ _ _ h => h) (Or.inl ⟨by rfl, ?_⟩) hHeld ?_ ?_
                                rotate_left
                                · rintro w' ⟨s0, s1⟩
                                  go_simp
                                  with_reducible rfl
                                rotate_left
                                · simp only [Act.put, List.setIfInBounds_toArray, List.set_cons_zero, List.set_cons_succ, i64_w, i32_w]
                                  rfl
                                refine one_ (i := 4) (N := some 54) #[true, true, true, true, true, false] rfl rfl (by kernel_rfl) (by decide) (fun K hK => ?_)
                                refine goes_ Try.func30 (by kernel_rfl) rfl #[.slice Ao80 y132.length co80, .agg #[.int .i64 ((rd_T50 l2_2 x40_2).f0), .bool false]] (by rfl) rfl rfl (by (try simp only [List.map_toArray, List.map_cons, List.map_nil]); first | done | rfl | (simp only [List.length_drop, List.length_take]; rfl)) ?_
                                with_reducible refine (cost_Each.calls k2 _ _ y132 ((rd_T50 l2_2 x40_2).f0) false t137 _ ?side1 ?side2 (by first | exact A23.out | (rw [Nbq34.out]; exact A23.out))).mono ?_
                                (case side1 => repeat (first | exact (Kd.V_reads' HO136.out).2.2 | (with_reducible refine Kd.zU ?_ _) | (with_reducible refine Kd.zS ?_ _) | (with_reducible refine Kd.zT ?_)))
                                (case side2 => exact (Kd.V_reads' HO136.out).2.1)
                                rintro e w81 ⟨rfl, hb⟩
                                refine ⟨_, rfl, ?_⟩
                                have n0_ := zF.mk (Kd.V_below (by (with_reducible repeat (first | apply Kd.V_alloc | apply Kd.V_drewN | apply Kd.V_drew)); exact HO_0.out) hb)
                                have n1_ := zF.mk (Kd.R_below (by (with_reducible repeat (first | apply Kd.zR | apply Kd.zP | apply Kd.zQ)); exact HO_38.out) hb)
                                have n2_ := zF.mk (Kd.V_below (by (with_reducible repeat (first | apply Kd.V_alloc | apply Kd.V_drewN | apply Kd.V_drew)); exact HO136.out) hb)
                                have n3_ := zF.mk (blk_below (g := gb123) (o := .cells #[.bool a2_0, .int .i64 a2_1, .slice (some ad130) l2_2.length c2_2] 25 (0, 0)) (by (with_reducible repeat (first | refine zK ?_ _ | refine zL ?_ | refine zJ ?_ _)); exact BK123.out) hb)
                                have n4_ := zF.mk (blk_below (g := gb131) (o := .cells #[.int .i64 ((rd_T50 l2_2 x40_2).f0), .bool false] 50 (0, 0)) (by (with_reducible repeat (first | refine zK ?_ _ | refine zL ?_ | refine zJ ?_ _)); exact BK131.out) hb)
                                have n5_ := zF.mk (below_step (by repeat (first | (with_reducible first | exact HB.out | apply zE | apply zB | apply zC | refine zD ?_ GE123.out | refine zD ?_ GE131.out) | exact HB.out)) hb)
                                clear HO_0
                                clear HO_38
                                clear HO136
                                clear BK123
                                clear BK131
                                clear HB
                                have HO_0 := n0_
                                have HO_38 := n1_
                                have HO136 := n2_
                                have BK123 := n3_
                                have BK131 := n4_
                                have HB := n5_
                                clear n0_ n1_ n2_ n3_ n4_ n5_
                                (try clear hb)
                                (try clear hb2)
                                (try clear hk)
                                (try clear hi)
                                refine hK.out _ _ ⟨(zM BK131.out 0).trans rfl, (zM BK131.out 1).trans rfl⟩ (fun hHeld => ?_)
                                clear hK K
                                refine norm_ (a' := ?_) ?_ ?_
                                rotate_left
                                · show Act.put _ (some 54) _ = _
                                  simp only [Act.put, List.setIfInBounds_toArray, List.set_cons_zero, List.set_cons_succ, i64_w, i32_w]
                                  rfl
                                refine pure_ (i := 5) (N := some 14) (v := ?_) (a' := ?_) #[true, true, true, true, true, true] rfl rfl (by kernel_rfl) (fun _ _ _ h => h) (Or.inl ⟨by rfl, ?_⟩) ?_ ?_
                                rotate_left
                                · intro w'
                                  go_simp
                                  with_reducible rfl
                                rotate_left
                                · simp only [Act.put, List.setIfInBounds_toArray, List.set_cons_zero, List.set_cons_succ, i64_w, i32_w]
                                  rfl
                                refine done_ (by kernel_rfl) ?_
                                have hcz82_0 : w81.cell? ⟨gb131, 0, none⟩ = some (.int .i64 ((rd_T50 l2_2 x40_2).f0)) := (zM BK131.out 0).trans rfl
                                have hcz82_1 : w81.cell? ⟨gb131, 1, none⟩ = some (.bool false) := (zM BK131.out 1).trans rfl
                                have hfz82_0 := zN BK131.out 0
                                have hfz82_1 := zN BK131.out 1
                                have q83 : ((rd t124 x40_2) : Int) ≤ ((x0_2.length : Int) : Int) := of_decide_eq_true (by first | (with_reducible assumption) | assumption)
                                obtain ⟨i083, hi083, _, hsz83, _⟩ := info_parts info3
                                have hroom83 : x0_2.length ≤ co80 := (Kd.V_reads' HO_0.out).2.1
                                have hC83 : Kd.F (Kd.int .i64) _ _ Ao80 x0_2.length x0_2 := (Kd.V_at (base := w.heap.size) HO_0.out).2.2
                                have q083 : (0 : Int) ≤ ((rd t124 x40_2) : Int) := of_decide_eq_true (by first | (with_reducible assumption) | assumption)
                                have hcut83 := cut_from (P := Try.prog) 22 3 .i64 Try.underlying22 hi083 1 hsz83 Ao80 x0_2.length co80 (rd t124 x40_2) q083 q83
                                have hr83 := Kd.F_cut (m := ((rd t124 x40_2) : Int).toNat) (c := co80) hC83 (by omega) hroom83
                                obtain ⟨A83, hA83⟩ : ∃ A1, A1 = (if co80 = ((rd t124 x40_2) : Int).toNat then Ao80 else (Ao80 : Option Addr).map (·.add (((rd t124 x40_2) : Int).toNat * 1))) := ⟨_, rfl⟩
                                obtain ⟨c83, hc83⟩ : ∃ c1, c1 = co80 - ((rd t124 x40_2) : Int).toNat := ⟨_, rfl⟩
                                have hy83 : y143.length = x0_2.length - ((rd t124 x40_2) : Int).toNat := (by rw [Ny143.out, List.length_drop] <;> omega)
                                rw [show (x0_2).drop ((rd t124 x40_2) : Int).toNat = y143 from Ny143.out.symm] at hr83
                                replace hr83 : Kd.F (Kd.int .i64) _ _ A83 y143.length y143 := (by rw [hA83]; exact hr83)
                                rw [← hy83, ← hA83, ← hc83] at hcut83
                                have HO147 := zF.mk (show Kd.V (Kd.int .i64) 3 _ w.heap.size _ (.slice A83 y143.length c83) y143 from Kd.V_mk (by rw [hy83, hc83]; exact Nat.sub_le_sub_right hroom83 _) hr83)
                                have HC147 := zF.mk (show y143.length ≤ c83 from by rw [hy83, hc83]; exact Nat.sub_le_sub_right hroom83 _)
                                clear hr83 hC83 hroom83 hi083 hsz83 hc83
                                have KY83 := zF.mk hy83
                                have KA83 := zF.mk hA83
                                clear hy83 hA83
                                replace q83 := eq_true q83
                                try go_wp2
                                go_roundg k2
                                case measure => have := HJ4.out; have := HK2.out; omega
                                case rel => exact ⟨(y143), (wrap64 (x10_2 + (wrap64 (t128 + t137)))), (wrap64 (x40_2 + 1)), (by first | rfl | (simp; done) | (simp only [i64_w, i32_w]; done) | (simp [*]; done) | (simp only [i64_w, i32_w]; first | rfl | (simp; done) | (simp [*]; done))), (by first | rfl | (simp; done) | (simp only [i64_w, i32_w]; done) | (simp [*]; done) | (simp only [i64_w, i32_w]; first | rfl | (simp; done) | (simp [*]; done))), H', ⟨by have := HJ4.out; have := HK2.out; omega⟩, ⟨by (with_reducible repeat (first | apply Kd.V_alloc | apply Kd.V_drewN | apply Kd.V_drew)); exact Kd.V_mono HO147.out (fun _ hk => ⟨hk.1, ⟨hk.2.1, hk.2.2.1⟩⟩)⟩, ⟨by (with_reducible repeat (first | apply Kd.zR | apply Kd.zP | apply Kd.zQ)); exact HO_38.out⟩, ⟨by (with_reducible repeat (first | refine zK ?_ _ | refine zL ?_ | refine zJ ?_ _)); exact BK123.out⟩, ⟨by repeat (first | (with_reducible first | exact HB.out | apply zE | apply zB | apply zC | refine zD ?_ GE123.out | refine zD ?_ GE131.out) | exact HB.out)⟩⟩
                      · rw [if_neg c22] at H
                        exact absurd H (by simp)
                    · rw [if_neg c21] at H
                      exact absurd H (by simp)
                  · rw [if_neg c20] at H
                    exact absurd H (by simp)
                · rw [if_neg c19] at H
                  exact absurd H (by simp)
              · rw [if_neg c18] at H
                exact absurd H (by simp)
            · rw [if_neg c17] at H
              have c17b0 : decide (x40_2 < (t124.length : Int)) = false := decide_eq_false c17
              clear c17
              obtain rfl := Option.some.inj H
              go_wp2
              go_ret
              exact ⟨by first | rfl | (simp [errW_none, errW_some] <;> rfl) | (simp [*, errW_none, errW_some] <;> rfl), by repeat (first | (with_reducible first | exact HB.out | apply zE | apply zB | apply zC | refine zD ?_ GE123.out) | exact HB.out)⟩
end Go.Proofs.Ytokdjeoecnnckaa.PA
end
section
namespace Go.Proofs.Ytokdjeoecnnckaa.PA
open Go.RowKit Go.Proofs.YtokdjeoecnnckaaW.PrintWords Go.Proofs.YtokdjeoecnnckaaW.PrintLast Go.Proofs.YtokdjeoecnnckaaW.PrintMore
attribute [local go_sem] max2_int min2_int max_two min_two max_three min_three max_four min_four   -- for this text's walks alone
set_option linter.unusedVariables false
set_option linter.unusedSimpArgs false

-- NOT PRINTED: function 23 (section_each)

def section_long.f (a0 : Int) (a1 : Int) : Option (Bool) := (rice_Fold.f a0).bind fun t148 => (if 0 ≤ a1 then (some (decide ((shr .u64 t148 a1) > 65535))) else (none))
set_option maxHeartbeats 8000000 in
set_option maxRecDepth 100000 in
theorem section_long.calls (a0 : Int) (a1 : Int) (r : Bool) (w : World) (h : section_long.f a0 a1 = some r) :
    Calls Try.prog 24 #[.int .i64 a0, .int .i64 a1] w fun e w' => e = .returned (.bool r) ∧ Drawn0 w w' := by
  have H : ((rice_Fold.f a0).bind fun t148 => (if 0 ≤ a1 then (some (decide ((shr .u64 t148 a1) > 65535))) else (none))) = some r := h
  clear h
  replace H := Option.bind_eq_some_iff.mp H
  obtain ⟨t148, A30, H⟩ := H
  replace H : (if 0 ≤ a1 then (some (decide ((shr .u64 t148 a1) > 65535))) else (none)) = some r := H
  have A3 := zF.mk A30
  clear A30
  by_cases c4 : 0 ≤ a1
  · rw [if_pos c4] at H
    have c4b0 := eq_true c4
    have c4b1 : decide (0 ≤ a1) = true := decide_eq_true c4
    clear c4
    obtain ⟨ji5, hji5⟩ : ∃ j_ : Int, (shr .u64 t148 a1) = j_ := ⟨_, rfl⟩
    replace H : (some (decide ((ji5) > 65535))) = some r := by first | (rw [hji5] at H; exact H) | (simp only [hji5] at H ⊢; exact H)
    (try rw [hji5] at A3)
    have hji5_ : (t148 / 2 ^ min a1.toNat 64) = ji5 := hji5
    have hji5z : a1 ≤ 64 → (t148 / 2 ^ a1.toNat) = ji5 := shr_small hji5
    obtain rfl := Option.some.inj H
    go_enter Try.func24, Try.ntmps24
    go_wp2_with (first | ((with_reducible refine gate_callee (f := 44) rfl ?_); refine goesL_ (some 6) rfl rfl Try.func44 (by kernel_rfl) rfl #[.int .i64 a0] rfl (by (try simp only [List.map_toArray, List.map_cons, List.map_nil]); first | done | rfl | (simp only [List.length_drop, List.length_take]; rfl)) ?_; (with_reducible refine (rice_Fold.calls a0 t148 _ A3.out).mono ?_); rintro e w' ⟨rfl, ⟨nd, rfl⟩⟩; refine ⟨_, rfl, ?_⟩))
    go_ret
    exact ⟨by first | rfl | (simp; done) | (simp only [← hji5] <;> (first | rfl | simp)) | (simp [*]; done), by repeat (first | exact Drawn0.refl _ | apply Drawn0.step)⟩
  · rw [if_neg c4] at H
    exact absurd H (by simp)

def bits_held.f (a0 : Int) : Option (Int) := some (mx 0 (mn a0 64))
set_option maxHeartbeats 8000000 in
set_option maxRecDepth 100000 in
theorem bits_held.calls (a0 : Int) (r : Int) (w : World) (h : bits_held.f a0 = some r) :
    Calls Try.prog 45 #[.int .i64 a0] w fun e w' => e = .returned (.int .i64 r) ∧ Below w.heap.size w w' := by
  have HB := zF.mk (Below.refl w.heap.size w)
  have H : (some (mx 0 (mn a0 64))) = some r := h
  clear h
  obtain ⟨ji2, hji2⟩ : ∃ j_ : Int, (mn a0 64) = j_ := ⟨_, rfl⟩
  replace H : (some (mx 0 (ji2))) = some r := by first | (rw [hji2] at H; exact H) | (simp only [hji2] at H ⊢; exact H)
  (try (have hji2h : ji2 ≤ 64 := by (rw [← hji2]; unfold mn; (repeat' split) <;> omega)))
  (try (have hji2g : ji2 ≤ 64 := by omega))
  have hji2_ : (if 64 < a0 then 64 else a0) = ji2 := hji2
  obtain ⟨ji3, hji3⟩ : ∃ j_ : Int, (mx 0 (ji2)) = j_ := ⟨_, rfl⟩
  replace H : (some ji3) = some r := by first | (rw [hji3] at H; exact H) | (simp only [hji3] at H ⊢; exact H)
  have hji3_ : (if 0 < (ji2) then (ji2) else 0) = ji3 := hji3
  obtain rfl := Option.some.inj H
  go_enter Try.func45, Try.ntmps45
  go_wp2
  go_ret
  exact ⟨by first | rfl | (simp [errW_none, errW_some] <;> rfl) | (simp only [← hji2, ← hji3]; first | rfl | (simp [errW_none, errW_some] <;> rfl)) | (simp [*, errW_none, errW_some] <;> rfl), by repeat (first | (with_reducible first | exact HB.out | apply zE | apply zB | apply zC) | exact HB.out)⟩
end Go.Proofs.Ytokdjeoecnnckaa.PA
end
section
namespace Go.Proofs.Ytokdjeoecnnckaa.PA
open Go.RowKit Go.Proofs.YtokdjeoecnnckaaW.PrintWords Go.Proofs.YtokdjeoecnnckaaW.PrintLast Go.Proofs.YtokdjeoecnnckaaW.PrintMore
attribute [local go_sem] max2_int min2_int max_two min_two max_three min_three max_four min_four   -- for this text's walks alone
set_option linter.unusedVariables false
set_option linter.unusedSimpArgs false

def bits_Writer_Put.grow (b : List Int) (p : Int) : Option (List Int) := if Int.tmod p 8 = 0 then (if b.length < 140737488355328 then some (b ++ [0]) else none) else some b
def bits_Writer_Put.l0 : Nat → Int → Int → List Int → Int → Option (List Int × Int)
  | 0, _, _, _, _ => none
  | k + 1, n, left, b, p => if left = 0 then some (b, p) else (bits_Writer_Put.grow b p).bind fun y => (if 0 ≤ (wrap64 (left - (mn (wrap64 (8 - (Int.tmod p 8))) left))) then (if 0 ≤ (mn (wrap64 (8 - (Int.tmod p 8))) left) then (if 0 ≤ (wrap64 ((y.length : Int) - 1)) then (if (wrap64 ((y.length : Int) - 1)) < (y.length : Int) then (if 0 ≤ (wrap64 ((wrap64 (8 - (Int.tmod p 8))) - (mn (wrap64 (8 - (Int.tmod p 8))) left))) then (bits_Writer_Put.l0 k n (wrap64 (left - (mn (wrap64 (8 - (Int.tmod p 8))) left))) (y.set ((wrap64 ((y.length : Int) - 1)) : Int).toNat (Go.bits .or .u8 (rd y (wrap64 ((y.length : Int) - 1))) (shl .u8 (Go.bits .and .u8 ((shr .u64 n (wrap64 (left - (mn (wrap64 (8 - (Int.tmod p 8))) left)))) % 256) (((shl .u8 1 (mn (wrap64 (8 - (Int.tmod p 8))) left)) - 1) % 256)) (wrap64 ((wrap64 (8 - (Int.tmod p 8))) - (mn (wrap64 (8 - (Int.tmod p 8))) left)))))) (wrap64 (p + (mn (wrap64 (8 - (Int.tmod p 8))) left)))) else none) else none) else none) else none) else none)
def ofB (l : List Int) : ByteArray := ⟨(l.map fun x => UInt8.ofNat x.toNat).toArray⟩
theorem bytes_ofB {l : List Int} (h : ∀ x ∈ l, 0 ≤ x ∧ x < 256) : bytesOf (ofB l) = l := by
  unfold bytesOf ofB
  simp only [List.map_map]
  conv => rhs; rw [← List.map_id l]
  refine List.map_congr_left fun x hx => ?_
  obtain ⟨h0, h1⟩ := h x hx
  show ((UInt8.ofNat x.toNat).toNat : Int) = x
  rw [UInt8.toNat_ofNat', Nat.mod_eq_of_lt (by omega)]
  omega
theorem bytesOf_bd (s : ByteArray) : ∀ x ∈ bytesOf s, 0 ≤ x ∧ x < 256 := by
  intro x hx
  obtain ⟨c, _, rfl⟩ := List.mem_map.1 hx
  have := c.toNat_lt
  omega
theorem bytesOf_len (s : ByteArray) : (bytesOf s).length = s.size := by unfold bytesOf; rw [List.length_map]; rfl
theorem wrap_u8_bd (x : Int) : 0 ≤ IntKind.u8.wrap x ∧ IntKind.u8.wrap x < 256 := by rw [IntKind.wrap_u8]; omega
theorem or_u8_bd (x y : Int) : 0 ≤ Go.bits .or .u8 x y ∧ Go.bits .or .u8 x y < 256 := by unfold Go.bits; exact wrap_u8_bd _
set_option maxRecDepth 100000 in
theorem bits_Writer_Put.l0_bd : ∀ (k : Nat) (n left : Int) (b : List Int) (p : Int) (r : List Int × Int), (∀ x ∈ b, 0 ≤ x ∧ x < 256) → bits_Writer_Put.l0 k n left b p = some r → ∀ x ∈ r.1, 0 ≤ x ∧ x < 256
  | 0, _, _, _, _, _, _, h => by simp [bits_Writer_Put.l0] at h
  | k + 1, n, left, b, p, r, hb, h => by
    simp only [bits_Writer_Put.l0] at h
    split at h
    · cases h; exact hb
    · obtain ⟨y, hy, h⟩ := Option.bind_eq_some_iff.1 h
      have hyb : ∀ x ∈ y, 0 ≤ x ∧ x < 256 := by
        unfold bits_Writer_Put.grow at hy
        split at hy
        · split at hy
          · cases hy
            intro x hx
            rcases List.mem_append.1 hx with hx | hx
            · exact hb x hx
            · simp at hx; omega
          · cases hy
        · cases hy; exact hb
      repeat' (split at h)
      all_goals first | (cases h; done) | skip
      refine bits_Writer_Put.l0_bd k _ _ _ _ r ?_ h
      intro x hx
      rcases List.mem_or_eq_of_mem_set hx with hx | rfl
      · exact hyb x hx
      · exact or_u8_bd _ _
def bits_Writer_Put.f (s0_0 : ByteArray) (s0_1 : Int) (a1 : Int) (a2 : Int) : Option (ByteArray × Int) := (bits_held.f a2).bind fun t => (bits_Writer_Put.l0 80 a1 t (bytesOf s0_0) s0_1).map fun r => (ofB r.1, r.2)
def bits_Writer_Put.T8 : Bool × List (List Nat × List Nat) := (true, [([], []), ([0], [0]), ([1], [1]), ([2], [2]), ([], []), ([4], [4]), ([5], [5]), ([6], [6]), ([7], [7]), ([8], [8]), ([3, 9], [3, 9]), ([10], [10]), ([], []), ([], []), ([], []), ([13, 14], [13, 14]), ([12, 15], [12, 15]), ([11, 16], [11, 16]), ([3, 9, 0, 1, 2, 3, 4, 5, 6, 7, 8, 9, 10, 11, 12, 13, 14, 15, 16, 17], [3, 9]), ([18, 17, 0, 1, 2, 3, 4, 5, 6, 7, 8, 9, 10, 11, 12, 13, 14, 15, 16, 17], [17, 18])])
def bits_Writer_Put.B8 : List Nat := [0, 1, 3, 7, 0, 16, 48, 112, 240, 496, 1023, 2047, 0, 0, 0, 24576, 61440, 131071, 262143, 524287]
theorem bits_Writer_Put.tab8 : rtab .any (opsOf Try.f25 8) = bits_Writer_Put.T8 := by kernel_rfl
theorem bits_Writer_Put.bits8 : waitsOk bits_Writer_Put.T8.2 bits_Writer_Put.B8 = true := by kernel_rfl
theorem bits_Writer_Put.infoB : (Try.prog.info? 5).map (fun i => (i.zero, i.size, i.bytes)) = some (some (.int .u8 0), 1, 1) := by kernel_rfl
def PutSt (w0 W : World) (g : Nat) (b : List Int) (p : Int) : Prop := ∃ A c, W.heap[g]? = some (.cells #[.slice A b.length c, .int .i64 p] 58 (0, 0)) ∧ w0.heap.size ≤ g ∧ Kd.R (Kd.int .u8) 5 W w0.heap.size (fun _ => True) (.slice A b.length c) b ∧ (b = [] → (.slice A b.length c : Value) = .slice none 0 0)
theorem PutSt.drewN {w0 W : World} {g : Nat} {b : List Int} {p : Int} (h : PutSt w0 W g b p) (m : Nat) : PutSt w0 (W.drewN m) g b p := h
theorem PutSt.drew {w0 W : World} {g : Nat} {b : List Int} {p : Int} (h : PutSt w0 W g b p) : PutSt w0 W.drew g b p := h
theorem PutSt.ne {w0 W : World} {g : Nat} {b : List Int} {p : Int} (h : PutSt w0 W g b p) : ∃ A c, W.heap[g]? = some (.cells #[.slice A b.length c, .int .i64 p] 58 (0, 0)) ∧ Kd.R (Kd.int .u8) 5 W w0.heap.size (fun k => True ∧ k ≠ g) (.slice A b.length c) b := by
  obtain ⟨A, c, hb, hg, hr, hz⟩ := h
  exact ⟨A, c, hb, Kd.R_types hr hb (by simp [Kd.int, Kd.scalar])⟩
theorem PutSt.grown {w0 w W W1 : World} {g : Nat} {b b1 : List Int} {p : Int} {v1 : Value} (h : PutSt w0 W g b p) (hk : KBe w0 w W g) {A : Option Addr} {c : Nat} (hA : W.heap[g]? = some (.cells #[.slice A b.length c, .int .i64 p] 58 (0, 0)))
    (ho : Kd.R (Kd.int .u8) 5 W1 w0.heap.size (fun _ => True) v1 b1) (hg : W.grownBy W1 (.slice A b.length c : Value).ownBlock) (hnew : ∀ k, v1.ownBlock = some k → (.slice A b.length c : Value).ownBlock = some k ∨ W.heap.size ≤ k) (hne : b1 ≠ []) :
    PutSt w0 (W1.setCell ⟨g, 0, none⟩ v1) g b1 p ∧ KBe w0 w (W1.setCell ⟨g, 0, none⟩ v1) g := by
  obtain ⟨A', c', hb, hge, hr, hz⟩ := h
  rw [hb] at hA
  injection hA with hA
  injection hA with hA _
  have e1 : (.slice A' b.length c' : Value) = .slice A b.length c := by
    have := congrArg (fun a : Array Value => a[0]?) hA
    simpa using this
  rw [e1] at hb hr hz
  have hlt : g < W.heap.size := blk_lt hb
  have hrow : some g ≠ (.slice A b.length c : Value).ownBlock := Kd.R_ne hr hb (by decide)
  have hb1 : W1.heap[g]? = some (.cells #[.slice A b.length c, .int .i64 p] 58 (0, 0)) := blk_grown hb hg hrow
  obtain ⟨A1, c1, rfl⟩ := Kd.R_slice ho
  have hset : (W1.setCell ⟨g, 0, none⟩ (.slice A1 b1.length c1)).heap[g]? = some (.cells #[.slice A1 b1.length c1, .int .i64 p] 58 (0, 0)) := by simpa using blk_set hb1 0 (.slice A1 b1.length c1)
  have hfar : ∀ i, i ≠ g → (W1.setCell ⟨g, 0, none⟩ (.slice A1 b1.length c1)).heap[i]? = W1.heap[i]? := fun i hi => Below.heap_setCell _ _ _ _ hi
  refine ⟨⟨A1, c1, hset, hge, Kd.R_mono (Kd.R_far (Kd.R_types ho hb1 (by simp [Kd.int, Kd.scalar])) (fun k hk => hk.2) _) (fun _ _ => trivial), fun e => absurd e hne⟩, hk.trans ?_⟩
  have hsz : (W1.setCell ⟨g, 0, none⟩ (.slice A1 b1.length c1)).heap.size = W1.heap.size := by simp [World.setCell]
  refine ⟨⟨by rw [hsz]; exact hg.size, fun i hi hgi ho2 => ?_⟩, fun i hi hgi hri => ?_, fun x hx => ?_, hlt⟩
  · rw [hfar i hgi]
    refine hg.block i hi (fun e => ?_)
    have hty := (Kd.R_bound hr).1 i e.symm
    obtain ⟨_, hbase, _, q, hq, cs, hcs⟩ := hty
    obtain rfl : q = 5 := by simpa [Kd.int, Kd.scalar] using hq
    rcases ho2 with ho2 | ho2
    · omega
    · exact ho2 cs hcs
  · rw [hfar i hgi]
    refine hg.block i hi (fun e => hri ?_)
    rw [rowAt_of hb]
    exact e
  · rw [rowAt_of hset] at hx
    rw [rowAt_of hb]
    exact hnew x hx
theorem PutSt.stored {w0 w W : World} {g : Nat} {b b1 : List Int} {p : Int} {ad : Addr} {c : Nat} {q : Addr} {x : Value} (h : W.heap[g]? = some (.cells #[.slice (some ad) b.length c, .int .i64 p] 58 (0, 0))) (hge : w0.heap.size ≤ g) (hlen : b1.length = b.length) (hne : b1 ≠ [])
    (ho : Kd.R (Kd.int .u8) 5 (W.setCell q x) w0.heap.size (fun _ => True) (.slice (some ad) b1.length c) b1) (hr : Kd.R (Kd.int .u8) 5 W w0.heap.size (fun _ => True) (.slice (some ad) b.length c) b) (hq : (.slice (some ad) b.length c : Value).ownBlock = some q.block) (hk : KBe w0 w W g) :
    PutSt w0 (W.setCell q x) g b1 p ∧ KBe w0 w (W.setCell q x) g := by
  have hrow : some g ≠ (.slice (some ad) b.length c : Value).ownBlock := Kd.R_ne hr h (by decide)
  have hgq : g ≠ q.block := fun e => hrow (by rw [hq, e])
  have hfar : ∀ i, i ≠ q.block → (W.setCell q x).heap[i]? = W.heap[i]? := fun i hi => Below.heap_setCell _ _ _ _ hi
  have hsz : (W.setCell q x).heap.size = W.heap.size := by simp [World.setCell]
  have hset : (W.setCell q x).heap[g]? = some (.cells #[.slice (some ad) b1.length c, .int .i64 p] 58 (0, 0)) := by rw [hfar g hgq, hlen]; exact h
  refine ⟨⟨some ad, c, hset, hge, ho, fun e => absurd e hne⟩, hk.trans ?_⟩
  refine ⟨⟨by rw [hsz]; exact Nat.le_refl _, fun i hi hgi ho2 => ?_⟩, fun i hi hgi hri => ?_, fun y hy => ?_, blk_lt h⟩
  · refine hfar i (fun e => ?_)
    subst e
    have hty := (Kd.R_bound hr).1 q.block hq
    obtain ⟨_, hbase, _, t, ht, cs, hcs⟩ := hty
    obtain rfl : t = 5 := by simpa [Kd.int, Kd.scalar] using ht
    rcases ho2 with ho2 | ho2
    · omega
    · exact ho2 cs hcs
  · refine hfar i (fun e => hri ?_)
    rw [rowAt_of h, hq, e]
  · rw [rowAt_of hset] at hy
    rw [rowAt_of h]
    rw [hlen] at hy
    exact .inl hy
theorem PutSt.moved {w0 w W : World} {g : Nat} {b : List Int} {p : Int} (h : PutSt w0 W g b p) (hk : KBe w0 w W g) (x : Int) : PutSt w0 (W.setCell ⟨g, 1, none⟩ (.int .i64 x)) g b x ∧ KBe w0 w (W.setCell ⟨g, 1, none⟩ (.int .i64 x)) g := by
  obtain ⟨A, c, hb, hge, hr, hz⟩ := h
  have hset : (W.setCell ⟨g, 1, none⟩ (.int .i64 x)).heap[g]? = some (.cells #[.slice A b.length c, .int .i64 x] 58 (0, 0)) := by simpa using blk_set hb 1 (.int .i64 x)
  have hfar : ∀ i, i ≠ g → (W.setCell ⟨g, 1, none⟩ (.int .i64 x)).heap[i]? = W.heap[i]? := fun i hi => Below.heap_setCell _ _ _ _ hi
  have hsz : (W.setCell ⟨g, 1, none⟩ (.int .i64 x)).heap.size = W.heap.size := by simp [World.setCell]
  refine ⟨⟨A, c, hset, hge, Kd.R_mono (Kd.R_far (Kd.R_types hr hb (by simp [Kd.int, Kd.scalar])) (fun k hk => hk.2) _) (fun _ _ => trivial), hz⟩, hk.trans ?_⟩
  exact ⟨⟨by rw [hsz]; exact Nat.le_refl _, fun i hi hgi _ => hfar i hgi⟩, fun i hi hgi _ => hfar i hgi, fun y hy => .inl (by rw [rowAt_of hset] at hy; rw [rowAt_of hb]; exact hy), blk_lt hb⟩
def bits_Writer_Put.T7 : Bool × List (List Nat × List Nat) := (true, [([], []), ([], []), ([0, 1], [0, 1]), ([2], [2]), ([], []), ([4], [4]), ([5], [5]), ([3, 6], [3, 6]), ([7, 0, 1, 2, 3, 4, 5, 6, 7], [7])])
def bits_Writer_Put.B7 : List Nat := [0, 0, 3, 7, 0, 16, 48, 127, 255]
theorem bits_Writer_Put.tab7 : rtab .any (opsOf Try.f25 7) = bits_Writer_Put.T7 := by kernel_rfl
theorem bits_Writer_Put.bits7 : waitsOk bits_Writer_Put.T7.2 bits_Writer_Put.B7 = true := by kernel_rfl
theorem PutSt.below {w0 W W1 : World} {g : Nat} {b : List Int} {p : Int} (h : PutSt w0 W g b p) (hb : Below W.heap.size W W1) : PutSt w0 W1 g b p := by
  obtain ⟨A, c, h1, h2, h3, h4⟩ := h
  exact ⟨A, c, blk_below h1 hb, h2, Kd.R_below h3 hb, h4⟩
set_option maxHeartbeats 8000000 in
set_option maxRecDepth 100000 in
theorem bits_Writer_Put.calls (g : Nat) (s0_0 : ByteArray) (s0_1 : Int) (a1 : Int) (a2 : Int) (r1 : ByteArray) (r2 : Int) (w0 w : World) (hI : zH w0 w g s0_0 s0_1) (hB : Below w0.heap.size w0 w) (h : bits_Writer_Put.f s0_0 s0_1 a1 a2 = some (r1, r2)) :
    Calls Try.prog 25 #[.pointer (some ⟨g, 0, none⟩), .int .u64 a1, .int .i64 a2] w fun e w' => e = .returned (.tuple #[]) ∧ zH w0 w' g r1 r2 ∧ Below w0.heap.size w0 w' ∧ KBe w0 w w' g := by
  have HGE := zF.mk hI.ge
  have HB := zF.mk hB
  have HK := zF.mk (KBe.refl w0 hI)
  clear hB
  have h2 := h
  unfold bits_Writer_Put.f at h2
  obtain ⟨t, ht, h3⟩ := Option.bind_eq_some_iff.1 h2
  obtain ⟨⟨q1, q2⟩, h4, h5⟩ := Option.map_eq_some_iff.1 h3
  simp only [Prod.mk.injEq] at h5
  obtain ⟨rfl, rfl⟩ := h5
  have HQ := zF.mk (bytes_ofB (bits_Writer_Put.l0_bd _ _ _ _ _ _ (bytesOf_bd s0_0) h4))
  have HT := zF.mk ht
  have H4 := zF.mk h4
  have HS : zF (PutSt w0 w g (bytesOf s0_0) s0_1) := ⟨by
    obtain ⟨v, h1, h6, h7, h8⟩ := hI
    obtain ⟨A, c, rfl⟩ := Kd.R_slice h7
    exact ⟨A, c, h1, h6, h7, fun e => h8 (by rw [← bytesOf_len, e]; rfl)⟩⟩
  clear h h2 h3 h4 ht hI
  go_enter Try.func25, Try.ntmps25
  go_wp2
  refine wp_scope_ghost_k 0 rfl (fun kq a_ w' => ∃ v2_ v3_ v4_ v5_ v6 v7_ v8_ v9_ v10_ v11_ v12_ v13_ v14_ v15_ v16_ v17_ v18_ v19_ v20_ v21_ v22_ v23_ v24_ v25_ v26_ v27_ v28_ v29_ v30_ v31_ v32_ v33_ v34_ v35_ v36_ v37_ v38_ v39_ v40_ v41_ v42_ v43_ v44_ v45_ v46_ v47_ v48_ v49_ v50_ v51_ v52_ v53_ v54_ v55_ v56_ v57_ v58_ v59_ v60_ v61_ v62_ v63_ v64_ v65_ v66_ v67_ v68_ v69_ v70_ v71_ v72_ v73_ v74_ v75_ : Value, (∃ (left p : Int) (b : List Int), v6 = .int .i64 left ∧ zF (bits_Writer_Put.l0 kq a1 left b p = some (q1, q2)) ∧ zF (PutSt w0 w' g b p) ∧ zF (KBe w0 w w' g) ∧ zF (Below w0.heap.size w0 w')) ∧ a_ = { tmps := #[.pointer (some ⟨g, 0, none⟩), .int .u64 a1, v2_, v3_, v4_, v5_, v6, v7_, v8_, v9_, v10_, v11_, v12_, v13_, v14_, v15_, v16_, v17_, v18_, v19_, v20_, v21_, v22_, v23_, v24_, v25_, v26_, v27_, v28_, v29_, v30_, v31_, v32_, v33_, v34_, v35_, v36_, v37_, v38_, v39_, v40_, v41_, v42_, v43_, v44_, v45_, v46_, v47_, v48_, v49_, v50_, v51_, v52_, v53_, v54_, v55_, v56_, v57_, v58_, v59_, v60_, v61_, v62_, v63_, v64_, v65_, v66_, v67_, v68_, v69_, v70_, v71_, v72_, v73_, v74_, v75_], defers := [] }) ?round ?first
  case first =>
    intro K_ hR_
    go_wp2_with (go_at_call 45; (with_reducible refine (bits_held.calls a2 t _ HT.out).mono ?_); rintro e w5 ⟨rfl, hb⟩; have HBB := zF.mk hb; clear hb)
    go_step3
    go_step
    go_step
    refine hR_ 80 _ _ ?_
    repeat apply Exists.intro
    refine ⟨?_, rfl⟩
    exact ⟨t, s0_1, bytesOf s0_0, rfl, H4, ⟨HS.out.below HBB.out⟩, ⟨HK.out.below HBB.out⟩, ⟨below_step HB.out HBB.out⟩⟩
  case round =>
    rintro gk a_ wr ⟨u2_, u3_, u4_, u5_, u6, u7_, u8_, u9_, u10_, u11_, u12_, u13_, u14_, u15_, u16_, u17_, u18_, u19_, u20_, u21_, u22_, u23_, u24_, u25_, u26_, u27_, u28_, u29_, u30_, u31_, u32_, u33_, u34_, u35_, u36_, u37_, u38_, u39_, u40_, u41_, u42_, u43_, u44_, u45_, u46_, u47_, u48_, u49_, u50_, u51_, u52_, u53_, u54_, u55_, u56_, u57_, u58_, u59_, u60_, u61_, u62_, u63_, u64_, u65_, u66_, u67_, u68_, u69_, u70_, u71_, u72_, u73_, u74_, u75_, hrel, rfl⟩ J_ K_ hJ_ hK_
    clear HS HK HB H4 HT
    obtain ⟨left, p, b, rfl, HA, HS, HK, HB⟩ := hrel
    cases gk with
    | zero => exact absurd HA.out (by simp [bits_Writer_Put.l0])
    | succ k =>
      have H := HA.out
      clear HA
      simp only [bits_Writer_Put.l0] at H
      by_cases c4 : left = 0
      · rw [if_pos c4] at H
        have c4b0 : (left == 0) = true := beq_iff_eq.mpr c4
        have c4b1 : (left != 0) = false := bne_eq_false_iff_eq.mpr c4
        clear c4
        simp only [Option.some.injEq, Prod.mk.injEq] at H
        obtain ⟨rfl, rfl⟩ := H
        go_wp2
        (try simp only [Exit.jump])
        first | go_end0 | ((try simp only [Exit.inBlock, Exit.then]); refine bodyPost_ret (results_none rfl _ _ _) rfl ?_)
        refine ⟨by first | rfl | (simp; done), ?_, HB.out, HK.out⟩
        obtain ⟨A, c, h1, h6, h7, h8⟩ := HS.out
        exact ⟨_, h1, h6, by rw [HQ.out]; exact h7, fun e => h8 (List.eq_nil_of_length_eq_zero (by have := bytesOf_len (ofB b); rw [HQ.out] at this; omega))⟩
      · rw [if_neg c4] at H
        have c4b0 : (left == 0) = false := beq_eq_false_iff_ne.mpr c4
        have c4b1 : (left != 0) = true := bne_iff_ne.mpr c4
        clear c4
        obtain ⟨y, hy, H2⟩ := Option.bind_eq_some_iff.1 H
        clear H
        have HY := zF.mk hy
        have HN := zF.mk H2
        clear hy H2
        obtain ⟨A, c, hbk, hge, hr, hz⟩ := HS.out
        have hcz0 : wr.cell? ⟨g, 0, none⟩ = some (.slice A b.length c) := (zM hbk 0).trans rfl
        have hcz1 : wr.cell? ⟨g, 1, none⟩ = some (.int .i64 p) := (zM hbk 1).trans rfl
        have HBK := zF.mk hbk
        have HR := zF.mk hr
        clear hbk hge hr hz
        go_upto_if 19 with (fail)
        go_cut [] (fun wc => ∃ z_ : Nat, zF (z_ = z_) ∧ zF (PutSt w0 wc g y p) ∧ zF (KBe w0 w wc g) ∧ zF (Below w0.heap.size w0 wc))
        case first =>
          have hy := HY.out
          clear HY HN
          unfold bits_Writer_Put.grow at hy
          by_cases c5 : (Int.tmod p 8) = 0
          · rw [if_pos c5] at hy
            have c5b0 : ((Int.tmod p 8) == 0) = true := beq_iff_eq.mpr c5
            have c5b1 : ((Int.tmod p 8) != 0) = false := bne_eq_false_iff_eq.mpr c5
            clear c5
            (first | rw [c5b0] | (simp only [i64_w, i32_w]; rw [c5b0]) | skip)
            by_cases c6 : b.length < 140737488355328
            · rw [if_pos c6] at hy
              have LM := zF.mk c6
              clear c6
              obtain rfl := Option.some.inj hy
              clear hy
              go_wp2_with (first | ((with_reducible refine gate_builtin (b := .append) (xs := #[.tmp 24, .tmp 25]) rfl ?_); at_builtin; refine Kd.R_append (Kd.int .u8) (w0 := w0) w0.heap.size rfl (.tmp 24) (.tmp 25) 26 5 (.int .u8 0) 1 rfl Try.underlying26 bits_Writer_Put.infoB rfl (by decide) (by omega) (.slice A b.length c) b 0 [.int .u8 0] (fun _ => True) (fun _ => False) rfl rfl ?aP (fun _ hk => hk.elim) ?aF ?aO ?aB ?aS ?aL ?_; (case aP => exact rfl); (case aB => exact HB.out); (case aF => exact (fun _ _ => trivial)); (case aO => exact HR.out); (case aS => exact HB.out.size); (case aL => have := LM.out; omega); intro v1 w1 ho hb hg hat; obtain ⟨A1, c1, eA⟩ := Kd.R_slice ho; subst eA; have HP := zF.mk (PutSt.grown HS.out HK.out HBK.out ho hg (fun k_ e_ => hat.elim (fun h_ => .inl (by rw [← h_]; exact e_)) (fun ⟨b_, h_, hle⟩ => .inr (by rw [h_] at e_; injection e_ with e_; omega))) (by simp)); have HB1 := zF.mk hb; have hb1 := blk_grown HBK.out hg (Kd.R_ne HR.out HBK.out (by decide)); have hc10 : w1.cell? ⟨g, 0, none⟩ = some (.slice A b.length c) := (zM hb1 0).trans rfl; have hf10 := zN hb1 0; clear ho hb hg hat hb1))
              go_meet
              case rel => exact ⟨0, ⟨by first | rfl | trivial⟩, ⟨by first | exact HP.out.1 | (have := HP.out.1; simpa using this)⟩, ⟨by first | exact HP.out.2 | (have := HP.out.2; simpa using this)⟩, ⟨zD HB1.out HGE.out⟩⟩
            · rw [if_neg c6] at hy
              exact absurd hy (by simp)
          · rw [if_neg c5] at hy
            have c5b0 : ((Int.tmod p 8) == 0) = false := beq_eq_false_iff_ne.mpr c5
            have c5b1 : ((Int.tmod p 8) != 0) = true := bne_iff_ne.mpr c5
            clear c5
            (first | rw [c5b0] | (simp only [i64_w, i32_w]; rw [c5b0]) | skip)
            obtain rfl := Option.some.inj hy
            clear hy
            go_wp2
            go_meet
            case rel => exact ⟨0, ⟨by first | rfl | trivial⟩, HS, HK, HB⟩
        case rest =>
          clear HY hcz0 hcz1 HS HK HB HBK HR
          obtain ⟨_, _, HS, HK, HB⟩ := hcut
          have H := HN.out
          clear HN
          obtain ⟨ji7, hji7⟩ : ∃ j_ : Int, (mn (wrap64 (8 - (Int.tmod p 8))) left) = j_ := ⟨_, rfl⟩
          simp only [hji7] at H
          have hji7_ : (if left < (wrap64 (8 - (Int.tmod p 8))) then left else (wrap64 (8 - (Int.tmod p 8)))) = ji7 := hji7
          obtain ⟨ji8, hji8⟩ : ∃ j_ : Int, (wrap64 (left - (ji7))) = j_ := ⟨_, rfl⟩
          simp only [hji8] at H
          have hji8w : (IntKind.i64.wrap (left - (ji7))) = ji8 := (i64_w _).trans hji8
          by_cases c9 : 0 ≤ (ji8)
          case neg => rw [if_neg c9] at H; exact absurd H (by simp)
          rw [if_pos c9] at H
          have c9b0 := eq_true c9
          have c9b1 : decide (0 ≤ (ji8)) = true := decide_eq_true c9
          clear c9
          obtain ⟨ji10, hji10⟩ : ∃ j_ : Int, (shr .u64 a1 (ji8)) = j_ := ⟨_, rfl⟩
          simp only [hji10] at H
          have hji10_ : (a1 / 2 ^ min (ji8).toNat 64) = ji10 := hji10
          have hji10z : (ji8) ≤ 64 → (a1 / 2 ^ (ji8).toNat) = ji10 := shr_small hji10
          by_cases c11 : 0 ≤ (ji7)
          case neg => rw [if_neg c11] at H; exact absurd H (by simp)
          rw [if_pos c11] at H
          have c11b0 := eq_true c11
          have c11b1 : decide (0 ≤ (ji7)) = true := decide_eq_true c11
          clear c11
          obtain ⟨ji12, hji12⟩ : ∃ j_ : Int, (shl .u8 1 (ji7)) = j_ := ⟨_, rfl⟩
          simp only [hji12] at H
          have hji12_ : (IntKind.u8.wrap (1 * 2 ^ min (ji7).toNat 8)) = ji12 := hji12
          have hji12z : (ji7) ≤ 8 → (IntKind.u8.wrap (1 * 2 ^ (ji7).toNat)) = ji12 := shl_small hji12
          have hji12u : (IntKind.u8.wrap (2 ^ min (ji7).toNat 8)) = ji12 := by have h_ := hji12_; rw [Int.one_mul] at h_; exact h_
          have hji12v : (ji7) ≤ 8 → (IntKind.u8.wrap (2 ^ (ji7).toNat)) = ji12 := fun hle_ => by have h_ := hji12z hle_; rw [Int.one_mul] at h_; exact h_
          obtain ⟨ji13, hji13⟩ : ∃ j_ : Int, (wrap64 ((y.length : Int) - 1)) = j_ := ⟨_, rfl⟩
          simp only [hji13] at H
          have hji13w : (IntKind.i64.wrap ((y.length : Int) - 1)) = ji13 := (i64_w _).trans hji13
          by_cases c14 : 0 ≤ (ji13)
          case neg => rw [if_neg c14] at H; exact absurd H (by simp)
          rw [if_pos c14] at H
          have c14b0 : decide (0 ≤ (ji13)) = true := decide_eq_true c14
          by_cases c15 : (ji13) < (y.length : Int)
          case neg => rw [if_neg c15] at H; exact absurd H (by simp)
          rw [if_pos c15] at H
          have c15b0 : decide ((ji13) < (y.length : Int)) = true := decide_eq_true c15
          obtain ⟨ji16, hji16⟩ : ∃ j_ : Int, (wrap64 ((wrap64 (8 - (Int.tmod p 8))) - (ji7))) = j_ := ⟨_, rfl⟩
          simp only [hji16] at H
          have hji16w : (IntKind.i64.wrap ((wrap64 (8 - (Int.tmod p 8))) - (ji7))) = ji16 := (i64_w _).trans hji16
          by_cases c17 : 0 ≤ (ji16)
          case neg => rw [if_neg c17] at H; exact absurd H (by simp)
          rw [if_pos c17] at H
          have c17b0 := eq_true c17
          have c17b1 : decide (0 ≤ (ji16)) = true := decide_eq_true c17
          clear c17
          obtain ⟨ji18, hji18⟩ : ∃ j_ : Int, (shl .u8 (Go.bits .and .u8 ((ji10) % 256) (((ji12) - 1) % 256)) (ji16)) = j_ := ⟨_, rfl⟩
          simp only [hji18] at H
          have hji18_ : (IntKind.u8.wrap ((Go.bits .and .u8 ((ji10) % 256) (((ji12) - 1) % 256)) * 2 ^ min (ji16).toNat 8)) = ji18 := hji18
          have hji18z : (ji16) ≤ 8 → (IntKind.u8.wrap ((Go.bits .and .u8 ((ji10) % 256) (((ji12) - 1) % 256)) * 2 ^ (ji16).toNat)) = ji18 := shl_small hji18
          have hji18w : (IntKind.u8.wrap ((Go.bits .and .u8 (IntKind.u8.wrap ji10) (IntKind.u8.wrap (ji12 - 1))) * 2 ^ min (ji16).toNat 8)) = ji18 := by rw [IntKind.wrap_u8 ji10, IntKind.wrap_u8 (ji12 - 1)]; exact hji18_
          have H' := zF.mk H
          clear H
          obtain ⟨A, c, hbk, hge, hr, hz⟩ := HS.out
          have hpos : 0 < y.length := by omega
          obtain ⟨go19, co19, eo19, gb19, gl19, cl19, HG19⟩ := Kd.R_form hr (by omega)
          injection eo19 with ea_ en_ ec_
          subst ea_
          subst ec_
          clear en_
          have HBK := zF.mk hbk
          have HR := zF.mk hr
          have HGR := zF.mk hge
          have HPOS := zF.mk hpos
          have hcz0 : wc.cell? ⟨g, 0, none⟩ = some (.slice (some ⟨go19, 0, none⟩) y.length c) := (zM hbk 0).trans rfl
          have hcz1 : wc.cell? ⟨g, 1, none⟩ = some (.int .i64 p) := (zM hbk 1).trans rfl
          clear hbk hge hr hz HS gb19 gl19 cl19 HG19 hpos
          go_wp2
          refine start_ (n := 9) (S := fun w' => True) (ds := []) #[false, false, false, false, false, false, false, false, false] (by kernel_rfl) rfl rfl trivial (fun hHeld => ?_); refine with_tabW bits_Writer_Put.tab7 bits_Writer_Put.bits7 (fun HT_ HW_ => ?_)
          refine pure_ (i := 0) (N := some 41) (v := ?_) (a' := ?_) #[true, false, false, false, false, false, false, false, false] rfl rfl (any_of HT_.out (by kernel_rfl)) (fun _ _ _ h => h) (Or.inl ⟨by rfl, ?_⟩) ?_ ?_
          rotate_left
          · intro w'
            go_simp
            with_reducible rfl
          rotate_left
          · simp only [Act.put, List.setIfInBounds_toArray, List.set_cons_zero, List.set_cons_succ, i64_w, i32_w]
            rfl
          refine pure_ (i := 1) (N := some 42) (v := ?_) (a' := ?_) #[true, true, false, false, false, false, false, false, false] rfl rfl (any_of HT_.out (by kernel_rfl)) (fun _ _ _ h => h) (Or.inl ⟨by rfl, ?_⟩) ?_ ?_
          rotate_left
          · intro w'
            go_simp
            with_reducible rfl
          rotate_left
          · simp only [Act.put, List.setIfInBounds_toArray, List.set_cons_zero, List.set_cons_succ, i64_w, i32_w]
            rfl
          refine pure_ (i := 2) (N := some 43) (v := ?_) (a' := ?_) #[true, true, true, false, false, false, false, false, false] rfl rfl (any_of HT_.out (by kernel_rfl)) (fun _ _ _ h => h) (Or.inl ⟨by rfl, ?_⟩) ?_ ?_
          rotate_left
          · intro w'
            go_simp
            with_reducible rfl
          rotate_left
          · simp only [Act.put, List.setIfInBounds_toArray, List.set_cons_zero, List.set_cons_succ, i64_w, i32_w]
            rfl
          refine pure_ (i := 3) (N := some 44) (v := ?_) (a' := ?_) #[true, true, true, true, false, false, false, false, false] rfl rfl (any_of HT_.out (by kernel_rfl)) (fun _ _ _ h => h) (Or.inl ⟨by rfl, ?_⟩) ?_ ?_
          rotate_left
          · intro w'
            go_simp
            with_reducible rfl
          rotate_left
          · simp only [Act.put, List.setIfInBounds_toArray, List.set_cons_zero, List.set_cons_succ, i64_w, i32_w]
            rfl
          refine pure_ (i := 4) (N := some 45) (v := ?_) (a' := ?_) #[true, true, true, true, true, false, false, false, false] rfl rfl (any_of HT_.out (by kernel_rfl)) (fun _ _ _ h => h) (Or.inl ⟨by rfl, ?_⟩) ?_ ?_
          rotate_left
          · intro w'
            go_simp
            with_reducible rfl
          rotate_left
          · simp only [Act.put, List.setIfInBounds_toArray, List.set_cons_zero, List.set_cons_succ, i64_w, i32_w]
            rfl
          refine pure_ (i := 5) (N := some 46) (v := ?_) (a' := ?_) #[true, true, true, true, true, true, false, false, false] rfl rfl (any_of HT_.out (by kernel_rfl)) (fun _ _ _ h => h) (Or.inl ⟨by rfl, ?_⟩) ?_ ?_
          rotate_left
          · intro w'
            go_simp
            with_reducible rfl
          rotate_left
          · simp only [Act.put, List.setIfInBounds_toArray, List.set_cons_zero, List.set_cons_succ, i64_w, i32_w]
            rfl
          refine pure_ (i := 6) (N := some 47) (v := ?_) (a' := ?_) #[true, true, true, true, true, true, true, false, false] rfl rfl (any_of HT_.out (by kernel_rfl)) (fun _ _ _ h => h) (Or.inl ⟨by rfl, ?_⟩) ?_ ?_
          rotate_left
          · intro w'
            go_simp
            with_reducible rfl
          rotate_left
          · simp only [Act.put, List.setIfInBounds_toArray, List.set_cons_zero, List.set_cons_succ, i64_w, i32_w]
            rfl
          refine pure_ (i := 7) (N := some 48) (v := ?_) (a' := ?_) #[true, true, true, true, true, true, true, true, false] rfl rfl (any_of HT_.out (by kernel_rfl)) (fun _ _ _ h => h) (Or.inl ⟨by rfl, ?_⟩) ?_ ?_
          rotate_left
          · intro w'
            go_simp
            with_reducible rfl
          rotate_left
          · simp only [Act.put, List.setIfInBounds_toArray, List.set_cons_zero, List.set_cons_succ, i64_w, i32_w]
            rfl
          refine pure_ (i := 8) (N := some 9) (v := ?_) (a' := ?_) #[true, true, true, true, true, true, true, true, true] rfl rfl (any_of HT_.out (by kernel_rfl)) (fun _ _ _ h => h) (Or.inl ⟨by rfl, ?_⟩) ?_ ?_
          rotate_left
          · intro w'
            go_simp
            with_reducible rfl
          rotate_left
          · simp only [Act.put, List.setIfInBounds_toArray, List.set_cons_zero, List.set_cons_succ, i64_w, i32_w]
            rfl
          refine done_ (done_of HT_.out (by kernel_rfl)) ?_
          try go_wp2
          obtain ⟨ad154, e154, hx154_0⟩ := Kd.at_int (Kd.R_reads' HR.out).2.2 (ji13) c14 c15
          cases e154
          simp only [add_plain] at hx154_0
          obtain ⟨hx19_0, hf19_0⟩ := Kd.R_celln 0 HR.out ((ji13) : Int) c14 c15
          have p154 := eq_true c14
          have q154 := eq_true c15
          clear c14 c15
          have HP24 := zF.mk (Kd.R_putn HR.out ((ji13) : Int) (Go.bits .or .u8 (rd y (ji13)) (ji18)))
          refine start_ (n := 20) (S := fun w' => w'.cell? ⟨g, 0, none⟩ = some (.slice (some ⟨go19, 0, none⟩) y.length c) ∧ w'.cell? ⟨go19, ((ji13)).toNat, none⟩ = some (.int .u8 (rd y (ji13)))) (ds := [19]) #[false, false, false, false, false, false, false, false, false, false, false, false, false, false, false, false, false, false, false, false] (by kernel_rfl) rfl rfl ⟨hcz0, hx154_0⟩ (fun hHeld => ?_); refine with_tabW bits_Writer_Put.tab8 bits_Writer_Put.bits8 (fun HT_ HW_ => ?_)
          refine pure_ (i := 0) (N := some 49) (v := ?_) (a' := ?_) #[true, false, false, false, false, false, false, false, false, false, false, false, false, false, false, false, false, false, false, false] rfl rfl (any_of HT_.out (by kernel_rfl)) (fun _ _ _ h => h) (Or.inl ⟨by rfl, ?_⟩) ?_ ?_
          rotate_left
          · intro w'
            go_simp
            with_reducible rfl
          rotate_left
          · simp only [Act.put, List.setIfInBounds_toArray, List.set_cons_zero, List.set_cons_succ, i64_w, i32_w]
            rfl
          refine pure_ (i := 1) (N := some 50) (v := ?_) (a' := ?_) #[true, true, false, false, false, false, false, false, false, false, false, false, false, false, false, false, false, false, false, false] rfl rfl (any_of HT_.out (by kernel_rfl)) (fun _ _ _ h => h) (Or.inl ⟨by rfl, ?_⟩) ?_ ?_
          rotate_left
          · intro w'
            go_simp
            with_reducible rfl
          rotate_left
          · simp only [Act.put, List.setIfInBounds_toArray, List.set_cons_zero, List.set_cons_succ, i64_w, i32_w]
            rfl
          refine pure_ (i := 2) (N := some 51) (v := ?_) (a' := ?_) #[true, true, true, false, false, false, false, false, false, false, false, false, false, false, false, false, false, false, false, false] rfl rfl (any_of HT_.out (by kernel_rfl)) (fun _ _ _ h => h) (Or.inl ⟨by rfl, ?_⟩) ?_ ?_
          rotate_left
          · intro w'
            go_simp
            with_reducible rfl
          rotate_left
          · simp only [Act.put, List.setIfInBounds_toArray, List.set_cons_zero, List.set_cons_succ, i64_w, i32_w]
            rfl
          refine take_ (i := 3) (N := some 52) (v := ?_) (a' := ?_) #[true, true, true, true, false, false, false, false, false, false, false, false, false, false, false, false, false, false, false, false] rfl rfl (take_ofW HT_.out HW_.out (by kernel_rfl)) (fun _ _ _ h => h) (Or.inl ⟨by rfl, ?_⟩) hHeld ?_ ?_
          rotate_left
          · rintro w' ⟨s0, s1⟩
            go_simp
            with_reducible rfl
          rotate_left
          · simp only [Act.put, List.setIfInBounds_toArray, List.set_cons_zero, List.set_cons_succ, i64_w, i32_w]
            rfl
          refine pure_ (i := 4) (N := some 53) (v := ?_) (a' := ?_) #[true, true, true, true, true, false, false, false, false, false, false, false, false, false, false, false, false, false, false, false] rfl rfl (any_of HT_.out (by kernel_rfl)) (fun _ _ _ h => h) (Or.inl ⟨by rfl, ?_⟩) ?_ ?_
          rotate_left
          · intro w'
            go_simp
            with_reducible rfl
          rotate_left
          · simp only [Act.put, List.setIfInBounds_toArray, List.set_cons_zero, List.set_cons_succ, i64_w, i32_w]
            rfl
          refine pure_ (i := 5) (N := some 54) (v := ?_) (a' := ?_) #[true, true, true, true, true, true, false, false, false, false, false, false, false, false, false, false, false, false, false, false] rfl rfl (any_of HT_.out (by kernel_rfl)) (fun _ _ _ h => h) (Or.inl ⟨by rfl, ?_⟩) ?_ ?_
          rotate_left
          · intro w'
            go_simp
            with_reducible rfl
          rotate_left
          · simp only [Act.put, List.setIfInBounds_toArray, List.set_cons_zero, List.set_cons_succ, i64_w, i32_w]
            rfl
          refine pure_ (i := 6) (N := some 55) (v := ?_) (a' := ?_) #[true, true, true, true, true, true, true, false, false, false, false, false, false, false, false, false, false, false, false, false] rfl rfl (any_of HT_.out (by kernel_rfl)) (fun _ _ _ h => h) (Or.inl ⟨by rfl, ?_⟩) ?_ ?_
          rotate_left
          · intro w'
            go_simp
            with_reducible rfl
          rotate_left
          · simp only [Act.put, List.setIfInBounds_toArray, List.set_cons_zero, List.set_cons_succ, i64_w, i32_w]
            rfl
          refine take_ (i := 7) (N := some 56) (v := ?_) (a' := ?_) #[true, true, true, true, true, true, true, true, false, false, false, false, false, false, false, false, false, false, false, false] rfl rfl (take_ofW HT_.out HW_.out (by kernel_rfl)) (fun _ _ _ h => h) (Or.inl ⟨by rfl, ?_⟩) hHeld ?_ ?_
          rotate_left
          · rintro w' ⟨s0, s1⟩
            go_simp
            with_reducible rfl
          rotate_left
          · simp only [Act.put, List.setIfInBounds_toArray, List.set_cons_zero, List.set_cons_succ, i64_w, i32_w]
            rfl
          refine pure_ (i := 8) (N := some 57) (v := ?_) (a' := ?_) #[true, true, true, true, true, true, true, true, true, false, false, false, false, false, false, false, false, false, false, false] rfl rfl (any_of HT_.out (by kernel_rfl)) (fun _ _ _ h => h) (Or.inl ⟨by rfl, ?_⟩) ?_ ?_
          rotate_left
          · intro w'
            go_simp
            with_reducible rfl
          rotate_left
          · simp only [Act.put, List.setIfInBounds_toArray, List.set_cons_zero, List.set_cons_succ, i64_w, i32_w]
            rfl
          refine pure_ (i := 9) (N := some 58) (v := ?_) (a' := ?_) #[true, true, true, true, true, true, true, true, true, true, false, false, false, false, false, false, false, false, false, false] rfl rfl (any_of HT_.out (by kernel_rfl)) (fun _ _ _ h => h) (Or.inl ⟨by rfl, ?_⟩) ?_ ?_
          rotate_left
          · intro w'
            go_simp
            with_reducible rfl
          rotate_left
          · simp only [Act.put, List.setIfInBounds_toArray, List.set_cons_zero, List.set_cons_succ, i64_w, i32_w]
            rfl
          refine pure_ (i := 10) (N := some 59) (v := ?_) (a' := ?_) #[true, true, true, true, true, true, true, true, true, true, true, false, false, false, false, false, false, false, false, false] rfl rfl (any_of HT_.out (by kernel_rfl)) (fun _ _ _ h => h) (Or.inl ⟨by rfl, ?_⟩) ?_ ?_
          rotate_left
          · intro w'
            go_simp
            with_reducible rfl
          rotate_left
          · simp only [Act.put, List.setIfInBounds_toArray, List.set_cons_zero, List.set_cons_succ, i64_w, i32_w]
            rfl
          refine take_ (i := 11) (N := some 60) (v := ?_) (a' := ?_) #[true, true, true, true, true, true, true, true, true, true, true, true, false, false, false, false, false, false, false, false] rfl rfl (take_ofW HT_.out HW_.out (by kernel_rfl)) (fun _ _ _ h => h) (Or.inl ⟨by rfl, ?_⟩) hHeld ?_ ?_
          rotate_left
          · rintro w' ⟨s0, s1⟩
            go_simp
            with_reducible rfl
          rotate_left
          · simp only [Act.put, List.setIfInBounds_toArray, List.set_cons_zero, List.set_cons_succ, i64_w, i32_w]
            rfl
          refine pure_ (i := 12) (N := some 61) (v := ?_) (a' := ?_) #[true, true, true, true, true, true, true, true, true, true, true, true, true, false, false, false, false, false, false, false] rfl rfl (any_of HT_.out (by kernel_rfl)) (fun _ _ _ h => h) (Or.inl ⟨by rfl, ?_⟩) ?_ ?_
          rotate_left
          · intro w'
            go_simp
            with_reducible rfl
          rotate_left
          · simp only [Act.put, List.setIfInBounds_toArray, List.set_cons_zero, List.set_cons_succ, i64_w, i32_w]
            rfl
          refine pure_ (i := 13) (N := some 62) (v := ?_) (a' := ?_) #[true, true, true, true, true, true, true, true, true, true, true, true, true, true, false, false, false, false, false, false] rfl rfl (any_of HT_.out (by kernel_rfl)) (fun _ _ _ h => h) (Or.inl ⟨by rfl, ?_⟩) ?_ ?_
          rotate_left
          · intro w'
            go_simp
            with_reducible rfl
          rotate_left
          · simp only [Act.put, List.setIfInBounds_toArray, List.set_cons_zero, List.set_cons_succ, i64_w, i32_w]
            rfl
          refine pure_ (i := 14) (N := some 63) (v := ?_) (a' := ?_) #[true, true, true, true, true, true, true, true, true, true, true, true, true, true, true, false, false, false, false, false] rfl rfl (any_of HT_.out (by kernel_rfl)) (fun _ _ _ h => h) (Or.inl ⟨by rfl, ?_⟩) ?_ ?_
          rotate_left
          · intro w'
            go_simp
            with_reducible rfl
          rotate_left
          · simp only [Act.put, List.setIfInBounds_toArray, List.set_cons_zero, List.set_cons_succ, i64_w, i32_w]
            rfl
          refine pure_ (i := 15) (N := some 64) (v := ?_) (a' := ?_) #[true, true, true, true, true, true, true, true, true, true, true, true, true, true, true, true, false, false, false, false] rfl rfl (any_of HT_.out (by kernel_rfl)) (fun _ _ _ h => h) (Or.inl ⟨by rfl, ?_⟩) ?_ ?_
          rotate_left
          · intro w'
            go_simp
            with_reducible rfl
          rotate_left
          · simp only [Act.put, List.setIfInBounds_toArray, List.set_cons_zero, List.set_cons_succ, i64_w, i32_w]
            rfl
          refine pure_ (i := 16) (N := some 65) (v := ?_) (a' := ?_) #[true, true, true, true, true, true, true, true, true, true, true, true, true, true, true, true, true, false, false, false] rfl rfl (any_of HT_.out (by kernel_rfl)) (fun _ _ _ h => h) (Or.inl ⟨by rfl, ?_⟩) ?_ ?_
          rotate_left
          · intro w'
            go_simp
            with_reducible rfl
          rotate_left
          · simp only [Act.put, List.setIfInBounds_toArray, List.set_cons_zero, List.set_cons_succ, i64_w, i32_w]
            rfl
          refine pure_ (i := 17) (N := some 66) (v := ?_) (a' := ?_) #[true, true, true, true, true, true, true, true, true, true, true, true, true, true, true, true, true, true, false, false] rfl rfl (any_of HT_.out (by kernel_rfl)) (fun _ _ _ h => h) (Or.inl ⟨by rfl, ?_⟩) ?_ ?_
          rotate_left
          · intro w'
            go_simp
            with_reducible rfl
          rotate_left
          · simp only [Act.put, List.setIfInBounds_toArray, List.set_cons_zero, List.set_cons_succ, i64_w, i32_w]
            rfl
          refine pure_ (i := 18) (N := some 67) (v := ?_) (a' := ?_) #[true, true, true, true, true, true, true, true, true, true, true, true, true, true, true, true, true, true, true, false] rfl rfl (any_of HT_.out (by kernel_rfl)) (fun _ _ _ h => h) (Or.inl ⟨by rfl, ?_⟩) ?_ ?_
          rotate_left
          · intro w'
            go_simp
            with_reducible rfl
          rotate_left
          · simp only [Act.put, List.setIfInBounds_toArray, List.set_cons_zero, List.set_cons_succ, i64_w, i32_w]
            rfl
          refine last_ (i := 19) (N := none) #[true, true, true, true, true, true, true, true, true, true, true, true, true, true, true, true, true, true, true, true] rfl rfl (one_of HT_.out (by kernel_rfl)) (by decide) (fun K hK => ?_)
          refine skip_ (w1 := ?_) (by rfl) rfl ?_ ?_
          rotate_left
          · go_simp
            rfl
          refine hK.out _ _ ?_
          clear hK K
          refine done_ (done_of HT_.out (by kernel_rfl)) ?_
          have HP := zF.mk (PutSt.stored (w := w) (q := ⟨go19, (ji13 : Int).toNat, none⟩) (x := .int .u8 (Go.bits .or .u8 (rd y (ji13)) (ji18))) (b1 := y.set (ji13 : Int).toNat (Go.bits .or .u8 (rd y (ji13)) (ji18))) HBK.out HGR.out (by simp) (fun e_ => by have h_ := congrArg List.length e_; rw [List.length_set] at h_; have := HPOS.out; simp at h_; rw [h_] at this; simp at this) (by rw [List.length_set]; exact HP24.out) HR.out rfl HK.out)
          have HB2 := zF.mk (zD (v := .int .u8 (Go.bits .or .u8 (rd y (ji13)) (ji18))) (j := (ji13 : Int).toNat) HB.out (Kd.R_base HR.out go19 rfl))
          have HS3 := zF.mk (PutSt.drew (PutSt.drew HP.out.1))
          have HK3 := zF.mk (KBe.drew (KBe.drew HP.out.2))
          have HB3 := zF.mk (zC (zC HB2.out))
          clear HP HB2 HP24 hx19_0 hf19_0 hx154_0 hcz0 hcz1 HBK HR
          generalize ((wc.setCell ⟨go19, (ji13 : Int).toNat, none⟩ (.int .u8 (Go.bits .or .u8 (rd y ji13) ji18))).drew.drew) = w9 at HS3 HK3 HB3 ⊢
          obtain ⟨A9, c9, hbk9, _, _, _⟩ := HS3.out
          have hcz9 : w9.cell? ⟨g, 1, none⟩ = some (.int .i64 p) := (zM hbk9 1).trans rfl
          have hfz9 := zN hbk9 1
          clear hbk9
          have HM := zF.mk (PutSt.moved HS3.out HK3.out (wrap64 (p + ji7)))
          try go_wp2
          go_step3
          refine ⟨rfl, hK_ _ _ ?_⟩
          go_roundg k
          case measure => omega
          case rel => exact ⟨ji8, (wrap64 (p + ji7)), (y.set (ji13 : Int).toNat (Go.bits .or .u8 (rd y (ji13)) (ji18))), (by first | rfl | (simp; done) | (simp only [← hji8] <;> (first | rfl | simp)) | (simp [*]; done)), H', ⟨HM.out.1⟩, ⟨HM.out.2⟩, ⟨zD HB3.out HGE.out⟩⟩
end Go.Proofs.Ytokdjeoecnnckaa.PA
end
