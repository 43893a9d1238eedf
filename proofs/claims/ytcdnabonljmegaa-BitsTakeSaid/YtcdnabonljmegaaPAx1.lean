/- Each Go function named below comes to what the plain Lean function of its name answers, wherever that answers (rounds enough, no panic, no row too long); texts by a program of this session by way of the kit's print.py, what that does not take by hand. Condition: what is read lies in memory as each theorem says. -/
import Derived.Test.YtcdnabonljmegaaPAx0
namespace Go.Proofs.Ytcdnabonljmegaa.PA
open Go.RowKit Go.Proofs.YtcdnabonljmegaaW.PrintWords Go.Proofs.YtcdnabonljmegaaW.PrintLast Go.Proofs.YtcdnabonljmegaaW.PrintMore
attribute [local go_sem] max2_int min2_int max_two min_two max_three min_three max_four min_four   -- for this text's walks alone
set_option linter.unusedVariables false
set_option linter.unusedSimpArgs false

/-- Another block than a Writer's, and no row of bytes. -/
def OffS52 (W : World) (g : Nat) (row : Option Nat) : Prop := some g ≠ row ∧ ∀ r cs, W.heap[r]? = some (.cells cs 5 (0, 0)) → some r ≠ row
/-- A Writer at block g of W: its bytes lie in a row of its own, made since w0. -/
def IsS52 (w0 W : World) (g : Nat) (f0 : ByteArray) (f1 : Int) : Prop := ∃ v : Value, W.heap[g]? = some (.cells #[v, .int .i64 f1] 52 (0, 0)) ∧ w0.heap.size ≤ g ∧ Kd.R (Kd.int .u8) 5 W w0.heap.size (fun _ => True) v (bytesOf f0) ∧ (f0.size = 0 → v = .slice none 0 0)
theorem IsS52.grown {w0 W : World} {g : Nat} {f0 : ByteArray} {f1 : Int} {W1 : World} {row : Option Nat} (h : IsS52 w0 W g f0 f1) (hw : W.grownBy W1 row) (hne : OffS52 W g row) : IsS52 w0 W1 g f0 f1 := by
  obtain ⟨v, hb, hg, hr, hz⟩ := h
  exact ⟨v, blk_grown hb hw hne.1, hg, Kd.R_mono (Kd.R_grown (Kd.R_bound hr) hw (fun k hk => by
    obtain ⟨_, _, _, q, hq, cs, hc⟩ := hk
    obtain rfl : q = 5 := by simpa [Kd.int, Kd.scalar] using hq
    exact hne.2 k cs hc)) (fun _ _ => trivial), hz⟩
theorem IsS52.own_neN {w0 W : World} {g : Nat} {f0 : ByteArray} {f1 : Int} {α : Type} {d : Kd α} {e : Nat} {base : Nat} {ok : Nat → Prop} {v : Value} {xs : List α} (h : IsS52 w0 W g f0 f1) (ho : Kd.N d e W base ok v xs) (ht : e ≠ 52 ∧ e ≠ 5) : OffS52 W g v.ownBlock := by
  obtain ⟨v, hb, hg, hr, hz⟩ := h
  exact ⟨Kd.N_ne ho hb ht.1, fun r cs hr => Kd.N_ne ho hr ht.2⟩
theorem IsS52.own_ne {w0 W : World} {g : Nat} {f0 : ByteArray} {f1 : Int} {α : Type} {d : Kd α} {e : Nat} {base : Nat} {ok : Nat → Prop} {v : Value} {xs : List α} (h : IsS52 w0 W g f0 f1) (ho : d.R e W base ok v xs) (ht : e ≠ 52 ∧ e ≠ 5) : OffS52 W g v.ownBlock := by
  obtain ⟨v, hb, hg, hr, hz⟩ := h
  exact ⟨Kd.R_ne ho hb ht.1, fun r cs hr => Kd.R_ne ho hr ht.2⟩
theorem IsS52.own_neQ {w0 W : World} {g : Nat} {f0 : ByteArray} {f1 : Int} {α : Type} {d : Kd α} {e : Nat} {base : Nat} {ok : Nat → Prop} {v : Value} {xs : List α} (h : IsS52 w0 W g f0 f1) (ho : d.Q e W base ok v xs) (ht : e ≠ 52 ∧ e ≠ 5) : OffS52 W g v.ownBlock := by
  obtain ⟨v, hb, hg, hr, hz⟩ := h
  exact ⟨Kd.Q_ne ho hb ht.1, fun r cs hr => Kd.Q_ne ho hr ht.2⟩
theorem IsS52.own_neS {w0 W : World} {g : Nat} {f0 : ByteArray} {f1 : Int} {α : Type} {d : Kd α} {e : Nat} {base : Nat} {ok : Nat → Prop} {v : Value} {xs : List α} (h : IsS52 w0 W g f0 f1) (ho : d.S e W base ok v xs) (ht : e ≠ 52 ∧ e ≠ 5) : OffS52 W g v.ownBlock := by
  obtain ⟨v, hb, hg, hr, hz⟩ := h
  exact ⟨Kd.S_ne ho hb ht.1, fun r cs hr => Kd.S_ne ho hr ht.2⟩
theorem IsS52.fresh {w0 W : World} {g : Nat} {f0 : ByteArray} {f1 : Int} (h : IsS52 w0 W g f0 f1) : ∀ k, W.heap.size ≤ k → k ≠ g := by
  obtain ⟨v, hb, hg, hr, hz⟩ := h
  exact Kd.freshB hb
theorem IsS52.below {w0 W : World} {g : Nat} {f0 : ByteArray} {f1 : Int} {W1 : World} (h : IsS52 w0 W g f0 f1) (hw : Below W.heap.size W W1) : IsS52 w0 W1 g f0 f1 := h.grown (grown_of_below hw none) ⟨by simp, fun _ _ _ => by simp⟩
theorem IsS52.alloc {w0 W : World} {g : Nat} {f0 : ByteArray} {f1 : Int} (h : IsS52 w0 W g f0 f1) (o : Obj) : IsS52 w0 (W.alloc o) g f0 f1 := h.below (below_alloc (Below.refl _ _) o)
theorem IsS52.drewN {w0 W : World} {g : Nat} {f0 : ByteArray} {f1 : Int} (h : IsS52 w0 W g f0 f1) (m : Nat) : IsS52 w0 (W.drewN m) g f0 f1 := h
theorem IsS52.drew {w0 W : World} {g : Nat} {f0 : ByteArray} {f1 : Int} (h : IsS52 w0 W g f0 f1) : IsS52 w0 W.drew g f0 f1 := h
theorem IsS52.at_ {w0 W : World} {g : Nat} {f0 : ByteArray} {f1 : Int} {w' : World} {m : Nat} (hq : W.drewN m = w') (h : IsS52 w0 W g f0 f1) : IsS52 w0 w' g f0 f1 := by subst hq; exact IsS52.drewN h m
theorem IsS52.apart {w0 W : World} {g : Nat} {f0 : ByteArray} {f1 : Int} {α : Type} {d : Kd α} {e : Nat} {base : Nat} {ok : Nat → Prop} {v : Value} {xs : List α} (h : IsS52 w0 W g f0 f1) (ho : d.R e W base ok v xs) (ht : ∀ q, q ∈ e :: d.E → q ≠ 52) : d.R e W base (fun k => ok k ∧ k ≠ g) v xs := by
  obtain ⟨v, hb, hg, hr, hz⟩ := h
  exact Kd.R_types ho hb ht
theorem IsS52.apartQ {w0 W : World} {g : Nat} {f0 : ByteArray} {f1 : Int} {α : Type} {d : Kd α} {e : Nat} {base : Nat} {ok : Nat → Prop} {v : Value} {xs : List α} (h : IsS52 w0 W g f0 f1) (ho : d.Q e W base ok v xs) (ht : ∀ q, q ∈ e :: d.E → q ≠ 52) : d.Q e W base (fun k => ok k ∧ k ≠ g) v xs := by
  obtain ⟨v, hb, hg, hr, hz⟩ := h
  exact Kd.Q_types ho hb ht
theorem IsS52.apartS {w0 W : World} {g : Nat} {f0 : ByteArray} {f1 : Int} {α : Type} {d : Kd α} {e : Nat} {base : Nat} {ok : Nat → Prop} {v : Value} {xs : List α} (h : IsS52 w0 W g f0 f1) (ho : d.S e W base ok v xs) (ht : ∀ q, q ∈ e :: d.E → q ≠ 52) : d.S e W base (fun k => ok k ∧ k ≠ g) v xs := by
  obtain ⟨v, hb, hg, hr, hz⟩ := h
  exact Kd.S_types ho hb ht
theorem IsS52.lt {w0 W : World} {g : Nat} {f0 : ByteArray} {f1 : Int} (h : IsS52 w0 W g f0 f1) : g < W.heap.size := by
  obtain ⟨v, hb, hg, hr, hz⟩ := h
  exact blk_lt hb
theorem IsS52.ge {w0 W : World} {g : Nat} {f0 : ByteArray} {f1 : Int} (h : IsS52 w0 W g f0 f1) : w0.heap.size ≤ g := by
  obtain ⟨v, hb, hg, hr, hz⟩ := h
  exact hg
theorem IsS52.ne_blk {w0 W : World} {g : Nat} {f0 : ByteArray} {f1 : Int} {a : Nat} {cs : Array Value} {t : TypeId} {fr : Nat × Nat} (h : IsS52 w0 W g f0 f1) (hb2 : W.heap[a]? = some (.cells cs t fr)) (ht : t ≠ 52) : g ≠ a := by
  obtain ⟨v, hb, hg, hr, hz⟩ := h
  rintro rfl
  rw [hb] at hb2
  injection hb2 with hb2
  injection hb2 with _ ht2
  exact ht ht2.symm
theorem IsS52.far {w0 W : World} {g : Nat} {f0 : ByteArray} {f1 : Int} {p : Addr} (h : IsS52 w0 W g f0 f1) (hne : OffS52 W g (some p.block)) (u : Value) : IsS52 w0 (W.setCell p u) g f0 f1 := by
  obtain ⟨v, hb, hg, hr, hz⟩ := h
  exact ⟨v, blk_far hb (fun e => hne.1 (by rw [e])) u, hg, Kd.R_mono (Kd.R_far (Kd.R_bound hr) (fun k hk => by
    obtain ⟨_, _, _, q, hq, cs, hc⟩ := hk
    obtain rfl : q = 5 := by simpa [Kd.int, Kd.scalar] using hq
    exact fun e => hne.2 k cs hc (by rw [e])) u) (fun _ _ => trivial), hz⟩
theorem IsS52.set_1 {w0 W : World} {g : Nat} {f0 : ByteArray} {f1 : Int} (h : IsS52 w0 W g f0 f1) (x : Int) : IsS52 w0 (W.setCell ⟨g, 1, none⟩ (.int .i64 x)) g f0 x := by
  obtain ⟨v, hb, hg, hr, hz⟩ := h
  exact ⟨v, by simpa using blk_set hb 1 (.int .i64 x), hg, Kd.R_mono (Kd.R_far (Kd.R_types hr hb (by simp [Kd.int, Kd.scalar])) (fun k hk => hk.2) _) (fun _ _ => trivial), hz⟩
theorem IsS52.blk {w0 W : World} {g : Nat} {f0 : ByteArray} {f1 : Int} (h : IsS52 w0 W g f0 f1) : ∃ cs, W.heap[g]? = some (.cells cs 52 (0, 0)) := by
  obtain ⟨v, hb, _⟩ := h
  exact ⟨_, hb⟩
theorem IsS52.keepG {w0 W : World} {g : Nat} {f0 : ByteArray} {f1 : Int} {W1 : World} {g' : Nat} {cs : Array Value} {t : TypeId} (h : IsS52 w0 W g f0 f1) (hb' : W.heap[g']? = some (.cells cs t (0, 0))) (ht : t ≠ 52 ∧ t ≠ 5) (hk : KeepBut W W1 g' none) : IsS52 w0 W1 g f0 f1 := by
  obtain ⟨v, hb, hg, hr, hz⟩ := h
  exact ⟨v, hk.blk hb (blk_ne hb hb' (Ne.symm ht.1)) (by simp), hg, Kd.R_mono (Kd.R_keep (Kd.R_types hr hb' (by simp [Kd.int, Kd.scalar]; exact Ne.symm ht.2)) hk (fun _ hk => hk.2)) (fun _ _ => trivial), hz⟩
/-- All but a Writer's block and rows of bytes since w0 is as it was. -/
def KB (w0 w W : World) (g : Nat) : Prop := w.heap.size ≤ W.heap.size ∧ ∀ i, i < w.heap.size → i ≠ g → (i < w0.heap.size ∨ ∀ cs, w.heap[i]? ≠ some (.cells cs 5 (0, 0))) → W.heap[i]? = w.heap[i]?
theorem KB.R_keep {w0 W W1 : World} {g : Nat} {α : Type} {d : Kd α} {e : Nat} {base : Nat} {ok : Nat → Prop} {v : Value} {xs : List α} (ho : d.R e W base ok v xs) (hg : ∀ k, ok k → k ≠ g) (ht : ∀ q, q ∈ e :: d.E → q ≠ 5) (hk : KB w0 W W1 g) : d.R e W1 base ok v xs :=
  Kd.R_mono (Kd.R_step (Kd.R_bound ho) (fun k h hlt => by
    obtain ⟨h0, _, _, q, hq, cs, hc⟩ := h
    refine hk.2 k hlt (hg k h0) (.inr fun cs' hc' => ht q hq ?_)
    rw [hc] at hc'
    injection hc' with hc'
    injection hc')) (fun _ h => h.1)
theorem KB.blk {w0 w w1 : World} {g g' : Nat} {cs : Array Value} {t : TypeId} {fr : Nat × Nat} (h : KB w0 w w1 g) (hb : w.heap[g']? = some (.cells cs t fr)) (hg : g' ≠ g) (ht : t ≠ 5) : w1.heap[g']? = some (.cells cs t fr) :=
  (h.2 g' (blk_lt hb) hg (.inr fun cs' hc => ht (by rw [hb] at hc; injection hc with hc; injection hc))).trans hb
/-- The block of a Writer's row. -/
def rowAt (w : World) (g : Nat) : Option Nat := match w.heap[g]? with
  | some (.cells cs _ _) => (cs[0]?).bind Value.ownBlock
  | _ => none
theorem rowAt_of {w : World} {g : Nat} {v : Value} {x : Value} {t : TypeId} {fr : Nat × Nat} (h : w.heap[g]? = some (.cells #[v, x] t fr)) : rowAt w g = v.ownBlock := by
  unfold rowAt
  rw [h]
  rfl
theorem rowAt_eq {w w1 : World} {g : Nat} (h : w1.heap[g]? = w.heap[g]?) : rowAt w1 g = rowAt w g := by unfold rowAt; rw [h]
/-- The same, and all but that Writer's own row; its row is the same one, or new. -/
def KBe (w0 w W : World) (g : Nat) : Prop := KB w0 w W g ∧ (∀ i, i < w.heap.size → i ≠ g → some i ≠ rowAt w g → W.heap[i]? = w.heap[i]?) ∧ (∀ b, rowAt W g = some b → rowAt w g = some b ∨ w.heap.size ≤ b) ∧ g < w.heap.size
theorem KBe.refl (w0 : World) {w : World} {g : Nat} {f0 : ByteArray} {f1 : Int} (h : IsS52 w0 w g f0 f1) : KBe w0 w w g := ⟨⟨Nat.le_refl _, fun _ _ _ _ => rfl⟩, fun _ _ _ _ => rfl, fun _ h => .inl h, h.lt⟩
theorem KBe.trans {w0 w W W2 : World} {g : Nat} (h : KBe w0 w W g) (k : KBe w0 W W2 g) : KBe w0 w W2 g := by
  obtain ⟨⟨h1, h2⟩, h3, h4, h5⟩ := h
  obtain ⟨⟨k1, k2⟩, k3, k4, k5⟩ := k
  refine ⟨⟨Nat.le_trans h1 k1, fun i hi hg ho => (k2 i (Nat.lt_of_lt_of_le hi h1) hg (ho.imp id (fun hh cs hc => hh cs ((h2 i hi hg (.inr hh)).symm.trans hc)))).trans (h2 i hi hg ho)⟩, fun i hi hg hr => ?_, fun b hb => ?_, h5⟩
  · refine (k3 i (Nat.lt_of_lt_of_le hi h1) hg (fun e => ?_)).trans (h3 i hi hg hr)
    rcases h4 i e.symm with h | h
    · exact hr h.symm
    · omega
  · rcases k4 b hb with h | h
    · exact h4 b h
    · exact .inr (Nat.le_trans h1 h)
theorem KBe.below {w0 w W W1 : World} {g : Nat} (h : KBe w0 w W g) (hb : Below W.heap.size W W1) : KBe w0 w W1 g := by
  have hlt : g < W.heap.size := Nat.lt_of_lt_of_le h.2.2.2 h.1.1
  exact h.trans ⟨⟨hb.size, fun i hi _ _ => hb.block i hi⟩, fun i hi _ _ => hb.block i hi, fun b e => .inl (by rw [← rowAt_eq (hb.block g hlt)]; exact e), hlt⟩
theorem KBe.alloc {w0 w W : World} {g : Nat} (h : KBe w0 w W g) (o : Obj) : KBe w0 w (W.alloc o) g := h.below (below_alloc (Below.refl _ _) o)
theorem KBe.drewN {w0 w W : World} {g : Nat} (h : KBe w0 w W g) (m : Nat) : KBe w0 w (W.drewN m) g := h
theorem KBe.drew {w0 w W : World} {g : Nat} (h : KBe w0 w W g) : KBe w0 w W.drew g := h
theorem KBe.at_ {w0 w W W' : World} {g m : Nat} (hq : W.drewN m = W') (h : KBe w0 w W g) : KBe w0 w W' g := by subst hq; exact h
theorem KBe.keep0 {w0 W W1 : World} {g : Nat} {f0 : ByteArray} {f1 : Int} (h : KBe w0 W W1 g) (hI : IsS52 w0 W g f0 f1) (hz : f0.size = 0) : KeepBut W W1 g none := by
  obtain ⟨v, hb, _, _, h0⟩ := hI
  have e := rowAt_of hb
  rw [h0 hz] at e
  exact ⟨h.1.1, fun i hi hg _ => h.2.1 i hi hg (by rw [e]; simp [Value.ownBlock])⟩
theorem IsS52.older {w0 w1 W : World} {g : Nat} {f0 : ByteArray} {f1 : Int} (h : IsS52 w1 W g f0 f1) (hw : w0.heap.size ≤ w1.heap.size) : IsS52 w0 W g f0 f1 := by
  obtain ⟨v, hb, hg, hr, hz⟩ := h
  exact ⟨v, hb, Nat.le_trans hw hg, Kd.R_lower hr hw, hz⟩
theorem IsS52.keepN {w0 W : World} {g : Nat} {f0 : ByteArray} {f1 : Int} {W1 : World} {g' : Nat} {cs : Array Value} (h : IsS52 w0 W g f0 f1) (hb' : W.heap[g']? = some (.cells cs 52 (0, 0))) (hne : g ≠ g') (hk : KeepBut W W1 g' none) : IsS52 w0 W1 g f0 f1 := by
  obtain ⟨v, hb, hg, hr, hz⟩ := h
  exact ⟨v, hk.blk hb hne (by simp), hg, Kd.R_mono (Kd.R_keep (Kd.R_types hr hb' (by simp [Kd.int, Kd.scalar])) hk (fun _ hk => hk.2)) (fun _ _ => trivial), hz⟩
/-- Two Writers' rows are not the same. -/
def RowsApart (W : World) (g g' : Nat) : Prop := ∀ b, rowAt W g = some b → rowAt W g' ≠ some b
theorem RowsApart.symm {W : World} {g g' : Nat} (h : RowsApart W g g') : RowsApart W g' g := fun b h1 h2 => h b h2 h1
theorem RowsApart.init {w0 W : World} {g g' : Nat} {f0 : ByteArray} {f1 : Int} (hI : IsS52 w0 W g' f0 f1) (hz : f0.size = 0) : RowsApart W g g' := by
  obtain ⟨v, hb, _, _, h0⟩ := hI
  intro b _ h2
  rw [rowAt_of hb, h0 hz] at h2
  simp [Value.ownBlock] at h2
theorem IsS52.keepW {w0 W : World} {g : Nat} {f0 : ByteArray} {f1 : Int} {W1 : World} {g' : Nat} {e0 : ByteArray} {e1 : Int} (h : IsS52 w0 W g f0 f1) (hI : IsS52 w0 W g' e0 e1) (hne : g ≠ g') (hap : RowsApart W g g') (hk : KBe w0 W W1 g') : IsS52 w0 W1 g f0 f1 := by
  obtain ⟨v, hb, hg, hr, hz⟩ := h
  obtain ⟨cs, hb'⟩ := hI.blk
  have h1 : Kd.R (Kd.int .u8) 5 W w0.heap.size (fun k => v.ownBlock = some k) v (bytesOf f0) := ⟨fun k hk => hk, hr.2.imp_ (fun _ _ hp => hp)⟩
  have h2 := Kd.R_types h1 hb' (by simp [Kd.int, Kd.scalar])
  exact ⟨v, KB.blk hk.1 hb hne (by decide), hg, Kd.R_mono (Kd.R_step h2 (fun k hk' hlt => hk.2.1 k hlt hk'.2 (fun e => hap k (by rw [rowAt_of hb]; exact hk'.1) e.symm))) (fun _ _ => trivial), hz⟩
theorem RowsApart.put {w0 W : World} {g : Nat} {f0 : ByteArray} {f1 : Int} {W1 : World} {g' : Nat} (h : IsS52 w0 W g f0 f1) (hne : g ≠ g') (hap : RowsApart W g g') (hk : KBe w0 W W1 g') : RowsApart W1 g g' := by
  obtain ⟨v, hb, hg, hr, hz⟩ := h
  intro b h1 h2
  have hb1 := KB.blk hk.1 hb hne (by decide)
  rw [rowAt_of hb1] at h1
  rcases hk.2.2.1 b h2 with h | h
  · exact hap b (by rw [rowAt_of hb]; exact h1) h
  · exact absurd (Kd.R_lt hr b h1) (Nat.not_lt.2 h)

/-! ### bits_New: function 10 -/
def bits_New.f : Option (ByteArray × Int) := some (⟨#[]⟩, 0)
set_option maxRecDepth 100000 in
theorem bits_New.calls (r1 : ByteArray) (r2 : Int) (w0 w : World) (hB : Below w0.heap.size w0 w) (h : bits_New.f = some (r1, r2)) :
    Calls Try.prog 10 #[] w fun e w' => ∃ g_ : Nat, e = .returned (.pointer (some ⟨g_, 0, none⟩)) ∧ IsS52 w0 w' g_ r1 r2 ∧ Below w0.heap.size w0 w' ∧ Below w.heap.size w w' := by
  have hu := Try.underlying52
  have HBW := Aside0.mk (Below.refl w.heap.size w)
  have HW0 := Aside0.mk hB.size
  have HB := Aside0.mk hB
  clear hB
  simp only [bits_New.f, Option.some.injEq, Prod.mk.injEq] at h
  obtain ⟨rfl, rfl⟩ := h
  go_enter Try.func10, Try.ntmps10
  go_wp2_with (first | ((with_reducible refine gate_dst (N := 2) rfl ?_); refine box_event ?hg (N := 2) ?hd (cs := #[.slice none 0 0, .int .i64 0]) (t := 52) ?hr ?_; (case hd => rfl); (case hg => rfl); (case hr => first | (go_simp; done) | (go_simp; rfl)); intro gb101 hg w1 hbox hb; have n0_ := Aside0.mk (below_step HBW.out hb); have n1_ := Aside0.mk (below_step HB.out hb); have n2_ := Aside0.mk (hbox); have n3_ := Aside0.mk ((Nat.le_trans HW0.out (by rw [hg]; exact Nat.le_refl _) : w0.heap.size ≤ gb101)); clear HBW; clear HB; have HBW := n0_; have HB := n1_; have BK101 := n2_; have GE101 := n3_; clear n0_ n1_ n2_ n3_; clear hb hbox hg))
  go_ret
  exact ⟨_, rfl, ⟨.slice none 0 0, BK101.out, GE101.out, Kd.R_nil _ _ _ _ _, fun _ => rfl⟩, HB.out, HBW.out⟩


end Go.Proofs.Ytcdnabonljmegaa.PA
