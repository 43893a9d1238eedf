/- Each Go function named below comes to what the plain Lean function of its name answers, wherever that answers (rounds enough, no panic, no row too long); texts by a program of this session by way of the kit's print.py, what that does not take by hand. Condition: what is read lies in memory as each theorem says. -/
import Derived.Test.YtcdnabonljmegaaPAx0
namespace Go.Proofs.Ytcdnabonljmegaa.PA
open Go.RowKit Go.Proofs.YtcdnabonljmegaaW.PrintWords Go.Proofs.YtcdnabonljmegaaW.PrintLast Go.Proofs.YtcdnabonljmegaaW.PrintMore
attribute [local go_sem] max2_int min2_int max_two min_two max_three min_three max_four min_four   -- for this text's walks alone
set_option linter.unusedVariables false
set_option linter.unusedSimpArgs false

/-- Another block than a Reader's, and no row of bools. -/
def OffS49 (W : World) (g : Nat) (row : Option Nat) : Prop := some g ≠ row ∧ ∀ r cs, W.heap[r]? = some (.cells cs 4 (0, 0)) → some r ≠ row
/-- A Reader at block g of W: its bools lie in a row of its own, made since w0. -/
def IsS49 (w0 W : World) (g : Nat) (f0 : List Bool) (f1 : Int) (f2 : Int) : Prop := ∃ A0 c0, W.heap[g]? = some (.cells #[.slice A0 f0.length c0, .int .i64 f1, .int .i64 f2] 49 (0, 0)) ∧ w0.heap.size ≤ g ∧ Kd.R (Kd.bool) 4 W w0.heap.size (fun _ => True) (.slice A0 f0.length c0) f0
theorem IsS49.grown {w0 W : World} {g : Nat} {f0 : List Bool} {f1 : Int} {f2 : Int} {W1 : World} {row : Option Nat} (h : IsS49 w0 W g f0 f1 f2) (hw : W.grownBy W1 row) (hne : OffS49 W g row) : IsS49 w0 W1 g f0 f1 f2 := by
  obtain ⟨A0, c0, hb, hg, hr⟩ := h
  exact ⟨A0, c0, blk_grown hb hw hne.1, hg, Kd.R_mono (Kd.R_grown (Kd.R_bound hr) hw (fun k hk => by
    obtain ⟨_, _, _, q, hq, cs, hc⟩ := hk
    obtain rfl : q = 4 := by simpa [Kd.bool, Kd.scalar] using hq
    exact hne.2 k cs hc)) (fun _ _ => trivial)⟩
theorem IsS49.own_neN {w0 W : World} {g : Nat} {f0 : List Bool} {f1 : Int} {f2 : Int} {α : Type} {d : Kd α} {e : Nat} {base : Nat} {ok : Nat → Prop} {v : Value} {xs : List α} (h : IsS49 w0 W g f0 f1 f2) (ho : Kd.N d e W base ok v xs) (ht : e ≠ 49 ∧ e ≠ 4) : OffS49 W g v.ownBlock := by
  obtain ⟨A0, c0, hb, hg, hr⟩ := h
  exact ⟨Kd.N_ne ho hb ht.1, fun r cs hr => Kd.N_ne ho hr ht.2⟩
theorem IsS49.own_ne {w0 W : World} {g : Nat} {f0 : List Bool} {f1 : Int} {f2 : Int} {α : Type} {d : Kd α} {e : Nat} {base : Nat} {ok : Nat → Prop} {v : Value} {xs : List α} (h : IsS49 w0 W g f0 f1 f2) (ho : d.R e W base ok v xs) (ht : e ≠ 49 ∧ e ≠ 4) : OffS49 W g v.ownBlock := by
  obtain ⟨A0, c0, hb, hg, hr⟩ := h
  exact ⟨Kd.R_ne ho hb ht.1, fun r cs hr => Kd.R_ne ho hr ht.2⟩
theorem IsS49.own_neQ {w0 W : World} {g : Nat} {f0 : List Bool} {f1 : Int} {f2 : Int} {α : Type} {d : Kd α} {e : Nat} {base : Nat} {ok : Nat → Prop} {v : Value} {xs : List α} (h : IsS49 w0 W g f0 f1 f2) (ho : d.Q e W base ok v xs) (ht : e ≠ 49 ∧ e ≠ 4) : OffS49 W g v.ownBlock := by
  obtain ⟨A0, c0, hb, hg, hr⟩ := h
  exact ⟨Kd.Q_ne ho hb ht.1, fun r cs hr => Kd.Q_ne ho hr ht.2⟩
theorem IsS49.own_neS {w0 W : World} {g : Nat} {f0 : List Bool} {f1 : Int} {f2 : Int} {α : Type} {d : Kd α} {e : Nat} {base : Nat} {ok : Nat → Prop} {v : Value} {xs : List α} (h : IsS49 w0 W g f0 f1 f2) (ho : d.S e W base ok v xs) (ht : e ≠ 49 ∧ e ≠ 4) : OffS49 W g v.ownBlock := by
  obtain ⟨A0, c0, hb, hg, hr⟩ := h
  exact ⟨Kd.S_ne ho hb ht.1, fun r cs hr => Kd.S_ne ho hr ht.2⟩
theorem IsS49.fresh {w0 W : World} {g : Nat} {f0 : List Bool} {f1 : Int} {f2 : Int} (h : IsS49 w0 W g f0 f1 f2) : ∀ k, W.heap.size ≤ k → k ≠ g := by
  obtain ⟨A0, c0, hb, hg, hr⟩ := h
  exact Kd.freshB hb
theorem IsS49.below {w0 W : World} {g : Nat} {f0 : List Bool} {f1 : Int} {f2 : Int} {W1 : World} (h : IsS49 w0 W g f0 f1 f2) (hw : Below W.heap.size W W1) : IsS49 w0 W1 g f0 f1 f2 := h.grown (grown_of_below hw none) ⟨by simp, fun _ _ _ => by simp⟩
theorem IsS49.alloc {w0 W : World} {g : Nat} {f0 : List Bool} {f1 : Int} {f2 : Int} (h : IsS49 w0 W g f0 f1 f2) (o : Obj) : IsS49 w0 (W.alloc o) g f0 f1 f2 := h.below (below_alloc (Below.refl _ _) o)
theorem IsS49.drewN {w0 W : World} {g : Nat} {f0 : List Bool} {f1 : Int} {f2 : Int} (h : IsS49 w0 W g f0 f1 f2) (m : Nat) : IsS49 w0 (W.drewN m) g f0 f1 f2 := h
theorem IsS49.drew {w0 W : World} {g : Nat} {f0 : List Bool} {f1 : Int} {f2 : Int} (h : IsS49 w0 W g f0 f1 f2) : IsS49 w0 W.drew g f0 f1 f2 := h
theorem IsS49.at_ {w0 W : World} {g : Nat} {f0 : List Bool} {f1 : Int} {f2 : Int} {w' : World} {m : Nat} (hq : W.drewN m = w') (h : IsS49 w0 W g f0 f1 f2) : IsS49 w0 w' g f0 f1 f2 := by subst hq; exact IsS49.drewN h m
theorem IsS49.apart {w0 W : World} {g : Nat} {f0 : List Bool} {f1 : Int} {f2 : Int} {α : Type} {d : Kd α} {e : Nat} {base : Nat} {ok : Nat → Prop} {v : Value} {xs : List α} (h : IsS49 w0 W g f0 f1 f2) (ho : d.R e W base ok v xs) (ht : ∀ q, q ∈ e :: d.E → q ≠ 49) : d.R e W base (fun k => ok k ∧ k ≠ g) v xs := by
  obtain ⟨A0, c0, hb, hg, hr⟩ := h
  exact Kd.R_types ho hb ht
theorem IsS49.apartQ {w0 W : World} {g : Nat} {f0 : List Bool} {f1 : Int} {f2 : Int} {α : Type} {d : Kd α} {e : Nat} {base : Nat} {ok : Nat → Prop} {v : Value} {xs : List α} (h : IsS49 w0 W g f0 f1 f2) (ho : d.Q e W base ok v xs) (ht : ∀ q, q ∈ e :: d.E → q ≠ 49) : d.Q e W base (fun k => ok k ∧ k ≠ g) v xs := by
  obtain ⟨A0, c0, hb, hg, hr⟩ := h
  exact Kd.Q_types ho hb ht
theorem IsS49.apartS {w0 W : World} {g : Nat} {f0 : List Bool} {f1 : Int} {f2 : Int} {α : Type} {d : Kd α} {e : Nat} {base : Nat} {ok : Nat → Prop} {v : Value} {xs : List α} (h : IsS49 w0 W g f0 f1 f2) (ho : d.S e W base ok v xs) (ht : ∀ q, q ∈ e :: d.E → q ≠ 49) : d.S e W base (fun k => ok k ∧ k ≠ g) v xs := by
  obtain ⟨A0, c0, hb, hg, hr⟩ := h
  exact Kd.S_types ho hb ht
theorem IsS49.lt {w0 W : World} {g : Nat} {f0 : List Bool} {f1 : Int} {f2 : Int} (h : IsS49 w0 W g f0 f1 f2) : g < W.heap.size := by
  obtain ⟨A0, c0, hb, hg, hr⟩ := h
  exact blk_lt hb
theorem IsS49.ge {w0 W : World} {g : Nat} {f0 : List Bool} {f1 : Int} {f2 : Int} (h : IsS49 w0 W g f0 f1 f2) : w0.heap.size ≤ g := by
  obtain ⟨A0, c0, hb, hg, hr⟩ := h
  exact hg
theorem IsS49.ne_blk {w0 W : World} {g : Nat} {f0 : List Bool} {f1 : Int} {f2 : Int} {a : Nat} {cs : Array Value} {t : TypeId} {fr : Nat × Nat} (h : IsS49 w0 W g f0 f1 f2) (hb2 : W.heap[a]? = some (.cells cs t fr)) (ht : t ≠ 49) : g ≠ a := by
  obtain ⟨A0, c0, hb, hg, hr⟩ := h
  rintro rfl
  rw [hb] at hb2
  injection hb2 with hb2
  injection hb2 with _ ht2
  exact ht ht2.symm
theorem IsS49.far {w0 W : World} {g : Nat} {f0 : List Bool} {f1 : Int} {f2 : Int} {p : Addr} (h : IsS49 w0 W g f0 f1 f2) (hne : OffS49 W g (some p.block)) (u : Value) : IsS49 w0 (W.setCell p u) g f0 f1 f2 := by
  obtain ⟨A0, c0, hb, hg, hr⟩ := h
  exact ⟨A0, c0, blk_far hb (fun e => hne.1 (by rw [e])) u, hg, Kd.R_mono (Kd.R_far (Kd.R_bound hr) (fun k hk => by
    obtain ⟨_, _, _, q, hq, cs, hc⟩ := hk
    obtain rfl : q = 4 := by simpa [Kd.bool, Kd.scalar] using hq
    exact fun e => hne.2 k cs hc (by rw [e])) u) (fun _ _ => trivial)⟩
theorem IsS49.set_1 {w0 W : World} {g : Nat} {f0 : List Bool} {f1 : Int} {f2 : Int} (h : IsS49 w0 W g f0 f1 f2) (x : Int) : IsS49 w0 (W.setCell ⟨g, 1, none⟩ (.int .i64 x)) g f0 x f2 := by
  obtain ⟨A0, c0, hb, hg, hr⟩ := h
  exact ⟨A0, c0, by simpa using blk_set hb 1 (.int .i64 x), hg, Kd.R_mono (Kd.R_far (Kd.R_types hr hb (by simp [Kd.bool, Kd.scalar])) (fun k hk => hk.2) _) (fun _ _ => trivial)⟩
theorem IsS49.set_2 {w0 W : World} {g : Nat} {f0 : List Bool} {f1 : Int} {f2 : Int} (h : IsS49 w0 W g f0 f1 f2) (x : Int) : IsS49 w0 (W.setCell ⟨g, 2, none⟩ (.int .i64 x)) g f0 f1 x := by
  obtain ⟨A0, c0, hb, hg, hr⟩ := h
  exact ⟨A0, c0, by simpa using blk_set hb 2 (.int .i64 x), hg, Kd.R_mono (Kd.R_far (Kd.R_types hr hb (by simp [Kd.bool, Kd.scalar])) (fun k hk => hk.2) _) (fun _ _ => trivial)⟩
theorem cellS49_0 {W : World} {g : Nat} {A0 : Option Addr} {c0 : Nat} {f0 : List Bool} {f1 : Int} {f2 : Int} (h : W.heap[g]? = some (.cells #[.slice A0 f0.length c0, .int .i64 f1, .int .i64 f2] 49 (0, 0))) : W.cell? ⟨g, 0, none⟩ = some (.slice A0 f0.length c0) := (blk_cell h 0).trans rfl
theorem cellS49_1 {W : World} {g : Nat} {A0 : Option Addr} {c0 : Nat} {f0 : List Bool} {f1 : Int} {f2 : Int} (h : W.heap[g]? = some (.cells #[.slice A0 f0.length c0, .int .i64 f1, .int .i64 f2] 49 (0, 0))) : W.cell? ⟨g, 1, none⟩ = some (.int .i64 f1) := (blk_cell h 1).trans rfl
theorem cellS49_2 {W : World} {g : Nat} {A0 : Option Addr} {c0 : Nat} {f0 : List Bool} {f1 : Int} {f2 : Int} (h : W.heap[g]? = some (.cells #[.slice A0 f0.length c0, .int .i64 f1, .int .i64 f2] 49 (0, 0))) : W.cell? ⟨g, 2, none⟩ = some (.int .i64 f2) := (blk_cell h 2).trans rfl
theorem IsS49.blk {w0 W : World} {g : Nat} {f0 : List Bool} {f1 : Int} {f2 : Int} (h : IsS49 w0 W g f0 f1 f2) : ∃ cs, W.heap[g]? = some (.cells cs 49 (0, 0)) := by
  obtain ⟨A0, c0, hb, _⟩ := h
  exact ⟨_, hb⟩
theorem IsS49.keepG {w0 W : World} {g : Nat} {f0 : List Bool} {f1 : Int} {f2 : Int} {W1 : World} {g' : Nat} {cs : Array Value} {t : TypeId} (h : IsS49 w0 W g f0 f1 f2) (hb' : W.heap[g']? = some (.cells cs t (0, 0))) (ht : t ≠ 49 ∧ t ≠ 4) (hk : KeepBut W W1 g' none) : IsS49 w0 W1 g f0 f1 f2 := by
  obtain ⟨A0, c0, hb, hg, hr⟩ := h
  exact ⟨A0, c0, hk.blk hb (blk_ne hb hb' (Ne.symm ht.1)) (by simp), hg, Kd.R_mono (Kd.R_keep (Kd.R_types hr hb' (by simp [Kd.bool, Kd.scalar]; exact Ne.symm ht.2)) hk (fun _ hk => hk.2)) (fun _ _ => trivial)⟩
theorem IsS49.older {w0 w1 W : World} {g : Nat} {f0 : List Bool} {f1 : Int} {f2 : Int} (h : IsS49 w1 W g f0 f1 f2) (hw : w0.heap.size ≤ w1.heap.size) : IsS49 w0 W g f0 f1 f2 := by
  obtain ⟨A0, c0, hb, hg, hr⟩ := h
  exact ⟨A0, c0, hb, Nat.le_trans hw hg, Kd.R_lower hr hw⟩
theorem IsS49.keepN {w0 W : World} {g : Nat} {f0 : List Bool} {f1 : Int} {f2 : Int} {W1 : World} {g' : Nat} {cs : Array Value} (h : IsS49 w0 W g f0 f1 f2) (hb' : W.heap[g']? = some (.cells cs 49 (0, 0))) (hne : g ≠ g') (hk : KeepBut W W1 g' none) : IsS49 w0 W1 g f0 f1 f2 := by
  obtain ⟨A0, c0, hb, hg, hr⟩ := h
  exact ⟨A0, c0, hk.blk hb hne (by simp), hg, Kd.R_mono (Kd.R_keep (Kd.R_types hr hb' (by simp [Kd.bool, Kd.scalar])) hk (fun _ hk => hk.2)) (fun _ _ => trivial)⟩

/-! ### serinetteref01_Reader_Fill: function 26 -/
def serinetteref01_Reader_Fill.l0 : Nat → Int → List Bool → Int → Int → Option (Int × Int)
  | 0, _, _, _, _ => none
  | k + 1, x2, x1000, x1001, x1002 => if (Int.tmod x2 8) = 0 then (some (x2, x1002)) else (if 0 ≤ x2 then (if x2 < (x1000.length : Int) then (if rdOf false x1000 x2 = true then (some (x1001, 5)) else (serinetteref01_Reader_Fill.l0 k (wrap64 (x2 + 1)) x1000 x1001 x1002)) else (none)) else (none))
def serinetteref01_Reader_Fill.f (k : Nat) (s0_0 : List Bool) (s0_1 : Int) (s0_2 : Int) : Option (Int × Int) := if s0_2 = 0 then (serinetteref01_Reader_Fill.l0 k s0_1 s0_0 s0_1 s0_2) else (some (s0_1, s0_2))
theorem serinetteref01_Reader_Fill.mono_l : ∀ k, (∀ y0 y1 y2 y3, LeO (serinetteref01_Reader_Fill.l0 k y0 y1 y2 y3) (serinetteref01_Reader_Fill.l0 (k + 1) y0 y1 y2 y3))
  | 0 => fun _ _ _ _ r h => by simp [serinetteref01_Reader_Fill.l0] at h
  | k + 1 => by
    have ih0 := serinetteref01_Reader_Fill.mono_l k
    · intro y0 y1 y2 y3
      unfold serinetteref01_Reader_Fill.l0
      repeat' first
      | (with_reducible exact ih0 _ _ _ _)
      | (with_reducible exact LeO.refl _)
      | (with_reducible exact LeO.none _)
      | (with_reducible refine LeO.ite ?_ ?_)
      | (with_reducible refine LeO.bind ?_ (fun _ => ?_))
      | exact ih0 _ _ _ _
      | exact LeO.none _
      | refine LeO.ite ?_ ?_
      | refine LeO.bind ?_ (fun _ => ?_)
theorem serinetteref01_Reader_Fill.mono : ∀ a0 a1 a2 k, LeO (serinetteref01_Reader_Fill.f k a0 a1 a2) (serinetteref01_Reader_Fill.f (k + 1) a0 a1 a2) := by
  intro a0 a1 a2 k
  have ih0 := serinetteref01_Reader_Fill.mono_l k
  unfold serinetteref01_Reader_Fill.f
  repeat' first
      | (with_reducible exact ih0 _ _ _ _)
      | (with_reducible exact LeO.refl _)
      | (with_reducible exact LeO.none _)
      | (with_reducible refine LeO.ite ?_ ?_)
      | (with_reducible refine LeO.bind ?_ (fun _ => ?_))
      | exact ih0 _ _ _ _
      | exact LeO.none _
      | refine LeO.ite ?_ ?_
      | refine LeO.bind ?_ (fun _ => ?_)
set_option maxHeartbeats 8000000 in
set_option maxRecDepth 100000 in
theorem serinetteref01_Reader_Fill.calls (k : Nat) (g : Nat) (s0_0 : List Bool) (s0_1 : Int) (s0_2 : Int) (r1 : Int) (r2 : Int) (w0 w : World) (hI : IsS49 w0 w g s0_0 s0_1 s0_2) (hB : Below w0.heap.size w0 w) (h : serinetteref01_Reader_Fill.f k s0_0 s0_1 s0_2 = some (r1, r2)) :
    Calls Try.prog 26 #[.pointer (some ⟨g, 0, none⟩)] w fun e w' => e = .returned (.tuple #[]) ∧ IsS49 w0 w' g s0_0 r1 r2 ∧ Below w0.heap.size w0 w' ∧ KeepBut w w' g none := by
  have HI0 := Aside0.mk hI
  have HK := Aside0.mk (KeepBut.refl w g none)
  have HL := Aside0.mk hB.size
  clear hI
  have HW0 := Aside0.mk hB.size
  have HB := Aside0.mk hB
  clear hB
  have H : (if s0_2 = 0 then (serinetteref01_Reader_Fill.l0 k s0_1 s0_0 s0_1 s0_2) else (some (s0_1, s0_2))) = some (r1, r2) := h
  clear h
  by_cases c2 : s0_2 = 0
  · rw [if_pos c2] at H
    have c2b0 : (s0_2 == 0) = true := beq_iff_eq.mpr c2
    have c2b1 : (s0_2 != 0) = false := bne_eq_false_iff_eq.mpr c2
    clear c2
    have H' := Aside0.mk H
    clear H
    obtain ⟨ASz3_0, cSz3_0, HGz3, hgz3, HSz3_0⟩ := HI0.out
    have hcz3_0 := cellS49_0 HGz3
    have hcz3_1 := cellS49_1 HGz3
    have hcz3_2 := cellS49_2 HGz3
    have hfz3_1 := blk_frozen HGz3 1
    have hfz3_2 := blk_frozen HGz3 2
    clear HGz3 hgz3
    go_enter Try.func26, Try.ntmps26
    go_wp2
    go_loopg [2] k (fun kq v2 w' => ∃ (x2_1 : Int) (x1002_1 : Int), v2 = .int .i64 x2_1 ∧ Aside0 (serinetteref01_Reader_Fill.l0 kq x2_1 s0_0 s0_1 x1002_1 = some (r1, r2)) ∧ Aside0 (kq ≤ k) ∧ Aside0 (IsS49 w0 w' g s0_0 s0_1 x1002_1) ∧ Aside0 (KeepBut w w' g none) ∧ Aside0 (Below w0.heap.size w0 w'))
    case atStart => exact ⟨(s0_1), (s0_2), (by first | rfl | (simp; done) | (simp only [i64_w, i32_w]; done) | (simp [*]; done) | (simp only [i64_w, i32_w]; first | rfl | (simp; done) | (simp [*]; done))), H', ⟨Nat.le_refl _⟩, ⟨by repeat (first | (with_reducible first | exact HI0.out | apply IsS49.alloc | apply IsS49.drewN | apply IsS49.drew | apply IsS49.set_1 | apply IsS49.set_2) | exact HI0.out)⟩, ⟨by repeat (first | (with_reducible first | exact HK.out | apply KeepBut.set_ | apply keep_drewN | apply keep_drew | apply keep_alloc) | exact HK.out)⟩, ⟨by repeat (first | (with_reducible first | exact HB.out | apply below_alloc | apply pw_below_drewN | apply below_drew1 | refine below_set ?_ (IsS49.ge HI0.out)) | exact HB.out)⟩⟩
    case round =>
      clear H'
      try clear c2
      try clear c2b0
      try clear c2b1
      try clear p2
      try clear hcz3_0
      try clear hcz3_1
      try clear hcz3_2
      try clear hfz3_1
      try clear hfz3_2
      obtain ⟨x2_1, x1002_1, rfl, HA, HK1, HI0, HK, HB⟩ := hrel
      cases gk with
      | zero => exact absurd HA.out (by simp [serinetteref01_Reader_Fill.l0])
      | succ k1 =>
        have H := HA.out
        clear HA
        simp only [serinetteref01_Reader_Fill.l0] at H
        by_cases c4 : (Int.tmod x2_1 8) = 0
        · rw [if_pos c4] at H
          have c4b0 : ((Int.tmod x2_1 8) == 0) = true := beq_iff_eq.mpr c4
          have c4b1 : ((Int.tmod x2_1 8) != 0) = false := bne_eq_false_iff_eq.mpr c4
          clear c4
          simp only [Option.some.injEq, Prod.mk.injEq] at H
          obtain ⟨rfl, rfl⟩ := H
          obtain ⟨ASz5_0, cSz5_0, HGz5, hgz5, HSz5_0⟩ := HI0.out
          have hcz5_0 := cellS49_0 HGz5
          have hcz5_1 := cellS49_1 HGz5
          have hcz5_2 := cellS49_2 HGz5
          have hfz5_1 := blk_frozen HGz5 1
          have hfz5_2 := blk_frozen HGz5 2
          clear HGz5 hgz5
          go_wp2
          first | go_end0 | ((try simp only [Exit.inBlock, Exit.then]); refine bodyPost_ret (results_none rfl _ _ _) rfl ?_)
          exact ⟨by first | rfl | (simp [errW_none, errW_some] <;> rfl) | (simp [*, errW_none, errW_some] <;> rfl), by repeat (first | (with_reducible first | exact HI0.out | apply IsS49.alloc | apply IsS49.drewN | apply IsS49.drew | apply IsS49.set_1 | apply IsS49.set_2) | exact HI0.out), by repeat (first | (with_reducible first | exact HB.out | apply below_alloc | apply pw_below_drewN | apply below_drew1 | refine below_set ?_ (IsS49.ge HI0.out)) | exact HB.out), by repeat (first | (with_reducible first | exact HK.out | apply KeepBut.set_ | apply keep_drewN | apply keep_drew | apply keep_alloc) | exact HK.out)⟩
        · rw [if_neg c4] at H
          have c4b0 : ((Int.tmod x2_1 8) == 0) = false := beq_eq_false_iff_ne.mpr c4
          have c4b1 : ((Int.tmod x2_1 8) != 0) = true := bne_iff_ne.mpr c4
          by_cases c6 : 0 ≤ x2_1
          · rw [if_pos c6] at H
            have c6b0 : decide (0 ≤ x2_1) = true := decide_eq_true c6
            clear c6
            by_cases c7 : x2_1 < (s0_0.length : Int)
            · rw [if_pos c7] at H
              have c7b0 : decide (x2_1 < (s0_0.length : Int)) = true := decide_eq_true c7
              clear c7
              obtain ⟨bq8, hbq8⟩ : ∃ b_ : Bool, b_ = (rdOf false s0_0 x2_1) := ⟨_, rfl⟩
              replace H : (if bq8 = true then (some (s0_1, 5)) else (serinetteref01_Reader_Fill.l0 k1 (wrap64 (x2_1 + 1)) s0_0 s0_1 x1002_1)) = some (r1, r2) := by rw [← hbq8] at H; exact H
              have Nbq8 := Aside0.mk hbq8
              clear hbq8
              by_cases c9 : bq8 = true
              · subst c9
                have H1 : (some (s0_1, 5)) = some (r1, r2) := by rw [if_pos rfl] at H; exact H
                clear H
                have H := H1
                clear H1
                simp only [Option.some.injEq, Prod.mk.injEq] at H
                obtain ⟨rfl, rfl⟩ := H
                obtain ⟨ASz10_0, cSz10_0, HGz10, hgz10, HSz10_0⟩ := HI0.out
                have hcz10_0 := cellS49_0 HGz10
                have hcz10_1 := cellS49_1 HGz10
                have hcz10_2 := cellS49_2 HGz10
                have hfz10_1 := blk_frozen HGz10 1
                have hfz10_2 := blk_frozen HGz10 2
                clear HGz10 hgz10
                have p411 : 0 ≤ (x2_1 : Int) := of_decide_eq_true (by first | (with_reducible assumption) | assumption)
                have q411 : x2_1 < (s0_0.length : Int) := of_decide_eq_true (by first | (with_reducible assumption) | assumption)
                obtain ⟨ad411, e411, hx411_0⟩ := Kd.at_bool (Kd.R_reads' HSz10_0).2.2 x2_1 p411 q411
                (try rw [← Nbq8.out] at hx411_0)
                cases e411
                replace hx411_0 := hx411_0
                replace p411 := eq_true p411
                replace q411 := eq_true q411
                go_wp2
                first | go_end0 | ((try simp only [Exit.inBlock, Exit.then]); refine bodyPost_ret (results_none rfl _ _ _) rfl ?_)
                exact ⟨by first | rfl | (simp [errW_none, errW_some] <;> rfl) | (simp [*, errW_none, errW_some] <;> rfl), by repeat (first | (with_reducible first | exact HI0.out | apply IsS49.alloc | apply IsS49.drewN | apply IsS49.drew | apply IsS49.set_1 | apply IsS49.set_2) | exact HI0.out), by repeat (first | (with_reducible first | exact HB.out | apply below_alloc | apply pw_below_drewN | apply below_drew1 | refine below_set ?_ (IsS49.ge HI0.out)) | exact HB.out), by repeat (first | (with_reducible first | exact HK.out | apply KeepBut.set_ | apply keep_drewN | apply keep_drew | apply keep_alloc) | exact HK.out)⟩
              · replace c9 := Bool.eq_false_iff.mpr c9
                subst c9
                have H1 : (serinetteref01_Reader_Fill.l0 k1 (wrap64 (x2_1 + 1)) s0_0 s0_1 x1002_1) = some (r1, r2) := by rw [if_neg (show ¬ (false = true) by decide)] at H; exact H
                clear H
                have H := H1
                clear H1
                have H' := Aside0.mk H
                clear H
                obtain ⟨ASz11_0, cSz11_0, HGz11, hgz11, HSz11_0⟩ := HI0.out
                have hcz11_0 := cellS49_0 HGz11
                have hcz11_1 := cellS49_1 HGz11
                have hcz11_2 := cellS49_2 HGz11
                have hfz11_1 := blk_frozen HGz11 1
                have hfz11_2 := blk_frozen HGz11 2
                clear HGz11 hgz11
                have p411 : 0 ≤ (x2_1 : Int) := of_decide_eq_true (by first | (with_reducible assumption) | assumption)
                have q411 : x2_1 < (s0_0.length : Int) := of_decide_eq_true (by first | (with_reducible assumption) | assumption)
                obtain ⟨ad411, e411, hx411_0⟩ := Kd.at_bool (Kd.R_reads' HSz11_0).2.2 x2_1 p411 q411
                (try rw [← Nbq8.out] at hx411_0)
                cases e411
                replace hx411_0 := hx411_0
                replace p411 := eq_true p411
                replace q411 := eq_true q411
                go_wp2
                go_roundg k1
                case measure => have := HK1.out; omega
                case rel => exact ⟨(wrap64 (x2_1 + 1)), (x1002_1), (by first | rfl | (simp; done) | (simp only [i64_w, i32_w]; done) | (simp [*]; done) | (simp only [i64_w, i32_w]; first | rfl | (simp; done) | (simp [*]; done))), H', ⟨by have := HK1.out; omega⟩, ⟨by repeat (first | (with_reducible first | exact HI0.out | apply IsS49.alloc | apply IsS49.drewN | apply IsS49.drew | apply IsS49.set_1 | apply IsS49.set_2) | exact HI0.out)⟩, ⟨by repeat (first | (with_reducible first | exact HK.out | apply KeepBut.set_ | apply keep_drewN | apply keep_drew | apply keep_alloc) | exact HK.out)⟩, ⟨by repeat (first | (with_reducible first | exact HB.out | apply below_alloc | apply pw_below_drewN | apply below_drew1 | refine below_set ?_ (IsS49.ge HI0.out)) | exact HB.out)⟩⟩
            · rw [if_neg c7] at H
              exact absurd H (by simp)
          · rw [if_neg c6] at H
            exact absurd H (by simp)
  · rw [if_neg c2] at H
    have c2b0 : (s0_2 == 0) = false := beq_eq_false_iff_ne.mpr c2
    have c2b1 : (s0_2 != 0) = true := bne_iff_ne.mpr c2
    simp only [Option.some.injEq, Prod.mk.injEq] at H
    obtain ⟨rfl, rfl⟩ := H
    obtain ⟨ASz12_0, cSz12_0, HGz12, hgz12, HSz12_0⟩ := HI0.out
    have hcz12_0 := cellS49_0 HGz12
    have hcz12_1 := cellS49_1 HGz12
    have hcz12_2 := cellS49_2 HGz12
    have hfz12_1 := blk_frozen HGz12 1
    have hfz12_2 := blk_frozen HGz12 2
    clear HGz12 hgz12
    go_enter Try.func26, Try.ntmps26
    go_wp2
    first | go_end0 | ((try simp only [Exit.inBlock, Exit.then]); refine bodyPost_ret (results_none rfl _ _ _) rfl ?_)
    exact ⟨by first | rfl | (simp [errW_none, errW_some] <;> rfl) | (simp [*, errW_none, errW_some] <;> rfl), by repeat (first | (with_reducible first | exact HI0.out | apply IsS49.alloc | apply IsS49.drewN | apply IsS49.drew | apply IsS49.set_1 | apply IsS49.set_2) | exact HI0.out), by repeat (first | (with_reducible first | exact HB.out | apply below_alloc | apply pw_below_drewN | apply below_drew1 | refine below_set ?_ (IsS49.ge HI0.out)) | exact HB.out), by repeat (first | (with_reducible first | exact HK.out | apply KeepBut.set_ | apply keep_drewN | apply keep_drew | apply keep_alloc) | exact HK.out)⟩

end Go.Proofs.Ytcdnabonljmegaa.PA
