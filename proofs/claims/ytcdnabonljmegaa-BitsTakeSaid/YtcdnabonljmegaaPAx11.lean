/- Each Go function named below comes to what the plain Lean function of its name answers, wherever that answers (rounds enough, no panic, no row too long); texts by a program of this session by way of the kit's print.py, what that does not take by hand. Condition: what is read lies in memory as each theorem says. -/
import Derived.Test.YtcdnabonljmegaaPAx0
import Derived.Test.YtcdnabonljmegaaPAx6
namespace Go.Proofs.Ytcdnabonljmegaa.PA
open Go.RowKit Go.Proofs.YtcdnabonljmegaaW.PrintWords Go.Proofs.YtcdnabonljmegaaW.PrintLast Go.Proofs.YtcdnabonljmegaaW.PrintMore
attribute [local go_sem] max2_int min2_int max_two min_two max_three min_three max_four min_four   -- for this text's walks alone
set_option linter.unusedVariables false
set_option linter.unusedSimpArgs false

/-- Another block than a Reader's, and no row of bytes. -/
def OffS57 (W : World) (g : Nat) (row : Option Nat) : Prop := some g ≠ row ∧ ∀ r cs, W.heap[r]? = some (.cells cs 5 (0, 0)) → some r ≠ row
/-- A Reader at block g of W: its bytes lie in a row of its own, made since w0. -/
def IsS57 (w0 W : World) (g : Nat) (f0 : List Int) (f1 : Int) (f2 : Int) : Prop := ∃ A0 c0, W.heap[g]? = some (.cells #[.slice A0 f0.length c0, .int .i64 f1, .int .i64 f2] 57 (0, 0)) ∧ w0.heap.size ≤ g ∧ Kd.R (Kd.int .u8) 5 W w0.heap.size (fun _ => True) (.slice A0 f0.length c0) f0
theorem IsS57.grown {w0 W : World} {g : Nat} {f0 : List Int} {f1 : Int} {f2 : Int} {W1 : World} {row : Option Nat} (h : IsS57 w0 W g f0 f1 f2) (hw : W.grownBy W1 row) (hne : OffS57 W g row) : IsS57 w0 W1 g f0 f1 f2 := by
  obtain ⟨A0, c0, hb, hg, hr⟩ := h
  exact ⟨A0, c0, blk_grown hb hw hne.1, hg, Kd.R_mono (Kd.R_grown (Kd.R_bound hr) hw (fun k hk => by
    obtain ⟨_, _, _, q, hq, cs, hc⟩ := hk
    obtain rfl : q = 5 := by simpa [Kd.int, Kd.scalar] using hq
    exact hne.2 k cs hc)) (fun _ _ => trivial)⟩
theorem IsS57.own_neN {w0 W : World} {g : Nat} {f0 : List Int} {f1 : Int} {f2 : Int} {α : Type} {d : Kd α} {e : Nat} {base : Nat} {ok : Nat → Prop} {v : Value} {xs : List α} (h : IsS57 w0 W g f0 f1 f2) (ho : Kd.N d e W base ok v xs) (ht : e ≠ 57 ∧ e ≠ 5) : OffS57 W g v.ownBlock := by
  obtain ⟨A0, c0, hb, hg, hr⟩ := h
  exact ⟨Kd.N_ne ho hb ht.1, fun r cs hr => Kd.N_ne ho hr ht.2⟩
theorem IsS57.own_ne {w0 W : World} {g : Nat} {f0 : List Int} {f1 : Int} {f2 : Int} {α : Type} {d : Kd α} {e : Nat} {base : Nat} {ok : Nat → Prop} {v : Value} {xs : List α} (h : IsS57 w0 W g f0 f1 f2) (ho : d.R e W base ok v xs) (ht : e ≠ 57 ∧ e ≠ 5) : OffS57 W g v.ownBlock := by
  obtain ⟨A0, c0, hb, hg, hr⟩ := h
  exact ⟨Kd.R_ne ho hb ht.1, fun r cs hr => Kd.R_ne ho hr ht.2⟩
theorem IsS57.own_neQ {w0 W : World} {g : Nat} {f0 : List Int} {f1 : Int} {f2 : Int} {α : Type} {d : Kd α} {e : Nat} {base : Nat} {ok : Nat → Prop} {v : Value} {xs : List α} (h : IsS57 w0 W g f0 f1 f2) (ho : d.Q e W base ok v xs) (ht : e ≠ 57 ∧ e ≠ 5) : OffS57 W g v.ownBlock := by
  obtain ⟨A0, c0, hb, hg, hr⟩ := h
  exact ⟨Kd.Q_ne ho hb ht.1, fun r cs hr => Kd.Q_ne ho hr ht.2⟩
theorem IsS57.own_neS {w0 W : World} {g : Nat} {f0 : List Int} {f1 : Int} {f2 : Int} {α : Type} {d : Kd α} {e : Nat} {base : Nat} {ok : Nat → Prop} {v : Value} {xs : List α} (h : IsS57 w0 W g f0 f1 f2) (ho : d.S e W base ok v xs) (ht : e ≠ 57 ∧ e ≠ 5) : OffS57 W g v.ownBlock := by
  obtain ⟨A0, c0, hb, hg, hr⟩ := h
  exact ⟨Kd.S_ne ho hb ht.1, fun r cs hr => Kd.S_ne ho hr ht.2⟩
theorem IsS57.fresh {w0 W : World} {g : Nat} {f0 : List Int} {f1 : Int} {f2 : Int} (h : IsS57 w0 W g f0 f1 f2) : ∀ k, W.heap.size ≤ k → k ≠ g := by
  obtain ⟨A0, c0, hb, hg, hr⟩ := h
  exact Kd.freshB hb
theorem IsS57.below {w0 W : World} {g : Nat} {f0 : List Int} {f1 : Int} {f2 : Int} {W1 : World} (h : IsS57 w0 W g f0 f1 f2) (hw : Below W.heap.size W W1) : IsS57 w0 W1 g f0 f1 f2 := h.grown (grown_of_below hw none) ⟨by simp, fun _ _ _ => by simp⟩
theorem IsS57.alloc {w0 W : World} {g : Nat} {f0 : List Int} {f1 : Int} {f2 : Int} (h : IsS57 w0 W g f0 f1 f2) (o : Obj) : IsS57 w0 (W.alloc o) g f0 f1 f2 := h.below (below_alloc (Below.refl _ _) o)
theorem IsS57.drewN {w0 W : World} {g : Nat} {f0 : List Int} {f1 : Int} {f2 : Int} (h : IsS57 w0 W g f0 f1 f2) (m : Nat) : IsS57 w0 (W.drewN m) g f0 f1 f2 := h
theorem IsS57.drew {w0 W : World} {g : Nat} {f0 : List Int} {f1 : Int} {f2 : Int} (h : IsS57 w0 W g f0 f1 f2) : IsS57 w0 W.drew g f0 f1 f2 := h
theorem IsS57.at_ {w0 W : World} {g : Nat} {f0 : List Int} {f1 : Int} {f2 : Int} {w' : World} {m : Nat} (hq : W.drewN m = w') (h : IsS57 w0 W g f0 f1 f2) : IsS57 w0 w' g f0 f1 f2 := by subst hq; exact IsS57.drewN h m
theorem IsS57.apart {w0 W : World} {g : Nat} {f0 : List Int} {f1 : Int} {f2 : Int} {α : Type} {d : Kd α} {e : Nat} {base : Nat} {ok : Nat → Prop} {v : Value} {xs : List α} (h : IsS57 w0 W g f0 f1 f2) (ho : d.R e W base ok v xs) (ht : ∀ q, q ∈ e :: d.E → q ≠ 57) : d.R e W base (fun k => ok k ∧ k ≠ g) v xs := by
  obtain ⟨A0, c0, hb, hg, hr⟩ := h
  exact Kd.R_types ho hb ht
theorem IsS57.apartQ {w0 W : World} {g : Nat} {f0 : List Int} {f1 : Int} {f2 : Int} {α : Type} {d : Kd α} {e : Nat} {base : Nat} {ok : Nat → Prop} {v : Value} {xs : List α} (h : IsS57 w0 W g f0 f1 f2) (ho : d.Q e W base ok v xs) (ht : ∀ q, q ∈ e :: d.E → q ≠ 57) : d.Q e W base (fun k => ok k ∧ k ≠ g) v xs := by
  obtain ⟨A0, c0, hb, hg, hr⟩ := h
  exact Kd.Q_types ho hb ht
theorem IsS57.apartS {w0 W : World} {g : Nat} {f0 : List Int} {f1 : Int} {f2 : Int} {α : Type} {d : Kd α} {e : Nat} {base : Nat} {ok : Nat → Prop} {v : Value} {xs : List α} (h : IsS57 w0 W g f0 f1 f2) (ho : d.S e W base ok v xs) (ht : ∀ q, q ∈ e :: d.E → q ≠ 57) : d.S e W base (fun k => ok k ∧ k ≠ g) v xs := by
  obtain ⟨A0, c0, hb, hg, hr⟩ := h
  exact Kd.S_types ho hb ht
theorem IsS57.lt {w0 W : World} {g : Nat} {f0 : List Int} {f1 : Int} {f2 : Int} (h : IsS57 w0 W g f0 f1 f2) : g < W.heap.size := by
  obtain ⟨A0, c0, hb, hg, hr⟩ := h
  exact blk_lt hb
theorem IsS57.ge {w0 W : World} {g : Nat} {f0 : List Int} {f1 : Int} {f2 : Int} (h : IsS57 w0 W g f0 f1 f2) : w0.heap.size ≤ g := by
  obtain ⟨A0, c0, hb, hg, hr⟩ := h
  exact hg
theorem IsS57.ne_blk {w0 W : World} {g : Nat} {f0 : List Int} {f1 : Int} {f2 : Int} {a : Nat} {cs : Array Value} {t : TypeId} {fr : Nat × Nat} (h : IsS57 w0 W g f0 f1 f2) (hb2 : W.heap[a]? = some (.cells cs t fr)) (ht : t ≠ 57) : g ≠ a := by
  obtain ⟨A0, c0, hb, hg, hr⟩ := h
  rintro rfl
  rw [hb] at hb2
  injection hb2 with hb2
  injection hb2 with _ ht2
  exact ht ht2.symm
theorem IsS57.far {w0 W : World} {g : Nat} {f0 : List Int} {f1 : Int} {f2 : Int} {p : Addr} (h : IsS57 w0 W g f0 f1 f2) (hne : OffS57 W g (some p.block)) (u : Value) : IsS57 w0 (W.setCell p u) g f0 f1 f2 := by
  obtain ⟨A0, c0, hb, hg, hr⟩ := h
  exact ⟨A0, c0, blk_far hb (fun e => hne.1 (by rw [e])) u, hg, Kd.R_mono (Kd.R_far (Kd.R_bound hr) (fun k hk => by
    obtain ⟨_, _, _, q, hq, cs, hc⟩ := hk
    obtain rfl : q = 5 := by simpa [Kd.int, Kd.scalar] using hq
    exact fun e => hne.2 k cs hc (by rw [e])) u) (fun _ _ => trivial)⟩
theorem IsS57.set_1 {w0 W : World} {g : Nat} {f0 : List Int} {f1 : Int} {f2 : Int} (h : IsS57 w0 W g f0 f1 f2) (x : Int) : IsS57 w0 (W.setCell ⟨g, 1, none⟩ (.int .i64 x)) g f0 x f2 := by
  obtain ⟨A0, c0, hb, hg, hr⟩ := h
  exact ⟨A0, c0, by simpa using blk_set hb 1 (.int .i64 x), hg, Kd.R_mono (Kd.R_far (Kd.R_types hr hb (by simp [Kd.int, Kd.scalar])) (fun k hk => hk.2) _) (fun _ _ => trivial)⟩
theorem IsS57.set_2 {w0 W : World} {g : Nat} {f0 : List Int} {f1 : Int} {f2 : Int} (h : IsS57 w0 W g f0 f1 f2) (x : Int) : IsS57 w0 (W.setCell ⟨g, 2, none⟩ (.int .i64 x)) g f0 f1 x := by
  obtain ⟨A0, c0, hb, hg, hr⟩ := h
  exact ⟨A0, c0, by simpa using blk_set hb 2 (.int .i64 x), hg, Kd.R_mono (Kd.R_far (Kd.R_types hr hb (by simp [Kd.int, Kd.scalar])) (fun k hk => hk.2) _) (fun _ _ => trivial)⟩
theorem cellS57_0 {W : World} {g : Nat} {A0 : Option Addr} {c0 : Nat} {f0 : List Int} {f1 : Int} {f2 : Int} (h : W.heap[g]? = some (.cells #[.slice A0 f0.length c0, .int .i64 f1, .int .i64 f2] 57 (0, 0))) : W.cell? ⟨g, 0, none⟩ = some (.slice A0 f0.length c0) := (blk_cell h 0).trans rfl
theorem cellS57_1 {W : World} {g : Nat} {A0 : Option Addr} {c0 : Nat} {f0 : List Int} {f1 : Int} {f2 : Int} (h : W.heap[g]? = some (.cells #[.slice A0 f0.length c0, .int .i64 f1, .int .i64 f2] 57 (0, 0))) : W.cell? ⟨g, 1, none⟩ = some (.int .i64 f1) := (blk_cell h 1).trans rfl
theorem cellS57_2 {W : World} {g : Nat} {A0 : Option Addr} {c0 : Nat} {f0 : List Int} {f1 : Int} {f2 : Int} (h : W.heap[g]? = some (.cells #[.slice A0 f0.length c0, .int .i64 f1, .int .i64 f2] 57 (0, 0))) : W.cell? ⟨g, 2, none⟩ = some (.int .i64 f2) := (blk_cell h 2).trans rfl
theorem IsS57.blk {w0 W : World} {g : Nat} {f0 : List Int} {f1 : Int} {f2 : Int} (h : IsS57 w0 W g f0 f1 f2) : ∃ cs, W.heap[g]? = some (.cells cs 57 (0, 0)) := by
  obtain ⟨A0, c0, hb, _⟩ := h
  exact ⟨_, hb⟩
theorem IsS57.keepG {w0 W : World} {g : Nat} {f0 : List Int} {f1 : Int} {f2 : Int} {W1 : World} {g' : Nat} {cs : Array Value} {t : TypeId} (h : IsS57 w0 W g f0 f1 f2) (hb' : W.heap[g']? = some (.cells cs t (0, 0))) (ht : t ≠ 57 ∧ t ≠ 5) (hk : KeepBut W W1 g' none) : IsS57 w0 W1 g f0 f1 f2 := by
  obtain ⟨A0, c0, hb, hg, hr⟩ := h
  exact ⟨A0, c0, hk.blk hb (blk_ne hb hb' (Ne.symm ht.1)) (by simp), hg, Kd.R_mono (Kd.R_keep (Kd.R_types hr hb' (by simp [Kd.int, Kd.scalar]; exact Ne.symm ht.2)) hk (fun _ hk => hk.2)) (fun _ _ => trivial)⟩
theorem IsS57.older {w0 w1 W : World} {g : Nat} {f0 : List Int} {f1 : Int} {f2 : Int} (h : IsS57 w1 W g f0 f1 f2) (hw : w0.heap.size ≤ w1.heap.size) : IsS57 w0 W g f0 f1 f2 := by
  obtain ⟨A0, c0, hb, hg, hr⟩ := h
  exact ⟨A0, c0, hb, Nat.le_trans hw hg, Kd.R_lower hr hw⟩
theorem IsS57.keepN {w0 W : World} {g : Nat} {f0 : List Int} {f1 : Int} {f2 : Int} {W1 : World} {g' : Nat} {cs : Array Value} (h : IsS57 w0 W g f0 f1 f2) (hb' : W.heap[g']? = some (.cells cs 57 (0, 0))) (hne : g ≠ g') (hk : KeepBut W W1 g' none) : IsS57 w0 W1 g f0 f1 f2 := by
  obtain ⟨A0, c0, hb, hg, hr⟩ := h
  exact ⟨A0, c0, hk.blk hb hne (by simp), hg, Kd.R_mono (Kd.R_keep (Kd.R_types hr hb' (by simp [Kd.int, Kd.scalar])) hk (fun _ hk => hk.2)) (fun _ _ => trivial)⟩

/-! ### bits_Open: function 18 -/
def bits_Open.f (l0 : List Int) : Option (List Int × Int × Int) := (bytes_Clone.f l0).map fun r => (r, 0, 0)
set_option maxRecDepth 100000 in
theorem bits_Open.calls (A0 : Option Addr) (c0 : Nat) (l0 : List Int) (r1 : List Int) (r2 : Int) (r3 : Int) (w0 w : World) (hB : Below w0.heap.size w0 w) (hr0 : Kd.C (Kd.int .u8) w A0 l0.length l0) (hc0 : l0.length ≤ c0) (h : bits_Open.f l0 = some (r1, r2, r3)) :
    Calls Try.prog 18 #[.slice A0 l0.length c0] w fun e w' => ∃ g_ : Nat, e = .returned (.pointer (some ⟨g_, 0, none⟩)) ∧ IsS57 w0 w' g_ r1 r2 r3 ∧ Below w0.heap.size w0 w' ∧ Below w.heap.size w w' := by
  have hu := Try.underlying57
  have HW0 := Aside0.mk hB.size
  have HB := Aside0.mk hB
  clear hB
  obtain ⟨r, hc, he⟩ := Option.map_eq_some_iff.1 h
  simp only [Prod.mk.injEq] at he
  obtain ⟨rfl, rfl, rfl⟩ := he
  clear h
  have HC := Aside0.mk (bytes_Clone.calls A0 c0 l0 r w hr0 hc0 hc)
  clear hr0 hc0 hc
  go_enter Try.func18, Try.ntmps18
  go_wp2_with (first | (go_at_call 31; (with_reducible refine HC.out.mono ?_); rintro e w1 ⟨v0, rfl, ho, hb⟩; obtain ⟨A, c, eA⟩ := Kd.R_slice ho; subst eA; have HO := Aside0.mk ho; have HBB := Aside0.mk hb; clear ho hb) | ((with_reducible refine gate_dst (N := 6) rfl ?_); refine box_event ?hg (N := 6) ?hd (cs := #[.slice A r.length c, .int .i64 0, .int .i64 0]) (t := 57) ?hr ?_; (case hd => rfl); (case hg => rfl); (case hr => first | (go_simp; done) | (go_simp; rfl)); intro gb101 hg w2 hbox hb; have HBX := Aside0.mk hbox; have HB2 := Aside0.mk hb; have HG := Aside0.mk (show w0.heap.size ≤ gb101 from Nat.le_trans HW0.out (Nat.le_trans HBB.out.size (by rw [hg]; exact Nat.le_refl _))); clear hbox hb hg))
  go_ret
  exact ⟨_, rfl, ⟨A, c, HBX.out, HG.out, Kd.R_lower (Kd.R_below HO.out HB2.out) HW0.out⟩, below_step (below_step HB.out HBB.out) HB2.out, below_step HBB.out HB2.out⟩


/-! ### bits_Reader_Left: function 22 -/
def bits_Reader_Left.f (s0_0 : List Int) (s0_1 : Int) (s0_2 : Int) : Option (Int × Int × Int) := some (wrap64 ((wrap64 (8 * (s0_0.length : Int))) - s0_1), s0_1, s0_2)
set_option maxHeartbeats 8000000 in
set_option maxRecDepth 100000 in
theorem bits_Reader_Left.calls (g : Nat) (s0_0 : List Int) (s0_1 : Int) (s0_2 : Int) (r1 : Int) (r2 : Int) (r3 : Int) (w0 w : World) (hI : IsS57 w0 w g s0_0 s0_1 s0_2) (hB : Below w0.heap.size w0 w) (h : bits_Reader_Left.f s0_0 s0_1 s0_2 = some (r1, r2, r3)) :
    Calls Try.prog 22 #[.pointer (some ⟨g, 0, none⟩)] w fun e w' => e = .returned (.int .i64 r1) ∧ IsS57 w0 w' g s0_0 r2 r3 ∧ Below w0.heap.size w0 w' ∧ KeepBut w w' g none := by
  have HI0 := Aside0.mk hI
  have HK := Aside0.mk (KeepBut.refl w g none)
  have HL := Aside0.mk hB.size
  clear hI
  have HW0 := Aside0.mk hB.size
  have HB := Aside0.mk hB
  clear hB
  have H : (some (wrap64 ((wrap64 (8 * (s0_0.length : Int))) - s0_1), s0_1, s0_2)) = some (r1, r2, r3) := h
  clear h
  simp only [Option.some.injEq, Prod.mk.injEq] at H
  obtain ⟨rfl, rfl, rfl⟩ := H
  obtain ⟨ASz2_0, cSz2_0, HGz2, hgz2, HSz2_0⟩ := HI0.out
  have hcz2_0 := cellS57_0 HGz2
  have hcz2_1 := cellS57_1 HGz2
  have hcz2_2 := cellS57_2 HGz2
  have hfz2_1 := blk_frozen HGz2 1
  have hfz2_2 := blk_frozen HGz2 2
  clear HGz2 hgz2
  go_enter Try.func22, Try.ntmps22
  go_wp2
  repeat (go_quiet (fail); try go_wp2)
  go_ret
  exact ⟨by first | rfl | (simp [errW_none, errW_some] <;> rfl) | (simp [*, errW_none, errW_some] <;> rfl), by repeat (first | (with_reducible first | exact HI0.out | apply IsS57.alloc | apply IsS57.drewN | apply IsS57.drew | apply IsS57.set_1 | apply IsS57.set_2) | exact HI0.out), by repeat (first | (with_reducible first | exact HB.out | apply below_alloc | apply pw_below_drewN | apply below_drew1 | refine below_set ?_ (IsS57.ge HI0.out)) | exact HB.out), by repeat (first | (with_reducible first | exact HK.out | apply KeepBut.set_ | apply keep_drewN | apply keep_drew | apply keep_alloc) | exact HK.out)⟩

end Go.Proofs.Ytcdnabonljmegaa.PA
