/- Each Go function named below comes to what the plain Lean function of its name answers, wherever that answers (rounds enough, no panic, no row too long); texts by a program of this session by way of the kit's print.py, what that does not take by hand. Condition: what is read lies in memory as each theorem says. -/
import Derived.Test.YtcdnabonljmegaaPAx0
import Derived.Test.YtcdnabonljmegaaPAx1
import Derived.Test.YtcdnabonljmegaaPAx2
import Derived.Test.YtcdnabonljmegaaGoto
namespace Go.Proofs.Ytcdnabonljmegaa.PA
open Go.RowKit Go.Proofs.YtcdnabonljmegaaW.PrintWords Go.Proofs.YtcdnabonljmegaaW.PrintLast Go.Proofs.YtcdnabonljmegaaW.PrintMore
attribute [local go_sem] max2_int min2_int max_two min_two max_three min_three max_four min_four   -- for this text's walks alone
set_option linter.unusedVariables false
set_option linter.unusedSimpArgs false

/-! ### bits_Writer_Put: function 11 -/
/-- A byte more, where the last one is full. -/
def bits_Writer_Put.grow (b : List Int) (p : Int) : Option (List Int) := if Int.tmod p 8 = 0 then (if b.length < 140737488355328 then some (b ++ [0]) else none) else some b
def bits_Writer_Put.l0 : Nat → Int → Int → List Int → Int → Option (List Int × Int)
  | 0, _, _, _, _ => none
  | k + 1, n, left, b, p => if left = 0 then some (b, p) else (bits_Writer_Put.grow b p).bind fun y => (if 0 ≤ (wrap64 (left - (mn (wrap64 (8 - (Int.tmod p 8))) left))) then (if 0 ≤ (mn (wrap64 (8 - (Int.tmod p 8))) left) then (if 0 ≤ (wrap64 ((y.length : Int) - 1)) then (if (wrap64 ((y.length : Int) - 1)) < (y.length : Int) then (if 0 ≤ (wrap64 ((wrap64 (8 - (Int.tmod p 8))) - (mn (wrap64 (8 - (Int.tmod p 8))) left))) then (bits_Writer_Put.l0 k n (wrap64 (left - (mn (wrap64 (8 - (Int.tmod p 8))) left))) (y.set ((wrap64 ((y.length : Int) - 1)) : Int).toNat (Go.bits .or .u8 (rd y (wrap64 ((y.length : Int) - 1))) (shl .u8 (Go.bits .and .u8 ((shr .u64 n (wrap64 (left - (mn (wrap64 (8 - (Int.tmod p 8))) left)))) % 256) (((shl .u8 1 (mn (wrap64 (8 - (Int.tmod p 8))) left)) - 1) % 256)) (wrap64 ((wrap64 (8 - (Int.tmod p 8))) - (mn (wrap64 (8 - (Int.tmod p 8))) left)))))) (wrap64 (p + (mn (wrap64 (8 - (Int.tmod p 8))) left)))) else none) else none) else none) else none) else none)
/-- Bytes out of numbers. -/
def ofB (l : List Int) : ByteArray := ⟨(l.map fun x => UInt8.ofNat x.toNat).toArray⟩
theorem bytes_ofB {l : List Int} (h : ∀ x ∈ l, 0 ≤ x ∧ x < 256) : bytesOf (ofB l) = l := by
  unfold bytesOf ofB
  simp only [List.map_map]
  conv => rhs; rw [← List.map_id l]
  refine List.map_congr_left fun x hx => ?_
  obtain ⟨h0, h1⟩ := h x hx
  show ((UInt8.ofNat x.toNat).toNat : Int) = x
  rw [UInt8.toNat_ofNat', Nat.mod_eq_of_lt (by omega)]
  omega
theorem bytesOf_bd (s : ByteArray) : ∀ x ∈ bytesOf s, 0 ≤ x ∧ x < 256 := by
  intro x hx
  obtain ⟨c, _, rfl⟩ := List.mem_map.1 hx
  have := c.toNat_lt
  omega
theorem bytesOf_len (s : ByteArray) : (bytesOf s).length = s.size := by unfold bytesOf; rw [List.length_map]; rfl
theorem wrap_u8_bd (x : Int) : 0 ≤ IntKind.u8.wrap x ∧ IntKind.u8.wrap x < 256 := by rw [IntKind.wrap_u8]; omega
theorem or_u8_bd (x y : Int) : 0 ≤ Go.bits .or .u8 x y ∧ Go.bits .or .u8 x y < 256 := by unfold Go.bits; exact wrap_u8_bd _
set_option maxRecDepth 100000 in
theorem bits_Writer_Put.l0_bd : ∀ (k : Nat) (n left : Int) (b : List Int) (p : Int) (r : List Int × Int), (∀ x ∈ b, 0 ≤ x ∧ x < 256) → bits_Writer_Put.l0 k n left b p = some r → ∀ x ∈ r.1, 0 ≤ x ∧ x < 256
  | 0, _, _, _, _, _, _, h => by simp [bits_Writer_Put.l0] at h
  | k + 1, n, left, b, p, r, hb, h => by
    simp only [bits_Writer_Put.l0] at h
    split at h
    · cases h; exact hb
    · obtain ⟨y, hy, h⟩ := Option.bind_eq_some_iff.1 h
      have hyb : ∀ x ∈ y, 0 ≤ x ∧ x < 256 := by
        unfold bits_Writer_Put.grow at hy
        split at hy
        · split at hy
          · cases hy
            intro x hx
            rcases List.mem_append.1 hx with hx | hx
            · exact hb x hx
            · simp at hx; omega
          · cases hy
        · cases hy; exact hb
      repeat' (split at h)
      all_goals first | (cases h; done) | skip
      refine bits_Writer_Put.l0_bd k _ _ _ _ r ?_ h
      intro x hx
      rcases List.mem_or_eq_of_mem_set hx with hx | rfl
      · exact hyb x hx
      · exact or_u8_bd _ _
def bits_Writer_Put.f (s0_0 : ByteArray) (s0_1 : Int) (a1 : Int) (a2 : Int) : Option (ByteArray × Int) := (bits_held.f a2).bind fun t => (bits_Writer_Put.l0 80 a1 t (bytesOf s0_0) s0_1).map fun r => (ofB r.1, r.2)
def bits_Writer_Put.T8 : Bool × List (List Nat × List Nat) := (true, [([], []), ([0], [0]), ([1], [1]), ([2], [2]), ([], []), ([4], [4]), ([5], [5]), ([6], [6]), ([7], [7]), ([8], [8]), ([3, 9], [3, 9]), ([10], [10]), ([], []), ([], []), ([], []), ([13, 14], [13, 14]), ([12, 15], [12, 15]), ([11, 16], [11, 16]), ([3, 9, 0, 1, 2, 3, 4, 5, 6, 7, 8, 9, 10, 11, 12, 13, 14, 15, 16, 17], [3, 9]), ([18, 17, 0, 1, 2, 3, 4, 5, 6, 7, 8, 9, 10, 11, 12, 13, 14, 15, 16, 17], [17, 18])])
def bits_Writer_Put.B8 : List Nat := [0, 1, 3, 7, 0, 16, 48, 112, 240, 496, 1023, 2047, 0, 0, 0, 24576, 61440, 131071, 262143, 524287]
theorem bits_Writer_Put.tab8 : rtab .any (opsOf Try.f11 8) = bits_Writer_Put.T8 := by kernel_rfl
theorem bits_Writer_Put.bits8 : waitsOk bits_Writer_Put.T8.2 bits_Writer_Put.B8 = true := by kernel_rfl
theorem bits_Writer_Put.infoB : (Try.prog.info? 5).map (fun i => (i.zero, i.size, i.bytes)) = some (some (.int .u8 0), 1, 1) := by kernel_rfl
/-- A Writer within Put: its bytes, as numbers. -/
def PutSt (w0 W : World) (g : Nat) (b : List Int) (p : Int) : Prop := ∃ A c, W.heap[g]? = some (.cells #[.slice A b.length c, .int .i64 p] 52 (0, 0)) ∧ w0.heap.size ≤ g ∧ Kd.R (Kd.int .u8) 5 W w0.heap.size (fun _ => True) (.slice A b.length c) b ∧ (b = [] → (.slice A b.length c : Value) = .slice none 0 0)
theorem PutSt.drewN {w0 W : World} {g : Nat} {b : List Int} {p : Int} (h : PutSt w0 W g b p) (m : Nat) : PutSt w0 (W.drewN m) g b p := h
theorem PutSt.drew {w0 W : World} {g : Nat} {b : List Int} {p : Int} (h : PutSt w0 W g b p) : PutSt w0 W.drew g b p := h
theorem PutSt.ne {w0 W : World} {g : Nat} {b : List Int} {p : Int} (h : PutSt w0 W g b p) : ∃ A c, W.heap[g]? = some (.cells #[.slice A b.length c, .int .i64 p] 52 (0, 0)) ∧ Kd.R (Kd.int .u8) 5 W w0.heap.size (fun k => True ∧ k ≠ g) (.slice A b.length c) b := by
  obtain ⟨A, c, hb, hg, hr, hz⟩ := h
  exact ⟨A, c, hb, Kd.R_types hr hb (by simp [Kd.int, Kd.scalar])⟩
/-- What an append of the Writer's own row leaves, put back into the Writer. -/
theorem PutSt.grown {w0 w W W1 : World} {g : Nat} {b b1 : List Int} {p : Int} {v1 : Value} (h : PutSt w0 W g b p) (hk : KBe w0 w W g) {A : Option Addr} {c : Nat} (hA : W.heap[g]? = some (.cells #[.slice A b.length c, .int .i64 p] 52 (0, 0)))
    (ho : Kd.R (Kd.int .u8) 5 W1 w0.heap.size (fun _ => True) v1 b1) (hg : W.grownBy W1 (.slice A b.length c : Value).ownBlock) (hnew : ∀ k, v1.ownBlock = some k → (.slice A b.length c : Value).ownBlock = some k ∨ W.heap.size ≤ k) (hne : b1 ≠ []) :
    PutSt w0 (W1.setCell ⟨g, 0, none⟩ v1) g b1 p ∧ KBe w0 w (W1.setCell ⟨g, 0, none⟩ v1) g := by
  obtain ⟨A', c', hb, hge, hr, hz⟩ := h
  rw [hb] at hA
  injection hA with hA
  injection hA with hA _
  have e1 : (.slice A' b.length c' : Value) = .slice A b.length c := by
    have := congrArg (fun a : Array Value => a[0]?) hA
    simpa using this
  rw [e1] at hb hr hz
  have hlt : g < W.heap.size := blk_lt hb
  have hrow : some g ≠ (.slice A b.length c : Value).ownBlock := Kd.R_ne hr hb (by decide)
  have hb1 : W1.heap[g]? = some (.cells #[.slice A b.length c, .int .i64 p] 52 (0, 0)) := blk_grown hb hg hrow
  obtain ⟨A1, c1, rfl⟩ := Kd.R_slice ho
  have hset : (W1.setCell ⟨g, 0, none⟩ (.slice A1 b1.length c1)).heap[g]? = some (.cells #[.slice A1 b1.length c1, .int .i64 p] 52 (0, 0)) := by simpa using blk_set hb1 0 (.slice A1 b1.length c1)
  have hfar : ∀ i, i ≠ g → (W1.setCell ⟨g, 0, none⟩ (.slice A1 b1.length c1)).heap[i]? = W1.heap[i]? := fun i hi => Below.heap_setCell _ _ _ _ hi
  refine ⟨⟨A1, c1, hset, hge, Kd.R_mono (Kd.R_far (Kd.R_types ho hb1 (by simp [Kd.int, Kd.scalar])) (fun k hk => hk.2) _) (fun _ _ => trivial), fun e => absurd e hne⟩, hk.trans ?_⟩
  have hsz : (W1.setCell ⟨g, 0, none⟩ (.slice A1 b1.length c1)).heap.size = W1.heap.size := by simp [World.setCell]
  refine ⟨⟨by rw [hsz]; exact hg.size, fun i hi hgi ho2 => ?_⟩, fun i hi hgi hri => ?_, fun x hx => ?_, hlt⟩
  · rw [hfar i hgi]
    refine hg.block i hi (fun e => ?_)
    have hty := (Kd.R_bound hr).1 i e.symm
    obtain ⟨_, hbase, _, q, hq, cs, hcs⟩ := hty
    obtain rfl : q = 5 := by simpa [Kd.int, Kd.scalar] using hq
    rcases ho2 with ho2 | ho2
    · omega
    · exact ho2 cs hcs
  · rw [hfar i hgi]
    refine hg.block i hi (fun e => hri ?_)
    rw [rowAt_of hb]
    exact e
  · rw [rowAt_of hset] at hx
    rw [rowAt_of hb]
    exact hnew x hx
/-- A store into the Writer's own row. -/
theorem PutSt.stored {w0 w W : World} {g : Nat} {b b1 : List Int} {p : Int} {ad : Addr} {c : Nat} {q : Addr} {x : Value} (h : W.heap[g]? = some (.cells #[.slice (some ad) b.length c, .int .i64 p] 52 (0, 0))) (hge : w0.heap.size ≤ g) (hlen : b1.length = b.length) (hne : b1 ≠ [])
    (ho : Kd.R (Kd.int .u8) 5 (W.setCell q x) w0.heap.size (fun _ => True) (.slice (some ad) b1.length c) b1) (hr : Kd.R (Kd.int .u8) 5 W w0.heap.size (fun _ => True) (.slice (some ad) b.length c) b) (hq : (.slice (some ad) b.length c : Value).ownBlock = some q.block) (hk : KBe w0 w W g) :
    PutSt w0 (W.setCell q x) g b1 p ∧ KBe w0 w (W.setCell q x) g := by
  have hrow : some g ≠ (.slice (some ad) b.length c : Value).ownBlock := Kd.R_ne hr h (by decide)
  have hgq : g ≠ q.block := fun e => hrow (by rw [hq, e])
  have hfar : ∀ i, i ≠ q.block → (W.setCell q x).heap[i]? = W.heap[i]? := fun i hi => Below.heap_setCell _ _ _ _ hi
  have hsz : (W.setCell q x).heap.size = W.heap.size := by simp [World.setCell]
  have hset : (W.setCell q x).heap[g]? = some (.cells #[.slice (some ad) b1.length c, .int .i64 p] 52 (0, 0)) := by rw [hfar g hgq, hlen]; exact h
  refine ⟨⟨some ad, c, hset, hge, ho, fun e => absurd e hne⟩, hk.trans ?_⟩
  refine ⟨⟨by rw [hsz]; exact Nat.le_refl _, fun i hi hgi ho2 => ?_⟩, fun i hi hgi hri => ?_, fun y hy => ?_, blk_lt h⟩
  · refine hfar i (fun e => ?_)
    subst e
    have hty := (Kd.R_bound hr).1 q.block hq
    obtain ⟨_, hbase, _, t, ht, cs, hcs⟩ := hty
    obtain rfl : t = 5 := by simpa [Kd.int, Kd.scalar] using ht
    rcases ho2 with ho2 | ho2
    · omega
    · exact ho2 cs hcs
  · refine hfar i (fun e => hri ?_)
    rw [rowAt_of h, hq, e]
  · rw [rowAt_of hset] at hy
    rw [rowAt_of h]
    rw [hlen] at hy
    exact .inl hy
theorem PutSt.moved {w0 w W : World} {g : Nat} {b : List Int} {p : Int} (h : PutSt w0 W g b p) (hk : KBe w0 w W g) (x : Int) : PutSt w0 (W.setCell ⟨g, 1, none⟩ (.int .i64 x)) g b x ∧ KBe w0 w (W.setCell ⟨g, 1, none⟩ (.int .i64 x)) g := by
  obtain ⟨A, c, hb, hge, hr, hz⟩ := h
  have hset : (W.setCell ⟨g, 1, none⟩ (.int .i64 x)).heap[g]? = some (.cells #[.slice A b.length c, .int .i64 x] 52 (0, 0)) := by simpa using blk_set hb 1 (.int .i64 x)
  have hfar : ∀ i, i ≠ g → (W.setCell ⟨g, 1, none⟩ (.int .i64 x)).heap[i]? = W.heap[i]? := fun i hi => Below.heap_setCell _ _ _ _ hi
  have hsz : (W.setCell ⟨g, 1, none⟩ (.int .i64 x)).heap.size = W.heap.size := by simp [World.setCell]
  refine ⟨⟨A, c, hset, hge, Kd.R_mono (Kd.R_far (Kd.R_types hr hb (by simp [Kd.int, Kd.scalar])) (fun k hk => hk.2) _) (fun _ _ => trivial), hz⟩, hk.trans ?_⟩
  exact ⟨⟨by rw [hsz]; exact Nat.le_refl _, fun i hi hgi _ => hfar i hgi⟩, fun i hi hgi _ => hfar i hgi, fun y hy => .inl (by rw [rowAt_of hset] at hy; rw [rowAt_of hb]; exact hy), blk_lt hb⟩
def bits_Writer_Put.T7 : Bool × List (List Nat × List Nat) := (true, [([], []), ([], []), ([0, 1], [0, 1]), ([2], [2]), ([], []), ([4], [4]), ([5], [5]), ([3, 6], [3, 6]), ([7, 0, 1, 2, 3, 4, 5, 6, 7], [7])])
def bits_Writer_Put.B7 : List Nat := [0, 0, 3, 7, 0, 16, 48, 127, 255]
theorem bits_Writer_Put.tab7 : rtab .any (opsOf Try.f11 7) = bits_Writer_Put.T7 := by kernel_rfl
theorem bits_Writer_Put.bits7 : waitsOk bits_Writer_Put.T7.2 bits_Writer_Put.B7 = true := by kernel_rfl
theorem PutSt.below {w0 W W1 : World} {g : Nat} {b : List Int} {p : Int} (h : PutSt w0 W g b p) (hb : Below W.heap.size W W1) : PutSt w0 W1 g b p := by
  obtain ⟨A, c, h1, h2, h3, h4⟩ := h
  exact ⟨A, c, blk_below h1 hb, h2, Kd.R_below h3 hb, h4⟩
set_option maxHeartbeats 8000000 in
set_option maxRecDepth 100000 in
theorem bits_Writer_Put.calls (g : Nat) (s0_0 : ByteArray) (s0_1 : Int) (a1 : Int) (a2 : Int) (r1 : ByteArray) (r2 : Int) (w0 w : World) (hI : IsS52 w0 w g s0_0 s0_1) (hB : Below w0.heap.size w0 w) (h : bits_Writer_Put.f s0_0 s0_1 a1 a2 = some (r1, r2)) :
    Calls Try.prog 11 #[.pointer (some ⟨g, 0, none⟩), .int .u64 a1, .int .i64 a2] w fun e w' => e = .returned (.tuple #[]) ∧ IsS52 w0 w' g r1 r2 ∧ Below w0.heap.size w0 w' ∧ KBe w0 w w' g := by
  have HGE := Aside0.mk hI.ge
  have HB := Aside0.mk hB
  have HK := Aside0.mk (KBe.refl w0 hI)
  clear hB
  have h2 := h
  unfold bits_Writer_Put.f at h2
  obtain ⟨t, ht, h3⟩ := Option.bind_eq_some_iff.1 h2
  obtain ⟨⟨q1, q2⟩, h4, h5⟩ := Option.map_eq_some_iff.1 h3
  simp only [Prod.mk.injEq] at h5
  obtain ⟨rfl, rfl⟩ := h5
  have HQ := Aside0.mk (bytes_ofB (bits_Writer_Put.l0_bd _ _ _ _ _ _ (bytesOf_bd s0_0) h4))
  have HT := Aside0.mk ht
  have H4 := Aside0.mk h4
  have HS : Aside0 (PutSt w0 w g (bytesOf s0_0) s0_1) := ⟨by
    obtain ⟨v, h1, h6, h7, h8⟩ := hI
    obtain ⟨A, c, rfl⟩ := Kd.R_slice h7
    exact ⟨A, c, h1, h6, h7, fun e => h8 (by rw [← bytesOf_len, e]; rfl)⟩⟩
  clear h h2 h3 h4 ht hI
  go_enter Try.func11, Try.ntmps11
  go_wp2
  refine wp_scope_ghost_k 0 rfl (fun kq a_ w' => ∃ v2_ v3_ v4_ v5_ v6 v7_ v8_ v9_ v10_ v11_ v12_ v13_ v14_ v15_ v16_ v17_ v18_ v19_ v20_ v21_ v22_ v23_ v24_ v25_ v26_ v27_ v28_ v29_ v30_ v31_ v32_ v33_ v34_ v35_ v36_ v37_ v38_ v39_ v40_ v41_ v42_ v43_ v44_ v45_ v46_ v47_ v48_ v49_ v50_ v51_ v52_ v53_ v54_ v55_ v56_ v57_ v58_ v59_ v60_ v61_ v62_ v63_ v64_ v65_ v66_ v67_ v68_ v69_ v70_ v71_ v72_ v73_ v74_ v75_ : Value, (∃ (left p : Int) (b : List Int), v6 = .int .i64 left ∧ Aside0 (bits_Writer_Put.l0 kq a1 left b p = some (q1, q2)) ∧ Aside0 (PutSt w0 w' g b p) ∧ Aside0 (KBe w0 w w' g) ∧ Aside0 (Below w0.heap.size w0 w')) ∧ a_ = { tmps := #[.pointer (some ⟨g, 0, none⟩), .int .u64 a1, v2_, v3_, v4_, v5_, v6, v7_, v8_, v9_, v10_, v11_, v12_, v13_, v14_, v15_, v16_, v17_, v18_, v19_, v20_, v21_, v22_, v23_, v24_, v25_, v26_, v27_, v28_, v29_, v30_, v31_, v32_, v33_, v34_, v35_, v36_, v37_, v38_, v39_, v40_, v41_, v42_, v43_, v44_, v45_, v46_, v47_, v48_, v49_, v50_, v51_, v52_, v53_, v54_, v55_, v56_, v57_, v58_, v59_, v60_, v61_, v62_, v63_, v64_, v65_, v66_, v67_, v68_, v69_, v70_, v71_, v72_, v73_, v74_, v75_], defers := [] }) ?round ?first
  case first =>
    intro K_ hR_
    go_wp2_with (go_at_call 29; (with_reducible refine (bits_held.calls a2 t _ HT.out).mono ?_); rintro e w5 ⟨rfl, hb⟩; have HBB := Aside0.mk hb; clear hb)
    go_step3
    go_step
    go_step
    refine hR_ 80 _ _ ?_
    repeat apply Exists.intro
    refine ⟨?_, rfl⟩
    exact ⟨t, s0_1, bytesOf s0_0, rfl, H4, ⟨HS.out.below HBB.out⟩, ⟨HK.out.below HBB.out⟩, ⟨below_step HB.out HBB.out⟩⟩
  case round =>
    rintro gk a_ wr ⟨u2_, u3_, u4_, u5_, u6, u7_, u8_, u9_, u10_, u11_, u12_, u13_, u14_, u15_, u16_, u17_, u18_, u19_, u20_, u21_, u22_, u23_, u24_, u25_, u26_, u27_, u28_, u29_, u30_, u31_, u32_, u33_, u34_, u35_, u36_, u37_, u38_, u39_, u40_, u41_, u42_, u43_, u44_, u45_, u46_, u47_, u48_, u49_, u50_, u51_, u52_, u53_, u54_, u55_, u56_, u57_, u58_, u59_, u60_, u61_, u62_, u63_, u64_, u65_, u66_, u67_, u68_, u69_, u70_, u71_, u72_, u73_, u74_, u75_, hrel, rfl⟩ J_ K_ hJ_ hK_
    clear HS HK HB H4 HT
    obtain ⟨left, p, b, rfl, HA, HS, HK, HB⟩ := hrel
    cases gk with
    | zero => exact absurd HA.out (by simp [bits_Writer_Put.l0])
    | succ k =>
      have H := HA.out
      clear HA
      simp only [bits_Writer_Put.l0] at H
      by_cases c4 : left = 0
      · rw [if_pos c4] at H
        have c4b0 : (left == 0) = true := beq_iff_eq.mpr c4
        have c4b1 : (left != 0) = false := bne_eq_false_iff_eq.mpr c4
        clear c4
        simp only [Option.some.injEq, Prod.mk.injEq] at H
        obtain ⟨rfl, rfl⟩ := H
        go_wp2
        (try simp only [Exit.jump])
        first | go_end0 | ((try simp only [Exit.inBlock, Exit.then]); refine bodyPost_ret (results_none rfl _ _ _) rfl ?_)
        refine ⟨by first | rfl | (simp; done), ?_, HB.out, HK.out⟩
        obtain ⟨A, c, h1, h6, h7, h8⟩ := HS.out
        exact ⟨_, h1, h6, by rw [HQ.out]; exact h7, fun e => h8 (List.eq_nil_of_length_eq_zero (by have := bytesOf_len (ofB b); rw [HQ.out] at this; omega))⟩
      · rw [if_neg c4] at H
        have c4b0 : (left == 0) = false := beq_eq_false_iff_ne.mpr c4
        have c4b1 : (left != 0) = true := bne_iff_ne.mpr c4
        clear c4
        obtain ⟨y, hy, H2⟩ := Option.bind_eq_some_iff.1 H
        clear H
        have HY := Aside0.mk hy
        have HN := Aside0.mk H2
        clear hy H2
        obtain ⟨A, c, hbk, hge, hr, hz⟩ := HS.out
        have hcz0 : wr.cell? ⟨g, 0, none⟩ = some (.slice A b.length c) := (blk_cell hbk 0).trans rfl
        have hcz1 : wr.cell? ⟨g, 1, none⟩ = some (.int .i64 p) := (blk_cell hbk 1).trans rfl
        have HBK := Aside0.mk hbk
        have HR := Aside0.mk hr
        clear hbk hge hr hz
        go_upto_if 19 with (fail)
        go_cut [] (fun wc => ∃ z_ : Nat, Aside0 (z_ = z_) ∧ Aside0 (PutSt w0 wc g y p) ∧ Aside0 (KBe w0 w wc g) ∧ Aside0 (Below w0.heap.size w0 wc))
        case first =>
          have hy := HY.out
          clear HY HN
          unfold bits_Writer_Put.grow at hy
          by_cases c5 : (Int.tmod p 8) = 0
          · rw [if_pos c5] at hy
            have c5b0 : ((Int.tmod p 8) == 0) = true := beq_iff_eq.mpr c5
            have c5b1 : ((Int.tmod p 8) != 0) = false := bne_eq_false_iff_eq.mpr c5
            clear c5
            (first | rw [c5b0] | (simp only [i64_w, i32_w]; rw [c5b0]) | skip)
            by_cases c6 : b.length < 140737488355328
            · rw [if_pos c6] at hy
              have LM := Aside0.mk c6
              clear c6
              obtain rfl := Option.some.inj hy
              clear hy
              go_wp2_with (first | ((with_reducible refine gate_builtin (b := .append) (xs := #[.tmp 24, .tmp 25]) rfl ?_); at_builtin; refine Kd.R_append (Kd.int .u8) (w0 := w0) w0.heap.size rfl (.tmp 24) (.tmp 25) 33 5 (.int .u8 0) 1 rfl Try.underlying33 bits_Writer_Put.infoB rfl (by decide) (by omega) (.slice A b.length c) b 0 [.int .u8 0] (fun _ => True) (fun _ => False) rfl rfl ?aP (fun _ hk => hk.elim) ?aF ?aO ?aB ?aS ?aL ?_; (case aP => exact rfl); (case aB => exact HB.out); (case aF => exact (fun _ _ => trivial)); (case aO => exact HR.out); (case aS => exact HB.out.size); (case aL => have := LM.out; omega); intro v1 w1 ho hb hg hat; obtain ⟨A1, c1, eA⟩ := Kd.R_slice ho; subst eA; have HP := Aside0.mk (PutSt.grown HS.out HK.out HBK.out ho hg (fun k_ e_ => hat.elim (fun h_ => .inl (by rw [← h_]; exact e_)) (fun ⟨b_, h_, hle⟩ => .inr (by rw [h_] at e_; injection e_ with e_; omega))) (by simp)); have HB1 := Aside0.mk hb; have hb1 := blk_grown HBK.out hg (Kd.R_ne HR.out HBK.out (by decide)); have hc10 : w1.cell? ⟨g, 0, none⟩ = some (.slice A b.length c) := (blk_cell hb1 0).trans rfl; have hf10 := blk_frozen hb1 0; clear ho hb hg hat hb1))
              go_meet
              case rel => exact ⟨0, ⟨by first | rfl | trivial⟩, ⟨by first | exact HP.out.1 | (have := HP.out.1; simpa using this)⟩, ⟨by first | exact HP.out.2 | (have := HP.out.2; simpa using this)⟩, ⟨below_set HB1.out HGE.out⟩⟩
            · rw [if_neg c6] at hy
              exact absurd hy (by simp)
          · rw [if_neg c5] at hy
            have c5b0 : ((Int.tmod p 8) == 0) = false := beq_eq_false_iff_ne.mpr c5
            have c5b1 : ((Int.tmod p 8) != 0) = true := bne_iff_ne.mpr c5
            clear c5
            (first | rw [c5b0] | (simp only [i64_w, i32_w]; rw [c5b0]) | skip)
            obtain rfl := Option.some.inj hy
            clear hy
            go_wp2
            go_meet
            case rel => exact ⟨0, ⟨by first | rfl | trivial⟩, HS, HK, HB⟩
        case rest =>
          clear HY hcz0 hcz1 HS HK HB HBK HR
          obtain ⟨_, _, HS, HK, HB⟩ := hcut
          have H := HN.out
          clear HN
          obtain ⟨ji7, hji7⟩ : ∃ j_ : Int, (mn (wrap64 (8 - (Int.tmod p 8))) left) = j_ := ⟨_, rfl⟩
          simp only [hji7] at H
          have hji7_ : (if left < (wrap64 (8 - (Int.tmod p 8))) then left else (wrap64 (8 - (Int.tmod p 8)))) = ji7 := hji7
          obtain ⟨ji8, hji8⟩ : ∃ j_ : Int, (wrap64 (left - (ji7))) = j_ := ⟨_, rfl⟩
          simp only [hji8] at H
          have hji8w : (IntKind.i64.wrap (left - (ji7))) = ji8 := (i64_w _).trans hji8
          by_cases c9 : 0 ≤ (ji8)
          case neg => rw [if_neg c9] at H; exact absurd H (by simp)
          rw [if_pos c9] at H
          have c9b0 := eq_true c9
          have c9b1 : decide (0 ≤ (ji8)) = true := decide_eq_true c9
          clear c9
          obtain ⟨ji10, hji10⟩ : ∃ j_ : Int, (shr .u64 a1 (ji8)) = j_ := ⟨_, rfl⟩
          simp only [hji10] at H
          have hji10_ : (a1 / 2 ^ min (ji8).toNat 64) = ji10 := hji10
          have hji10z : (ji8) ≤ 64 → (a1 / 2 ^ (ji8).toNat) = ji10 := shr_small hji10
          by_cases c11 : 0 ≤ (ji7)
          case neg => rw [if_neg c11] at H; exact absurd H (by simp)
          rw [if_pos c11] at H
          have c11b0 := eq_true c11
          have c11b1 : decide (0 ≤ (ji7)) = true := decide_eq_true c11
          clear c11
          obtain ⟨ji12, hji12⟩ : ∃ j_ : Int, (shl .u8 1 (ji7)) = j_ := ⟨_, rfl⟩
          simp only [hji12] at H
          have hji12_ : (IntKind.u8.wrap (1 * 2 ^ min (ji7).toNat 8)) = ji12 := hji12
          have hji12z : (ji7) ≤ 8 → (IntKind.u8.wrap (1 * 2 ^ (ji7).toNat)) = ji12 := shl_small hji12
          have hji12u : (IntKind.u8.wrap (2 ^ min (ji7).toNat 8)) = ji12 := by have h_ := hji12_; rw [Int.one_mul] at h_; exact h_
          have hji12v : (ji7) ≤ 8 → (IntKind.u8.wrap (2 ^ (ji7).toNat)) = ji12 := fun hle_ => by have h_ := hji12z hle_; rw [Int.one_mul] at h_; exact h_
          obtain ⟨ji13, hji13⟩ : ∃ j_ : Int, (wrap64 ((y.length : Int) - 1)) = j_ := ⟨_, rfl⟩
          simp only [hji13] at H
          have hji13w : (IntKind.i64.wrap ((y.length : Int) - 1)) = ji13 := (i64_w _).trans hji13
          by_cases c14 : 0 ≤ (ji13)
          case neg => rw [if_neg c14] at H; exact absurd H (by simp)
          rw [if_pos c14] at H
          have c14b0 : decide (0 ≤ (ji13)) = true := decide_eq_true c14
          by_cases c15 : (ji13) < (y.length : Int)
          case neg => rw [if_neg c15] at H; exact absurd H (by simp)
          rw [if_pos c15] at H
          have c15b0 : decide ((ji13) < (y.length : Int)) = true := decide_eq_true c15
          obtain ⟨ji16, hji16⟩ : ∃ j_ : Int, (wrap64 ((wrap64 (8 - (Int.tmod p 8))) - (ji7))) = j_ := ⟨_, rfl⟩
          simp only [hji16] at H
          have hji16w : (IntKind.i64.wrap ((wrap64 (8 - (Int.tmod p 8))) - (ji7))) = ji16 := (i64_w _).trans hji16
          by_cases c17 : 0 ≤ (ji16)
          case neg => rw [if_neg c17] at H; exact absurd H (by simp)
          rw [if_pos c17] at H
          have c17b0 := eq_true c17
          have c17b1 : decide (0 ≤ (ji16)) = true := decide_eq_true c17
          clear c17
          obtain ⟨ji18, hji18⟩ : ∃ j_ : Int, (shl .u8 (Go.bits .and .u8 ((ji10) % 256) (((ji12) - 1) % 256)) (ji16)) = j_ := ⟨_, rfl⟩
          simp only [hji18] at H
          have hji18_ : (IntKind.u8.wrap ((Go.bits .and .u8 ((ji10) % 256) (((ji12) - 1) % 256)) * 2 ^ min (ji16).toNat 8)) = ji18 := hji18
          have hji18z : (ji16) ≤ 8 → (IntKind.u8.wrap ((Go.bits .and .u8 ((ji10) % 256) (((ji12) - 1) % 256)) * 2 ^ (ji16).toNat)) = ji18 := shl_small hji18
          have hji18w : (IntKind.u8.wrap ((Go.bits .and .u8 (IntKind.u8.wrap ji10) (IntKind.u8.wrap (ji12 - 1))) * 2 ^ min (ji16).toNat 8)) = ji18 := by rw [IntKind.wrap_u8 ji10, IntKind.wrap_u8 (ji12 - 1)]; exact hji18_
          have H' := Aside0.mk H
          clear H
          obtain ⟨A, c, hbk, hge, hr, hz⟩ := HS.out
          have hpos : 0 < y.length := by omega
          obtain ⟨go19, co19, eo19, gb19, gl19, cl19, HG19⟩ := Kd.R_form hr (by omega)
          injection eo19 with ea_ en_ ec_
          subst ea_
          subst ec_
          clear en_
          have HBK := Aside0.mk hbk
          have HR := Aside0.mk hr
          have HGR := Aside0.mk hge
          have HPOS := Aside0.mk hpos
          have hcz0 : wc.cell? ⟨g, 0, none⟩ = some (.slice (some ⟨go19, 0, none⟩) y.length c) := (blk_cell hbk 0).trans rfl
          have hcz1 : wc.cell? ⟨g, 1, none⟩ = some (.int .i64 p) := (blk_cell hbk 1).trans rfl
          clear hbk hge hr hz HS gb19 gl19 cl19 HG19 hpos
          go_wp2
          refine start_ (n := 9) (S := fun w' => True) (ds := []) #[false, false, false, false, false, false, false, false, false] (by kernel_rfl) rfl rfl trivial (fun hHeld => ?_); refine with_tabW bits_Writer_Put.tab7 bits_Writer_Put.bits7 (fun HT_ HW_ => ?_)
          refine pure_ (i := 0) (N := some 41) (v := ?_) (a' := ?_) #[true, false, false, false, false, false, false, false, false] rfl rfl (any_of HT_.out (by kernel_rfl)) (fun _ _ _ h => h) (Or.inl ⟨by rfl, ?_⟩) ?_ ?_
          rotate_left
          · intro w'
            go_simp
            with_reducible rfl
          rotate_left
          · simp only [Act.put, List.setIfInBounds_toArray, List.set_cons_zero, List.set_cons_succ, i64_w, i32_w]
            rfl
          refine pure_ (i := 1) (N := some 42) (v := ?_) (a' := ?_) #[true, true, false, false, false, false, false, false, false] rfl rfl (any_of HT_.out (by kernel_rfl)) (fun _ _ _ h => h) (Or.inl ⟨by rfl, ?_⟩) ?_ ?_
          rotate_left
          · intro w'
            go_simp
            with_reducible rfl
          rotate_left
          · simp only [Act.put, List.setIfInBounds_toArray, List.set_cons_zero, List.set_cons_succ, i64_w, i32_w]
            rfl
          refine pure_ (i := 2) (N := some 43) (v := ?_) (a' := ?_) #[true, true, true, false, false, false, false, false, false] rfl rfl (any_of HT_.out (by kernel_rfl)) (fun _ _ _ h => h) (Or.inl ⟨by rfl, ?_⟩) ?_ ?_
          rotate_left
          · intro w'
            go_simp
            with_reducible rfl
          rotate_left
          · simp only [Act.put, List.setIfInBounds_toArray, List.set_cons_zero, List.set_cons_succ, i64_w, i32_w]
            rfl
          refine pure_ (i := 3) (N := some 44) (v := ?_) (a' := ?_) #[true, true, true, true, false, false, false, false, false] rfl rfl (any_of HT_.out (by kernel_rfl)) (fun _ _ _ h => h) (Or.inl ⟨by rfl, ?_⟩) ?_ ?_
          rotate_left
          · intro w'
            go_simp
            with_reducible rfl
          rotate_left
          · simp only [Act.put, List.setIfInBounds_toArray, List.set_cons_zero, List.set_cons_succ, i64_w, i32_w]
            rfl
          refine pure_ (i := 4) (N := some 45) (v := ?_) (a' := ?_) #[true, true, true, true, true, false, false, false, false] rfl rfl (any_of HT_.out (by kernel_rfl)) (fun _ _ _ h => h) (Or.inl ⟨by rfl, ?_⟩) ?_ ?_
          rotate_left
          · intro w'
            go_simp
            with_reducible rfl
          rotate_left
          · simp only [Act.put, List.setIfInBounds_toArray, List.set_cons_zero, List.set_cons_succ, i64_w, i32_w]
            rfl
          refine pure_ (i := 5) (N := some 46) (v := ?_) (a' := ?_) #[true, true, true, true, true, true, false, false, false] rfl rfl (any_of HT_.out (by kernel_rfl)) (fun _ _ _ h => h) (Or.inl ⟨by rfl, ?_⟩) ?_ ?_
          rotate_left
          · intro w'
            go_simp
            with_reducible rfl
          rotate_left
          · simp only [Act.put, List.setIfInBounds_toArray, List.set_cons_zero, List.set_cons_succ, i64_w, i32_w]
            rfl
          refine pure_ (i := 6) (N := some 47) (v := ?_) (a' := ?_) #[true, true, true, true, true, true, true, false, false] rfl rfl (any_of HT_.out (by kernel_rfl)) (fun _ _ _ h => h) (Or.inl ⟨by rfl, ?_⟩) ?_ ?_
          rotate_left
          · intro w'
            go_simp
            with_reducible rfl
          rotate_left
          · simp only [Act.put, List.setIfInBounds_toArray, List.set_cons_zero, List.set_cons_succ, i64_w, i32_w]
            rfl
          refine pure_ (i := 7) (N := some 48) (v := ?_) (a' := ?_) #[true, true, true, true, true, true, true, true, false] rfl rfl (any_of HT_.out (by kernel_rfl)) (fun _ _ _ h => h) (Or.inl ⟨by rfl, ?_⟩) ?_ ?_
          rotate_left
          · intro w'
            go_simp
            with_reducible rfl
          rotate_left
          · simp only [Act.put, List.setIfInBounds_toArray, List.set_cons_zero, List.set_cons_succ, i64_w, i32_w]
            rfl
          refine pure_ (i := 8) (N := some 9) (v := ?_) (a' := ?_) #[true, true, true, true, true, true, true, true, true] rfl rfl (any_of HT_.out (by kernel_rfl)) (fun _ _ _ h => h) (Or.inl ⟨by rfl, ?_⟩) ?_ ?_
          rotate_left
          · intro w'
            go_simp
            with_reducible rfl
          rotate_left
          · simp only [Act.put, List.setIfInBounds_toArray, List.set_cons_zero, List.set_cons_succ, i64_w, i32_w]
            rfl
          refine done_ (done_of HT_.out (by kernel_rfl)) ?_
          try go_wp2
          obtain ⟨ad154, e154, hx154_0⟩ := Kd.at_int (Kd.R_reads' HR.out).2.2 (ji13) c14 c15
          cases e154
          simp only [add_plain] at hx154_0
          obtain ⟨hx19_0, hf19_0⟩ := Kd.R_celln 0 HR.out ((ji13) : Int) c14 c15
          have p154 := eq_true c14
          have q154 := eq_true c15
          clear c14 c15
          have HP24 := Aside0.mk (Kd.R_putn HR.out ((ji13) : Int) (Go.bits .or .u8 (rd y (ji13)) (ji18)))
          refine start_ (n := 20) (S := fun w' => w'.cell? ⟨g, 0, none⟩ = some (.slice (some ⟨go19, 0, none⟩) y.length c) ∧ w'.cell? ⟨go19, ((ji13)).toNat, none⟩ = some (.int .u8 (rd y (ji13)))) (ds := [19]) #[false, false, false, false, false, false, false, false, false, false, false, false, false, false, false, false, false, false, false, false] (by kernel_rfl) rfl rfl ⟨hcz0, hx154_0⟩ (fun hHeld => ?_); refine with_tabW bits_Writer_Put.tab8 bits_Writer_Put.bits8 (fun HT_ HW_ => ?_)
          refine pure_ (i := 0) (N := some 49) (v := ?_) (a' := ?_) #[true, false, false, false, false, false, false, false, false, false, false, false, false, false, false, false, false, false, false, false] rfl rfl (any_of HT_.out (by kernel_rfl)) (fun _ _ _ h => h) (Or.inl ⟨by rfl, ?_⟩) ?_ ?_
          rotate_left
          · intro w'
            go_simp
            with_reducible rfl
          rotate_left
          · simp only [Act.put, List.setIfInBounds_toArray, List.set_cons_zero, List.set_cons_succ, i64_w, i32_w]
            rfl
          refine pure_ (i := 1) (N := some 50) (v := ?_) (a' := ?_) #[true, true, false, false, false, false, false, false, false, false, false, false, false, false, false, false, false, false, false, false] rfl rfl (any_of HT_.out (by kernel_rfl)) (fun _ _ _ h => h) (Or.inl ⟨by rfl, ?_⟩) ?_ ?_
          rotate_left
          · intro w'
            go_simp
            with_reducible rfl
          rotate_left
          · simp only [Act.put, List.setIfInBounds_toArray, List.set_cons_zero, List.set_cons_succ, i64_w, i32_w]
            rfl
          refine pure_ (i := 2) (N := some 51) (v := ?_) (a' := ?_) #[true, true, true, false, false, false, false, false, false, false, false, false, false, false, false, false, false, false, false, false] rfl rfl (any_of HT_.out (by kernel_rfl)) (fun _ _ _ h => h) (Or.inl ⟨by rfl, ?_⟩) ?_ ?_
          rotate_left
          · intro w'
            go_simp
            with_reducible rfl
          rotate_left
          · simp only [Act.put, List.setIfInBounds_toArray, List.set_cons_zero, List.set_cons_succ, i64_w, i32_w]
            rfl
          refine take_ (i := 3) (N := some 52) (v := ?_) (a' := ?_) #[true, true, true, true, false, false, false, false, false, false, false, false, false, false, false, false, false, false, false, false] rfl rfl (take_ofW HT_.out HW_.out (by kernel_rfl)) (fun _ _ _ h => h) (Or.inl ⟨by rfl, ?_⟩) hHeld ?_ ?_
          rotate_left
          · rintro w' ⟨s0, s1⟩
            go_simp
            with_reducible rfl
          rotate_left
          · simp only [Act.put, List.setIfInBounds_toArray, List.set_cons_zero, List.set_cons_succ, i64_w, i32_w]
            rfl
          refine pure_ (i := 4) (N := some 53) (v := ?_) (a' := ?_) #[true, true, true, true, true, false, false, false, false, false, false, false, false, false, false, false, false, false, false, false] rfl rfl (any_of HT_.out (by kernel_rfl)) (fun _ _ _ h => h) (Or.inl ⟨by rfl, ?_⟩) ?_ ?_
          rotate_left
          · intro w'
            go_simp
            with_reducible rfl
          rotate_left
          · simp only [Act.put, List.setIfInBounds_toArray, List.set_cons_zero, List.set_cons_succ, i64_w, i32_w]
            rfl
          refine pure_ (i := 5) (N := some 54) (v := ?_) (a' := ?_) #[true, true, true, true, true, true, false, false, false, false, false, false, false, false, false, false, false, false, false, false] rfl rfl (any_of HT_.out (by kernel_rfl)) (fun _ _ _ h => h) (Or.inl ⟨by rfl, ?_⟩) ?_ ?_
          rotate_left
          · intro w'
            go_simp
            with_reducible rfl
          rotate_left
          · simp only [Act.put, List.setIfInBounds_toArray, List.set_cons_zero, List.set_cons_succ, i64_w, i32_w]
            rfl
          refine pure_ (i := 6) (N := some 55) (v := ?_) (a' := ?_) #[true, true, true, true, true, true, true, false, false, false, false, false, false, false, false, false, false, false, false, false] rfl rfl (any_of HT_.out (by kernel_rfl)) (fun _ _ _ h => h) (Or.inl ⟨by rfl, ?_⟩) ?_ ?_
          rotate_left
          · intro w'
            go_simp
            with_reducible rfl
          rotate_left
          · simp only [Act.put, List.setIfInBounds_toArray, List.set_cons_zero, List.set_cons_succ, i64_w, i32_w]
            rfl
          refine take_ (i := 7) (N := some 56) (v := ?_) (a' := ?_) #[true, true, true, true, true, true, true, true, false, false, false, false, false, false, false, false, false, false, false, false] rfl rfl (take_ofW HT_.out HW_.out (by kernel_rfl)) (fun _ _ _ h => h) (Or.inl ⟨by rfl, ?_⟩) hHeld ?_ ?_
          rotate_left
          · rintro w' ⟨s0, s1⟩
            go_simp
            with_reducible rfl
          rotate_left
          · simp only [Act.put, List.setIfInBounds_toArray, List.set_cons_zero, List.set_cons_succ, i64_w, i32_w]
            rfl
          refine pure_ (i := 8) (N := some 57) (v := ?_) (a' := ?_) #[true, true, true, true, true, true, true, true, true, false, false, false, false, false, false, false, false, false, false, false] rfl rfl (any_of HT_.out (by kernel_rfl)) (fun _ _ _ h => h) (Or.inl ⟨by rfl, ?_⟩) ?_ ?_
          rotate_left
          · intro w'
            go_simp
            with_reducible rfl
          rotate_left
          · simp only [Act.put, List.setIfInBounds_toArray, List.set_cons_zero, List.set_cons_succ, i64_w, i32_w]
            rfl
          refine pure_ (i := 9) (N := some 58) (v := ?_) (a' := ?_) #[true, true, true, true, true, true, true, true, true, true, false, false, false, false, false, false, false, false, false, false] rfl rfl (any_of HT_.out (by kernel_rfl)) (fun _ _ _ h => h) (Or.inl ⟨by rfl, ?_⟩) ?_ ?_
          rotate_left
          · intro w'
            go_simp
            with_reducible rfl
          rotate_left
          · simp only [Act.put, List.setIfInBounds_toArray, List.set_cons_zero, List.set_cons_succ, i64_w, i32_w]
            rfl
          refine pure_ (i := 10) (N := some 59) (v := ?_) (a' := ?_) #[true, true, true, true, true, true, true, true, true, true, true, false, false, false, false, false, false, false, false, false] rfl rfl (any_of HT_.out (by kernel_rfl)) (fun _ _ _ h => h) (Or.inl ⟨by rfl, ?_⟩) ?_ ?_
          rotate_left
          · intro w'
            go_simp
            with_reducible rfl
          rotate_left
          · simp only [Act.put, List.setIfInBounds_toArray, List.set_cons_zero, List.set_cons_succ, i64_w, i32_w]
            rfl
          refine take_ (i := 11) (N := some 60) (v := ?_) (a' := ?_) #[true, true, true, true, true, true, true, true, true, true, true, true, false, false, false, false, false, false, false, false] rfl rfl (take_ofW HT_.out HW_.out (by kernel_rfl)) (fun _ _ _ h => h) (Or.inl ⟨by rfl, ?_⟩) hHeld ?_ ?_
          rotate_left
          · rintro w' ⟨s0, s1⟩
            go_simp
            with_reducible rfl
          rotate_left
          · simp only [Act.put, List.setIfInBounds_toArray, List.set_cons_zero, List.set_cons_succ, i64_w, i32_w]
            rfl
          refine pure_ (i := 12) (N := some 61) (v := ?_) (a' := ?_) #[true, true, true, true, true, true, true, true, true, true, true, true, true, false, false, false, false, false, false, false] rfl rfl (any_of HT_.out (by kernel_rfl)) (fun _ _ _ h => h) (Or.inl ⟨by rfl, ?_⟩) ?_ ?_
          rotate_left
          · intro w'
            go_simp
            with_reducible rfl
          rotate_left
          · simp only [Act.put, List.setIfInBounds_toArray, List.set_cons_zero, List.set_cons_succ, i64_w, i32_w]
            rfl
          refine pure_ (i := 13) (N := some 62) (v := ?_) (a' := ?_) #[true, true, true, true, true, true, true, true, true, true, true, true, true, true, false, false, false, false, false, false] rfl rfl (any_of HT_.out (by kernel_rfl)) (fun _ _ _ h => h) (Or.inl ⟨by rfl, ?_⟩) ?_ ?_
          rotate_left
          · intro w'
            go_simp
            with_reducible rfl
          rotate_left
          · simp only [Act.put, List.setIfInBounds_toArray, List.set_cons_zero, List.set_cons_succ, i64_w, i32_w]
            rfl
          refine pure_ (i := 14) (N := some 63) (v := ?_) (a' := ?_) #[true, true, true, true, true, true, true, true, true, true, true, true, true, true, true, false, false, false, false, false] rfl rfl (any_of HT_.out (by kernel_rfl)) (fun _ _ _ h => h) (Or.inl ⟨by rfl, ?_⟩) ?_ ?_
          rotate_left
          · intro w'
            go_simp
            with_reducible rfl
          rotate_left
          · simp only [Act.put, List.setIfInBounds_toArray, List.set_cons_zero, List.set_cons_succ, i64_w, i32_w]
            rfl
          refine pure_ (i := 15) (N := some 64) (v := ?_) (a' := ?_) #[true, true, true, true, true, true, true, true, true, true, true, true, true, true, true, true, false, false, false, false] rfl rfl (any_of HT_.out (by kernel_rfl)) (fun _ _ _ h => h) (Or.inl ⟨by rfl, ?_⟩) ?_ ?_
          rotate_left
          · intro w'
            go_simp
            with_reducible rfl
          rotate_left
          · simp only [Act.put, List.setIfInBounds_toArray, List.set_cons_zero, List.set_cons_succ, i64_w, i32_w]
            rfl
          refine pure_ (i := 16) (N := some 65) (v := ?_) (a' := ?_) #[true, true, true, true, true, true, true, true, true, true, true, true, true, true, true, true, true, false, false, false] rfl rfl (any_of HT_.out (by kernel_rfl)) (fun _ _ _ h => h) (Or.inl ⟨by rfl, ?_⟩) ?_ ?_
          rotate_left
          · intro w'
            go_simp
            with_reducible rfl
          rotate_left
          · simp only [Act.put, List.setIfInBounds_toArray, List.set_cons_zero, List.set_cons_succ, i64_w, i32_w]
            rfl
          refine pure_ (i := 17) (N := some 66) (v := ?_) (a' := ?_) #[true, true, true, true, true, true, true, true, true, true, true, true, true, true, true, true, true, true, false, false] rfl rfl (any_of HT_.out (by kernel_rfl)) (fun _ _ _ h => h) (Or.inl ⟨by rfl, ?_⟩) ?_ ?_
          rotate_left
          · intro w'
            go_simp
            with_reducible rfl
          rotate_left
          · simp only [Act.put, List.setIfInBounds_toArray, List.set_cons_zero, List.set_cons_succ, i64_w, i32_w]
            rfl
          refine pure_ (i := 18) (N := some 67) (v := ?_) (a' := ?_) #[true, true, true, true, true, true, true, true, true, true, true, true, true, true, true, true, true, true, true, false] rfl rfl (any_of HT_.out (by kernel_rfl)) (fun _ _ _ h => h) (Or.inl ⟨by rfl, ?_⟩) ?_ ?_
          rotate_left
          · intro w'
            go_simp
            with_reducible rfl
          rotate_left
          · simp only [Act.put, List.setIfInBounds_toArray, List.set_cons_zero, List.set_cons_succ, i64_w, i32_w]
            rfl
          refine last_ (i := 19) (N := none) #[true, true, true, true, true, true, true, true, true, true, true, true, true, true, true, true, true, true, true, true] rfl rfl (one_of HT_.out (by kernel_rfl)) (by decide) (fun K hK => ?_)
          refine skip_ (w1 := ?_) (by rfl) rfl ?_ ?_
          rotate_left
          · go_simp
            rfl
          refine hK.out _ _ ?_
          clear hK K
          refine done_ (done_of HT_.out (by kernel_rfl)) ?_
          have HP := Aside0.mk (PutSt.stored (w := w) (q := ⟨go19, (ji13 : Int).toNat, none⟩) (x := .int .u8 (Go.bits .or .u8 (rd y (ji13)) (ji18))) (b1 := y.set (ji13 : Int).toNat (Go.bits .or .u8 (rd y (ji13)) (ji18))) HBK.out HGR.out (by simp) (fun e_ => by have h_ := congrArg List.length e_; rw [List.length_set] at h_; have := HPOS.out; simp at h_; rw [h_] at this; simp at this) (by rw [List.length_set]; exact HP24.out) HR.out rfl HK.out)
          have HB2 := Aside0.mk (below_set (v := .int .u8 (Go.bits .or .u8 (rd y (ji13)) (ji18))) (j := (ji13 : Int).toNat) HB.out (Kd.R_base HR.out go19 rfl))
          have HS3 := Aside0.mk (PutSt.drew (PutSt.drew HP.out.1))
          have HK3 := Aside0.mk (KBe.drew (KBe.drew HP.out.2))
          have HB3 := Aside0.mk (below_drew1 (below_drew1 HB2.out))
          clear HP HB2 HP24 hx19_0 hf19_0 hx154_0 hcz0 hcz1 HBK HR
          generalize ((wc.setCell ⟨go19, (ji13 : Int).toNat, none⟩ (.int .u8 (Go.bits .or .u8 (rd y ji13) ji18))).drew.drew) = w9 at HS3 HK3 HB3 ⊢
          obtain ⟨A9, c9, hbk9, _, _, _⟩ := HS3.out
          have hcz9 : w9.cell? ⟨g, 1, none⟩ = some (.int .i64 p) := (blk_cell hbk9 1).trans rfl
          have hfz9 := blk_frozen hbk9 1
          clear hbk9
          have HM := Aside0.mk (PutSt.moved HS3.out HK3.out (wrap64 (p + ji7)))
          try go_wp2
          go_step3
          refine ⟨rfl, hK_ _ _ ?_⟩
          go_roundg k
          case measure => omega
          case rel => exact ⟨ji8, (wrap64 (p + ji7)), (y.set (ji13 : Int).toNat (Go.bits .or .u8 (rd y (ji13)) (ji18))), (by first | rfl | (simp; done) | (simp only [← hji8] <;> (first | rfl | simp)) | (simp [*]; done)), H', ⟨HM.out.1⟩, ⟨HM.out.2⟩, ⟨below_set HB3.out HGE.out⟩⟩


end Go.Proofs.Ytcdnabonljmegaa.PA
