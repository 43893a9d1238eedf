/- What fixed.Factors and fixed.Restore answer, and the references for both ways; what is left of numbers restores them. Condition: lists shorter than 2^40, of numbers of 64 bits. -/
import Derived.Test.YtiojcihklmifgaaPFixRes
import Derived.Test.YtiojcihklmifgaaPAx5
import Derived.Test.YtiojcihklmifgaaPAx10
import Derived.Test.YtiojcihklmifgaaPAx12
namespace Go.Proofs.Ytiojcihklmifgaa.PL
open Go.RowKit Go.Proofs.Ytiojcihklmifgaa.PA Go.Proofs.YtiojcihklmifgaaW.PrintWords
set_option linter.unusedSimpArgs false
set_option linter.unusedVariables false

/-- An order's factors. -/
def F : Nat → List Int
  | 1 => [1]
  | 2 => [2, -1]
  | 3 => [3, -3, 1]
  | 4 => [4, -6, 4, -1]
  | _ => []
def FI (o : Int) : List Int := if o < 0 then [] else F o.toNat
theorem nat4 {n : Nat} (h : n ≤ 4) : n = 0 ∨ n = 1 ∨ n = 2 ∨ n = 3 ∨ n = 4 := by omega
theorem F_len {n : Nat} (h : n ≤ 4) : (F n).length = n := by rcases nat4 h with rfl | rfl | rfl | rfl | rfl <;> rfl
theorem F_big {n : Nat} (h : 4 < n) : F n = [] := by unfold F; split <;> first | rfl | omega
theorem factors_eq (o : Int) : fixed_Factors.f o = some (FI o) := by
  unfold fixed_Factors.f
  simp only [Option.bind_some, List.length_cons, List.length_nil, FI]
  by_cases h : o < 0
  · simp [h]
  · rw [if_neg h, if_neg h]
    by_cases h4 : o ≥ ((0 + 1 + 1 + 1 + 1 + 1 : Nat) : Int)
    · rw [if_pos h4, F_big (by omega)]
    · rw [if_neg h4, if_pos (by omega), if_pos (by omega)]
      obtain ⟨n, rfl⟩ := Int.eq_ofNat_of_zero_le (show 0 ≤ o by omega)
      rcases nat4 (n := n) (by omega) with rfl | rfl | rfl | rfl | rfl <;> rfl
theorem ref_factors_eq (o : Int) : serinetteref07_Factors.f o = some (FI o) := by
  unfold serinetteref07_Factors.f FI
  by_cases h : o < 0
  · rw [if_neg (by omega), if_neg (by omega), if_neg (by omega), if_neg (by omega), if_pos h]
  · obtain ⟨n, rfl⟩ := Int.eq_ofNat_of_zero_le (show 0 ≤ o by omega)
    by_cases h4 : n ≤ 4
    · rcases nat4 h4 with rfl | rfl | rfl | rfl | rfl <;> rfl
    · rw [if_neg (by omega), if_neg (by omega), if_neg (by omega), if_neg (by omega), if_neg h, Int.toNat_natCast, F_big (by omega)]

def dot : List Int → List Int → Int
  | f :: fs, r :: rs => f * r + dot fs rs
  | _, _ => 0
theorem dot_nil (r : List Int) : dot [] r = 0 := by cases r <;> rfl
theorem rd_rev {x p rp rt t : List Int} {r : Int} (hx : x = p.reverse ++ t) (hp : p = rp ++ r :: rt) : rd x ((p.length : Int) - 1 - rp.length) = r := by
  have : x = rt.reverse ++ r :: (rp.reverse ++ t) := by rw [hx, hp]; simp
  rw [this]
  exact rd_at' _ _ _ (by rw [hp]; simp; omega)

theorem tell_step (acc f r : Int) (fs rs : List Int) : wrap64 (wrap64 (acc + wrap64 (f * r)) + dot fs rs) = wrap64 (acc + dot (f :: fs) (r :: rs)) := by
  rw [w_add_l, show acc + wrap64 (f * r) + dot fs rs = (acc + dot fs rs) + wrap64 (f * r) by omega, w_add_r, dot]
  congr 1; omega

theorem told_l0 {x p t : List Int} (hx : x = p.reverse ++ t) (hl : x.length < 1099511627776) (F0 : List Int) (h4 : F0.length ≤ 1000000) : ∀ (fs fp rs rp : List Int) (acc i : Int), F0 = fp ++ fs → p = rp ++ rs → fp.length = rp.length → i = fp.length → fs.length ≤ rs.length → wrap64 acc = acc →
    Ev (fun k => serinetteref07_Told.l0 k x (p.length : Int) F0 acc i) (wrap64 (acc + dot fs rs)) := by
  intro fs
  induction fs with
  | nil =>
    intro fp rs rp acc i hF hp hfr hi _ hacc
    refine succ ?_
    simp only [serinetteref07_Told.l0]
    exact neg (by rw [hF, hi]; simp) (cst (by rw [dot_nil, Int.add_zero, hacc]))
  | cons f fs ih =>
    intro fp rs rp acc i hF hp hfr hi hfs hacc
    cases rs with
    | nil => simp at hfs
    | cons r rs =>
      refine succ ?_
      simp only [serinetteref07_Told.l0]
      have lp : p.length = rp.length + rs.length + 1 := by rw [hp]; simp; omega
      have lx : x.length = p.length + t.length := by rw [hx]; simp
      have lF : F0.length = fp.length + fs.length + 1 := by rw [hF]; simp; omega
      have hw : wrap64 (wrap64 ((p.length : Int) - 1) - i) = (p.length : Int) - 1 - rp.length := by
        rw [w64 (x := (p.length : Int) - 1) (by omega) (by omega), w64 (by omega) (by omega)]; omega
      have hw1 : wrap64 (i + 1) = i + 1 := w64 (by omega) (by omega)
      rw [hw, hw1]
      refine pos (by omega) (pos (by omega) (pos (by omega) (pos (by omega) ?_)))
      have rf : rd F0 i = f := by rw [hF]; exact rd_at' _ _ _ hi
      rw [rd_rev hx hp, rf, ← tell_step]
      exact ih (fp ++ [f]) rs (rp ++ [r]) _ (i + 1) (by simp [hF]) (by simp [hp]) (by simp [hfr]) (by simp [hi]) (by simpa using hfs) (w64_w _)

theorem told_ev {x p t : List Int} (hx : x = p.reverse ++ t) (hl : x.length < 1099511627776) (o : Nat) (h4 : o ≤ 4) (ho : o ≤ p.length) :
    Ev (fun k => serinetteref07_Told.f k x (p.length : Int) (o : Int)) (wrap64 (dot (F o) p)) := by
  unfold serinetteref07_Told.f
  rw [ref_factors_eq]
  have hF : FI (o : Int) = F o := by simp [FI]; omega
  rw [hF]
  simp only [Option.bind_some]
  have := told_l0 hx hl (F o) (by rw [F_len h4]; omega) (F o) [] p [] 0 0 rfl rfl rfl rfl (by rw [F_len h4]; exact ho) (by unfold wrap64; omega)
  simpa using this

/-- What the reference leaves behind numbers p (the nearest first). -/
def refres (fs p : List Int) : List Int → List Int
  | [] => []
  | a :: t => wrap64 (a - dot fs p) :: refres fs (a :: p) t
theorem refres_len (fs : List Int) : ∀ (t p : List Int), (refres fs p t).length = t.length
  | [], _ => rfl
  | a :: t, p => by simp [refres, refres_len fs t]
theorem refres_l0 (x : List Int) (hl : x.length < 1099511627776) (o : Nat) (h4 : o ≤ 4) : ∀ (t p out : List Int) (i : Int), x = p.reverse ++ t → i = p.length → o ≤ p.length → out.length + t.length < 1099511627776 →
    Ev (fun k => serinetteref07_Residual.l0 k x (o : Int) out i) (out ++ refres (F o) p t, 0) := by
  intro t
  induction t with
  | nil =>
    intro p out i hx hi ho hlen
    refine succ ?_
    simp only [serinetteref07_Residual.l0]
    exact neg (by rw [hx, hi]; simp) (cst (by simp [refres]))
  | cons a t ih =>
    intro p out i hx hi ho hlen
    simp only [List.length_cons] at hlen
    have lx : x.length = p.length + t.length + 1 := by rw [hx]; simp; omega
    refine succ ?_
    simp only [serinetteref07_Residual.l0]
    have ra : rd x i = a := by rw [hx]; exact rd_at' _ _ _ (by simp [hi])
    have hw1 : wrap64 (i + 1) = i + 1 := w64 (by omega) (by omega)
    refine pos (by omega) (pos (by omega) ?_)
    rw [ra, hw1]
    have ht := told_ev hx hl o h4 ho
    rw [← hi] at ht
    refine bnd ht (pos (by omega) ?_)
    rw [w_sub_r]
    have := ih (a :: p) (out ++ [wrap64 (a - dot (F o) p)]) (i + 1) (by simp [hx]) (by simp [hi]) (by simp; omega) (by simp; omega)
    simpa [refres] using this

theorem diffs_refres (m : Nat) (hm : m ≤ 4) : ∀ (t p : List Int), m ≤ p.length → (∀ a ∈ t, wrap64 a = a) → diffs m ((p.take m).reverse ++ t) = refres (F m) p t := by
  intro t
  induction t with
  | nil =>
    intro p hp _
    apply List.eq_nil_of_length_eq_zero
    rw [diffs_len]; simp; omega
  | cons a t ih =>
    intro p hp hc
    have ha := hc a (by simp)
    have h2 := ih (a :: p) (by simp; omega) (fun b hb => hc b (by simp [hb]))
    rw [refres, ← h2]
    rcases nat4 hm with rfl | rfl | rfl | rfl | rfl
    · simp [diffs, F, dot_nil, ha]
    · obtain ⟨p1, p, rfl⟩ : ∃ a l, p = a :: l := by cases p with | nil => simp at hp | cons a l => exact ⟨a, l, rfl⟩
      simp only [List.take_succ_cons, List.take_zero, List.reverse_cons, List.reverse_nil, List.nil_append, List.cons_append, diffs, diff, F, dot, dot_nil]
      congr 2; omega
    · obtain ⟨p1, p2, p, rfl⟩ : ∃ a b l, p = a :: b :: l := by
        rcases p with _ | ⟨a, _ | ⟨b, l⟩⟩ <;> simp at hp; exact ⟨a, b, l, rfl⟩
      simp only [List.take_succ_cons, List.take_zero, List.reverse_cons, List.reverse_nil, List.nil_append, List.cons_append, diffs, diff, F, dot, dot_nil, w_sub_l, w_sub_r]
      congr 2; omega
    · obtain ⟨p1, p2, p3, p, rfl⟩ : ∃ a b c l, p = a :: b :: c :: l := by
        rcases p with _ | ⟨a, _ | ⟨b, _ | ⟨c, l⟩⟩⟩ <;> simp at hp; exact ⟨a, b, c, l, rfl⟩
      simp only [List.take_succ_cons, List.take_zero, List.reverse_cons, List.reverse_nil, List.nil_append, List.cons_append, diffs, diff, F, dot, dot_nil]
      congr 1; unfold wrap64; omega
    · obtain ⟨p1, p2, p3, p4, p, rfl⟩ : ∃ a b c d l, p = a :: b :: c :: d :: l := by
        rcases p with _ | ⟨a, _ | ⟨b, _ | ⟨c, _ | ⟨d, l⟩⟩⟩⟩ <;> simp at hp; exact ⟨a, b, c, d, l, rfl⟩
      simp only [List.take_succ_cons, List.take_zero, List.reverse_cons, List.reverse_nil, List.nil_append, List.cons_append, diffs, diff, F, dot, dot_nil]
      congr 1; unfold wrap64; omega

theorem ref_residual_ev (l : List Int) (o : Int) (hl : l.length < 1099511627776) (hc : ∀ a ∈ l, wrap64 a = a) : Ev (fun k => serinetteref07_Residual.f k l o) (resI l o) := by
  unfold serinetteref07_Residual.f resI
  by_cases h1 : o < 0
  · refine pos h1 (succ ?_)
    simp only [serinetteref07_Residual.j0]
    exact pos trivial (cst (by simp [h1]))
  · refine neg h1 (succ ?_)
    simp only [serinetteref07_Residual.j0]
    by_cases h2 : o > 4
    · exact pos (by simp [h2]) (cst (by simp [h2]))
    · refine neg (by simp [h2]) ?_
      by_cases h3 : (l.length : Int) < o
      · exact pos h3 (cst (by simp [h1, h2, h3]))
      · refine neg h3 ?_
        simp only [if_neg (show ¬ (o < 0 ∨ o > 4) by omega), if_neg h3]
        obtain ⟨n, rfl⟩ := Int.eq_ofNat_of_zero_le (show 0 ≤ o by omega)
        have h := refres_l0 l hl n (by omega) (l.drop n) (l.take n).reverse [] n (by simp) (by simp; omega) (by simp; omega) (by simp; omega)
        have e := diffs_refres n (by omega) (l.drop n) (l.take n).reverse (by simp; omega) (fun a ha => hc a (List.mem_of_mem_drop ha))
        have e2 : ((List.take n l).reverse.take n).reverse ++ l.drop n = l := by
          rw [List.take_of_length_le (by simp; omega), List.reverse_reverse, List.take_append_drop]
        rw [e2] at e
        rw [Int.toNat_natCast, e]
        simpa using h

def restore (fs out : List Int) : List Int → List Int
  | [] => out
  | n :: t => restore fs (out ++ [wrap64 (n + dot fs out.reverse)]) t
theorem restore_len (fs : List Int) : ∀ (t out : List Int), (restore fs out t).length = out.length + t.length
  | [], _ => rfl
  | n :: t, out => by rw [restore, restore_len fs t]; simp; omega

theorem restore_l1 (fs0 x rest : List Int) (many at_ : Int) (R : List Int × Int) (hl : x.length < 1099511627776) (h4 : fs0.length ≤ 1000000) : ∀ (fs fp rs rp : List Int) (acc i : Int), fs0 = fp ++ fs → x.reverse = rp ++ rs → fp.length = rp.length → i = fp.length → fs.length ≤ rs.length → wrap64 acc = acc →
    Ev (fun k => fixed_Restore.l0 k fs0 (x ++ [wrap64 (acc + dot fs rs)]) rest many (wrap64 (at_ + 1))) R →
    Ev (fun k => fixed_Restore.l1 k fs0 x acc (wrap64 ((x.length : Int) - 1)) rest many at_ fs0 (fs0.length : Int) i) R := by
  intro fs
  induction fs with
  | nil =>
    intro fp rs rp acc i hF hp hfr hi _ hacc h
    refine succ ?_
    simp only [fixed_Restore.l1]
    rw [dot_nil, Int.add_zero, hacc] at h
    exact neg (by rw [hF, hi]; simp) (pos (by omega) h)
  | cons f fs ih =>
    intro fp rs rp acc i hF hp hfr hi hfs hacc h
    cases rs with
    | nil => simp at hfs
    | cons r rs =>
      refine succ ?_
      simp only [fixed_Restore.l1]
      have lp : x.length = rp.length + rs.length + 1 := by have := congrArg List.length hp; simp at this; omega
      have lF : fs0.length = fp.length + fs.length + 1 := by rw [hF]; simp; omega
      have hw : wrap64 (wrap64 ((x.length : Int) - 1) - i) = (x.reverse.length : Int) - 1 - rp.length := by
        rw [w64 (x := (x.length : Int) - 1) (by omega) (by omega), w64 (by omega) (by omega), List.length_reverse]; omega
      have hw1 : wrap64 (i + 1) = i + 1 := w64 (by omega) (by omega)
      rw [hw, hw1]
      refine pos (by omega) (pos (by omega) (pos (by omega) (pos (by rw [List.length_reverse]; omega) (pos (by rw [List.length_reverse]; omega) ?_))))
      have rf : rd fs0 i = f := by rw [hF]; exact rd_at' _ _ _ hi
      rw [rd_rev (x := x) (t := []) (by simp) hp, rf]
      exact ih (fp ++ [f]) rs (rp ++ [r]) _ (i + 1) (by simp [hF]) (by simp [hp]) (by simp [hfr]) (by simp [hi]) (by simpa using hfs) (w64_w _) (by rw [tell_step]; exact h)

theorem restore_l0 (fs rest : List Int) (h4 : fs.length ≤ 1000000) (hr : rest.length < 1099511627776) (hc : ∀ a ∈ rest, wrap64 a = a) : ∀ (t p out : List Int) (i : Int), rest = p ++ t → i = p.length → fs.length ≤ out.length → out.length + t.length < 1099511627776 →
    Ev (fun k => fixed_Restore.l0 k fs out rest (rest.length : Int) i) (restore fs out t, 0) := by
  intro t
  induction t with
  | nil =>
    intro p out i hp hi _ _
    refine succ ?_
    simp only [fixed_Restore.l0]
    exact neg (by rw [hp, hi]; simp) (cst rfl)
  | cons a t ih =>
    intro p out i hp hi hf hlen
    simp only [List.length_cons] at hlen
    have lp : rest.length = p.length + t.length + 1 := by rw [hp]; simp; omega
    refine succ ?_
    simp only [fixed_Restore.l0]
    refine pos (by omega) (pos (by omega) (pos (by omega) ?_))
    have ra : rd rest i = a := by rw [hp]; exact rd_at' _ _ _ hi
    rw [ra]
    refine restore_l1 fs out rest rest.length i _ (by omega) h4 fs [] out.reverse [] a 0 rfl rfl rfl rfl (by simpa using hf) (hc a (by rw [hp]; simp)) ?_
    rw [w64 (x := i + 1) (by omega) (by omega), restore]
    exact ih (p ++ [a]) _ (i + 1) (by simp [hp]) (by simp [hi]) (by simp; omega) (by simp; omega)

/-- What is restored, or what is wrong. -/
def resto (warm rest : List Int) : List Int × Int := if warm.length > 4 then ([], 1) else (restore (F warm.length) warm rest, 0)
theorem restore_ev (warm rest : List Int) (hl : warm.length + rest.length < 1099511627776) (hc : ∀ a ∈ rest, wrap64 a = a) : Ev (fun k => fixed_Restore.f k warm rest) (resto warm rest) := by
  unfold fixed_Restore.f resto
  by_cases h : warm.length > 4
  · exact pos (by omega) (cst (by rw [if_pos h]))
  · refine neg (by omega) ?_
    rw [factors_eq, clone_ev warm (by omega), if_neg h]
    have hF : FI (warm.length : Int) = F warm.length := by simp [FI]; omega
    rw [hF]
    simp only [Option.bind_some]
    exact restore_l0 (F warm.length) rest (by rw [F_len (by omega)]; omega) (by omega) hc rest [] warm 0 rfl rfl (by rw [F_len (by omega)]; omega) hl
theorem ref_restore_l0 (warm rest : List Int) (h4 : warm.length ≤ 4) (hr : rest.length < 1099511627776) : ∀ (t p out : List Int) (i : Int), rest = p ++ t → i = p.length → warm.length ≤ out.length → out.length + t.length < 1099511627776 →
    Ev (fun k => serinetteref07_Restore.l0 k warm rest out i) (restore (F warm.length) out t, 0) := by
  intro t
  induction t with
  | nil =>
    intro p out i hp hi _ _
    refine succ ?_
    simp only [serinetteref07_Restore.l0]
    exact neg (by rw [hp, hi]; simp) (cst rfl)
  | cons a t ih =>
    intro p out i hp hi hf hlen
    simp only [List.length_cons] at hlen
    have lp : rest.length = p.length + t.length + 1 := by rw [hp]; simp; omega
    refine succ ?_
    simp only [serinetteref07_Restore.l0]
    refine pos (by omega) (pos (by omega) ?_)
    have ra : rd rest i = a := by rw [hp]; exact rd_at' _ _ _ hi
    have ht := told_ev (x := out) (p := out.reverse) (t := []) (by simp) (by omega) warm.length h4 (by simpa using hf)
    rw [List.length_reverse] at ht
    refine bnd ht (pos (by omega) ?_)
    rw [ra, w_add_r, w64 (x := i + 1) (by omega) (by omega), restore]
    exact ih (p ++ [a]) _ (i + 1) (by simp [hp]) (by simp [hi]) (by simp; omega) (by simp; omega)
theorem ref_restore_ev (warm rest : List Int) (hl : warm.length + rest.length < 1099511627776) : Ev (fun k => serinetteref07_Restore.f k warm rest) (resto warm rest) := by
  unfold serinetteref07_Restore.f resto
  by_cases h : warm.length > 4
  · exact pos (by omega) (cst (by rw [if_pos h]))
  · refine neg (by omega) ?_
    rw [if_neg h]
    simp only [Option.bind_some, List.length_nil, List.nil_append]
    exact pos (by omega) (ref_restore_l0 warm rest (by omega) (by omega) rest [] warm 0 rfl rfl (by omega) hl)
theorem restore_refres (fs : List Int) : ∀ (t p : List Int), (∀ a ∈ t, wrap64 a = a) → restore fs p.reverse (refres fs p t) = p.reverse ++ t := by
  intro t
  induction t with
  | nil => intro p _; simp [refres, restore]
  | cons a t ih =>
    intro p hc
    rw [refres, restore, List.reverse_reverse, w_add_l, show a - dot fs p + dot fs p = a by omega, hc a (by simp)]
    have := ih (a :: p) (fun b hb => hc b (by simp [hb]))
    simpa using this
/-- What is left of numbers restores them. -/
theorem resto_diffs (x : List Int) (n : Nat) (h4 : n ≤ 4) (hn : n ≤ x.length) (hc : ∀ a ∈ x, wrap64 a = a) : resto (x.take n) (diffs n x) = (x, 0) := by
  have e := diffs_refres n h4 (x.drop n) (x.take n).reverse (by simp; omega) (fun a ha => hc a (List.mem_of_mem_drop ha))
  have e2 : ((List.take n x).reverse.take n).reverse ++ x.drop n = x := by
    rw [List.take_of_length_le (by simp; omega), List.reverse_reverse, List.take_append_drop]
  rw [e2] at e
  have h := restore_refres (F n) (x.drop n) (x.take n).reverse (fun a ha => hc a (List.mem_of_mem_drop ha))
  rw [List.reverse_reverse, List.take_append_drop] at h
  have hl : (x.take n).length = n := by simp; omega
  rw [resto, hl, if_neg (by omega), e, h]
theorem wfc {l : List Int} (h : ∀ x ∈ l, (Lit.int .i64 x).wf = true) : ∀ a ∈ l, wrap64 a = a := fun a ha => wf64w (h a ha)
theorem diff_c : ∀ l : List Int, ∀ a ∈ diff l, wrap64 a = a
  | [] => by simp [diff]
  | [_] => by simp [diff]
  | a :: b :: t => by
    intro x hx
    simp only [diff, List.mem_cons] at hx
    rcases hx with rfl | hx
    · exact w64_w _
    · exact diff_c (b :: t) x hx
theorem diffs_c : ∀ (n : Nat) (l : List Int), (∀ a ∈ l, wrap64 a = a) → ∀ a ∈ diffs n l, wrap64 a = a
  | 0, _, h => h
  | n + 1, l, _ => by rw [diffs]; exact diffs_c n _ (diff_c l)
end Go.Proofs.Ytiojcihklmifgaa.PL
