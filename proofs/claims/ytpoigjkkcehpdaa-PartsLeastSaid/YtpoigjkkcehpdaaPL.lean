/- Plain lemmas on numbers of 64 bits, lists, and answers from some number of rounds on. No condition. -/
import Derived.Test.YtpoigjkkcehpdaaWMore
namespace Go.Proofs.Ytpoigjkkcehpdaa.PL
open Go.RowKit Go.Proofs.YtpoigjkkcehpdaaW.PrintWords

theorem succ {α : Type} {g : Nat → Option α} {r : α} (h : Ev (fun k => g (k + 1)) r) : Ev g r := Ev.step (fun _ => rfl) h
theorem now {α : Type} (r : α) : Ev (fun _ => some r) r := Ev.now r
theorem bnd {α β : Type} {g : Nat → Option α} {f : Nat → α → Option β} {a : α} {r : β} (h : Ev g a) (k : Ev (fun n => f n a) r) : Ev (fun n => (g n).bind (f n)) r := Ev.bind h k
theorem cst {α : Type} {o : Option α} {r : α} (h : o = some r) : Ev (fun _ => o) r := ⟨0, fun _ _ => h⟩

theorem pos {α : Type} {c : Prop} [Decidable c] {f g : Nat → Option α} {r : α} (h : c) (e : Ev f r) : Ev (fun k => if c then f k else g k) r := by simpa only [if_pos h] using e
theorem neg {α : Type} {c : Prop} [Decidable c] {f g : Nat → Option α} {r : α} (h : ¬ c) (e : Ev g r) : Ev (fun k => if c then f k else g k) r := by simpa only [if_neg h] using e

theorem w64 {x : Int} (h1 : -9223372036854775808 ≤ x) (h2 : x < 9223372036854775808) : wrap64 x = x := by unfold wrap64; omega
theorem w64_lo (x : Int) : -9223372036854775808 ≤ wrap64 x := by unfold wrap64; omega
theorem w64_hi (x : Int) : wrap64 x < 9223372036854775808 := by unfold wrap64; omega
theorem w64_w (x : Int) : wrap64 (wrap64 x) = wrap64 x := w64 (w64_lo x) (w64_hi x)
theorem w64_q (x : Int) : ∃ q, wrap64 x = x + 18446744073709551616 * q := ⟨-((x + 9223372036854775808) / 18446744073709551616), by unfold wrap64; omega⟩
theorem w64_add (x q : Int) : wrap64 (x + 18446744073709551616 * q) = wrap64 x := by unfold wrap64; omega
theorem w_add_l (a b : Int) : wrap64 (wrap64 a + b) = wrap64 (a + b) := by unfold wrap64; omega
theorem w_add_r (a b : Int) : wrap64 (a + wrap64 b) = wrap64 (a + b) := by unfold wrap64; omega
theorem w_sub_l (a b : Int) : wrap64 (wrap64 a - b) = wrap64 (a - b) := by unfold wrap64; omega
theorem w_sub_r (a b : Int) : wrap64 (a - wrap64 b) = wrap64 (a - b) := by unfold wrap64; omega
theorem w_neg (b : Int) : wrap64 (-wrap64 b) = wrap64 (-b) := by unfold wrap64; omega
theorem w_mul_l (a b : Int) : wrap64 (wrap64 a * b) = wrap64 (a * b) := by
  obtain ⟨q, h⟩ := w64_q a
  rw [h, show (a + 18446744073709551616 * q) * b = a * b + 18446744073709551616 * (q * b) by grind]
  exact w64_add _ _
theorem w_mul_r (a b : Int) : wrap64 (a * wrap64 b) = wrap64 (a * b) := by rw [Int.mul_comm, w_mul_l, Int.mul_comm]
theorem wf64 {x : Int} (h : (Lit.int .i64 x).wf = true) : -9223372036854775808 ≤ x ∧ x < 9223372036854775808 := by
  simp only [Lit.wf, IntKind.min, IntKind.max, IntKind.signed, IntKind.bits, Bool.and_eq_true, decide_eq_true_eq, if_true] at h
  omega
theorem wf64w {x : Int} (h : (Lit.int .i64 x).wf = true) : wrap64 x = x := w64 (wf64 h).1 (wf64 h).2
theorem wfu8 {x : Int} (h : (Lit.int .u8 x).wf = true) : 0 ≤ x ∧ x < 256 := by
  simp [Lit.wf, IntKind.min, IntKind.max, IntKind.signed, IntKind.bits] at h
  omega
theorem wfu16 {x : Int} (h : (Lit.int .u16 x).wf = true) : 0 ≤ x ∧ x < 65536 := by
  simp [Lit.wf, IntKind.min, IntKind.max, IntKind.signed, IntKind.bits] at h
  omega
theorem wfu32 {x : Int} (h : (Lit.int .u32 x).wf = true) : 0 ≤ x ∧ x < 4294967296 := by
  simp [Lit.wf, IntKind.min, IntKind.max, IntKind.signed, IntKind.bits] at h
  omega
theorem wfu64 {x : Int} (h : (Lit.int .u64 x).wf = true) : 0 ≤ x ∧ x < 18446744073709551616 := by
  simp [Lit.wf, IntKind.min, IntKind.max, IntKind.signed, IntKind.bits] at h
  omega
theorem wfi16 {x : Int} (h : (Lit.int .i16 x).wf = true) : -32768 ≤ x ∧ x < 32768 := by
  simp [Lit.wf, IntKind.min, IntKind.max, IntKind.signed, IntKind.bits] at h
  omega
theorem wfi32 {x : Int} (h : (Lit.int .i32 x).wf = true) : -2147483648 ≤ x ∧ x < 2147483648 := by
  simp [Lit.wf, IntKind.min, IntKind.max, IntKind.signed, IntKind.bits] at h
  omega

theorem rd_nat (l : List Int) (i : Nat) : rd l (i : Int) = l.getD i 0 := by simp [rd]
theorem rd_at (p : List Int) (x : Int) (t : List Int) : rd (p ++ x :: t) (p.length : Int) = x := by simp [rd]
theorem rd_at' {i : Int} (p : List Int) (x : Int) (t : List Int) (h : i = p.length) : rd (p ++ x :: t) i = x := by subst h; exact rd_at p x t
theorem rd_lt {l : List Int} {i : Int} (h0 : 0 ≤ i) (h : i < l.length) : rd l i = l[i.toNat]'(by omega) := by simp [rd, List.getD_eq_getElem?_getD, List.getElem?_eq_getElem (show i.toNat < l.length by omega)]
theorem rd_mem {l : List Int} {i : Int} (h0 : 0 ≤ i) (h : i < l.length) : rd l i ∈ l := by rw [rd_lt h0 h]; exact List.getElem_mem _
theorem set_at (p : List Int) (x : Int) (t : List Int) (y : Int) : (p ++ x :: t).set p.length y = p ++ y :: t := by simp
end Go.Proofs.Ytpoigjkkcehpdaa.PL
