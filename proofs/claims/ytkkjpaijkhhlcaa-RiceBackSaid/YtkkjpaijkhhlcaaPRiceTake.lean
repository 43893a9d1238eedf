/- What rice.Take answers where rice.Put has put. Condition: fewer than 2^40 bytes. -/
import Derived.Test.YtkkjpaijkhhlcaaPUnfold
import Derived.Test.YtkkjpaijkhhlcaaPRicePut
import Derived.Test.YtkkjpaijkhhlcaaPBitsTake
import Derived.Test.YtkkjpaijkhhlcaaPAx12
import Derived.Test.YtkkjpaijkhhlcaaPAx14
namespace Go.Proofs.Ytkkjpaijkhhlcaa.PL
open Go Go.RowKit Go.Proofs.Ytkkjpaijkhhlcaa.PA Go.Proofs.YtkkjpaijkhhlcaaW.PrintWords Go.Proofs.YtkkjpaijkhhlcaaW.PrintMore
set_option linter.unusedSimpArgs false
set_option linter.unusedVariables false
theorem fail_eq (b : List Int) (p : Nat) (fl : Int) : bits_Reader_Fail.f b (p : Int) fl = some (fl, (p : Int), fl) := rfl
/-- One step of a Reader over what was put. -/
theorem take_at (A B C : List Bool) (w : Int) (hw' : hw w = B.length) (hlen : (A ++ B ++ C).length < 8796093000000) :
    Ev (fun q => bits_Reader_Take.f q (toB (A ++ B ++ C)) (A.length : Int) 0 w) (num B, ((A ++ B).length : Int), 0) := by
  have h8 := toB_len8 (A ++ B ++ C)
  have hl : (A ++ B ++ C).length = A.length + B.length + C.length := by rw [List.length_append, List.length_append]
  have ht := take_ev (toB (A ++ B ++ C)) A.length 0 w (by omega) (by omega) (toB_bd _)
  rw [hw', takeR_ok (by omega), cutB_toB] at ht
  rw [List.length_append]
  exact ht
theorem rtake_l0 (n : Int) (hn : IsNear n) (k : Nat) (hk : k ≤ 30) (z : Nat) (hz : fold n / 2 ^ k = (z : Int)) : ∀ (d i : Nat) (A C : List Bool), i + d = z →
    (A ++ (List.replicate d false ++ (true :: digs (fold n) k)) ++ C).length < 8796093000000 →
    Ev (fun q => rice_Take.l0 q (k : Int) (i : Int) (toB (A ++ (List.replicate d false ++ (true :: digs (fold n) k)) ++ C)) (A.length : Int) 0)
      (n, ((A ++ (List.replicate d false ++ (true :: digs (fold n) k))).length : Int), 0) := by
  have hf := fold_near hn
  have hd := div_pow_bd (x := fold n) (s := k) hf.1
  intro d
  induction d with
  | zero =>
    intro i A C hi hlen
    have hiz : i = z := by omega
    have e1 : A ++ (List.replicate 0 false ++ (true :: digs (fold n) k)) ++ C = A ++ [true] ++ (digs (fold n) k ++ C) := by simp
    have e2 : A ++ (List.replicate 0 false ++ (true :: digs (fold n) k)) ++ C = (A ++ [true]) ++ digs (fold n) k ++ C := by simp
    have t1 := take_at A [true] (digs (fold n) k ++ C) 1 (by decide) (by rw [← e1]; exact hlen)
    rw [← e1] at t1
    have t2 := take_at (A ++ [true]) (digs (fold n) k) C (k : Int) (by rw [hw_nat (by omega), digs_len]) (by rw [← e2]; exact hlen)
    rw [← e2] at t2
    have e3 : A ++ [true] ++ digs (fold n) k = A ++ (List.replicate 0 false ++ (true :: digs (fold n) k)) := by simp
    rw [e3] at t2
    generalize toB (A ++ (List.replicate 0 false ++ (true :: digs (fold n) k)) ++ C) = b at t1 t2 ⊢
    generalize A ++ (List.replicate 0 false ++ (true :: digs (fold n) k)) = L at t2 ⊢
    have eu : Go.bits .or .u64 (shl .u64 (i : Int) (k : Int)) (num (digs (fold n) k)) = fold n := by
      have hb := num_bd (digs (fold n) k)
      rw [digs_len] at hb
      have hi34 : (i : Int) < 2 ^ 34 := by
        have e : (2 : Int) ^ 34 = 17179869184 := by decide
        rw [e]; omega
      rw [or_join (i : Int) (num (digs (fold n) k)) k 34 (by omega) hi34 (by omega) hb.1 hb.2, num_digs, hiz, ← hz]
      have := Int.mul_ediv_add_emod (fold n) (2 ^ k)
      rw [Int.mul_comm]; exact this
    refine succ ?_
    simp only [rice_Take.l0]
    refine bnd t1 ?_
    rw [fail_eq]
    simp only [Option.bind_some]
    refine pos (by first | trivial | rfl) (neg (by rw [num_one]; decide) (bnd t2 ?_))
    rw [fail_eq]
    simp only [Option.bind_some]
    refine pos (by first | trivial | rfl) (pos (by omega) ?_)
    rw [eu, unfold_eq _ ⟨hf.1, by omega⟩, unfold_fold]
    exact now _
  | succ d ih =>
    intro i A C hi hlen
    have e1 : A ++ (List.replicate (d + 1) false ++ (true :: digs (fold n) k)) ++ C = A ++ [false] ++ ((List.replicate d false ++ (true :: digs (fold n) k)) ++ C) := by simp [List.replicate_succ]
    have e2 : A ++ (List.replicate (d + 1) false ++ (true :: digs (fold n) k)) ++ C = (A ++ [false]) ++ (List.replicate d false ++ (true :: digs (fold n) k)) ++ C := by simp [List.replicate_succ]
    have e3 : A ++ (List.replicate (d + 1) false ++ (true :: digs (fold n) k)) = (A ++ [false]) ++ (List.replicate d false ++ (true :: digs (fold n) k)) := by simp [List.replicate_succ]
    have t1 := take_at A [false] ((List.replicate d false ++ (true :: digs (fold n) k)) ++ C) 1 (by decide) (by rw [← e1]; exact hlen)
    rw [← e1] at t1
    have hi' := ih (i + 1) (A ++ [false]) C (by omega) (by rw [← e2]; exact hlen)
    rw [← e2, ← e3] at hi'
    have ew : IntKind.u64.wrap ((i : Int) + 1) = ((i + 1 : Nat) : Int) := by rw [u64_wrap]; omega
    refine succ ?_
    simp only [rice_Take.l0]
    refine bnd t1 ?_
    rw [fail_eq]
    simp only [Option.bind_some]
    refine pos (by first | trivial | rfl) (pos (by rw [num_one]; rfl) ?_)
    rw [ew]
    exact hi'
theorem rtake_ev (n k : Int) (hn : IsNear n) (A C : List Bool) (hlen : (A ++ putB n (kk k) ++ C).length < 8796093000000) :
    Ev (fun q => rice_Take.f q (toB (A ++ putB n (kk k) ++ C)) (A.length : Int) 0 k) (n, ((A ++ putB n (kk k)).length : Int), 0) := by
  have hf := fold_near hn
  have hd := div_pow_bd (x := fold n) (s := kk k) hf.1
  unfold rice_Take.f rice_held.f
  rw [kk_eq]
  simp only [Option.bind_some]
  exact rtake_l0 n hn (kk k) (kk_le k) (fold n / 2 ^ kk k).toNat (Int.toNat_of_nonneg hd.1).symm (fold n / 2 ^ kk k).toNat 0 A C (by omega) hlen
end Go.Proofs.Ytkkjpaijkhhlcaa.PL
