/- RicePuts: Put lays the bits that its plain twin tells. For every input (the law's own guards are in it). -/
import Derived.Test.YtkkjpaijkhhlcaaPAx9
import Derived.Test.YtkkjpaijkhhlcaaPRiceAwake
import Derived.Test.YtkkjpaijkhhlcaaPRicePut
import Derived.Test.YtkkjpaijkhhlcaaPBitsRef
namespace Go.Proofs.Ytkkjpaijkhhlcaa.Pure
open Go.RowKit Go.Proofs.Ytkkjpaijkhhlcaa.PA Go.Proofs.YtkkjpaijkhhlcaaW.PrintWords Go.Proofs.YtkkjpaijkhhlcaaW.PrintLast Go.Proofs.YtkkjpaijkhhlcaaW.PrintMore Go.Proofs.Ytkkjpaijkhhlcaa.PL
set_option linter.unusedSimpArgs false
set_option linter.unusedVariables false
theorem K_eq (k : Int) : serinetteref02_K.f k = some ((kk k : Nat) : Int) := by unfold serinetteref02_K.f; rw [kk_eq]
theorem refput_l0 (n k : Int) (z : Nat) (hz : z ≤ 65535) (hn : -9223372036854775808 ≤ n ∧ n < 9223372036854775808) : ∀ (d i : Nat), i + d = z →
    Ev (fun q => serinetteref02_Put.l0 q n k (z : Int) (List.replicate i false) (i : Int)) (List.replicate z false ++ (true :: digs (fold n) (kk k)), 0) := by
  intro d
  have hk := kk_le k
  have hf := fold_bd n hn
  induction d with
  | zero =>
    intro i hi
    obtain rfl : i = z := by omega
    refine succ ?_
    simp only [serinetteref02_Put.l0]
    have c1 : (List.replicate i false).length < 140737488355328 := by rw [List.length_replicate]; omega
    refine neg (by omega) (pos c1 ?_)
    rw [ref_fold_eq n hn, K_eq]
    simp only [Option.bind_some]
    have hd := digits_ev (fold n) ((kk k : Nat) : Int) hf.1 hf.2
    rw [hw_nat (by omega)] at hd
    refine bnd hd (pos ?_ ?_)
    · rw [List.length_append, List.length_replicate, digs_len, List.length_singleton]; omega
    · rw [List.append_assoc, List.singleton_append]; exact now _
  | succ d ih =>
    intro i hi
    have c1 : (List.replicate i false).length < 140737488355328 := by rw [List.length_replicate]; omega
    have e1 : List.replicate i false ++ [false] = List.replicate (i + 1) false := (List.replicate_succ').symm
    have e2 : IntKind.u64.wrap ((i : Int) + 1) = ((i + 1 : Nat) : Int) := by rw [u64_wrap]; omega
    refine succ ?_
    simp only [serinetteref02_Put.l0]
    rw [e1, e2]
    exact pos (by omega) (pos c1 (ih (i + 1) (by omega)))
theorem refput_ev (n k : Int) (hn : -9223372036854775808 ≤ n ∧ n < 9223372036854775808) : Ev (fun q => serinetteref02_Put.f q n k) ((rputR [] n (kk k)).2, (rputR [] n (kk k)).1) := by
  unfold serinetteref02_Put.f
  rw [ref_near_eq']
  simp only [Option.bind_some]
  by_cases h : IsNear n
  · refine pos (by simpa using h) (bnd (high_ev n k hn) ?_)
    by_cases hz : fold n / 2 ^ kk k > 65535
    · have e : rputR [] n (kk k) = (7, []) := by unfold rputR; rw [if_neg (by simpa using h), if_pos hz]
      rw [e]
      exact pos hz (now _)
    · have e : rputR [] n (kk k) = (0, putB n (kk k)) := by unfold rputR; rw [if_neg (by simpa using h), if_neg hz]; rfl
      rw [e]
      have hd := div_pow_bd (x := fold n) (s := kk k) (fold_near h).1
      have := refput_l0 n k (fold n / 2 ^ kk k).toNat (by omega) hn (fold n / 2 ^ kk k).toNat 0 (by omega)
      rw [Int.toNat_of_nonneg hd.1] at this
      exact neg hz this
  · have e : rputR [] n (kk k) = (6, []) := by unfold rputR; rw [if_pos h]
    rw [e]
    exact neg (by simpa using h) (now _)
theorem rputR_app (l : List Bool) (n : Int) (k : Nat) : rputR l n k = ((rputR [] n k).1, l ++ (rputR [] n k).2) := by
  unfold rputR; split
  · simp
  · split <;> simp
theorem rputR_len (n : Int) (k : Nat) (hk : k ≤ 30) : (rputR [] n k).2.length ≤ 65600 := by
  unfold rputR; split
  · simp
  · split
    · simp
    · rw [List.nil_append, putB_len]; omega
theorem j0_ev (n k x : Int) (hn : -9223372036854775808 ≤ n ∧ n < 9223372036854775808) (hx : 0 ≤ x ∧ x < 4294967296) : Ev (fun q => serinettelaw02_RicePuts.j0 q n k x true false) true := by
  have hk := kk_le k
  have ex : IntKind.u64.wrap x = x := by rw [u64_wrap]; omega
  have em : wrap64 (Int.tmod x 21) = Int.tmod x 21 := by rw [Int.tmod_eq_emod_of_nonneg hx.1]; exact w64 (by omega) (by omega)
  have hd := digits_ev x (Int.tmod x 21) hx.1 (by omega)
  have hw64 := hw_le (Int.tmod x 21)
  have hrl := rputR_len n (kk k) hk
  have hlen : (digs x (hw (Int.tmod x 21))).length ≤ 64 := by rw [digs_len]; exact hw64
  generalize hD : digs x (hw (Int.tmod x 21)) = D at hd hlen
  have p1 := put_eq [] x (Int.tmod x 21) (by simp)
  rw [hD, List.nil_append] at p1
  have p2 := rput_ev D n k hn (by omega)
  rw [rputR_app D n (kk k)] at p2
  refine succ ?_
  simp only [serinettelaw02_RicePuts.j0]
  refine neg (by simp) ?_
  rw [new_eq, ex, em]
  simp only [Option.bind_some]
  rw [p1]
  simp only [Option.bind_some]
  refine bnd p2 (bnd (refput_ev n k hn) (bnd hd ?_))
  generalize (rputR [] n (kk k)).2 = R at hrl p2 ⊢
  have hl2 : (D ++ R).length ≤ 65700 := by rw [List.length_append]; omega
  refine pos (show D.length + R.length < 140737488355328 by omega) (pos trivial (pos (by first | trivial | rfl) ?_))
  rw [len_eq]
  simp only [Option.bind_some]
  refine pos (by first | trivial | rfl) ?_
  rw [bytes_eq _ (by omega)]
  simp only [Option.bind_some]
  refine bnd (ref_bytes_ev _ (by omega)) (bnd (same_refl _ ?_) (now _))
  rw [toB_len]; omega
theorem RicePuts : serinettelaw02_RicePuts.Pure := by
  intro n k x hn hk hx
  have bn := wf64 hn
  have bx := wfu32 hx
  refine Ev.rounds ?_
  unfold serinettelaw02_RicePuts.f
  refine bnd awake_ev ?_
  rw [ref_near_eq']
  simp only [Option.bind_some]
  refine bnd (high_ev n k bn) ?_
  have skip : Ev (fun q => serinettelaw02_RicePuts.j0 q n k x true true) true := by
    refine succ ?_
    simp only [serinettelaw02_RicePuts.j0]
    exact pos trivial (now _)
  by_cases h : IsNear n
  · refine pos (by simpa using h) ?_
    by_cases hz : fold n / 2 ^ kk k > 300
    · refine pos hz ?_
      by_cases hz2 : fold n / 2 ^ kk k ≤ 65535
      · rw [decide_eq_true hz2]; exact skip
      · rw [decide_eq_false hz2]; exact j0_ev n k x bn bx
    · exact neg hz (j0_ev n k x bn bx)
  · exact neg (by simpa using h) (j0_ev n k x bn bx)
end Go.Proofs.Ytkkjpaijkhhlcaa.Pure
