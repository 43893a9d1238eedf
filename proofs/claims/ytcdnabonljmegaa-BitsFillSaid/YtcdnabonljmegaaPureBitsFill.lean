/- BitsFill: Fill adds nothing to the bytes, and a reader's Fill tells what fills no byte. For every input (the law's own guards are in it). -/
import Derived.Test.YtcdnabonljmegaaPAx23
import Derived.Test.YtcdnabonljmegaaPBitsAwake
import Derived.Test.YtcdnabonljmegaaPBitsFill
import Derived.Test.YtcdnabonljmegaaPBitsRead
namespace Go.Proofs.Ytcdnabonljmegaa.Pure
open Go.RowKit Go.Proofs.Ytcdnabonljmegaa.PA Go.Proofs.YtcdnabonljmegaaW.PrintWords Go.Proofs.YtcdnabonljmegaaW.PrintLast Go.Proofs.YtcdnabonljmegaaW.PrintMore Go.Proofs.Ytcdnabonljmegaa.PL
set_option linter.unusedSimpArgs false
set_option linter.unusedVariables false
theorem bsome {α β : Type} (a : α) (f : α → Option β) : (some a).bind f = f a := by
  have h := Option.bind_some a f
  exact h
theorem fillB_fillB (l : List Bool) : fillB (fillB l) = fillB l := by
  have h := fillB_len l
  unfold fillB at h ⊢
  rw [h]
  simp
theorem fillB_lt (l : List Bool) : l.length ≤ (fillB l).length ∧ (fillB l).length ≤ l.length + 7 ∧ (fillB l).length % 8 = 0 := by rw [fillB_len]; omega
theorem j1_ev (b : List Int) (n : Nat) (hn : n ≤ 8) (hb : b.length = 1) (z : Bool) (p : Nat) (fl : Int)
    (h1 : z = true → fl = 0 ∧ p = (if n = 0 then 0 else 8)) (h2 : z = false → fl = 5 ∧ p = n) :
    Ev (fun k => serinettelaw01_BitsFill.j1 k true (n : Int) z b (p : Int) fl) true := by
  refine succ ?_
  simp only [serinettelaw01_BitsFill.j1, bits_Reader_At.f, bits_Reader_Fail.f, bsome]
  cases z with
  | true =>
    obtain ⟨rfl, hp⟩ := h1 rfl
    refine pos rfl (pos trivial (pos (by first | trivial | rfl) ?_))
    by_cases h0 : n = 0
    · subst h0
      rw [if_pos rfl] at hp
      subst hp
      exact pos rfl (pos rfl (now _))
    · rw [if_neg h0] at hp
      subst hp
      exact neg (by omega) (pos (by omega) (now _))
  | false =>
    obtain ⟨rfl, rfl⟩ := h2 rfl
    refine neg (by simp) (pos trivial (pos (by first | trivial | rfl) (cst ?_)))
    simp
theorem low_eq (x : Int) (hx : 0 ≤ x ∧ x < 256) (n : Nat) (h1 : 1 ≤ n) (h8 : n ≤ 7) : num (cutB [x] n (gap n)) = x % 2 ^ (8 - n) := by
  have hg : gap n = 8 - n := by unfold gap; omega
  have h := cut_step [x] 0 n (8 - n) (by simp) (by omega)
  have e : 8 * 0 + n = n := by omega
  rw [e] at h
  rw [hg, h, num_digs, show 8 - n - (8 - n) = 0 by omega]
  have er : rd [x] ((0 : Nat) : Int) = x := rfl
  rw [er]
  simp
theorem j0_ev (x y : Int) (hx : 0 ≤ x ∧ x < 256) (hy : 0 ≤ y ∧ y < 256) : Ev (fun k => serinettelaw01_BitsFill.j0 k x y true false [x] ((0 : Nat) : Int) 0) true := by
  obtain ⟨n, hn⟩ := Int.eq_ofNat_of_zero_le (show 0 ≤ y % 9 by omega)
  have en : wrap64 (Int.tmod y 9) = (n : Int) := by rw [Int.tmod_eq_emod_of_nonneg hy.1, w64 (by omega) (by omega), hn]
  have hn8 : n ≤ 8 := by omega
  have hbd : ∀ z ∈ [x], 0 ≤ z ∧ z < 256 := fun z hz => by rw [List.mem_singleton.1 hz]; exact hx
  have ht := take_ev [x] 0 0 (n : Int) (by simp) (by simp) hbd
  rw [hw_nat (by omega), takeR_ok (by simp only [List.length_singleton]; omega), Nat.zero_add] at ht
  have hf := fillR_ev [x] n 0 (by simp) (by simp only [List.length_singleton]; omega) hbd
  refine succ ?_
  simp only [serinettelaw01_BitsFill.j0]
  rw [en]
  refine neg (by simp) (bnd ht (bnd hf ?_))
  by_cases h0 : n = 0
  · subst h0
    have e : fillR [x] 0 0 = (((0 : Nat) : Int), 0) := by unfold fillR; rw [if_neg (by simp), if_neg (by simp [gap, cutB, num_nil])]; rfl
    rw [e]
    exact pos rfl (j1_ev [x] 0 (by decide) rfl true 0 0 (fun _ => ⟨rfl, rfl⟩) (fun h => absurd h (by simp)))
  refine neg (by omega) ?_
  by_cases h8 : n = 8
  · subst h8
    have e : fillR [x] 8 0 = (((8 : Nat) : Int), 0) := by unfold fillR; rw [if_neg (by simp), if_neg (by simp [gap, cutB, num_nil])]; rfl
    rw [e]
    exact pos rfl (j1_ev [x] 8 (by decide) rfl true 8 0 (fun _ => ⟨rfl, rfl⟩) (fun h => absurd h (by simp)))
  refine neg (by omega) ?_
  have es : wrap64 (8 - (n : Int)) = ((8 - n : Nat) : Int) := by rw [w64 (by omega) (by omega)]; omega
  have ex : wrap64 x = x := w64 (by omega) (by omega)
  have hl := low_eq x hx n (by omega) (by omega)
  have hp0 := pow2_pos (8 - n)
  have hp8 : (2 : Int) ^ (8 - n) ≤ 256 := pow_le_256 (by omega)
  have esh : shl .i64 1 ((8 - n : Nat) : Int) = 2 ^ (8 - n) := by
    have hm : min (8 - n) IntKind.i64.bits = 8 - n := by simp [IntKind.bits]; omega
    unfold shl
    rw [Int.toNat_natCast, hm, Int.one_mul, Go.IntKind.wrap_i64]
    generalize (2 : Int) ^ (8 - n) = P at hp0 hp8
    omega
  rw [es, ex, esh, Int.tmod_eq_emod_of_nonneg hx.1, ← hl]
  refine pos (Int.natCast_nonneg _) (neg (Int.ne_of_gt hp0) ?_)
  by_cases hz : num (cutB [x] n (gap n)) = 0
  · have e : fillR [x] n 0 = (((n + gap n : Nat) : Int), 0) := by unfold fillR; rw [if_neg (by simp), if_neg (by simp [hz])]
    have eg : n + gap n = 8 := by unfold gap; omega
    rw [e, eg, hz]
    exact j1_ev [x] n hn8 rfl true 8 0 (fun _ => ⟨rfl, by rw [if_neg h0]⟩) (fun h => absurd h (by simp))
  · have e : fillR [x] n 0 = ((n : Int), 5) := by unfold fillR; rw [if_neg (by simp), if_pos hz]
    rw [e, show (num (cutB [x] n (gap n)) == 0) = false from beq_eq_false_iff_ne.2 hz]
    exact j1_ev [x] n hn8 rfl false n 5 (fun h => absurd h (by simp)) (fun _ => ⟨rfl, rfl⟩)
theorem BitsFill : serinettelaw01_BitsFill.Pure := by
  intro v w x y hv hw' hx hy
  have bx := wfu8 hx
  have by' := wfu8 hy
  refine Ev.rounds ?_
  unfold serinettelaw01_BitsFill.f
  refine bnd awake_ev ?_
  have hl64 : (digs v (hw w)).length ≤ 64 := by rw [digs_len]; exact hw_le w
  have p1 := put_eq [] v w (by decide)
  rw [List.nil_append] at p1
  generalize digs v (hw w) = D at hl64 p1
  have hfl := fillB_lt D
  have f1 := fill_eq D (by omega)
  have f2 := fill_eq (fillB D) (by omega)
  rw [fillB_fillB] at f2
  have b1 := bytes_eq D (by omega)
  have b2 := bytes_eq (fillB D) (by omega)
  rw [toB_fillB] at b2
  have ho := open_eq [x] (by simp)
  have e8 : Int.tmod (((fillB D).length : Nat) : Int) 8 = 0 := by rw [tmod8, hfl.2.2]; rfl
  have c1 : ¬ (((fillB D).length : Nat) : Int) < ((D.length : Nat) : Int) := by omega
  have c2 : ¬ wrap64 ((((fillB D).length : Nat) : Int) - ((D.length : Nat) : Int)) > 7 := by rw [wsub (by omega) (by omega)]; omega
  have c3 : wrap64 (8 * ((toB D).length : Int)) = (((fillB D).length : Nat) : Int) := by rw [toB_len, fillB_len, w64 (by omega) (by omega)]; omega
  have c4 : (toB D).length < 1152921504606846976 := by rw [toB_len]; omega
  simp only [new_eq, ho, p1, b1, len_eq, f1, f2, b2, bsome]
  refine pos (by first | trivial | rfl) (pos e8 (neg c1 (neg c2 (bnd (same_refl (toB D) c4) (pos (by first | trivial | rfl) ?_)))))
  rw [c3]
  have e : ((((fillB D).length : Nat) : Int) != (((fillB D).length : Nat) : Int)) = false := by simp
  rw [e]
  exact j0_ev x y bx by'
end Go.Proofs.Ytcdnabonljmegaa.Pure
