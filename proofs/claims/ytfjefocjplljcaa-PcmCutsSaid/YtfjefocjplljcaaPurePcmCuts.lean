/- PcmCuts: parts, joined, are the whole, wherever it is cut; each part can be, if the whole can. For every input (the law's own guards are in it). -/
import Derived.Test.YtfjefocjplljcaaPAx22
import Derived.Test.YtfjefocjplljcaaPPcmPart
namespace Go.Proofs.Ytfjefocjplljcaa.Pure
open Go Go.RowKit Go.Proofs.Ytfjefocjplljcaa.PA Go.Proofs.YtfjefocjplljcaaW.PrintWords Go.Proofs.YtfjefocjplljcaaW.PrintLast Go.Proofs.YtfjefocjplljcaaW.PrintMore Go.Proofs.Ytfjefocjplljcaa.PL
set_option linter.unusedSimpArgs false
set_option linter.unusedVariables false
theorem row_join (c : List Int) (t : Int) (h : c.length ≤ 50) : rowP c 0 t ++ rowP c t 1000 = c := by
  have e0 : (0 : Int).toNat = 0 := rfl
  have e1 : (c.drop t.toNat).length ≤ (1000 : Int).toNat := by
    rw [List.length_drop]
    show _ ≤ 1000
    omega
  unfold rowP
  rw [e0, List.drop_zero, List.take_of_length_le e1, List.take_append_drop]
theorem whole_eq (l : List (List Int)) (t : Int) (h1 : ∀ c ∈ l, c.length ≤ 50) : List.zipWith (· ++ ·) (l.map fun c => rowP c 0 t) (l.map fun c => rowP c t 1000) = l := by
  refine List.ext_getElem (by simp) fun j h2 h3 => ?_
  simp only [List.getElem_zipWith, List.getElem_map]
  exact row_join _ t (h1 _ (List.getElem_mem h3))
theorem rowP_mem {c : List Int} {fr m x : Int} (h : x ∈ rowP c fr m) : x ∈ c := List.mem_of_mem_drop (List.mem_of_mem_take h)
theorem rd0_map (l : List (List Int)) (f : List Int → List Int) (h : 0 < l.length) : rd_L1 (l.map f) 0 = f (rd_L1 l 0) := by
  rw [rdL1_0 (l.map f) (by rw [List.length_map]; exact h), List.getElem_map, rdL1_0 l h]
theorem check_part (a b : Int) (l : List (List Int)) (fr m : Int) (h0 : checkV a b l = 0) : checkV a b (l.map fun c => rowP c fr m) = 0 := by
  obtain ⟨hw, hu, hi⟩ := checkV_0 h0
  have hl : 0 < l.length := by have := wrongV_0 hw; omega
  unfold checkV
  rw [List.length_map, if_neg (fun q => q hw), if_pos, if_pos]
  · rw [List.all_eq_true]
    intro r hr
    obtain ⟨c, hc, rfl⟩ := List.mem_map.1 hr
    rw [List.all_eq_true]
    intro x hx
    exact hi c hc x (rowP_mem hx)
  · rw [List.all_eq_true]
    intro r hr
    obtain ⟨c, hc, rfl⟩ := List.mem_map.1 hr
    rw [rd0_map l _ hl, beq_iff_eq]
    unfold rowP
    rw [List.length_take, List.length_drop, List.length_take, List.length_drop, hu c hc]
theorem many_end (x y : Int) (h : x = y) : (x == y) = true := by subst h; exact beq_self_eq_true x
theorem j0_ev (a b : Int) (l : List (List Int)) (t : Nat) (ht : t < 256) (hf : (∀ c ∈ l, c.length ≤ 50) ∧ l.length ≤ 10) (hw : ∀ c ∈ l, ∀ x ∈ c, -9223372036854775808 ≤ x ∧ x < 9223372036854775808) :
    Ev (fun k => serinettelaw06_PcmCuts.j0 k (t : Int) true false a b l a b (l.map fun c => rowP c 0 (t : Int)) a b (l.map fun c => rowP c (t : Int) 1000)) true := by
  have hp : ∀ fr m : Int, (∀ c ∈ l.map (fun c => rowP c fr m), c.length ≤ 50) ∧ (l.map fun c => rowP c fr m).length ≤ 10 := fun fr m => ⟨fun c hc => by
    obtain ⟨d, hd, rfl⟩ := List.mem_map.1 hc
    exact Nat.le_trans (rowP_len d fr m) (hf.1 d hd), by rw [List.length_map]; exact hf.2⟩
  have hpw : ∀ fr m : Int, ∀ c ∈ l.map (fun c => rowP c fr m), ∀ x ∈ c, -9223372036854775808 ≤ x ∧ x < 9223372036854775808 := fun fr m c hc x hx => by
    obtain ⟨d, hd, rfl⟩ := List.mem_map.1 hc
    exact hw d hd x (rowP_mem hx)
  refine succ ?_
  simp only [serinettelaw06_PcmCuts.j0]
  refine neg Bool.false_ne_true (bnd (cst (check_eq a b l hf hw)) ?_)
  by_cases h0 : checkV a b l = 0
  · have c1 := check_eq a b _ (hp 0 (t : Int)) (hpw 0 (t : Int))
    have c2 := check_eq a b _ (hp (t : Int) 1000) (hpw (t : Int) 1000)
    rw [check_part a b l _ _ h0] at c1 c2
    have hl : 0 < l.length := by have := wrongV_0 (checkV_0 h0).1; omega
    have m1 := many_eq a b (l.map fun c => rowP c 0 (t : Int))
    have m2 := many_eq a b (l.map fun c => rowP c (t : Int) 1000)
    have m0 := many_eq a b l
    have hm50 := hf.1 _ (rdL1_mem l (j := 0) hl)
    rw [rd0_map l _ hl] at m1 m2
    obtain ⟨n, hn⟩ : ∃ n, (rd_L1 l 0).length = n := ⟨_, rfl⟩
    have e1 : (rowP (rd_L1 l 0) 0 (t : Int)).length = min t n := by
      unfold rowP
      rw [List.length_take, List.length_drop, hn]
      have q : (0 : Int).toNat = 0 := rfl
      rw [q, Int.toNat_natCast, Nat.sub_zero]
    have hm50' : n ≤ 50 := by rw [← hn]; exact hm50
    have e2 : (rowP (rd_L1 l 0) (t : Int) 1000).length = n - t := by
      unfold rowP
      rw [List.length_take, List.length_drop, hn]
      have q : (1000 : Int).toNat = 1000 := rfl
      rw [q, Int.toNat_natCast]
      omega
    rw [e1] at m1
    rw [e2] at m2
    rw [hn] at m0
    have q0 : mn (t : Int) (n : Int) = ((min t n : Nat) : Int) := by unfold mn; split <;> omega
    have q1 : min t n + (n - t) = n := by omega
    have q2 : wrap64 (((min t n : Nat) : Int) + ((n - t : Nat) : Int)) = (n : Int) := by
      have q3 : ((min t n : Nat) : Int) + ((n - t : Nat) : Int) = (n : Int) := by omega
      rw [q3]; exact w64n (Nat.lt_of_le_of_lt hm50' (by decide))
    have q5 : wrap64 (t : Int) = (t : Int) := w64n (Nat.lt_trans ht (by decide))
    rw [q5]
    refine pos h0 (pos (by first | trivial | rfl) (bnd (cst c1) (pos rfl (bnd (cst c2) (pos rfl (bnd (cst m1) (bnd (cst m0) (pos q0.symm (bnd (cst m1) (bnd (cst m2) (bnd (cst m0) (cst ?_))))))))))))
    rw [q2, beq_self_eq_true]
  · exact neg h0 (now true)
theorem PcmCuts : ∀ (a0_0 : Int) (a0_1 : Int) (l0_2 : List (List Int)) (a1 : Int), (Lit.int .i64 a0_0).wf = true → (Lit.int .i64 a0_1).wf = true → l0_2.length ≤ maxLen → (∀ x ∈ l0_2, (x.length ≤ maxLen ∧ ∀ x_1 ∈ x, (Lit.int .i64 x_1).wf = true)) → (Lit.int .u8 a1).wf = true → ∃ k, serinettelaw06_PcmCuts.f k a0_0 a0_1 l0_2 a1 = some true := by
  intro a b l t0 ha hb hl hw ht0
  have ht := wfu8 ht0
  obtain ⟨t, rfl⟩ := Int.eq_ofNat_of_zero_le ht.1
  have htl : t < 256 := by omega
  have hw2 : ∀ c ∈ l, ∀ x ∈ c, -9223372036854775808 ≤ x ∧ x < 9223372036854775808 := fun c hc x hx => wf64 ((hw c hc).2 x hx)
  refine Ev.rounds ?_
  unfold serinettelaw06_PcmCuts.f
  refine bnd awake_ev (bnd (few_ev a b l hl) ?_)
  by_cases hf : (∀ c ∈ l, c.length ≤ 50) ∧ l.length ≤ 10
  · have e : fewB l = true := decide_eq_true hf
    rw [e]
    have h1 : ∀ c ∈ l, c.length ≤ 1000 := fun c hc => Nat.le_trans (hf.1 c hc) (by decide)
    have hp : ∀ fr m : Int, ∀ c ∈ l.map (fun c => rowP c fr m), c.length ≤ 1000 := fun fr m c hc => by
      obtain ⟨d, hd, rfl⟩ := List.mem_map.1 hc
      exact Nat.le_trans (rowP_len d fr m) (h1 d hd)
    have q5 : wrap64 ((t : Nat) : Int) = (t : Int) := w64n (Nat.lt_trans htl (by decide))
    have ej : joinV a b (l.map fun c => rowP c 0 (t : Int)) a b (l.map fun c => rowP c (t : Int) 1000) = (a, b, l, 0) := by
      unfold joinV
      rw [if_neg (by simp), if_neg (by simp), if_neg (by simp), whole_eq l _ hf.1]
    have hj := join_ev a b (l.map fun c => rowP c 0 (t : Int)) a b (l.map fun c => rowP c (t : Int) 1000) (by rw [List.length_map]; exact hf.2) (hp _ _) (hp _ _)
    rw [ej] at hj
    rw [q5]
    refine pos rfl (bnd (part_ev a b l 0 (t : Int) hf.2 h1) (bnd (part_ev a b l (t : Int) 1000 hf.2 h1) (bnd hj (pos rfl (bnd (same6_ev a b l (Nat.lt_of_le_of_lt hf.2 (by decide)) (fun c hc => Nat.lt_of_le_of_lt (hf.1 c hc) (by decide))) ?_)))))
    exact j0_ev a b l t htl hf hw2
  · have e : fewB l = false := decide_eq_false hf
    rw [e]
    exact neg Bool.false_ne_true (now true)
end Go.Proofs.Ytfjefocjplljcaa.Pure
