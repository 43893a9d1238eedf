/- LpcFixed: a predictor with the factors of a fixed one leaves what that leaves, also with all of them twice as much and a shift. For every input (the law's own guards are in it). -/
import Derived.Test.YtjiecencppahhaaPAx17
import Derived.Test.YtjiecencppahhaaPLpcAwake
namespace Go.Proofs.Ytjiecencppahhaa.Pure
open Go.RowKit Go.Proofs.Ytjiecencppahhaa.PA Go.Proofs.YtjiecencppahhaaW.PrintWords Go.Proofs.YtjiecencppahhaaW.PrintLast Go.Proofs.YtjiecencppahhaaW.PrintMore Go.Proofs.Ytjiecencppahhaa.PL
set_option linter.unusedSimpArgs false
set_option linter.unusedVariables false

theorem dot_scale (c : Int) : ∀ (fs P : List Int), dot (fs.map (· * c)) P = dot fs P * c
  | [], P => by simp [dot_nil]
  | f :: fs, [] => by simp [dot]
  | f :: fs, r :: P => by simp only [List.map_cons, dot, dot_scale c fs P]; grind
def Small (l : List Int) : Prop := ∀ a ∈ l, -8388608 ≤ a ∧ a ≤ 8388608
theorem mul_bd {f r B C : Int} (hf : -B ≤ f ∧ f ≤ B) (hr : -C ≤ r ∧ r ≤ C) (hB : 0 ≤ B) (hC : 0 ≤ C) : -(B * C) ≤ f * r ∧ f * r ≤ B * C := by
  have h1 : (f * r).natAbs ≤ (B * C).natAbs := by
    rw [Int.natAbs_mul, Int.natAbs_mul]
    exact Nat.mul_le_mul (by omega) (by omega)
  have h2 : 0 ≤ B * C := Int.mul_nonneg hB hC
  omega
theorem dot_bd (B : Int) (hB : 0 ≤ B) : ∀ (fs P : List Int), (∀ f ∈ fs, -B ≤ f ∧ f ≤ B) → Small P → -(fs.length * (B * 8388608)) ≤ dot fs P ∧ dot fs P ≤ fs.length * (B * 8388608)
  | [], P, _, _ => by simp [dot_nil]
  | f :: fs, [], _, _ => by
    have : 0 ≤ (((f :: fs).length : Nat) : Int) * (B * 8388608) := Int.mul_nonneg (by omega) (by omega)
    simp only [dot]; omega
  | f :: fs, r :: P, hf, hP => by
    have h1 := dot_bd B hB fs P (fun x hx => hf x (by simp [hx])) (fun x hx => hP x (by simp [hx]))
    have h2 := mul_bd (hf f (by simp)) (hP r (by simp)) hB (by omega)
    simp only [dot, List.length_cons, Int.natCast_add, Int.add_mul]
    omega
theorem F_small {n : Nat} (h : n ≤ 4) : ∀ f ∈ F n, -6 ≤ f ∧ f ≤ 6 := by
  rcases nat4 h with rfl | rfl | rfl | rfl | rfl <;> simp [F]
/-- By factors that are as many times as much, and a shift. -/
theorem lres_fixed (m s : Nat) (hm : m ≤ 4) (hs : s ≤ 3) : ∀ (t P : List Int), m ≤ P.length → Small P → Small t → lres (s : Int) ((F m).map (· * 2 ^ s)) P t = some (refres (F m) P t)
  | [], P, _, _, _ => rfl
  | a :: t, P, hl, hP, ht => by
    have ha := ht a (by simp)
    have hd := dot_bd 6 (by omega) (F m) P (F_small hm) hP
    have hFl := F_len hm
    rw [hFl] at hd
    have hp : (0 : Int) < 2 ^ s := Int.pow_pos (by decide)
    have hp8 : (2 : Int) ^ s ≤ 8 := by
      have : (2 : Nat) ^ s ≤ 2 ^ 3 := Nat.pow_le_pow_right (by decide) hs
      exact_mod_cast this
    have hb2 := mul_bd (f := dot (F m) P) (r := 2 ^ s) (B := 201326592) (C := 8) (by omega) (by omega) (by omega) (by omega)
    have e : td (s : Int) ((F m).map (· * 2 ^ s)) P = dot (F m) P := by
      unfold td
      rw [dot_scale, Int.toNat_natCast, w64 (by omega) (by omega), Int.mul_ediv_cancel _ (Int.ne_of_gt hp)]
    rw [lres, e, refres]
    have hw : wrap64 (a - dot (F m) P) = a - dot (F m) P := w64 (by omega) (by omega)
    rw [hw, if_neg (by omega), lres_fixed m s hm hs t (a :: P) (by simp; omega) (fun x hx => by rcases List.mem_cons.1 hx with rfl | hx; exact ha; exact hP x hx) (fun x hx => ht x (by simp [hx]))]
    rfl
def low (l : List Int) : List Int := l.map fun x => Int.tmod x 8388608
theorem low_bd (x : Int) : -8388608 ≤ Int.tmod x 8388608 ∧ Int.tmod x 8388608 ≤ 8388608 := by
  have h1 := Int.tmod_lt_of_pos x (show (0 : Int) < 8388608 by decide)
  have h2 := Int.lt_tmod_of_pos x (show (0 : Int) < 8388608 by decide)
  omega
theorem inn_small {x : Int} (h : -512 ≤ x ∧ x < 512) : inn x 10 := ⟨by decide, h.1, h.2⟩
theorem LpcFixed : serinettelaw12_LpcFixed.Pure := by
  intro l0 a1 a2 h1 h2 hw w1 w2
  have b1 := wfu8 w1; have b2 := wfu8 w2
  refine Ev.rounds ?_
  unfold serinettelaw12_LpcFixed.f
  refine bnd awake_ev ?_
  by_cases hl : (l0.length : Int) > 80
  · exact pos hl (now _)
  refine neg hl ?_
  have hm1 : 0 ≤ Int.tmod a1 4 := Int.tmod_nonneg _ b1.1
  have hm2 : Int.tmod a1 4 < 4 := Int.tmod_lt_of_pos _ (by decide)
  have hs1 : 0 ≤ Int.tmod a2 4 := Int.tmod_nonneg _ b2.1
  have hs2 : Int.tmod a2 4 < 4 := Int.tmod_lt_of_pos _ (by decide)
  have es : wrap64 (Int.tmod a2 4) = Int.tmod a2 4 := w64 (by omega) (by omega)
  have en : wrap64 (1 + wrap64 (Int.tmod a1 4)) = 1 + Int.tmod a1 4 := by rw [w64 (x := Int.tmod a1 4) (by omega) (by omega), w64 (by omega) (by omega)]
  obtain ⟨m, hm⟩ := Int.eq_ofNat_of_zero_le (show 0 ≤ 1 + Int.tmod a1 4 by omega)
  obtain ⟨s, hs⟩ := Int.eq_ofNat_of_zero_le hs1
  rw [en, hm, es, hs]
  have hm4 : 1 ≤ m ∧ m ≤ 4 := by omega
  have hs3 : s ≤ 3 := by omega
  have hFl := F_len hm4.2
  have hp : (0 : Int) < 2 ^ s := Int.pow_pos (by decide)
  have hp8 : (2 : Int) ^ s ≤ 8 := by
    have : (2 : Nat) ^ s ≤ 2 ^ 3 := Nat.pow_le_pow_right (by decide) hs3
    exact_mod_cast this
  have hfs : ∀ f ∈ F m, -48 ≤ f * 2 ^ s ∧ f * 2 ^ s ≤ 48 := fun f hf => mul_bd (B := 6) (C := 8) (F_small hm4.2 f hf) (by omega) (by omega) (by omega)
  have hLb : ∀ x ∈ (F m).map (· * 2 ^ s), -48 ≤ x ∧ x ≤ 48 := by
    intro x hx
    obtain ⟨f, hf, rfl⟩ := List.mem_map.1 hx
    exact hfs f hf
  have hb : ∀ x ∈ l0, -2147483648 ≤ x ∧ x < 2147483648 := fun x hx => wfi32 (hw x hx)
  have hsm : Small (low l0) := by
    intro a ha
    obtain ⟨x, hx, rfl⟩ := List.mem_map.1 ha
    exact low_bd x
  have hlen : (low l0).length = l0.length := by simp [low]
  have hok : okL (s : Int) 10 ((F m).map (· * 2 ^ s)) := by
    refine ⟨by simp; omega, by simp; omega, by omega, by omega, by omega, by omega, ?_⟩
    intro x hx
    have := hLb x hx
    exact inn_small ⟨by omega, by omega⟩
  have hres := residualL_ev (low l0) (by omega) (s : Int) 10 ((F m).map (· * 2 ^ s)) (by simp; omega) (fun a ha => by have := hLb a ha; omega)
  have hfix := residual_ev (low l0) (m : Int) (by omega)
  have hshl : shl .i64 1 (s : Int) = 2 ^ s := by
    unfold shl
    rw [Int.toNat_natCast, show min s IntKind.i64.bits = s by simp [IntKind.bits]; omega, Int.one_mul]
    rw [i64_w]
    exact w64 (by omega) (by omega)
  have key1 : ∀ (t p : List Int), F m = p ++ t → Ev (fun k => serinettelaw12_LpcFixed.l1 k true (m : Int) (s : Int) (low l0) (F m) (p.length : Int) (s : Int) 10 (p.map (· * 2 ^ s))) true := by
    intro t
    induction t with
    | nil =>
      intro p hp
      rw [List.append_nil] at hp
      subst hp
      refine succ ?_
      simp only [serinettelaw12_LpcFixed.l1]
      refine neg (by omega) (bnd hfix (bnd hres (pos trivial ?_)))
      have hmi : ¬ ((m : Int) < 0 ∨ (m : Int) > 4) := by omega
      by_cases hlt : l0.length < m
      · have e1 : resI (low l0) (m : Int) = ([], 2) := by unfold resI; rw [if_neg hmi, if_pos (by omega)]
        have e2 : RES (s : Int) 10 ((F m).map (· * 2 ^ s)) (low l0) = ([], 2) := by
          unfold RES; rw [if_pos hok, if_pos (by rw [List.length_map]; omega)]
        rw [e1, e2]
        refine pos rfl (bnd (ints_refl [] (by simp)) (pos rfl (cst ?_)))
        simp; omega
      · have hd := diffs_refres m hm4.2 ((low l0).drop m) ((low l0).take m).reverse (by simp; omega) (fun a ha => by have := hsm a (List.mem_of_mem_drop ha); exact w64 (by omega) (by omega))
        have e3 : (((low l0).take m).reverse.take m).reverse ++ (low l0).drop m = low l0 := by
          rw [List.take_of_length_le (by simp; omega)]; simp
        rw [e3] at hd
        have e1 : resI (low l0) (m : Int) = (refres (F m) ((low l0).take m).reverse ((low l0).drop m), 0) := by
          unfold resI; rw [if_neg hmi, if_neg (by omega), Int.toNat_natCast, hd]
        have e2 : RES (s : Int) 10 ((F m).map (· * 2 ^ s)) (low l0) = (refres (F m) ((low l0).take m).reverse ((low l0).drop m), 0) := by
          unfold RES
          rw [if_pos hok, if_neg (by rw [List.length_map]; omega), List.length_map, hFl, lres_fixed m s hm4.2 hs3 _ _ (by simp; omega) (fun a ha => hsm a (List.mem_of_mem_take (List.mem_reverse.1 ha))) (fun a ha => hsm a (List.mem_of_mem_drop ha))]
          rfl
        rw [e1, e2]
        refine pos rfl (bnd (ints_refl _ (by rw [refres_len]; simp; omega)) (pos rfl (cst ?_)))
        simp; omega
    | cons f t ih =>
      intro p hp
      have l1 := congrArg List.length hp
      simp only [List.length_append, List.length_cons] at l1
      refine succ ?_
      simp only [serinettelaw12_LpcFixed.l1]
      have rf : rd (F m) (p.length : Int) = f := by rw [hp]; exact rd_at _ _ _
      have hf := hfs f (by rw [hp]; simp)
      rw [rf, hshl, w64 (x := f * 2 ^ s) (by omega) (by omega), w64 (by omega) (by omega)]
      refine pos (by omega) (pos (by omega) (pos (by omega) (pos (by simp; omega) ?_)))
      have := ih (p ++ [f]) (by simp [hp])
      simpa using this
  have key : ∀ (t p : List Int), l0 = p ++ t → Ev (fun k => serinettelaw12_LpcFixed.l0 k l0 true (m : Int) (s : Int) (low p) (p.length : Int)) true := by
    intro t
    induction t with
    | nil =>
      intro p hp
      rw [List.append_nil] at hp
      subst hp
      refine succ ?_
      simp only [serinettelaw12_LpcFixed.l0]
      refine neg (by omega) ?_
      rw [factors_eq]
      simp only [Option.bind_some]
      have eF : FI (m : Int) = F m := by unfold FI; rw [if_neg (by omega), Int.toNat_natCast]
      rw [eF]
      exact key1 (F m) [] rfl
    | cons x t ih =>
      intro p hp
      have l1 := congrArg List.length hp
      simp only [List.length_append, List.length_cons] at l1
      refine succ ?_
      simp only [serinettelaw12_LpcFixed.l0]
      have ra : rd l0 (p.length : Int) = x := by rw [hp]; exact rd_at _ _ _
      have hx := hb x (by rw [hp]; simp)
      rw [ra, w64 (x := x) (by omega) (by omega), w64 (by omega) (by omega)]
      refine pos (by omega) (pos (by omega) (pos (by simp [low]; omega) ?_))
      have := ih (p ++ [x]) (by simp [hp])
      simpa [low] using this
  exact key l0 [] rfl
end Go.Proofs.Ytjiecencppahhaa.Pure
