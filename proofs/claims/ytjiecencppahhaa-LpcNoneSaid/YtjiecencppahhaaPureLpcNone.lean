/- LpcNone: factors that are all 0 foretell nothing. For every input (the law's own guards are in it). -/
import Derived.Test.YtjiecencppahhaaPAx15
import Derived.Test.YtjiecencppahhaaPLpcAwake
namespace Go.Proofs.Ytjiecencppahhaa.Pure
open Go.RowKit Go.Proofs.Ytjiecencppahhaa.PA Go.Proofs.YtjiecencppahhaaW.PrintWords Go.Proofs.YtjiecencppahhaaW.PrintLast Go.Proofs.Ytjiecencppahhaa.PL
set_option linter.unusedSimpArgs false
set_option linter.unusedVariables false

theorem dot_zero : ∀ (n : Nat) (P : List Int), dot (List.replicate n 0) P = 0
  | 0, P => dot_nil P
  | n + 1, [] => by simp [List.replicate_succ, dot]
  | n + 1, r :: P => by simp [List.replicate_succ, dot, dot_zero n P]
theorem lres_zero (s : Int) (n : Nat) : ∀ (t P : List Int), (∀ a ∈ t, -2147483647 ≤ a ∧ a ≤ 2147483647) → lres s (List.replicate n 0) P t = some t
  | [], P, _ => rfl
  | a :: t, P, h => by
    have ha := h a (by simp)
    have e : td s (List.replicate n 0) P = 0 := by
      unfold td; rw [dot_zero, show wrap64 0 = 0 by unfold wrap64; omega]; simp
    rw [lres, e, show a - 0 = a by omega, w64 (by omega) (by omega), if_neg (by omega), lres_zero s n t (a :: P) (fun b hb => h b (by simp [hb]))]
    rfl
def half (l : List Int) : List Int := l.map fun x => Int.tdiv x 2
theorem half_bd {x : Int} (h : -2147483648 ≤ x ∧ x < 2147483648) : -2147483647 ≤ Int.tdiv x 2 ∧ Int.tdiv x 2 ≤ 2147483647 := by
  rcases Int.le_total 0 x with h0 | h0
  · rw [Int.tdiv_eq_ediv_of_nonneg h0]; omega
  · obtain ⟨y, rfl⟩ : ∃ y, x = -y := ⟨-x, by omega⟩
    rw [Int.neg_tdiv, Int.tdiv_eq_ediv_of_nonneg (by omega)]; omega
theorem LpcNone : serinettelaw12_LpcNone.Pure := by
  intro l0 a1 a2 h1 h2 hw w1 w2
  have b1 := wfu8 w1; have b2 := wfu8 w2
  refine Ev.rounds ?_
  unfold serinettelaw12_LpcNone.f
  refine bnd awake_ev ?_
  by_cases hl : (l0.length : Int) > 80
  · exact pos hl (now _)
  refine neg hl ?_
  have hm1 : 0 ≤ Int.tmod a1 32 := Int.tmod_nonneg _ b1.1
  have hm2 : Int.tmod a1 32 < 32 := Int.tmod_lt_of_pos _ (by decide)
  have hs1 : 0 ≤ Int.tmod a2 16 := Int.tmod_nonneg _ b2.1
  have hs2 : Int.tmod a2 16 < 16 := Int.tmod_lt_of_pos _ (by decide)
  have es : wrap64 (Int.tmod a2 16) = Int.tmod a2 16 := w64 (by omega) (by omega)
  have en : wrap64 (1 + wrap64 (Int.tmod a1 32)) = 1 + Int.tmod a1 32 := by rw [w64 (x := Int.tmod a1 32) (by omega) (by omega), w64 (by omega) (by omega)]
  obtain ⟨n, hn⟩ := Int.eq_ofNat_of_zero_le (show 0 ≤ 1 + Int.tmod a1 32 by omega)
  rw [en, hn]
  have hn1 : 1 ≤ n ∧ n ≤ 32 := by omega
  have hb : ∀ x ∈ l0, -2147483648 ≤ x ∧ x < 2147483648 := fun x hx => wfi32 (hw x hx)
  have hhb : ∀ a ∈ half l0, -2147483647 ≤ a ∧ a ≤ 2147483647 := by
    intro a ha
    obtain ⟨x, hx, rfl⟩ := List.mem_map.1 ha
    exact half_bd (hb x hx)
  have hlen : (half l0).length = l0.length := by simp [half]
  have hok : okL (Int.tmod a2 16) 1 (List.replicate n 0) := by
    refine ⟨by simp; omega, by simp; omega, by omega, by omega, by omega, by omega, ?_⟩
    intro x hx
    have := (List.mem_replicate.1 hx).2
    subst this
    decide +kernel
  have hres := residualL_ev (half l0) (by omega) (Int.tmod a2 16) 1 (List.replicate n 0) (by simp; omega) (by intro a ha; have := (List.mem_replicate.1 ha).2; omega)
  have key : ∀ (t p : List Int), l0 = p ++ t → Ev (fun k => serinettelaw12_LpcNone.l0 k l0 a2 true (n : Int) (half p) (p.length : Int)) true := by
    intro t
    induction t with
    | nil =>
      intro p hp
      rw [List.append_nil] at hp
      subst hp
      refine succ ?_
      simp only [serinettelaw12_LpcNone.l0]
      refine neg (by omega) (pos (by omega) (pos (by omega) ?_))
      rw [es, Int.toNat_natCast]
      refine bnd hres ?_
      by_cases hlt : l0.length < n
      · have e : RES (Int.tmod a2 16) 1 (List.replicate n 0) (half l0) = ([], 2) := by
          unfold RES; rw [if_pos hok, if_pos (by rw [List.length_replicate]; omega)]
        rw [e]
        exact pos (by omega) (pos trivial (now _))
      · have e : RES (Int.tmod a2 16) 1 (List.replicate n 0) (half l0) = ((half l0).drop n, 0) := by
          unfold RES
          rw [if_pos hok, if_neg (by rw [List.length_replicate]; omega), List.length_replicate, lres_zero _ _ _ _ (fun a ha => hhb a (List.mem_of_mem_drop ha))]
          rfl
        rw [e]
        refine neg (by omega) (pos trivial (pos rfl (pos (by omega) ?_)))
        exact bnd (ints_refl _ (by simp; omega)) (now _)
    | cons x t ih =>
      intro p hp
      have l1 := congrArg List.length hp
      simp only [List.length_append, List.length_cons] at l1
      refine succ ?_
      simp only [serinettelaw12_LpcNone.l0]
      have ra : rd l0 (p.length : Int) = x := by rw [hp]; exact rd_at _ _ _
      have hx := hb x (by rw [hp]; simp)
      have hx2 := half_bd hx
      rw [ra, w64 (x := x) (by omega) (by omega), w64 (x := Int.tdiv x 2) (by omega) (by omega), w64 (by omega) (by omega)]
      refine pos (by omega) (pos (by omega) (pos (by simp [half]; omega) ?_))
      have := ih (p ++ [x]) (by simp [hp])
      simpa [half] using this
  exact key l0 [] rfl
end Go.Proofs.Ytjiecencppahhaa.Pure
