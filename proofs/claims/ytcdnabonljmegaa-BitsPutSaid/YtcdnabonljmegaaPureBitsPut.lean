/- BitsPut: whatever numbers are put, of any widths, with whatever fillings in between, the bits and the bytes are those of the reference. For every input (the law's own guards are in it). -/
import Derived.Test.YtcdnabonljmegaaPAx14
import Derived.Test.YtcdnabonljmegaaPBitsAwake
namespace Go.Proofs.Ytcdnabonljmegaa.Pure
open Go.RowKit Go.Proofs.Ytcdnabonljmegaa.PA Go.Proofs.YtcdnabonljmegaaW.PrintWords Go.Proofs.YtcdnabonljmegaaW.PrintLast Go.Proofs.YtcdnabonljmegaaW.PrintMore Go.Proofs.Ytcdnabonljmegaa.PL
set_option linter.unusedSimpArgs false
set_option linter.unusedVariables false

theorem j4_ev (X Wd : List Int) (Fl : List Bool) (L : List Bool) (i : Int) (hL : L.length < 100000) (hi : 0 ≤ i ∧ i < 1000) (h : Ev (fun k => serinettelaw01_BitsPut.l0 k X Wd Fl true L (i + 1) (WB L) (L.length : Int)) true) :
    Ev (fun k => serinettelaw01_BitsPut.j4 k X Wd Fl true L i (WB L) (L.length : Int)) true := by
  refine succ ?_
  simp only [serinettelaw01_BitsPut.j4]
  rw [len_eq]
  simp only [Option.bind_some]
  refine pos trivial ?_
  rw [bytes_eq L (by omega)]
  simp only [Option.bind_some]
  refine bnd (ref_bytes_ev L (by omega)) (bnd (same_refl _ (by rw [toB_len]; omega)) (pos rfl ?_))
  rw [w64 (by omega) (by omega)]
  exact h
theorem l1_ev (X Wd : List Int) (Fl : List Bool) (L : List Bool) (i : Int) (hL : L.length < 10000) (hi : 0 ≤ i ∧ i < 1000) (h : Ev (fun k => serinettelaw01_BitsPut.l0 k X Wd Fl true (fillB L) (i + 1) (WB (fillB L)) ((fillB L).length : Int)) true) :
    ∀ (d : Nat) (x : List Bool), x = L ++ List.replicate ((8 - L.length % 8) % 8 - d) false → d ≤ (8 - L.length % 8) % 8 → Ev (fun k => serinettelaw01_BitsPut.l1 k X Wd Fl true x i (WB (fillB L)) ((fillB L).length : Int)) true := by
  intro d
  have hlen := fillB_len L
  induction d with
  | zero =>
    intro x hx hd
    have e : x = fillB L := by rw [hx]; rfl
    subst e
    refine succ ?_
    simp only [serinettelaw01_BitsPut.l1]
    exact pos (by omega) (j4_ev X Wd Fl (fillB L) i (by omega) hi h)
  | succ d ih =>
    intro x hx hd
    have hxl : x.length = L.length + ((8 - L.length % 8) % 8 - (d + 1)) := by rw [hx]; simp
    refine succ ?_
    simp only [serinettelaw01_BitsPut.l1]
    refine neg (by omega) (pos (by omega) ?_)
    refine ih (x ++ [false]) ?_ (by omega)
    rw [hx, List.append_assoc]
    congr 1
    rw [← List.replicate_succ']
    congr 1; omega
theorem l0_ev (X Wd : List Int) (Fl : List Bool) (hX : X.length ≤ 60) (hW : X.length ≤ Wd.length) (hWl : Wd.length ≤ 9223372036854775807) (hFl : Fl.length ≤ 9223372036854775807) (hu : ∀ x ∈ X, 0 ≤ x ∧ x < 18446744073709551616) :
    ∀ (d i : Nat) (L : List Bool), i + d = X.length → L.length ≤ 72 * i → Ev (fun k => serinettelaw01_BitsPut.l0 k X Wd Fl true L (i : Int) (WB L) (L.length : Int)) true := by
  intro d
  induction d with
  | zero =>
    intro i L hi hL
    refine succ ?_
    simp only [serinettelaw01_BitsPut.l0]
    exact neg (by omega) (now _)
  | succ d ih =>
    intro i L hi hL
    refine succ ?_
    simp only [serinettelaw01_BitsPut.l0]
    refine pos (by omega) (pos (by omega) (pos (by omega) ?_))
    have hx := hu (rd X (i : Int)) (rd_mem (by omega) (by omega))
    have hww := hw_le (rd Wd (i : Int))
    rw [put_eq L _ _ (by omega)]
    simp only [Option.bind_some]
    have hlen : (L ++ digs (rd X (i : Int)) (hw (rd Wd (i : Int)))).length = L.length + hw (rd Wd (i : Int)) := by rw [List.length_append, digs_len]
    refine bnd (digits_ev _ _ hx.1 hx.2) (pos (by rw [digs_len]; omega) ?_)
    generalize L ++ digs (rd X (i : Int)) (hw (rd Wd (i : Int))) = L2 at hlen ⊢
    have hf := fillB_len L2
    have key : ∀ b : Bool, Ev (fun k => serinettelaw01_BitsPut.j2 k X Wd Fl true L2 (i : Int) b (WB L2) (L2.length : Int)) true := by
      intro b
      refine succ ?_
      simp only [serinettelaw01_BitsPut.j2]
      cases b with
      | true =>
        refine pos rfl ?_
        rw [fill_eq L2 (by omega)]
        simp only [Option.bind_some]
        refine l1_ev X Wd Fl L2 (i : Int) (by omega) (by omega) ?_ ((8 - L2.length % 8) % 8) L2 (by simp) (Nat.le_refl _)
        have := ih (i + 1) (fillB L2) (by omega) (by omega)
        simpa using this
      | false =>
        refine neg (by simp) ?_
        refine j4_ev X Wd Fl L2 (i : Int) (by omega) (by omega) ?_
        have := ih (i + 1) L2 (by omega) (by omega)
        simpa using this
    by_cases hfl : (i : Int) < (Fl.length : Int)
    · exact pos hfl (key _)
    · exact neg hfl (key _)
theorem BitsPut : ∀ (l0 : List Int) (l1 : List Int) (l2 : List Bool), l0.length ≤ maxLen → l0.length * 8 ≤ 140737488351232 → (∀ x ∈ l0, (Lit.int .u64 x).wf = true) → l1.length ≤ maxLen → l1.length * 8 ≤ 140737488351232 → (∀ x ∈ l1, (Lit.int .i64 x).wf = true) → l2.length ≤ maxLen → (∀ x ∈ l2, True) → ∃ k, serinettelaw01_BitsPut.f k l0 l1 l2 = some true := by
  intro X Wd Fl h1 h2 hwX h3 h4 hwW h5 h6
  refine Ev.rounds ?_
  unfold serinettelaw01_BitsPut.f
  refine bnd awake_ev ?_
  have skip : Ev (fun k => serinettelaw01_BitsPut.j0 k X Wd Fl true true) true := by
    refine succ ?_
    simp only [serinettelaw01_BitsPut.j0]
    exact pos trivial (now _)
  by_cases hl : (X.length : Int) > 60
  · exact pos hl skip
  refine neg hl ?_
  by_cases hl2 : (Wd.length : Int) < (X.length : Int)
  · rw [decide_eq_true hl2]; exact skip
  rw [decide_eq_false hl2]
  refine succ ?_
  simp only [serinettelaw01_BitsPut.j0]
  refine neg (by simp) ?_
  rw [new_eq]
  simp only [Option.bind_some]
  exact l0_ev X Wd Fl (by omega) (by omega) (by unfold maxLen at h3; omega) (by unfold maxLen at h5; omega) (fun x hx => wfu64 (hwX x hx)) X.length 0 [] (by omega) (by simp)
end Go.Proofs.Ytcdnabonljmegaa.Pure
