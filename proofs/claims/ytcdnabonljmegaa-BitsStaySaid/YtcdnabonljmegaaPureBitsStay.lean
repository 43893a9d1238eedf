/- BitsStay: a reader that failed stays as it is, whatever it is asked; and one that is asked for more than is left takes nothing. For every input (the law's own guards are in it). -/
import Derived.Test.YtcdnabonljmegaaPAx21
import Derived.Test.YtcdnabonljmegaaPBitsAwake
import Derived.Test.YtcdnabonljmegaaPBitsTake
namespace Go.Proofs.Ytcdnabonljmegaa.Pure
open Go.RowKit Go.Proofs.Ytcdnabonljmegaa.PA Go.Proofs.YtcdnabonljmegaaW.PrintWords Go.Proofs.YtcdnabonljmegaaW.PrintLast Go.Proofs.YtcdnabonljmegaaW.PrintMore Go.Proofs.Ytcdnabonljmegaa.PL
set_option linter.unusedSimpArgs false
set_option linter.unusedVariables false

theorem j2_ev (b W : List Int) (i p : Nat) (fl : Int) (q : Nat) (hb : b.length ≤ 200) (hp : p ≤ 8 * b.length) (hq : q ≤ p) (hf : fl ≠ 0 → p = q) (hi : i < 4611686018427387904) (h : Ev (fun k => serinettelaw01_BitsStay.l0 k b W true ((i + 1 : Nat) : Int) b (p : Int) fl) true) :
    Ev (fun k => serinettelaw01_BitsStay.j2 k b W true (i : Int) (q : Int) false b (p : Int) fl) true := by
  have e0 : (p : Int) + ((8 * b.length - p : Nat) : Int) = 8 * (b.length : Int) := by omega
  have hbl : b.length < 1099511627776 := by omega
  have hlt : ¬ ((p : Int) < (q : Int)) := Int.not_lt.2 (Int.ofNat_le.2 hq)
  have hl := left_eq b p fl hbl hp
  have e2 : wrap64 ((i : Int) + 1) = ((i + 1 : Nat) : Int) := wsucc hi
  refine succ ?_
  have X : ∀ k, serinettelaw01_BitsStay.j2 (k+1) b W true (i : Int) (q : Int) false b (p : Int) fl = if fl = 0 then serinettelaw01_BitsStay.l0 k b W true ((i + 1 : Nat) : Int) b (p : Int) fl else (if (p : Int) = (q : Int) then serinettelaw01_BitsStay.l0 k b W true ((i + 1 : Nat) : Int) b (p : Int) fl else some false) := by
    intro k
    have hA : ∀ f, bits_Reader_At.f b (p : Int) f = some ((p : Int), (p : Int), f) := fun _ => rfl
    have hF : ∀ f, bits_Reader_Fail.f b (p : Int) f = some (f, (p : Int), f) := fun _ => rfl
    have hB : ∀ {α β : Type} (a : α) (f : α → Option β), (some a).bind f = f a := fun _ _ => rfl
    rw [serinettelaw01_BitsStay.j2, if_neg Bool.false_ne_true, hA, hB, hl, hB, e0, e2, if_pos rfl, hA, hB, if_neg hlt, hF, hB, hA, hB]
  simp only [X]
  by_cases hfl : fl = 0
  · exact pos hfl h
  · exact neg hfl (pos (by rw [hf hfl]) h)
theorem l0_ev (b W : List Int) (hb : b.length ≤ 200) (hbd : ∀ x ∈ b, 0 ≤ x ∧ x < 256) (hW : W.length ≤ 60) : ∀ (d i p : Nat) (fl : Int), i + d = W.length → p ≤ 8 * b.length → Ev (fun k => serinettelaw01_BitsStay.l0 k b W true (i : Int) b (p : Int) fl) true := by
  intro d
  induction d with
  | zero =>
    intro i p fl hi hp
    refine succ ?_
    simp only [serinettelaw01_BitsStay.l0]
    exact neg (by omega) (now _)
  | succ d ih =>
    intro i p fl hi hp
    have hiW : (i : Int) < (W.length : Int) := by omega
    have hi62 : i < 4611686018427387904 := by omega
    have hi1 : i + 1 + d = W.length := by omega
    have hbl : b.length < 1099511627776 := by omega
    refine succ ?_
    simp only [serinettelaw01_BitsStay.l0]
    refine pos hiW ?_
    simp only [bits_Reader_At.f, bits_Reader_Fail.f, Option.bind_some]
    refine pos (Int.natCast_nonneg _) (bnd (take_ev b p fl (rd W (i : Int)) hbl hp hbd) ?_)
    by_cases hfl : fl = 0
    · subst hfl
      refine pos rfl ?_
      by_cases hs : 8 * b.length < p + hw (rd W (i : Int))
      · have e : takeR b p 0 (hw (rd W (i : Int))) = (0, (p : Int), 2) := by unfold takeR; rw [if_neg (by simp), if_pos hs]
        rw [e]
        exact j2_ev b W i p 2 p hb hp (Nat.le_refl _) (fun _ => rfl) hi62 (ih (i + 1) p 2 hi1 hp)
      · have e : takeR b p 0 (hw (rd W (i : Int))) = (num (cutB b p (hw (rd W (i : Int)))), ((p + hw (rd W (i : Int)) : Nat) : Int), 0) := by unfold takeR; rw [if_neg (by simp), if_neg hs]
        rw [e]
        exact j2_ev b W i (p + hw (rd W (i : Int))) 0 p hb (Nat.not_lt.1 hs) (Nat.le_add_right _ _) (fun h => absurd rfl h) hi62 (ih (i + 1) _ 0 hi1 (Nat.not_lt.1 hs))
    · have e : takeR b p fl (hw (rd W (i : Int))) = (0, (p : Int), fl) := by unfold takeR; rw [if_pos hfl]
      rw [e]
      refine neg hfl (pos rfl (pos rfl ?_))
      have e3 : (fl != fl) = false := by simp
      simp only [e3]
      exact j2_ev b W i p fl p hb hp (Nat.le_refl _) (fun _ => rfl) hi62 (ih (i + 1) p fl hi1 hp)
theorem BitsStay : serinettelaw01_BitsStay.Pure := by
  intro b first W h1 h2 hwb w1 h3 h4 hwW
  refine Ev.rounds ?_
  unfold serinettelaw01_BitsStay.f
  refine bnd awake_ev ?_
  have skip : Ev (fun k => serinettelaw01_BitsStay.j0 k b first W true true) true := by
    refine succ ?_
    simp only [serinettelaw01_BitsStay.j0]
    exact pos trivial (now _)
  by_cases hl : (b.length : Int) > 200
  · exact pos hl skip
  refine neg hl ?_
  by_cases hl2 : (W.length : Int) > 60
  · rw [decide_eq_true hl2]; exact skip
  rw [decide_eq_false hl2]
  have hbd : ∀ x ∈ b, 0 ≤ x ∧ x < 256 := fun x hx => wfu8 (hwb x hx)
  refine succ ?_
  simp only [serinettelaw01_BitsStay.j0]
  refine neg (by simp) ?_
  rw [open_eq b (by omega)]
  simp only [Option.bind_some]
  refine bnd (take_ev b 0 0 first (by omega) (by omega) hbd) ?_
  by_cases hs : 8 * b.length < 0 + hw first
  · have e : takeR b 0 0 (hw first) = (0, ((0 : Nat) : Int), 2) := by unfold takeR; rw [if_neg (by simp), if_pos hs]
    rw [e]
    exact l0_ev b W (by omega) hbd (by omega) W.length 0 0 2 (by omega) (by omega)
  · have e : takeR b 0 0 (hw first) = (num (cutB b 0 (hw first)), ((0 + hw first : Nat) : Int), 0) := by unfold takeR; rw [if_neg (by simp), if_neg hs]
    rw [e]
    exact l0_ev b W (by omega) hbd (by omega) W.length 0 (0 + hw first) 0 (by omega) (by omega)
end Go.Proofs.Ytcdnabonljmegaa.Pure
