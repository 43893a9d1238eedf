/- What fixed.Residual answers: differences, made again and again. Condition: lists shorter than 2^40. -/
import Derived.Test.YtjiecencppahhaaPL
import Derived.Test.YtjiecencppahhaaPAx16
namespace Go.Proofs.Ytjiecencppahhaa.PL
open Go.RowKit Go.Proofs.Ytjiecencppahhaa.PA Go.Proofs.YtjiecencppahhaaW.PrintWords

theorem clone_ev (l : List Int) (h : l.length < 1099511627776) : slices_Clone_int_int.f l = some l := by
  unfold slices_Clone_int_int.f
  simp only [Option.bind_some, List.length_nil, List.nil_append]
  rw [if_pos (by omega)]

def diff : List Int → List Int
  | [] => []
  | [_] => []
  | a :: b :: t => wrap64 (b - a) :: diff (b :: t)
def diffs : Nat → List Int → List Int
  | 0, l => l
  | n + 1, l => diffs n (diff l)
theorem diff_len : ∀ l : List Int, (diff l).length = l.length - 1
  | [] => rfl
  | [_] => rfl
  | a :: b :: t => by simp [diff, diff_len (b :: t)]
theorem diffs_len : ∀ (n : Nat) (l : List Int), (diffs n l).length = l.length - n
  | 0, l => rfl
  | n + 1, l => by rw [diffs, diffs_len n, diff_len]; omega
theorem diffs_succ : ∀ (n : Nat) (l : List Int), diffs (n + 1) l = diff (diffs n l)
  | 0, l => rfl
  | n + 1, l => by rw [diffs, diffs_succ n, ← diffs]

theorem res_l1 (x1 : Int) (R : List Int × Int) : ∀ (rest done : List Int) (a x27 x28 : Int), x28 = done.length → x27 = done.length + rest.length → done.length + rest.length < 1099511627776 →
    Ev (fun k => fixed_Residual.l0 k (wrap64 (x1 - 1)) (done ++ diff (a :: rest))) R → Ev (fun k => fixed_Residual.l1 k x1 (done ++ a :: rest) x27 x28) R := by
  intro rest
  induction rest with
  | nil =>
    intro done a x27 x28 h28 h27 hl h
    refine succ ?_
    simp only [fixed_Residual.l1]
    have hl1 : ((done ++ [a]).length : Int) = done.length + 1 := by simp
    have hw : wrap64 (((done ++ [a]).length : Int) - 1) = done.length := by rw [hl1, w64 (by omega) (by omega)]; omega
    refine neg (by rw [h27, h28]; simp) ?_
    rw [hw]
    refine pos (by omega) (pos (by rw [hl1]; omega) ?_)
    simpa [diff] using h
  | cons b t ih =>
    intro done a x27 x28 h28 h27 hl h
    simp only [List.length_cons] at hl
    refine succ ?_
    simp only [fixed_Residual.l1]
    have hlen : ((done ++ a :: b :: t).length : Int) = done.length + t.length + 2 := by simp; omega
    have hw : wrap64 (x28 + 1) = done.length + 1 := by rw [h28, w64 (by omega) (by omega)]
    rw [hw, hlen]
    refine pos (by rw [h27, h28, List.length_cons]; omega) (pos (by omega) (pos (by omega) (pos (by omega) (pos (by omega) ?_))))
    have ra : rd (done ++ a :: b :: t) x28 = a := rd_at' _ _ _ h28
    have rb : rd (done ++ a :: b :: t) ((done.length : Int) + 1) = b := by
      have := rd_at (done ++ [a]) b t
      simpa using this
    rw [ra, rb, h28, Int.toNat_natCast, set_at]
    have hh := ih (done ++ [wrap64 (b - a)]) b x27 (done.length + 1) (by simp) (by rw [h27]; simp; omega) (by simp; omega) (by simpa [diff] using h)
    simpa using hh

theorem res_l0 : ∀ (n : Nat) (l : List Int), n ≤ l.length → l.length < 1099511627776 → n ≤ 4 → Ev (fun k => fixed_Residual.l0 k (n : Int) l) (diffs n l, 0) := by
  intro n
  induction n with
  | zero => intro l _ _ _; exact succ (by simp only [fixed_Residual.l0]; exact pos rfl (now _))
  | succ n ih =>
    intro l hn hl h4
    cases l with
    | nil => simp at hn
    | cons a t =>
      simp only [List.length_cons] at hn hl
      refine succ ?_
      simp only [fixed_Residual.l0]
      refine neg (by omega) ?_
      have hw : wrap64 (((a :: t).length : Int) - 1) = t.length := by simp only [List.length_cons]; rw [w64 (by omega) (by omega)]; omega
      rw [hw]
      have hx : wrap64 (((n + 1 : Nat) : Int) - 1) = (n : Int) := by rw [w64 (by omega) (by omega)]; omega
      have hd := ih (diff (a :: t)) (by rw [diff_len]; simp; omega) (by rw [diff_len]; simp; omega) (by omega)
      have := res_l1 ((n + 1 : Nat) : Int) (diffs (n + 1) (a :: t), 0) t [] a t.length 0 (by simp) (by simp) (by simp; omega) (by rw [hx]; simpa [diffs] using hd)
      simpa using this

/-- What an order leaves of numbers. -/
def resI (l : List Int) (o : Int) : List Int × Int := if o < 0 ∨ o > 4 then ([], 1) else if (l.length : Int) < o then ([], 2) else (diffs o.toNat l, 0)
theorem residual_ev (l : List Int) (o : Int) (hl : l.length < 1099511627776) : Ev (fun k => fixed_Residual.f k l o) (resI l o) := by
  unfold fixed_Residual.f resI
  by_cases h1 : o < 0
  · refine pos h1 (succ ?_)
    simp only [fixed_Residual.j0]
    exact pos trivial (cst (by simp [h1]))
  · refine neg h1 (succ ?_)
    simp only [fixed_Residual.j0]
    by_cases h2 : o > 4
    · exact pos (by simp [h2]) (cst (by simp [h2]))
    · refine neg (by simp [h2]) ?_
      by_cases h3 : (l.length : Int) < o
      · exact pos h3 (cst (by simp [h1, h2, h3]))
      · refine neg h3 ?_
        rw [clone_ev l hl]
        simp only [Option.bind_some, if_neg (show ¬ (o < 0 ∨ o > 4) by omega), if_neg h3]
        have := res_l0 o.toNat l (by omega) hl (by omega)
        rwa [Int.toNat_of_nonneg (by omega)] at this
end Go.Proofs.Ytjiecencppahhaa.PL
