/- CostOrder: the order of numbers plays no part: from whichever one on they stand. For every input (the law's own guards are in it). -/
import Derived.Test.YtdologjfcmidlaaPAx31
import Derived.Test.YtdologjfcmidlaaPCostAwake
namespace Go.Proofs.Ytdologjfcmidlaa.Pure
open Go.RowKit Go.Proofs.Ytdologjfcmidlaa.PA Go.Proofs.YtdologjfcmidlaaW.PrintWords Go.Proofs.YtdologjfcmidlaaW.PrintLast Go.Proofs.Ytdologjfcmidlaa.PL
set_option linter.unusedVariables false
def rot (l : List Int) (r : Nat) : List Int := l.drop r ++ l.take r
theorem rot_len (l : List Int) (r : Nat) : (rot l r).length = l.length := by simp [rot]; omega
theorem rot_get (l : List Int) (r i : Nat) (hr : r < l.length) (hi : i < l.length) : rd l (((i + r) % l.length : Nat) : Int) = (rot l r).getD i 0 := by
  rw [rd_nat, List.getD_eq_getElem?_getD, List.getD_eq_getElem?_getD, rot]
  rcases Nat.lt_or_ge (i + r) l.length with h | h
  · rw [Nat.mod_eq_of_lt h, List.getElem?_append_left (by simp; omega), List.getElem?_drop, Nat.add_comm r i]
  · have e : (i + r) % l.length = i + r - l.length := by rw [Nat.mod_eq_sub_mod h, Nat.mod_eq_of_lt (by omega)]
    rw [e, List.getElem?_append_right (by simp; omega), List.getElem?_take_of_lt (by simp; omega)]
    congr 2
    simp; omega
theorem rot_take_succ (l : List Int) (i : Nat) (h : i < l.length) : l.take i ++ [l.getD i 0] = l.take (i + 1) := by
  rw [List.take_add_one, List.getD_eq_getElem?_getD, List.getElem?_eq_getElem h]; rfl
theorem rot_bits (k : Nat) (l : List Int) (r : Nat) : bitsL k (rot l r) = bitsL k l := by
  have := bitsL_append k (l.take r) (l.drop r)
  rw [List.take_append_drop] at this
  rw [rot, bitsL_append, this]; omega
theorem rot_near (l : List Int) (r : Nat) : NearAll (rot l r) ↔ NearAll l := by
  have := nearAll_append (a := l.take r) (b := l.drop r)
  rw [List.take_append_drop] at this
  rw [rot, nearAll_append, this, and_comm]
theorem rot_fits (l : List Int) (r w : Nat) : fitsW (rot l r) w ↔ fitsW l w := by
  have := fitsW_append (a := l.take r) (b := l.drop r) (w := w)
  rw [List.take_append_drop] at this
  rw [rot, fitsW_append, this, and_comm]
theorem rot_wid (l : List Int) (r : Nat) (h : NearAll l) : wid (rot l r) = wid l := by
  obtain ⟨h1, _, h2⟩ := wid_spec h
  exact wid_eq ((rot_near l r).2 h) ((rot_fits l r _).2 h1) (fun v hv hf => h2 v hv ((rot_fits l r v).1 hf))
theorem rot_best (l : List Int) (r m : Nat) (h : NearAll l) : bestL (rot l r) m = bestL l m := by
  have e : (fun k => bitsL k (rot l r)) = (fun k => bitsL k l) := funext fun k => rot_bits k l r
  unfold bestL rawL
  rw [rot_wid l r h, e, rot_bits, rot_len]
theorem CostOrder : serinettelaw13_CostOrder.Pure := by
  intro l0 a1 a2 h1 h2 hw hw1 hu
  have hu := wfu8 hu
  refine Ev.rounds ?_
  unfold serinettelaw13_CostOrder.f
  have out : Ev (fun k => serinettelaw13_CostOrder.j0 k l0 a1 a2 true true) true := by
    refine succ ?_
    simp only [serinettelaw13_CostOrder.j0]
    exact pos trivial (cst rfl)
  refine bnd awake_ev (bnd (ref_nearAll_ev l0 (by omega)) ?_)
  by_cases hl : (l0.length : Int) > 100
  · exact pos hl out
  · refine neg hl ?_
    by_cases hz : (l0.length : Int) = 0
    · exact pos hz out
    · refine neg hz ?_
      by_cases hn : NearAll l0
      · have e : (!decide (NearAll l0)) = false := by simp [hn]
        rw [e]
        refine succ ?_
        simp only [serinettelaw13_CostOrder.j0]
        refine neg (by decide) ?_
        obtain ⟨a, rfl⟩ := Int.eq_ofNat_of_zero_le hu.1
        have hr : a % l0.length < l0.length := Nat.mod_lt _ (by omega)
        have key : ∀ (d i : Nat), i + d = l0.length → Ev (fun k => serinettelaw13_CostOrder.l0 k l0 a1 (a : Int) true ((rot l0 (a % l0.length)).take i) (i : Int)) true := by
          intro d
          induction d with
          | zero =>
            intro i hi
            obtain rfl : i = l0.length := by omega
            refine succ ?_
            simp only [serinettelaw13_CostOrder.l0]
            rw [List.take_of_length_le (by rw [rot_len]; omega)]
            have b1 := best_ev l0 a1 (by omega)
            have b2 := best_ev (rot l0 (a % l0.length)) a1 (by rw [rot_len]; omega)
            rw [if_pos hn] at b1
            rw [if_pos ((rot_near _ _).2 hn), rot_best _ _ _ hn] at b2
            have w1 := width_ev l0 (by omega)
            have w2 := width_ev (rot l0 (a % l0.length)) (by rw [rot_len]; omega)
            rw [if_pos hn] at w1
            rw [if_pos ((rot_near _ _).2 hn), rot_wid _ _ hn] at w2
            exact neg (by omega) (bnd b1 (bnd b2 (pos (by trivial) (pos (by trivial) (pos (by simp) (pos (by trivial) (bnd w1 (bnd w2 (cst (by simp))))))))))
          | succ d ih =>
            intro i hi
            refine succ ?_
            simp only [serinettelaw13_CostOrder.l0]
            rw [w64 (x := (a : Int)) (by omega) (by omega), w64 (x := (i : Int) + (a : Int)) (by omega) (by omega), w64 (x := (i : Int) + 1) (by omega) (by omega)]
            have em : Int.tmod ((i : Int) + (a : Int)) (l0.length : Int) = (((i + a) % l0.length : Nat) : Int) := by
              rw [Int.tmod_eq_emod_of_nonneg (by omega), Int.natCast_emod]; rfl
            have hlt : (i + a) % l0.length < l0.length := Nat.mod_lt _ (by omega)
            rw [em]
            refine pos (by omega) (neg hz (pos (by omega) (pos (by omega) (pos (by rw [List.length_take]; omega) ?_))))
            have eg : rd l0 (((i + a) % l0.length : Nat) : Int) = (rot l0 (a % l0.length)).getD i 0 := by
              rw [← rot_get l0 (a % l0.length) i hr (by omega), Nat.add_mod_mod]
            rw [eg, rot_take_succ _ _ (by rw [rot_len]; omega)]
            exact ih (i + 1) (by omega)
        exact key l0.length 0 (by omega)
      · have e : (!decide (NearAll l0)) = true := by simp [hn]
        rw [e]; exact out
end Go.Proofs.Ytdologjfcmidlaa.Pure
