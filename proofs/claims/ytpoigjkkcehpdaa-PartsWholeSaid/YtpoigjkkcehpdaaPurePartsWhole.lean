/- PartsWhole: in one part it is that part's best way, and ten bits more; with more cuts allowed, or wider ones, it has no more bits. For every input (the law's own guards are in it). -/
import Derived.Test.YtpoigjkkcehpdaaPAx26
import Derived.Test.YtpoigjkkcehpdaaP14Awake
import Derived.Test.YtpoigjkkcehpdaaP14Model
import Derived.Test.YtpoigjkkcehpdaaPRefNear
import Derived.Test.YtpoigjkkcehpdaaPBestWay
namespace Go.Proofs.Ytpoigjkkcehpdaa.Pure
open Go.RowKit Go.Proofs.Ytpoigjkkcehpdaa.PA Go.Proofs.YtpoigjkkcehpdaaW.PrintWords Go.Proofs.YtpoigjkkcehpdaaW.PrintLast Go.Proofs.YtpoigjkkcehpdaaW.PrintMore Go.Proofs.Ytpoigjkkcehpdaa.PL
theorem tmod_in {x : Int} (h : 0 ≤ x) (m : Int) (hm : 0 < m) (hm2 : m < 100000) : wrap64 (Int.tmod x m) = x % m := by
  have h1 := Int.emod_nonneg x (show m ≠ 0 by omega)
  have h2 := Int.emod_lt_of_pos x hm
  rw [Int.tmod_eq_emod_of_nonneg h, w64 (by omega) (by omega)]
theorem one_part {l : List Int} (h0 : l.length ≠ 0) (order : Int) : partsP l order 0 = [l] := by
  unfold partsP
  rw [cutsP_0 (by omega)]
  simp [split]
theorem one_bits {l : List Int} (h0 : l.length ≠ 0) (order : Int) (w : Bool) : planL l order w 0 = 6 + (sizeOf_ w + bestN l (mostOf w)) := by
  unfold planL
  rw [one_part h0]
  simp [planN]
theorem PartsWhole : serinettelaw14_PartsWhole.Pure := by
  intro l0 a1 a2 h1 h2 hw w1 w2
  refine Ev.rounds ?_
  unfold serinettelaw14_PartsWhole.f
  have out : Ev (fun k => serinettelaw14_PartsWhole.j0 k l0 a1 a2 true true) true := by
    refine succ ?_
    simp only [serinettelaw14_PartsWhole.j0]
    exact pos trivial (cst rfl)
  refine bnd awake_ev (bnd (ref_nearAll_ev l0 (by omega)) ?_)
  by_cases hl : (l0.length : Int) > 80
  · exact pos hl out
  refine neg hl ?_
  by_cases h0 : (l0.length : Int) = 0
  · exact pos h0 out
  refine neg h0 ?_
  by_cases hn : NearAll l0
  · have e : (!decide (NearAll l0)) = false := by simp [hn]
    rw [e]
    refine succ ?_
    simp only [serinettelaw14_PartsWhole.j0]
    have g1 := wfu8 w1
    have g2 := wfu8 w2
    rw [tmod_in g1.1 33 (by decide) (by decide), tmod_in g2.1 9 (by decide) (by decide)]
    obtain ⟨order, hord⟩ : ∃ x, a1 % 33 = x := ⟨_, rfl⟩
    obtain ⟨m, hm⟩ : ∃ m : Nat, a2 % 9 = (m : Int) := ⟨(a2 % 9).toNat, by omega⟩
    rw [hord, hm]
    have bo : 0 ≤ order ∧ order ≤ 32 := by omega
    have b8 : m ≤ 8 := by omega
    have hlen : l0.length ≤ 1000 := by omega
    have hne : l0.length ≠ 0 := by omega
    clear hord hm g1 g2 w1 w2
    have hb := best_ev l0 14 hlen
    rw [if_pos hn, show kk 14 = 14 from rfl] at hb
    have p1 : parts_Best.f l0 order ((0 : Nat) : Int) false = _ := best_f hn hlen hne bo.1 bo.2 (by omega) false
    have p2 : parts_Best.f l0 order (m : Int) false = _ := best_f hn hlen hne bo.1 bo.2 b8 false
    have p3 : parts_Best.f l0 order (m : Int) true = _ := best_f hn hlen hne bo.1 bo.2 b8 true
    have t0 : topO (l0.length : Int) order 0 = 0 := rfl
    rw [t0] at p1
    generalize topO (l0.length : Int) order m = o at p2 p3
    have c1 : bestPlan l0 order 0 false = curL l0 order false 0 := by
      unfold bestPlan
      rw [if_neg (by simp)]
      rfl
    have c2 : bestPlan l0 order o false = curL l0 order false (amin (planL l0 order false) o) := by
      unfold bestPlan
      rw [if_neg (by simp)]
    rw [c1] at p1
    rw [c2] at p2
    have hbn := bestN_bd hn hlen (show 14 ≤ 30 by omega)
    have hone := one_bits hne order false
    have hz : sizeOf_ false = 4 := rfl
    have hmo : mostOf false = 14 := rfl
    rw [hz, hmo] at hone
    have hmin := amin_min (planL l0 order false) o 0 (Nat.zero_le _)
    refine neg (by decide) (bnd hb ?_)
    rw [show (0 : Int) = ((0 : Nat) : Int) from rfl, p1, p2, p3]
    simp only [Option.bind_some]
    refine pos trivial (pos rfl (pos rfl (pos rfl (pos ?_ (pos ?_ (pos ?_ (cst ?_)))))))
    · show planL l0 order false 0 = wrap64 (bestN l0 14 + 10)
      rw [hone, w64 (by omega) (by omega)]
      omega
    · show ((planPs l0 order false 0).length : Int) = 1
      unfold planPs
      rw [one_part hne]
      rfl
    · exact hmin
    · congr 1
      refine decide_eq_true ?_
      unfold bestPlan
      split
      · rename_i hc
        show planL l0 order true _ ≤ planL l0 order false _
        omega
      · exact Int.le_refl _
  · have e : (!decide (NearAll l0)) = true := by simp [hn]
    rw [e]
    exact out
end Go.Proofs.Ytpoigjkkcehpdaa.Pure
