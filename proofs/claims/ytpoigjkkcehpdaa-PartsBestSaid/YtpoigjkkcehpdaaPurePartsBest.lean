/- PartsBest: the plan with fewest bits, the first one of these, is found as if all were tried; or what is wrong is told. For every input (the law's own guards are in it). -/
import Derived.Test.YtpoigjkkcehpdaaPAx21
import Derived.Test.YtpoigjkkcehpdaaP14Small
import Derived.Test.YtpoigjkkcehpdaaPRefAll
namespace Go.Proofs.Ytpoigjkkcehpdaa.Pure
open Go.RowKit Go.Proofs.Ytpoigjkkcehpdaa.PA Go.Proofs.YtpoigjkkcehpdaaW.PrintWords Go.Proofs.YtpoigjkkcehpdaaW.PrintLast Go.Proofs.YtpoigjkkcehpdaaW.PrintMore Go.Proofs.Ytpoigjkkcehpdaa.PL
set_option linter.unusedVariables false
theorem amin_app (f : Nat → Int) (a : Nat) : ∀ b, amin f (a + 1 + b) = if f (a + 1 + amin (fun i => f (a + 1 + i)) b) < f (amin f a) then a + 1 + amin (fun i => f (a + 1 + i)) b else amin f a
  | 0 => rfl
  | b + 1 => by
    have ih := amin_app f a b
    have e1 : amin f (a + 1 + (b + 1)) = if f (a + 1 + (b + 1)) < f (amin f (a + 1 + b)) then a + 1 + (b + 1) else amin f (a + 1 + b) := rfl
    have e2 : amin (fun i => f (a + 1 + i)) (b + 1) = if f (a + 1 + (b + 1)) < f (a + 1 + amin (fun i => f (a + 1 + i)) b) then b + 1 else amin (fun i => f (a + 1 + i)) b := rfl
    rw [e1, ih]
    obtain ⟨g, hg⟩ : ∃ g, amin (fun i => f (a + 1 + i)) b = g := ⟨_, rfl⟩
    rw [hg] at e2 ⊢
    by_cases h1 : f (a + 1 + g) < f (amin f a)
    · rw [if_pos h1]
      by_cases h2 : f (a + 1 + (b + 1)) < f (a + 1 + g)
      · rw [e2, if_pos h2, if_pos h2, if_pos (by omega)]
      · rw [e2, if_neg h2, if_neg h2, if_pos h1]
    · rw [if_neg h1]
      by_cases h2 : f (a + 1 + (b + 1)) < f (a + 1 + g)
      · rw [e2, if_pos h2]
      · rw [e2, if_neg h2, if_neg h1, if_neg (by omega)]
theorem cand_all {l : List Int} (order : Int) (w : Bool) (o m : Nat) (h1 : ∀ j, j ≤ o → cutsP (l.length : Int) order j ≠ []) (h2 : ∀ j, o < j → j ≤ m → cutsP (l.length : Int) order j = []) :
    ∀ d j, j + d = m + 1 → cand l order w j d = ((List.range d).filter (fun i => decide (j + i ≤ o))).map (fun i => planOf l order w (j + i))
  | 0, j, _ => rfl
  | d + 1, j, hj => by
    have ih := cand_all (l := l) order w o m h1 h2 d (j + 1) (by omega)
    unfold cand
    rw [List.range_succ_eq_map, List.filter_cons, ih]
    have e : ((List.map Nat.succ (List.range d)).filter (fun i => decide (j + i ≤ o))).map (fun i => planOf l order w (j + i)) = ((List.range d).filter (fun i => decide (j + 1 + i ≤ o))).map (fun i => planOf l order w (j + 1 + i)) := by
      rw [List.filter_map, List.map_map]
      have e1 : ((fun i => decide (j + i ≤ o)) ∘ Nat.succ) = (fun i => decide (j + 1 + i ≤ o)) := by
        funext i
        show decide (j + (i + 1) ≤ o) = _
        congr 1
        exact propext ⟨fun h => by omega, fun h => by omega⟩
      have e2 : ((fun i => planOf l order w (j + i)) ∘ Nat.succ) = (fun i => planOf l order w (j + 1 + i)) := by
        funext i
        show planOf l order w (j + (i + 1)) = _
        congr 1
        omega
      rw [e1, e2]
    by_cases hc : j ≤ o
    · rw [if_neg (h1 j hc)]
      rw [if_pos (by simpa using hc), List.map_cons, e]
      rfl
    · rw [if_pos (h2 j (by omega) (by omega)), if_neg (by simpa using hc), e]
theorem filter_le (o : Nat) : ∀ m, o ≤ m → (List.range (m + 1)).filter (fun i => decide (0 + i ≤ o)) = List.range (o + 1)
  | 0, h => by obtain rfl : o = 0 := by omega
               rfl
  | m + 1, h => by
    rw [List.range_succ, List.filter_append]
    rcases Nat.lt_or_ge m o with h1 | h1
    · obtain rfl : o = m + 1 := by omega
      rw [List.filter_eq_self.2 (fun i hi => by have := List.mem_range.1 hi; simp; omega), List.filter_eq_self.2 (fun i hi => by simp at hi; subst hi; simp), List.range_succ (n := m + 1)]
    · rw [filter_le o m h1]
      rw [List.filter_eq_nil_iff.2 (fun i hi => by simp at hi; subst hi; simp; omega), List.append_nil]
theorem cand_is {l : List Int} (order : Int) (w : Bool) (o m : Nat) (ho : o ≤ m) (h1 : ∀ j, j ≤ o → cutsP (l.length : Int) order j ≠ []) (h2 : ∀ j, o < j → j ≤ m → cutsP (l.length : Int) order j = []) : cand l order w 0 (m + 1) = (List.range (o + 1)).map (planOf l order w) := by
  rw [cand_all order w o m h1 h2 (m + 1) 0 (by omega), filter_le o m ho]
  simp
/-- A plan's bits. -/
def val (l : List Int) (order : Int) (p : S26) : Int := planL l order p.f0 p.f1.toNat
theorem ref_l0 {l : List Int} (h : NearAll l) (hl : l.length ≤ 1000) {order : Int} (ho : 0 ≤ order) (ho2 : order ≤ 32) (ps : List S26) (hps : ∀ p ∈ ps, ∃ w j, j ≤ 8 ∧ cutsP (l.length : Int) order j ≠ [] ∧ p = planOf l order w j) (hn : ps.length ≤ 1000) :
    ∀ (d i : Nat), i + 1 + d = ps.length → Ev (fun k => serinetteref14_Best.l0 k l order ps (amin (fun i => val l order (ps.getD i z26)) i : Int) ((i : Int) + 1)) ((ps.getD (amin (fun i => val l order (ps.getD i z26)) (ps.length - 1)) z26).f0, (ps.getD (amin (fun i => val l order (ps.getD i z26)) (ps.length - 1)) z26).f1, (ps.getD (amin (fun i => val l order (ps.getD i z26)) (ps.length - 1)) z26).f2, val l order (ps.getD (amin (fun i => val l order (ps.getD i z26)) (ps.length - 1)) z26), 0) := by
  have hb : ∀ i : Nat, i < ps.length → Ev (fun k => serinetteref14_Bits.f k l order (rd_T26 ps (i : Int)).f0 (rd_T26 ps (i : Int)).f1 (rd_T26 ps (i : Int)).f2) (val l order (ps.getD i z26)) := by
    intro i hi
    have e : ps.getD i z26 = ps[i] := by simp [List.getD_eq_getElem?_getD, hi]
    obtain ⟨w, j, hj, hc, hp⟩ := hps ps[i] (List.getElem_mem _)
    have er : rd_T26 ps (i : Int) = planOf l order w j := by unfold rd_T26; rw [Int.toNat_natCast, e, hp]
    rw [er, e, hp]
    have := ref_bits_ev14 h hl ho ho2 w hj hc
    have ev : val l order (planOf l order w j) = planL l order w j := by simp [val, planOf]
    rw [ev]
    exact this
  intro d
  induction d with
  | zero =>
    intro i hi
    refine succ ?_
    simp only [serinetteref14_Best.l0]
    have hle := amin_le (fun i => val l order (ps.getD i z26)) i
    have ei : ps.length - 1 = i := by omega
    rw [ei]
    refine neg (by omega) (pos (by omega) (pos (by omega) (bnd (hb _ (by omega)) (cst ?_))))
    unfold rd_T26
    rw [Int.toNat_natCast]
  | succ d ih =>
    intro i hi
    refine succ ?_
    simp only [serinetteref14_Best.l0]
    have hle := amin_le (fun i => val l order (ps.getD i z26)) i
    have b1 := hb (i + 1) (by omega)
    have es : ((i + 1 : Nat) : Int) = (i : Int) + 1 := by omega
    rw [es] at b1
    have nx := ih (i + 1) (by omega)
    have ew : wrap64 ((i : Int) + 1 + 1) = ((i + 1 : Nat) : Int) + 1 := by rw [w64 (by omega) (by omega)]; omega
    refine pos (by omega) (pos (by omega) (bnd b1 (pos (by omega) (pos (by omega) (bnd (hb _ (by omega)) ?_)))))
    rw [ew]
    by_cases hc : val l order (ps.getD (i + 1) z26) < val l order (ps.getD (amin (fun i => val l order (ps.getD i z26)) i) z26)
    · have ea : amin (fun i => val l order (ps.getD i z26)) (i + 1) = i + 1 := by simp only [amin]; rw [if_pos hc]
      refine pos hc ?_
      rw [ea, es] at nx
      rw [es]
      exact nx
    · have ea : amin (fun i => val l order (ps.getD i z26)) (i + 1) = amin (fun i => val l order (ps.getD i z26)) i := by simp only [amin]; rw [if_neg hc]
      refine neg hc ?_
      rw [ea] at nx
      exact nx
theorem amin_cong {f g : Nat → Int} : ∀ m, (∀ i, i ≤ m → f i = g i) → amin f m = amin g m
  | 0, _ => rfl
  | m + 1, h => by
    have ih := amin_cong m (fun i hi => h i (by omega))
    have hle := amin_le g m
    simp only [amin]
    rw [ih, h (m + 1) (by omega), h (amin g m) (by omega)]
/-- The first best one of all plans is what parts.Best finds. -/
theorem ref_best14 {l : List Int} (h : NearAll l) (hl : l.length ≤ 1000) (h0 : l.length ≠ 0) {order : Int} (ho : 0 ≤ order) (ho2 : order ≤ 32) (m : Nat) (hm : m ≤ 8) (wide : Bool) :
    Ev (fun k => serinetteref14_Best.f k l order (m : Int) wide) ((bestPlan l order (topO (l.length : Int) order m) wide).f, (bestPlan l order (topO (l.length : Int) order m) wide).o, (bestPlan l order (topO (l.length : Int) order m) wide).ps, (bestPlan l order (topO (l.length : Int) order m) wide).n, 0) := by
  have hne := topO_ne (order := order) (show (0 : Int) < (l.length : Int) by omega) m
  have hle := topO_le (l.length : Int) order m
  have hmax := topO_max (l.length : Int) order m
  generalize topO (l.length : Int) order m = o at hne hle hmax
  have hcc := cuts_below (by omega) ho hne
  unfold serinetteref14_Best.f
  refine neg (by omega) (neg (by omega) (neg (by omega) ?_))
  rw [decide_eq_false (by omega)]
  refine succ ?_
  simp only [serinetteref14_Best.j0]
  refine neg (by decide) (neg (by omega) (bnd (ref_nearAll_ev l (by omega)) (pos (by simp [h]) (bnd (plans_ev h hl ho ho2 m hm wide) ?_))))
  have hps : plansL l order m wide = (List.range (o + 1)).map (planOf l order false) ++ if wide = true then (List.range (o + 1)).map (planOf l order true) else [] := by
    unfold plansL
    rw [cand_is order false o m hle hcc hmax, cand_is order true o m hle hcc hmax]
  rw [hps]
  obtain ⟨ps, hP⟩ : ∃ ps, (List.range (o + 1)).map (planOf l order false) ++ (if wide = true then (List.range (o + 1)).map (planOf l order true) else []) = ps := ⟨_, rfl⟩
  have hmem : ∀ p ∈ ps, ∃ w j, j ≤ 8 ∧ cutsP (l.length : Int) order j ≠ [] ∧ p = planOf l order w j := by
    intro p hp
    rw [← hP, List.mem_append] at hp
    rcases hp with hp | hp
    · obtain ⟨j, hj, rfl⟩ := List.mem_map.1 hp
      have := List.mem_range.1 hj
      exact ⟨false, j, by omega, hcc j (by omega), rfl⟩
    · split at hp
      · obtain ⟨j, hj, rfl⟩ := List.mem_map.1 hp
        have := List.mem_range.1 hj
        exact ⟨true, j, by omega, hcc j (by omega), rfl⟩
      · simp at hp
  have hlen : ps.length = if wide = true then o + 1 + (o + 1) else o + 1 := by
    rw [← hP, List.length_append, List.length_map, List.length_range]
    split <;> simp
  have g1 : ∀ i, i ≤ o → ps.getD i z26 = planOf l order false i := fun i hi => by
    rw [← hP, List.getD_eq_getElem?_getD, List.getElem?_append_left (by simp; omega)]
    simp [show i < o + 1 by omega]
  have v1 : ∀ i, i ≤ o → val l order (ps.getD i z26) = planL l order false i := fun i hi => by rw [g1 i hi]; simp [val, planOf]
  have key := ref_l0 h hl ho ho2 ps hmem (by rw [hlen]; split <;> omega) (ps.length - 1) 0 (by rw [hlen]; split <;> omega)
  have a1 : amin (fun i => val l order (ps.getD i z26)) o = amin (planL l order false) o := amin_cong o v1
  have hA := amin_le (planL l order false) o
  have fin : ((ps.getD (amin (fun i => val l order (ps.getD i z26)) (ps.length - 1)) z26).f0, (ps.getD (amin (fun i => val l order (ps.getD i z26)) (ps.length - 1)) z26).f1, (ps.getD (amin (fun i => val l order (ps.getD i z26)) (ps.length - 1)) z26).f2, val l order (ps.getD (amin (fun i => val l order (ps.getD i z26)) (ps.length - 1)) z26), (0 : Int)) = ((bestPlan l order o wide).f, (bestPlan l order o wide).o, (bestPlan l order o wide).ps, (bestPlan l order o wide).n, 0) := by
    unfold bestPlan
    cases wide with
    | false =>
      have e1 : ps.length - 1 = o := by rw [hlen]; simp
      rw [e1, a1, v1 _ hA, g1 _ hA, if_neg (by simp)]
      rfl
    | true =>
      have e1 : ps.length - 1 = o + 1 + o := by rw [hlen, if_pos rfl]; omega
      have g2 : ∀ i, i ≤ o → ps.getD (o + 1 + i) z26 = planOf l order true i := fun i hi => by
        rw [← hP, List.getD_eq_getElem?_getD, List.getElem?_append_right (by simp)]
        simp [show i < o + 1 by omega]
      have v2 : ∀ i, i ≤ o → val l order (ps.getD (o + 1 + i) z26) = planL l order true i := fun i hi => by rw [g2 i hi]; simp [val, planOf]
      have a2 : amin (fun i => val l order (ps.getD (o + 1 + i) z26)) o = amin (planL l order true) o := amin_cong o v2
      have hB := amin_le (planL l order true) o
      have ea : amin (fun i => val l order (ps.getD i z26)) (o + 1 + o) = if planL l order true (amin (planL l order true) o) < planL l order false (amin (planL l order false) o) then o + 1 + amin (planL l order true) o else amin (planL l order false) o := by
        rw [amin_app, a2, a1]
        show (if val l order (ps.getD (o + 1 + amin (planL l order true) o) z26) < val l order (ps.getD (amin (planL l order false) o) z26) then _ else _) = _
        rw [v2 _ hB, v1 _ hA]
      rw [e1, ea]
      by_cases hc : planL l order true (amin (planL l order true) o) < planL l order false (amin (planL l order false) o)
      · rw [if_pos hc, if_pos ⟨rfl, hc⟩, v2 _ hB, g2 _ hB]
        rfl
      · rw [if_neg hc, if_neg (fun g => hc g.2), v1 _ hA, g1 _ hA]
        rfl
  rw [fin] at key
  rw [hP]
  simpa [amin] using key
theorem PartsBest : serinettelaw14_PartsBest.Pure := by
  intro l0 a1 a2 a3 h1 h2 hw w1 w2
  refine Ev.rounds ?_
  unfold serinettelaw14_PartsBest.f
  refine bnd awake_ev ?_
  by_cases hl : (l0.length : Int) > 80
  · exact pos hl (now true)
  refine neg hl ?_
  have hlen : l0.length ≤ 1000 := by omega
  -- both sides answer alike
  have both : ∃ (f : Bool) (o : Int) (ps : List S39) (n e : Int), partsBest.f l0 a1 a2 a3 = some (f, o, ps, n, e) ∧ Ev (fun k => serinetteref14_Best.f k l0 a1 a2 a3) (f, o, ps, n, e) ∧ ps.length < 1000000 := by
    by_cases hg : a1 < 0 ∨ 32 < a1 ∨ a2 < 0 ∨ 8 < a2
    · refine ⟨false, 0, [], 0, 1, by unfold partsBest.f; rw [if_pos hg], ?_, by simp⟩
      have out : Ev (fun k => serinetteref14_Best.j0 k l0 a1 a2 a3 true) (false, 0, [], 0, 1) := by
        refine succ ?_
        simp only [serinetteref14_Best.j0]
        exact pos trivial (now _)
      unfold serinetteref14_Best.f
      by_cases q1 : a1 < 0
      · exact pos q1 out
      refine neg q1 ?_
      by_cases q2 : a1 > 32
      · exact pos q2 out
      refine neg q2 ?_
      by_cases q3 : a2 < 0
      · exact pos q3 out
      refine neg q3 ?_
      rw [decide_eq_true (show a2 > 8 by omega)]
      exact out
    · obtain ⟨m, rfl⟩ : ∃ m : Nat, a2 = (m : Int) := ⟨a2.toNat, by omega⟩
      by_cases h0 : l0.length = 0
      · refine ⟨false, 0, [], 0, 2, by unfold partsBest.f; rw [if_neg hg, if_pos h0], ?_, by simp⟩
        unfold serinetteref14_Best.f
        refine neg (by omega) (neg (by omega) (neg (by omega) ?_))
        rw [decide_eq_false (by omega)]
        refine succ ?_
        simp only [serinetteref14_Best.j0]
        exact neg (by decide) (pos (by omega) (now _))
      · by_cases hn : NearAll l0
        · refine ⟨_, _, _, _, _, best_f hn hlen h0 (by omega) (by omega) (by omega) a3, ref_best14 hn hlen h0 (by omega) (by omega) m (by omega) a3, ?_⟩
          have hb : ∀ w j, j ≤ 8 → (planPs l0 a1 w j).length < 1000000 := fun w j hj => by
            unfold planPs
            rw [List.length_map, partsP_len]
            have := cuts_len8 (n := (l0.length : Int)) (order := a1) hj
            omega
          have hle := topO_le (l0.length : Int) a1 m
          unfold bestPlan
          split
          · exact hb _ _ (by have := amin_le (planL l0 a1 true) (topO (l0.length : Int) a1 m); omega)
          · exact hb _ _ (by have := amin_le (planL l0 a1 false) (topO (l0.length : Int) a1 m); omega)
        · refine ⟨false, 0, [], 0, 6, by unfold partsBest.f; rw [if_neg hg, if_neg h0, if_neg (by omega), if_neg hn], ?_, by simp⟩
          unfold serinetteref14_Best.f
          refine neg (by omega) (neg (by omega) (neg (by omega) ?_))
          rw [decide_eq_false (by omega)]
          refine succ ?_
          simp only [serinetteref14_Best.j0]
          exact neg (by decide) (neg (by omega) (bnd (ref_nearAll_ev l0 (by omega)) (neg (by simp [hn]) (now _))))
  obtain ⟨f, o, ps, n, e, hp, hr, hps⟩ := both
  have hp' : parts_Best.f l0 a1 a2 a3 = some (f, o, ps, n, e) := hp
  rw [hp']
  simp only [Option.bind_some]
  exact bnd hr (pos trivial (pos rfl (pos rfl (bnd (same_ev f o ps hps) (now true)))))
end Go.Proofs.Ytpoigjkkcehpdaa.Pure
