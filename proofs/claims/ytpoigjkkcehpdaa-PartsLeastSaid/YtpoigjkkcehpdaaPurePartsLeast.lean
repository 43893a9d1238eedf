/- PartsLeast: no other plan has fewer bits, by whatever it is cut, with whatever ways in its parts. For every input (the law's own guards are in it). -/
import Derived.Test.YtpoigjkkcehpdaaPAx23
import Derived.Test.YtpoigjkkcehpdaaP14Awake
import Derived.Test.YtpoigjkkcehpdaaP14Model
import Derived.Test.YtpoigjkkcehpdaaPRefNear
import Derived.Test.YtpoigjkkcehpdaaPEach
namespace Go.Proofs.Ytpoigjkkcehpdaa.Pure
open Go.RowKit Go.Proofs.Ytpoigjkkcehpdaa.PA Go.Proofs.YtpoigjkkcehpdaaW.PrintWords Go.Proofs.YtpoigjkkcehpdaaW.PrintLast Go.Proofs.YtpoigjkkcehpdaaW.PrintMore Go.Proofs.Ytpoigjkkcehpdaa.PL
set_option linter.unusedVariables false
theorem tmod_in {x : Int} (h : 0 ≤ x) (m : Int) (hm : 0 < m) (hm2 : m < 100000) : wrap64 (Int.tmod x m) = x % m := by
  have h1 := Int.emod_nonneg x (show m ≠ 0 by omega)
  have h2 := Int.emod_lt_of_pos x hm
  rw [Int.tmod_eq_emod_of_nonneg h, w64 (by omega) (by omega)]
/-- A part's bits, by a way. -/
def eachW (l : List Int) (p : S39) : Int := if p.f1 = true then (if NearAll l ∧ (wid l : Int) ≤ p.f0 ∧ p.f0 ≤ 31 then 5 + p.f0 * l.length else -1) else if NearAll l then bitsL (kk p.f0) l else -1
/-- A plan's bits, from a sum on. -/
def bitsGo (w : Bool) : List (List Int) → List S39 → Int → Int
  | q :: qs, p :: ps, s => if eachW q p < 0 then -1 else if p.f1 = true ∨ (0 ≤ p.f0 ∧ p.f0 ≤ (mostOf w : Int)) then bitsGo w qs ps (s + (sizeOf_ w + eachW q p)) else -1
  | [], _, s => s
  | _ :: _, [], _ => -1
theorem eachW_le {l : List Int} (h : NearAll l) (hl : l.length ≤ 1000) (p : S39) : eachW l p ≤ 5 + 17179869300 * l.length := by
  unfold eachW
  split
  · split
    · rename_i hc
      have : p.f0 * (l.length : Int) ≤ 31 * l.length := Int.mul_le_mul_of_nonneg_right hc.2.2 (by omega)
      omega
    · omega
  · try rw [if_pos h]
    have := bitsL_bd (kk p.f0) (kk_le _) l h
    omega
theorem eachW_ge {l : List Int} (h : NearAll l) (p : S39) {m : Nat} (hm : m ≤ 30) (he : ¬ eachW l p < 0) (hp : p.f1 = true ∨ (0 ≤ p.f0 ∧ p.f0 ≤ (m : Int))) : bestN l m ≤ eachW l p := by
  obtain ⟨l1, l2⟩ := best_le l m
  unfold eachW at he ⊢
  unfold bestN
  by_cases hr : p.f1 = true
  · rw [if_pos hr] at he ⊢
    by_cases hc : NearAll l ∧ (wid l : Int) ≤ p.f0 ∧ p.f0 ≤ 31
    · rw [if_pos hc]
      have h1 := l2 (by omega)
      unfold rawL at h1
      have : (wid l : Int) * (l.length : Int) ≤ p.f0 * l.length := Int.mul_le_mul_of_nonneg_right hc.2.1 (by omega)
      omega
    · rw [if_neg hc] at he
      omega
  · rw [if_neg hr, if_pos h]
    have h1 := hp.resolve_left hr
    exact l1 _ (by unfold kk; omega)
theorem go_ge (w : Bool) : ∀ (qs : List (List Int)) (ps : List S39) (s : Int), (∀ q ∈ qs, NearAll q ∧ q.length ≤ 1000) → bitsGo w qs ps s < 0 ∨ s + planN w qs ≤ bitsGo w qs ps s
  | [], _, s, _ => .inr (by simp [bitsGo, planN])
  | _ :: _, [], s, _ => .inl (by simp [bitsGo])
  | q :: qs, p :: ps, s, h => by
    have hq := h q (by simp)
    simp only [bitsGo]
    by_cases h1 : eachW q p < 0
    · rw [if_pos h1]; exact .inl (by decide)
    · rw [if_neg h1]
      by_cases h2 : p.f1 = true ∨ (0 ≤ p.f0 ∧ p.f0 ≤ (mostOf w : Int))
      · rw [if_pos h2]
        have h3 := eachW_ge hq.1 p (mostOf_le w) h1 h2
        rcases go_ge w qs ps (s + (sizeOf_ w + eachW q p)) (fun x hx => h x (by simp [hx])) with h4 | h4
        · exact .inl h4
        · refine .inr ?_
          simp only [planN]
          omega
      · rw [if_neg h2]; exact .inl (by decide)
theorem eachW_best {q : List Int} (h : NearAll q) (hl : q.length ≤ 1000) {m : Nat} (hm : m ≤ 30) : eachW q (partL q m) = bestN q m ∧ ((partL q m).f1 = true ∨ (0 ≤ (partL q m).f0 ∧ (partL q m).f0 ≤ (m : Int))) := by
  by_cases hc : wid q ≤ 31 ∧ rawL q < bitsL (amin (fun k => bitsL k q) m) q
  · have hb : bestL q m = ((wid q : Int), true, rawL q, 0) := by unfold bestL; rw [if_pos hc]
    unfold eachW partL bestN
    rw [hb]
    refine ⟨?_, .inl rfl⟩
    rw [if_pos rfl, if_pos ⟨h, Int.le_refl _, by show (wid q : Int) ≤ 31; omega⟩]
    rfl
  · have hb : bestL q m = ((amin (fun k => bitsL k q) m : Int), false, bitsL (amin (fun k => bitsL k q) m) q, 0) := by unfold bestL; rw [if_neg hc]
    have hle := amin_le (fun k => bitsL k q) m
    unfold eachW partL bestN
    rw [hb]
    refine ⟨?_, .inr ⟨by show 0 ≤ ((amin (fun k => bitsL k q) m : Nat) : Int); omega, by show ((amin (fun k => bitsL k q) m : Nat) : Int) ≤ m; omega⟩⟩
    rw [if_neg (show ¬ (false = true) by decide), if_pos h, kk_nat (by omega)]
theorem go_best (w : Bool) : ∀ (qs : List (List Int)) (s : Int), (∀ q ∈ qs, NearAll q ∧ q.length ≤ 1000) → bitsGo w qs (qs.map (fun p => partL p (mostOf w))) s = s + planN w qs
  | [], s, _ => by simp [bitsGo, planN]
  | q :: qs, s, h => by
    have hq := h q (by simp)
    have hb := eachW_best hq.1 hq.2 (mostOf_le w)
    have h0 := (bestN_bd hq.1 hq.2 (mostOf_le w)).1
    simp only [List.map_cons, bitsGo]
    rw [hb.1, if_neg (by omega), if_pos hb.2, go_best w qs _ (fun x hx => h x (by simp [hx]))]
    simp only [planN]
    omega
theorem bits_l0 (w : Bool) (o : Int) (cs : List Int) (ps : List S39) (hlen : ps.length = cs.length) (hcl : cs.length ≤ 40000) :
    ∀ (t p : List Int) (l : List Int) (s : Int), cs = p ++ t → NearAll l → l.length ≤ 1000 → Fits t l.length → 0 ≤ s → s + 10 * t.length + 17179869300 * l.length ≤ 1000000000000000 → Ev (fun k => parts_Bits.l0 k l (mostOf w : Int) (sizeOf_ w) s cs (cs.length : Int) (p.length : Int) w o ps) (bitsGo w (split t l) (ps.drop p.length) s) := by
  intro t
  induction t with
  | nil =>
    intro p l s hp hn hl hf h0 hs
    refine succ ?_
    simp only [parts_Bits.l0]
    exact neg (by rw [hp]; simp) (cst (by simp [split, bitsGo]))
  | cons c t ih =>
    intro p l s hp hn hl hf h0 hs
    obtain ⟨hc0, hc1, hf2⟩ := hf
    have l1 := congrArg List.length hp
    simp only [List.length_append, List.length_cons] at l1 hs
    refine succ ?_
    simp only [parts_Bits.l0]
    have ra : rd cs (p.length : Int) = c := by rw [hp]; exact rd_at _ _ _
    have hpl : p.length < ps.length := by omega
    have hd : ps.drop p.length = ps[p.length] :: ps.drop (p.length + 1) := List.drop_eq_getElem_cons hpl
    have rp : rd_T39 ps (p.length : Int) = ps[p.length] := by simp [rd_T39, List.getD_eq_getElem?_getD, hpl]
    rw [ra, rp]
    generalize ps[p.length] = q at hd
    have hnt := take_near hn c.toNat
    have hnd := drop_near hn c.toNat
    have hlt : (l.take c.toNat).length + (l.drop c.toNat).length = l.length := by rw [List.length_take, List.length_drop]; omega
    have hev : Ev (fun k => cost_Each.f k (l.take c.toNat) q.f0 q.f1) (eachW (l.take c.toNat) q) := each_ev (l.take c.toNat) q.f0 q.f1 (by omega)
    have hle := eachW_le hnt (by omega) q
    have hz := sizeOf_bd w
    rw [hd]
    simp only [split, bitsGo]
    refine pos (by omega) (pos (by omega) (pos (by omega) (pos (by omega) (pos (by omega) (pos (by omega) (bnd hev ?_))))))
    obtain ⟨v, hv⟩ : ∃ v, eachW (l.take c.toNat) q = v := ⟨_, rfl⟩
    rw [hv] at hle ⊢
    by_cases h1 : v < 0
    · rw [if_pos h1]
      exact pos h1 (now _)
    · rw [if_neg h1]
      refine neg h1 ?_
      have nx := ih (p ++ [c]) (l.drop c.toNat) (s + (sizeOf_ w + v)) (by simp [hp]) hnd (by omega) (by rw [List.length_drop]; exact hf2) (by omega) (by omega)
      have e3 : (p ++ [c]).length = p.length + 1 := by simp
      rw [e3] at nx
      rw [w64 (x := sizeOf_ w + v) (by omega) (by omega), w64 (x := s + (sizeOf_ w + v)) (by omega) (by omega), w64 (x := (p.length : Int) + 1) (by omega) (by omega)]
      have e4 : ((p.length + 1 : Nat) : Int) = (p.length : Int) + 1 := by omega
      rw [e4] at nx
      by_cases hr : q.f1 = true
      · rw [if_pos (.inl hr)]
        exact pos hr nx
      · refine neg hr ?_
        by_cases h2 : q.f0 < 0
        · rw [if_neg (fun g => by have := g.resolve_left hr; omega)]
          exact pos h2 (now _)
        · refine neg h2 ?_
          by_cases h3 : q.f0 > (mostOf w : Int)
          · rw [if_neg (fun g => by have := g.resolve_left hr; omega)]
            exact pos h3 (now _)
          · rw [if_pos (.inr ⟨by omega, by omega⟩)]
            exact neg h3 nx
def cutsI (n order o : Int) : List Int := if 0 ≤ o ∧ o ≤ 15 then cutsP n order o.toNat else []
theorem cutsI_ev (n order o : Int) (hn0 : 0 ≤ n) (hn : n ≤ 100000) (ho0 : 0 ≤ order) (ho1 : order ≤ 100000) : Ev (fun k => parts_Cuts.f k n order o) (cutsI n order o) := by
  have out : Ev (fun k => parts_Cuts.j0 k n order o true) [] := by
    refine succ ?_
    simp only [parts_Cuts.j0]
    exact pos trivial (now _)
  unfold cutsI
  by_cases h : 0 ≤ o ∧ o ≤ 15
  · rw [if_pos h]
    have := cuts_ev n order o.toNat hn0 hn ho0 ho1 (by omega)
    rw [show ((o.toNat : Nat) : Int) = o by omega] at this
    exact this
  · rw [if_neg h]
    unfold parts_Cuts.f
    refine neg (by omega) (neg (by omega) ?_)
    by_cases h1 : o < 0
    · exact pos h1 out
    · refine neg h1 ?_
      rw [decide_eq_true (by omega)]
      exact out
def bitsV (l : List Int) (order : Int) (w : Bool) (o : Int) (ps : List S39) : Int :=
  if cutsI (l.length : Int) order o = [] ∨ (cutsI (l.length : Int) order o).length ≠ ps.length then -1 else bitsGo w (split (cutsI (l.length : Int) order o) l) ps 6
theorem bitsV_ev {l : List Int} (h : NearAll l) (hl : l.length ≤ 1000) {order : Int} (ho : 0 ≤ order) (ho2 : order ≤ 32) (w : Bool) (o : Int) (ps : List S39) : Ev (fun k => parts_Bits.f k l order w o ps) (bitsV l order w o ps) := by
  unfold parts_Bits.f
  refine bnd (cutsI_ev (l.length : Int) order o (by omega) (by omega) (by omega) (by omega)) ?_
  unfold bitsV
  have out : ∀ cs, Ev (fun k => parts_Bits.j0 k l cs true w o ps) (-1) := fun cs => by
    refine succ ?_
    simp only [parts_Bits.j0]
    exact pos trivial (now _)
  by_cases hc : cutsI (l.length : Int) order o = []
  · rw [if_pos (.inl hc), hc]
    exact pos rfl (out _)
  refine neg (by have := List.length_pos_iff.2 hc; omega) ?_
  by_cases hl2 : (cutsI (l.length : Int) order o).length = ps.length
  · rw [if_neg (fun g => g.elim hc (fun x => x hl2))]
    have e : (((cutsI (l.length : Int) order o).length : Int) != (ps.length : Int)) = false := by rw [hl2]; simp
    rw [e]
    have hin : 0 ≤ o ∧ o ≤ 15 := by
      unfold cutsI at hc
      split at hc
      · assumption
      · exact absurd rfl hc
    have hci : cutsI (l.length : Int) order o = cutsP (l.length : Int) order o.toNat := by unfold cutsI; rw [if_pos hin]
    have hfit := fits_cuts l.length order ho o.toNat
    have hlen : (cutsI (l.length : Int) order o).length ≤ 40000 := by
      rw [hci, cutsP_len (by rw [← hci]; exact hc)]
      have h1 : (2 : Nat) ^ o.toNat ≤ 2 ^ 15 := Nat.pow_le_pow_right (by decide) (by omega)
      have h2 : (2 : Nat) ^ 15 = 32768 := by decide
      omega
    rw [← hci] at hfit
    refine succ ?_
    simp only [parts_Bits.j0]
    refine neg (by decide) ?_
    have ht : parts_top.f w = some ((mostOf w : Int), sizeOf_ w) := by cases w <;> rfl
    rw [ht]
    simp only [Option.bind_some]
    have := bits_l0 w o (cutsI (l.length : Int) order o) ps hl2.symm hlen (cutsI (l.length : Int) order o) [] l 6 rfl h hl hfit (by omega) (by omega)
    simpa using this
  · rw [if_pos (.inr hl2)]
    have e : (((cutsI (l.length : Int) order o).length : Int) != (ps.length : Int)) = true := by rw [bne_iff_ne]; omega
    rw [e]
    exact out _
theorem best_bits {l : List Int} (h : NearAll l) (hl : l.length ≤ 1000) {order : Int} (w : Bool) {j : Nat} (hj : j ≤ 8) (hc : cutsP (l.length : Int) order j ≠ []) : bitsV l order w (j : Int) (planPs l order w j) = planL l order w j := by
  have hci : cutsI (l.length : Int) order (j : Int) = cutsP (l.length : Int) order j := by unfold cutsI; rw [if_pos ⟨by omega, by omega⟩, Int.toNat_natCast]
  have hlen : (planPs l order w j).length = (cutsP (l.length : Int) order j).length := by unfold planPs partsP; rw [List.length_map, split_len]
  unfold bitsV
  rw [hci, if_neg (fun g => g.elim hc (fun x => x hlen.symm))]
  unfold planPs planL partsP
  exact go_best w _ 6 (split_near _ l h hl)
theorem least_ge {l : List Int} (h : NearAll l) (hl : l.length ≤ 1000) (h0 : l.length ≠ 0) {order : Int} (ho : 0 ≤ order) {m : Nat} (hm : m ≤ 8) (w : Bool) (o : Int) (ps : List S39) (hom : o ≤ (m : Int)) :
    bitsV l order w o ps < 0 ∨ (bestPlan l order (topO (l.length : Int) order m) true).n ≤ bitsV l order w o ps := by
  have hmax := topO_max (l.length : Int) order m
  generalize topO (l.length : Int) order m = t at hmax
  unfold bitsV
  by_cases hc : cutsI (l.length : Int) order o = [] ∨ (cutsI (l.length : Int) order o).length ≠ ps.length
  · rw [if_pos hc]; exact .inl (by decide)
  rw [if_neg hc]
  have hc1 : cutsI (l.length : Int) order o ≠ [] := fun x => hc (.inl x)
  have hin : 0 ≤ o ∧ o ≤ 15 := by
    unfold cutsI at hc1
    split at hc1
    · assumption
    · exact absurd rfl hc1
  obtain ⟨j, rfl⟩ : ∃ j : Nat, o = (j : Int) := ⟨o.toNat, by omega⟩
  have hci : cutsI (l.length : Int) order (j : Int) = cutsP (l.length : Int) order j := by unfold cutsI; rw [if_pos hin, Int.toNat_natCast]
  rw [hci] at hc1 ⊢
  have hjt : j ≤ t := by
    rcases Nat.lt_or_ge t j with g | g
    · exact absurd (hmax j g (by omega)) hc1
    · exact g
  rcases go_ge w (split (cutsP (l.length : Int) order j) l) ps 6 (split_near _ l h hl) with g | g
  · exact .inl g
  · refine .inr ?_
    have e : (6 : Int) + planN w (split (cutsP (l.length : Int) order j) l) = planL l order w j := rfl
    rw [e] at g
    have m1 := amin_min (planL l order true) t j hjt
    have m2 := amin_min (planL l order false) t j hjt
    unfold bestPlan
    by_cases hq : planL l order true (amin (planL l order true) t) < planL l order false (amin (planL l order false) t)
    · rw [if_pos ⟨rfl, hq⟩]
      show planL l order true (amin (planL l order true) t) ≤ _
      cases w <;> omega
    · rw [if_neg (fun x => hq x.2)]
      show planL l order false (amin (planL l order false) t) ≤ _
      cases w <;> omega
theorem PartsLeast : ∀ (l0 : List Int) (a1 : Int) (a2 : Int) (a3_0 : Bool) (a3_1 : Int) (l3_2 : List PA.S39), l0.length ≤ maxLen → l0.length * 8 ≤ 140737488351232 → (∀ x ∈ l0, (Lit.int .i64 x).wf = true) → (Lit.int .u8 a1).wf = true → (Lit.int .u8 a2).wf = true → (Lit.int .i64 a3_1).wf = true → l3_2.length ≤ maxLen → (∀ x ∈ l3_2, ((Lit.int .i64 x.f0).wf = true ∧ True)) → ∃ k, serinettelaw14_PartsLeast.f k l0 a1 a2 a3_0 a3_1 l3_2 = some true := by
  intro l0 a1 a2 w o ps h1 h2 hw w1 w2 wo hpl hps
  refine Ev.rounds ?_
  unfold serinettelaw14_PartsLeast.f
  have out : Ev (fun k => serinettelaw14_PartsLeast.j0 k l0 a1 a2 true true w o ps) true := by
    refine succ ?_
    simp only [serinettelaw14_PartsLeast.j0]
    exact pos trivial (cst rfl)
  refine bnd awake_ev (bnd (ref_nearAll_ev l0 (by omega)) ?_)
  by_cases hl : (l0.length : Int) > 80
  · exact pos hl out
  refine neg hl ?_
  by_cases h0 : (l0.length : Int) = 0
  · exact pos h0 out
  refine neg h0 ?_
  by_cases hn : NearAll l0
  · have e : (!decide (NearAll l0)) = false := by simp [hn]
    rw [e]
    refine succ ?_
    simp only [serinettelaw14_PartsLeast.j0]
    have g1 := wfu8 w1
    have g2 := wfu8 w2
    rw [tmod_in g1.1 33 (by decide) (by decide), tmod_in g2.1 9 (by decide) (by decide)]
    obtain ⟨order, hord⟩ : ∃ x, a1 % 33 = x := ⟨_, rfl⟩
    obtain ⟨m, hm⟩ : ∃ m : Nat, a2 % 9 = (m : Int) := ⟨(a2 % 9).toNat, by omega⟩
    rw [hord, hm]
    have bo : 0 ≤ order ∧ order ≤ 32 := by omega
    have b8 : m ≤ 8 := by omega
    have hlen : l0.length ≤ 1000 := by omega
    have hne : l0.length ≠ 0 := by omega
    clear hord hm g1 g2 w1 w2
    have p3 : parts_Best.f l0 order (m : Int) true = _ := best_f hn hlen hne bo.1 bo.2 b8 true
    have hge := least_ge hn hlen hne bo.1 b8 w o ps
    have htop := topO_ne (order := order) (show (0 : Int) < (l0.length : Int) by omega) m
    have hle := topO_le (l0.length : Int) order m
    generalize topO (l0.length : Int) order m = t at p3 hge htop hle
    have hcc := cuts_below (by omega) bo.1 htop
    have hbest : ∃ j, j ≤ t ∧ ∃ v : Bool, bestPlan l0 order t true = curL l0 order v j := by
      unfold bestPlan
      split
      · exact ⟨_, amin_le _ _, _, rfl⟩
      · exact ⟨_, amin_le _ _, _, rfl⟩
    obtain ⟨j, hj, v, hb⟩ := hbest
    rw [hb] at p3 hge
    have hbb := bitsV_ev hn hlen bo.1 bo.2 v (j : Int) (planPs l0 order v j)
    rw [best_bits hn hlen v (by omega) (hcc j hj)] at hbb
    refine neg (by decide) ?_
    rw [p3]
    simp only [Option.bind_some]
    refine pos trivial (bnd hbb (pos rfl (neg (by show ¬ ((j : Int) > (m : Int)); omega) (bnd (bitsV_ev hn hlen bo.1 bo.2 w o ps) (pos trivial ?_)))))
    by_cases q1 : bitsV l0 order w o ps < 0
    · exact pos q1 (now true)
    refine neg q1 ?_
    by_cases q2 : o > (m : Int)
    · exact pos q2 (now true)
    refine neg q2 (cst ?_)
    congr 1
    exact decide_eq_true ((hge (by omega)).resolve_left q1)
  · have e : (!decide (NearAll l0)) = true := by simp [hn]
    rw [e]
    exact out
end Go.Proofs.Ytpoigjkkcehpdaa.Pure
