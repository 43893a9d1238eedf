/- What lpc.Check, Residual and Restore answer, and the references for them; what is left of numbers restores them. Condition: lists shorter than 2^40, of numbers of 64 bits. -/
import Derived.Test.YtjiecencppahhaaPInn
import Derived.Test.YtjiecencppahhaaPRefDown
import Derived.Test.YtjiecencppahhaaPFixList
import Derived.Test.YtjiecencppahhaaPAx3
import Derived.Test.YtjiecencppahhaaPAx4
import Derived.Test.YtjiecencppahhaaPAx8
import Derived.Test.YtjiecencppahhaaPAx10
namespace Go.Proofs.Ytjiecencppahhaa.PL
open Go.RowKit Go.Proofs.Ytjiecencppahhaa.PA Go.Proofs.YtjiecencppahhaaW.PrintWords Go.Proofs.YtjiecencppahhaaW.PrintMore
set_option linter.unusedSimpArgs false
set_option linter.unusedVariables false

def AllI (l : List Int) : Prop := ∀ a ∈ l, -9223372036854775808 ≤ a ∧ a < 9223372036854775808
def AllIn (p : Int) (L : List Int) : Prop := ∀ n ∈ L, inn n p.toNat
instance (p : Int) (L : List Int) : Decidable (AllIn p L) := by unfold AllIn; infer_instance
def okL (s p : Int) (L : List Int) : Prop := 1 ≤ L.length ∧ L.length ≤ 32 ∧ 1 ≤ p ∧ p ≤ 15 ∧ 0 ≤ s ∧ s ≤ 15 ∧ AllIn p L
instance (s p : Int) (L : List Int) : Decidable (okL s p L) := by unfold okL; infer_instance
def chk (s p : Int) (L : List Int) : Int := if okL s p L then 0 else 1

theorem any_ev (p : Int) (hp : 1 ≤ p ∧ p ≤ 15) (L : List Int) (hL : L.length ≤ 1000) (hi : AllI L) : Ev (fun k => serinetteshadow_AnyOut.f k L p) (!decide (AllIn p L)) := by
  unfold serinetteshadow_AnyOut.f
  have key : ∀ (t q : List Int), L = q ++ t → Ev (fun k => serinetteshadow_AnyOut.l0 k L p (L.length : Int) (q.length : Int)) (!decide (AllIn p t)) := by
    intro t
    induction t with
    | nil =>
      intro q hq
      refine succ ?_
      simp only [serinetteshadow_AnyOut.l0]
      exact neg (by rw [hq]; simp) (cst (by simp [AllIn]))
    | cons x t ih =>
      intro q hq
      have l1 := congrArg List.length hq
      simp only [List.length_append, List.length_cons] at l1
      refine succ ?_
      simp only [serinetteshadow_AnyOut.l0]
      have ra : rd L (q.length : Int) = x := by rw [hq]; exact rd_at _ _ _
      have hx := hi x (by rw [hq]; simp)
      have e : p = ((p.toNat : Nat) : Int) := by omega
      have hin := inn_eq x p.toNat (by omega) hx
      rw [← e] at hin
      rw [ra, hin, w64 (by omega) (by omega)]
      refine pos (by omega) (pos (by omega) (pos (by omega) ?_))
      simp only [Option.bind_some]
      by_cases h : inn x p.toNat
      · refine pos (by simp [h]) ?_
        have := ih (q ++ [x]) (by simp [hq])
        have e2 : decide (AllIn p (x :: t)) = decide (AllIn p t) := by
          apply decide_eq_decide.2
          simp only [AllIn, List.mem_cons, forall_eq_or_imp]
          exact ⟨fun h => h.2, fun hh => ⟨h, hh⟩⟩
        rw [e2]
        simpa using this
      · refine neg (by simp [h]) (cst ?_)
        rw [decide_eq_false (fun hh => h (hh x (by simp)))]
        rfl
  exact key L [] rfl

theorem chk_j0t (s p : Int) (L : List Int) : Ev (fun k => lpc_Check.j0 k true s p L) 1 := by
  refine succ ?_
  simp only [lpc_Check.j0]
  refine pos trivial (succ ?_)
  simp only [lpc_Check.j1]
  exact pos trivial (now _)
theorem chk_j1t (s p : Int) (L : List Int) : Ev (fun k => lpc_Check.j1 k true s p L) 1 := by
  refine succ ?_
  simp only [lpc_Check.j1]
  exact pos trivial (now _)
theorem chk_no {s p : Int} {L : List Int} (h : ¬ okL s p L) : chk s p L = 1 := if_neg h
theorem chk_yes {s p : Int} {L : List Int} (h : okL s p L) : chk s p L = 0 := if_pos h
theorem check_ev (s p : Int) (L : List Int) (hl : L.length < 1099511627776) (hi : AllI L) : Ev (fun k => lpc_Check.f k s p L) (chk s p L) := by
  unfold lpc_Check.f
  by_cases h1 : (L.length : Int) < 1
  · rw [chk_no (fun h => by have := h.1; omega)]
    exact pos h1 (chk_j0t s p L)
  refine neg h1 ?_
  by_cases h2 : (L.length : Int) > 32
  · rw [chk_no (fun h => by have := h.2.1; omega), decide_eq_true h2]
    exact chk_j0t s p L
  rw [decide_eq_false h2]
  refine succ ?_
  simp only [lpc_Check.j0]
  refine neg (by simp) ?_
  by_cases h3 : p < 1
  · rw [chk_no (fun h => by have := h.2.2.1; omega)]
    exact pos h3 (chk_j1t s p L)
  refine neg h3 ?_
  by_cases h4 : p > 15
  · rw [chk_no (fun h => by have := h.2.2.2.1; omega)]
    exact pos h4 (chk_j1t s p L)
  refine neg h4 ?_
  by_cases h5 : s < 0
  · rw [chk_no (fun h => by have := h.2.2.2.2.1; omega)]
    exact pos h5 (chk_j1t s p L)
  refine neg h5 ?_
  by_cases h6 : s > 15
  · rw [chk_no (fun h => by have := h.2.2.2.2.2.1; omega), decide_eq_true h6]
    exact chk_j1t s p L
  rw [decide_eq_false h6]
  refine succ ?_
  simp only [lpc_Check.j1]
  refine neg (by simp) (bnd (any_ev p ⟨by omega, by omega⟩ L (by omega) hi) ?_)
  by_cases h : AllIn p L
  · rw [chk_yes ⟨by omega, by omega, by omega, by omega, by omega, by omega, h⟩]
    exact neg (by simp [h]) (now _)
  · rw [chk_no (fun hh => h hh.2.2.2.2.2.2)]
    exact pos (by simp [h]) (now _)

theorem rchk_j0t (s p : Int) (L : List Int) : Ev (fun k => serinetteref12_Check.j0 k true s p L) 1 := by
  refine succ ?_
  simp only [serinetteref12_Check.j0]
  exact pos trivial (now _)
theorem rchk_l0 (s p : Int) (hp : 1 ≤ p ∧ p ≤ 15) (L : List Int) (hL : L.length ≤ 1000) : ∀ (t q : List Int), L = q ++ t → Ev (fun k => serinetteref12_Check.l0 k (q.length : Int) s p L) (if AllIn p t then 0 else 1) := by
  intro t
  induction t with
  | nil =>
    intro q hq
    refine succ ?_
    simp only [serinetteref12_Check.l0]
    exact neg (by rw [hq]; simp) (cst (by simp [AllIn]))
  | cons x t ih =>
    intro q hq
    have l1 := congrArg List.length hq
    simp only [List.length_append, List.length_cons] at l1
    refine succ ?_
    simp only [serinetteref12_Check.l0]
    have ra : rd L (q.length : Int) = x := by rw [hq]; exact rd_at _ _ _
    have e : p = ((p.toNat : Nat) : Int) := by omega
    have hin := ref_in_ev x p.toNat (by omega)
    rw [← e] at hin
    rw [ra, w64 (by omega) (by omega)]
    refine pos (by omega) (pos (by omega) (bnd hin ?_))
    by_cases h : inn x p.toNat
    · refine pos (by simp [h]) ?_
      have := ih (q ++ [x]) (by simp [hq])
      have e2 : AllIn p (x :: t) ↔ AllIn p t := by
        simp only [AllIn, List.mem_cons, forall_eq_or_imp]
        exact ⟨fun h => h.2, fun hh => ⟨h, hh⟩⟩
      simp only [e2]
      simpa using this
    · refine neg (by simp [h]) (cst ?_)
      rw [if_neg (fun hh => h (hh x (by simp)))]
theorem ref_check_ev (s p : Int) (L : List Int) (hl : L.length < 1099511627776) : Ev (fun k => serinetteref12_Check.f k s p L) (chk s p L) := by
  unfold serinetteref12_Check.f
  by_cases h1 : (L.length : Int) < 1
  · rw [chk_no (fun h => by have := h.1; omega)]
    exact pos h1 (rchk_j0t s p L)
  refine neg h1 ?_
  by_cases h2 : (L.length : Int) > 32
  · rw [chk_no (fun h => by have := h.2.1; omega)]
    exact pos h2 (rchk_j0t s p L)
  refine neg h2 ?_
  by_cases h3 : p < 1
  · rw [chk_no (fun h => by have := h.2.2.1; omega)]
    exact pos h3 (rchk_j0t s p L)
  refine neg h3 ?_
  by_cases h4 : p > 15
  · rw [chk_no (fun h => by have := h.2.2.2.1; omega)]
    exact pos h4 (rchk_j0t s p L)
  refine neg h4 ?_
  by_cases h5 : s < 0
  · rw [chk_no (fun h => by have := h.2.2.2.2.1; omega)]
    exact pos h5 (rchk_j0t s p L)
  refine neg h5 ?_
  by_cases h6 : s > 15
  · rw [chk_no (fun h => by have := h.2.2.2.2.2.1; omega), decide_eq_true h6]
    exact rchk_j0t s p L
  rw [decide_eq_false h6]
  refine succ ?_
  simp only [serinetteref12_Check.j0]
  refine neg (by simp) ?_
  have := rchk_l0 s p ⟨by omega, by omega⟩ L (by omega) L [] rfl
  have e : (if AllIn p L then (0 : Int) else 1) = chk s p L := by
    by_cases h : AllIn p L
    · rw [if_pos h, chk_yes ⟨by omega, by omega, by omega, by omega, by omega, by omega, h⟩]
    · rw [if_neg h, chk_no (fun hh => h hh.2.2.2.2.2.2)]
  rw [e] at this
  exact this

/-- What is foretold behind numbers P (the nearest first). -/
def td (s : Int) (L P : List Int) : Int := wrap64 (dot L P) / 2 ^ s.toNat
theorem rd_rev {x p rp rt t : List Int} {r : Int} (hx : x = p.reverse ++ t) (hp : p = rp ++ r :: rt) : rd x ((p.length : Int) - 1 - rp.length) = r := by
  have : x = rt.reverse ++ r :: (rp.reverse ++ t) := by rw [hx, hp]; simp
  rw [this]
  exact rd_at' _ _ _ (by rw [hp]; simp; omega)
theorem tell_step (acc f r : Int) (fs rs : List Int) : wrap64 (wrap64 (acc + wrap64 (f * r)) + dot fs rs) = wrap64 (acc + dot (f :: fs) (r :: rs)) := by
  rw [w_add_l, show acc + wrap64 (f * r) + dot fs rs = (acc + dot fs rs) + wrap64 (f * r) by omega, w_add_r, dot]
  congr 1; omega
theorem tell_l0 {x P : List Int} (hx : x = P.reverse) (hl : x.length < 1099511627776) (s p : Int) (hs : 0 ≤ s ∧ s ≤ 15) (L : List Int) (hL : L.length ≤ 32) : ∀ (fs fp rs rp : List Int) (acc i : Int), L = fp ++ fs → P = rp ++ rs → fp.length = rp.length → i = fp.length → fs.length ≤ rs.length → wrap64 acc = acc →
    Ev (fun k => lpc_teller_tell.l0 k x acc L (L.length : Int) i s p L) (wrap64 (acc + dot fs rs) / 2 ^ s.toNat) := by
  intro fs
  induction fs with
  | nil =>
    intro fp rs rp acc i hF hp hfr hi _ hacc
    refine succ ?_
    simp only [lpc_teller_tell.l0]
    have e : s = ((s.toNat : Nat) : Int) := by omega
    refine neg (by rw [hF, hi]; simp) (pos (by omega) (cst ?_))
    rw [dot_nil, Int.add_zero, hacc]
    conv => lhs; rw [e]
    rw [shr_eq' _ (by omega)]
  | cons f fs ih =>
    intro fp rs rp acc i hF hp hfr hi hfs hacc
    cases rs with
    | nil => simp at hfs
    | cons r rs =>
      refine succ ?_
      simp only [lpc_teller_tell.l0]
      have lp : P.length = rp.length + rs.length + 1 := by rw [hp]; simp; omega
      have lx : x.length = P.length := by rw [hx]; simp
      have lF : L.length = fp.length + fs.length + 1 := by rw [hF]; simp; omega
      have hw : wrap64 (wrap64 ((x.length : Int) - 1) - i) = (P.length : Int) - 1 - rp.length := by
        rw [w64 (x := (x.length : Int) - 1) (by omega) (by omega), w64 (by omega) (by omega)]; omega
      have hw1 : wrap64 (i + 1) = i + 1 := w64 (by omega) (by omega)
      rw [hw, hw1]
      refine pos (by omega) (pos (by omega) (pos (by omega) (pos (by omega) (pos (by omega) ?_))))
      have rf : rd L i = f := by rw [hF]; exact rd_at' _ _ _ hi
      rw [rd_rev (t := []) (by simpa using hx) hp, rf, ← tell_step]
      exact ih (fp ++ [f]) rs (rp ++ [r]) _ (i + 1) (by simp [hF]) (by simp [hp]) (by simp [hfr]) (by simp [hi]) (by simpa using hfs) (w64_w _)
theorem tell_ev {x P : List Int} (hx : x = P.reverse) (hl : x.length < 1099511627776) (s p : Int) (hs : 0 ≤ s ∧ s ≤ 15) (L : List Int) (hL : L.length ≤ 32) (hP : L.length ≤ P.length) :
    Ev (fun k => lpc_teller_tell.f k s p L x) (td s L P) := by
  unfold lpc_teller_tell.f td
  have := tell_l0 hx hl s p hs L hL L [] P [] 0 0 rfl rfl rfl rfl hP (by unfold wrap64; omega)
  simpa using this
theorem told_l0 {x P t : List Int} (hx : x = P.reverse ++ t) (hl : x.length < 1099511627776) (s p : Int) (hs : 0 ≤ s ∧ s ≤ 15) (L : List Int) (hL : L.length ≤ 32) : ∀ (fs fp rs rp : List Int) (acc i : Int), L = fp ++ fs → P = rp ++ rs → fp.length = rp.length → i = fp.length → fs.length ≤ rs.length → wrap64 acc = acc →
    Ev (fun k => serinetteref12_Told.l0 k x (P.length : Int) acc i s p L) (wrap64 (acc + dot fs rs) / 2 ^ s.toNat) := by
  intro fs
  induction fs with
  | nil =>
    intro fp rs rp acc i hF hp hfr hi _ hacc
    refine succ ?_
    simp only [serinetteref12_Told.l0]
    have e : s = ((s.toNat : Nat) : Int) := by omega
    refine neg (by rw [hF, hi]; simp) ?_
    have hpw := power6_ev s.toNat (by omega)
    rw [← e] at hpw
    refine bnd hpw ?_
    rw [down_eq _ _ (Int.pow_pos (by decide)) ⟨by rw [← hacc]; exact w64_lo _, by rw [← hacc]; exact w64_hi _⟩]
    rw [dot_nil, Int.add_zero, hacc]
    exact cst rfl
  | cons f fs ih =>
    intro fp rs rp acc i hF hp hfr hi hfs hacc
    cases rs with
    | nil => simp at hfs
    | cons r rs =>
      refine succ ?_
      simp only [serinetteref12_Told.l0]
      have lp : P.length = rp.length + rs.length + 1 := by rw [hp]; simp; omega
      have lx : x.length = P.length + t.length := by rw [hx]; simp
      have lF : L.length = fp.length + fs.length + 1 := by rw [hF]; simp; omega
      have hw : wrap64 (wrap64 ((P.length : Int) - 1) - i) = (P.length : Int) - 1 - rp.length := by
        rw [w64 (x := (P.length : Int) - 1) (by omega) (by omega), w64 (by omega) (by omega)]; omega
      have hw1 : wrap64 (i + 1) = i + 1 := w64 (by omega) (by omega)
      rw [hw, hw1]
      refine pos (by omega) (pos (by omega) (pos (by omega) (pos (by omega) ?_)))
      have rf : rd L i = f := by rw [hF]; exact rd_at' _ _ _ hi
      rw [rd_rev hx hp, rf, ← tell_step]
      exact ih (fp ++ [f]) rs (rp ++ [r]) _ (i + 1) (by simp [hF]) (by simp [hp]) (by simp [hfr]) (by simp [hi]) (by simpa using hfs) (w64_w _)
theorem told_ev {x P t : List Int} (hx : x = P.reverse ++ t) (hl : x.length < 1099511627776) (s p : Int) (hs : 0 ≤ s ∧ s ≤ 15) (L : List Int) (hL : L.length ≤ 32) (hP : L.length ≤ P.length) :
    Ev (fun k => serinetteref12_Told.f k x (P.length : Int) s p L) (td s L P) := by
  unfold serinetteref12_Told.f td
  have := told_l0 hx hl s p hs L hL L [] P [] 0 0 rfl rfl rfl rfl hP (by unfold wrap64; omega)
  simpa using this

/-- What is left of numbers behind P; none, where one is too wide. -/
def lres (s : Int) (L P : List Int) : List Int → Option (List Int)
  | [] => some []
  | a :: t => if wrap64 (a - td s L P) ≤ -2147483648 ∨ wrap64 (a - td s L P) ≥ 2147483648 then none else (lres s L (a :: P) t).map (wrap64 (a - td s L P) :: ·)
def fin (out : List Int) : Option (List Int) → List Int × Int
  | none => ([], 14)
  | some l => (out ++ l, 0)
theorem fin_map (out : List Int) (n : Int) (o : Option (List Int)) : fin out (o.map (n :: ·)) = fin (out ++ [n]) o := by
  cases o <;> simp [fin]
theorem lresP_l0 (x : List Int) (hl : x.length < 1099511627776) (s p : Int) (hs : 0 ≤ s ∧ s ≤ 15) (L : List Int) (hL : L.length ≤ 32) : ∀ (t P out : List Int) (i : Int), x = P.reverse ++ t → i = P.length → L.length ≤ P.length → out.length + t.length < 1099511627776 →
    Ev (fun k => lpc_Residual.l0 k x out i s p L) (fin out (lres s L P t)) := by
  intro t
  induction t with
  | nil =>
    intro P out i hx hi hP hlen
    refine succ ?_
    simp only [lpc_Residual.l0]
    exact neg (by rw [hx, hi]; simp) (cst (by simp [lres, fin]))
  | cons a t ih =>
    intro P out i hx hi hP hlen
    simp only [List.length_cons] at hlen
    have lx : x.length = P.length + t.length + 1 := by rw [hx]; simp; omega
    refine succ ?_
    simp only [lpc_Residual.l0]
    have ra : rd x i = a := by rw [hx]; exact rd_at' _ _ _ (by simp [hi])
    have hw1 : wrap64 (i + 1) = i + 1 := w64 (by omega) (by omega)
    refine pos (by omega) (pos (by omega) (pos (by omega) ?_))
    rw [ra, hw1]
    have hc : x.take i.toNat = P.reverse := by rw [hx, hi, Int.toNat_natCast]; simp
    rw [hc]
    refine bnd (tell_ev rfl (by rw [List.length_reverse]; omega) s p hs L hL hP) ?_
    rw [lres]
    by_cases h1 : wrap64 (a - td s L P) ≤ -2147483648
    · rw [if_pos (.inl h1)]
      exact pos h1 (cst rfl)
    refine neg h1 ?_
    by_cases h2 : wrap64 (a - td s L P) ≥ 2147483648
    · rw [if_pos (.inr h2)]
      exact pos h2 (cst rfl)
    rw [if_neg (by omega), fin_map]
    refine neg h2 (pos (by omega) ?_)
    exact ih (a :: P) (out ++ [wrap64 (a - td s L P)]) (i + 1) (by simp [hx]) (by simp [hi]) (by simp; omega) (by simp; omega)
theorem ref_res_l0 (x : List Int) (hl : x.length < 1099511627776) (s p : Int) (hs : 0 ≤ s ∧ s ≤ 15) (L : List Int) (hL : L.length ≤ 32) : ∀ (t P out : List Int) (i : Int), x = P.reverse ++ t → i = P.length → L.length ≤ P.length → out.length + t.length < 1099511627776 →
    Ev (fun k => serinetteref12_Residual.l0 k x out i s p L) (fin out (lres s L P t)) := by
  intro t
  induction t with
  | nil =>
    intro P out i hx hi hP hlen
    refine succ ?_
    simp only [serinetteref12_Residual.l0]
    exact neg (by rw [hx, hi]; simp) (cst (by simp [lres, fin]))
  | cons a t ih =>
    intro P out i hx hi hP hlen
    simp only [List.length_cons] at hlen
    have lx : x.length = P.length + t.length + 1 := by rw [hx]; simp; omega
    refine succ ?_
    simp only [serinetteref12_Residual.l0]
    have ra : rd x i = a := by rw [hx]; exact rd_at' _ _ _ (by simp [hi])
    have hw1 : wrap64 (i + 1) = i + 1 := w64 (by omega) (by omega)
    refine pos (by omega) (pos (by omega) ?_)
    rw [ra, hw1]
    have ht := told_ev hx hl s p hs L hL hP
    rw [← hi] at ht
    refine bnd ht ?_
    rw [lres]
    by_cases h1 : wrap64 (a - td s L P) < -2147483647
    · rw [if_pos (.inl (by omega))]
      exact pos h1 (cst rfl)
    refine neg h1 ?_
    by_cases h2 : wrap64 (a - td s L P) > 2147483647
    · rw [if_pos (.inr (by omega))]
      exact pos h2 (cst rfl)
    rw [if_neg (by omega), fin_map]
    refine neg h2 (pos (by omega) ?_)
    exact ih (a :: P) (out ++ [wrap64 (a - td s L P)]) (i + 1) (by simp [hx]) (by simp [hi]) (by simp; omega) (by simp; omega)
/-- What a predictor leaves of numbers. -/
def RES (s p : Int) (L x : List Int) : List Int × Int := if okL s p L then (if x.length < L.length then ([], 2) else fin [] (lres s L (x.take L.length).reverse (x.drop L.length))) else ([], 1)
theorem residualL_ev (x : List Int) (hl : x.length < 1099511627776) (s p : Int) (L : List Int) (hL : L.length < 1099511627776) (hi : AllI L) : Ev (fun k => lpc_Residual.f k x s p L) (RES s p L x) := by
  unfold lpc_Residual.f RES
  refine bnd (check_ev s p L hL hi) ?_
  by_cases h : okL s p L
  · rw [if_pos h]
    refine pos (chk_yes h) ?_
    by_cases h2 : x.length < L.length
    · rw [if_pos h2]
      exact pos (by omega) (now _)
    · rw [if_neg h2]
      refine neg (by omega) ?_
      exact lresP_l0 x hl s p ⟨h.2.2.2.2.1, h.2.2.2.2.2.1⟩ L h.2.1 (x.drop L.length) (x.take L.length).reverse [] L.length (by simp) (by simp; omega) (by simp; omega) (by simp; omega)
  · rw [if_neg h]
    have e := chk_no h
    exact neg (by omega) (cst (by rw [e]))
theorem ref_residualL_ev (x : List Int) (hl : x.length < 1099511627776) (s p : Int) (L : List Int) (hL : L.length < 1099511627776) : Ev (fun k => serinetteref12_Residual.f k x s p L) (RES s p L x) := by
  unfold serinetteref12_Residual.f RES
  refine bnd (ref_check_ev s p L hL) ?_
  by_cases h : okL s p L
  · rw [if_pos h]
    refine pos (chk_yes h) ?_
    by_cases h2 : x.length < L.length
    · rw [if_pos h2]
      exact pos (by omega) (now _)
    · rw [if_neg h2]
      refine neg (by omega) ?_
      exact ref_res_l0 x hl s p ⟨h.2.2.2.2.1, h.2.2.2.2.2.1⟩ L h.2.1 (x.drop L.length) (x.take L.length).reverse [] L.length (by simp) (by simp; omega) (by simp; omega) (by simp; omega)
  · rw [if_neg h]
    have e := chk_no h
    exact neg (by omega) (cst (by rw [e]))

/-- What numbers restore behind those that stand ahead (the nearest first). -/
def lrest (s : Int) (L P : List Int) : List Int → List Int
  | [] => []
  | n :: t => wrap64 (n + td s L P) :: lrest s L (wrap64 (n + td s L P) :: P) t
theorem lrest_len (s : Int) (L : List Int) : ∀ (t P : List Int), (lrest s L P t).length = t.length
  | [], _ => rfl
  | a :: t, P => by simp [lrest, lrest_len s L t]
theorem restoreL_l0 (rest : List Int) (hr : rest.length < 1099511627776) (s p : Int) (hs : 0 ≤ s ∧ s ≤ 15) (L : List Int) (hL : L.length ≤ 32) : ∀ (t q P out : List Int) (i : Int), rest = q ++ t → i = q.length → out = P.reverse → L.length ≤ P.length → P.length + t.length < 1099511627776 →
    Ev (fun k => lpc_Restore.l0 k out rest (rest.length : Int) i s p L) (out ++ lrest s L P t, 0) := by
  intro t
  induction t with
  | nil =>
    intro q P out i hq hi ho hP hlen
    refine succ ?_
    simp only [lpc_Restore.l0]
    exact neg (by rw [hq, hi]; simp) (cst (by simp [lrest]))
  | cons a t ih =>
    intro q P out i hq hi ho hP hlen
    simp only [List.length_cons] at hlen
    have lq : rest.length = q.length + t.length + 1 := by rw [hq]; simp; omega
    have lo : out.length = P.length := by rw [ho]; simp
    refine succ ?_
    simp only [lpc_Restore.l0]
    have ra : rd rest i = a := by rw [hq]; exact rd_at' _ _ _ (by simp [hi])
    have hw1 : wrap64 (i + 1) = i + 1 := w64 (by omega) (by omega)
    rw [ra, hw1]
    refine pos (by omega) (pos (by omega) (pos (by omega) (bnd (tell_ev ho (by omega) s p hs L hL hP) (pos (by omega) ?_))))
    have := ih (q ++ [a]) (wrap64 (a + td s L P) :: P) (out ++ [wrap64 (a + td s L P)]) (i + 1) (by simp [hq]) (by simp [hi]) (by simp [ho]) (by simp; omega) (by simp; omega)
    simpa [lrest] using this
/-- What numbers restore. -/
def REST (s p : Int) (L warm rest : List Int) : List Int × Int := if okL s p L then (if warm.length = L.length then (warm ++ lrest s L warm.reverse rest, 0) else ([], 1)) else ([], 1)
theorem restoreL_ev (warm rest : List Int) (hw : warm.length < 1099511627776) (hr : rest.length < 1099511627) (s p : Int) (L : List Int) (hL : L.length < 1099511627776) (hi : AllI L) : Ev (fun k => lpc_Restore.f k warm rest s p L) (REST s p L warm rest) := by
  unfold lpc_Restore.f REST
  refine bnd (check_ev s p L hL hi) ?_
  by_cases h : okL s p L
  · rw [if_pos h]
    refine pos (chk_yes h) ?_
    by_cases h2 : warm.length = L.length
    · rw [if_pos h2]
      refine pos (by omega) ?_
      rw [clone_ev warm hw]
      simp only [Option.bind_some]
      have h32 := h.2.1
      exact restoreL_l0 rest (by omega) s p ⟨h.2.2.2.2.1, h.2.2.2.2.2.1⟩ L h.2.1 rest [] warm.reverse warm 0 rfl rfl (by simp) (by simp; omega) (by simp; omega)
    · rw [if_neg h2]
      exact neg (by omega) (now _)
  · rw [if_neg h]
    have e := chk_no h
    exact neg (by omega) (cst (by rw [e]))
theorem restore_lres (s : Int) (L : List Int) : ∀ (t P l : List Int), AllI t → lres s L P t = some l → lrest s L P l = t
  | [], P, l, _, h => by simp [lres] at h; subst h; rfl
  | a :: t, P, l, hc, h => by
    rw [lres] at h
    split at h
    · cases h
    · obtain ⟨l1, h1, rfl⟩ := Option.map_eq_some_iff.1 h
      have ha := hc a (by simp)
      have e : wrap64 (wrap64 (a - td s L P) + td s L P) = a := by
        rw [w_add_l, show a - td s L P + td s L P = a by omega, w64 ha.1 ha.2]
      rw [lrest, e, restore_lres s L t (a :: P) l1 (fun b hb => hc b (by simp [hb])) h1]
end Go.Proofs.Ytjiecencppahhaa.PL
