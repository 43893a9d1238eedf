/- What an argument's reading says of the memory that it leads to: rows of numbers, bools, rows and pairs, as the walks want them. Condition: none beside the reading. -/
import Derived.Deep.Slices
import Derived.SizedLaws
import Derived.Lib.SmallJoins
import Derived.Test.YtpoigjkkcehpdaaWMore
namespace Go.Proofs.Ytpoigjkkcehpdaa.Opn
open Go Go.RowKit Go.Deep Go.ChangeShapes Go.WideShapes Go.Proofs.YtpoigjkkcehpdaaW.PrintWords
set_option linter.unusedVariables false

section
variable {H : Type} {enc : TypeId × Value → H} {P : Program} {W : World}
/-- What type t reads as is of kind d, and ok. -/
def Opens (enc : TypeId × Value → H) (P : Program) (W : World) (t : TypeId) {α : Type} (d : Kd α) (ok : α → Prop) : Prop :=
  ∀ (fuel : Nat) (cs : List Value) (x : DataW H × List MemPlace), DataW.trod enc P W 0 (fun _ => true) true fuel t cs = some x → ∃ a : α, d.K W a cs ∧ ok a
theorem opens_int {t : TypeId} {k : IntKind} (ht : P.underlying t = some (.int k)) : Opens enc P W t (Kd.int k) (fun n => (Lit.int k n).wf = true) := by
  intro fuel cs x h
  obtain ⟨n, h1, h2, h3⟩ := DataW.trod_int ht h
  exact ⟨n, h1, h3⟩
theorem opens_bool {t : TypeId} (ht : P.underlying t = some .bool) : Opens enc P W t Kd.bool (fun _ => True) := by
  intro fuel cs x h
  obtain ⟨b, h1, h2⟩ := DataW.trod_bool ht h
  exact ⟨b, h1, trivial⟩
theorem slice_reads {α : Type} [Inhabited α] {d : Kd α} {ok : α → Prop} {t e : TypeId} (ht : P.underlying t = some (.slice e)) (hc : P.cellsOf e = d.sz) (he : Opens enc P W e d ok) {fuel : Nat} {cs : List Value} {x : DataW H × List MemPlace}
    (h : DataW.trod enc P W 0 (fun _ => true) true fuel t cs = some x) :
    ∃ (xs : List α) (A : Option Addr) (c : Nat), cs = [.slice A xs.length c] ∧ xs.length ≤ c ∧ d.C W A xs.length xs ∧ xs.length ≤ maxLen ∧ (∀ a ∈ xs, ok a) := by
  rcases open_slice ht h with ⟨rfl, _⟩ | ⟨a, len, cap, m, n, D, Pl, rfl, hb, hl, hm, hmm, rfl, hx⟩
  · exact ⟨[], none, 0, rfl, Nat.le_refl _, ⟨rfl, by simp, fun h => absurd h (by simp)⟩, by simp, by simp⟩
  · have hlm : len ≤ m := by rw [hmm]; split <;> omega
    have each : ∀ i, i < len → ∃ y : α × List Value, W.cells? 0 (a.add (i * P.cellsOf e)) (P.cellsOf e) = some y.2 ∧ d.K W y.1 y.2 ∧ ok y.1 := by
      intro i hi
      obtain ⟨cs', h1, h2⟩ := hx i (by omega)
      obtain ⟨y, h3, h4⟩ := he _ _ _ h2
      exact ⟨(y, cs'), h1, h3, h4⟩
    obtain ⟨f, hf⟩ := choose_lt each
    have hlen : ((List.range len).map fun i => (f i).1).length = len := by simp
    refine ⟨(List.range len).map fun i => (f i).1, some a, cap, by rw [hlen], by rw [hlen]; exact hl, ?_, by rw [hlen]; omega, ?_⟩
    · rw [hlen]
      refine ⟨hlen, by unfold maxLen at hm; omega, fun h0 => ⟨a, rfl, fun j p hj => ?_⟩⟩
      have hj' : j < len := by rw [← hlen]; exact (List.getElem?_eq_some_iff.1 hj).1
      obtain ⟨h1, h2, h3⟩ := hf j hj'
      have hp : (f j).1 = p := by simpa [hj'] using hj
      subst hp
      obtain ⟨_, hcl, hcell⟩ := World.cells?_some h1
      rw [hc] at hcl hcell
      refine ⟨(f j).2, hcl, h2, fun i u hu => ?_⟩
      have hi : i < d.sz := by rw [← hcl]; exact (List.getElem?_eq_some_iff.1 hu).1
      have := hcell i hi
      rw [Go.Deep.add_add, hu] at this
      exact this
    · intro y hy
      obtain ⟨i, hi, rfl⟩ := List.mem_map.1 hy
      exact (hf i (List.mem_range.1 hi)).2.2
theorem opens_slice {α : Type} [Inhabited α] {d : Kd α} {ok : α → Prop} {t e : TypeId} (ht : P.underlying t = some (.slice e)) (hc : P.cellsOf e = d.sz) (he : Opens enc P W e d ok) :
    Opens enc P W t (Kd.slice e d) (fun xs => xs.length ≤ maxLen ∧ ∀ a ∈ xs, ok a) := by
  intro fuel cs x h
  obtain ⟨xs, A, c, h1, h2, h3, h4, h5⟩ := slice_reads ht hc he h
  exact ⟨xs, ⟨A, c, h1, h2, h3⟩, h4, h5⟩
theorem opens_pair {α β γ : Type} {d0 : Kd α} {d1 : Kd β} {ok0 : α → Prop} {ok1 : β → Prop} {t : TypeId} {f0 f1 : Field} (ht : P.underlying t = some (.struct #[f0, f1])) (o0 : f0.offset = 0) (c0 : P.cellsOf f0.type = 1) (o1 : f1.offset = 1) (c1 : P.cellsOf f1.type = 1) (hC : P.cellsOf t = 2)
    (h0 : Opens enc P W f0.type d0 ok0) (h1 : Opens enc P W f1.type d1 ok1) (mk : α → β → γ) (get : γ → α × β) (hg : ∀ a b, get (mk a b) = (a, b)) : Opens enc P W t (Kd.iso (Kd.pair d0 d1) get) (fun x => ok0 (get x).1 ∧ ok1 (get x).2) := by
  intro fuel cs x h
  obtain ⟨xs, n, _, _, hl, hxl, hf⟩ := DataW.trod_struct ht h
  have g0 := hf 0 f0 rfl
  have g1 := hf 1 f1 rfl
  rw [hC] at hl
  match xs, hxl, cs, hl with
  | [y0, y1], _, [v0, v1], _ =>
    simp [o0, c0] at g0
    simp [o1, c1] at g1
    obtain ⟨a, ka, oa⟩ := h0 _ _ _ g0
    obtain ⟨b, kb, ob⟩ := h1 _ _ _ g1
    refine ⟨mk a b, ⟨[v0], [v1], rfl, ?_, ?_⟩, ?_, ?_⟩
    · rw [hg]; exact ka
    · rw [hg]; exact kb
    · rw [hg]; exact oa
    · rw [hg]; exact ob
/-- An argument that is a row. -/
theorem arg_slice {α : Type} [Inhabited α] {d : Kd α} {ok : α → Prop} {t e : TypeId} (ht : P.underlying t = some (.slice e)) (hc : P.cellsOf e = d.sz) (he : Opens enc P W e d ok) {r : Reach} {b0 : Nat} {v : Value} {D : DataW H} {p : List MemPlace}
    (hv : Value.okWide P W r b0 t v) (h : DataW.Trod enc P W 0 (fun _ => true) true t v D p) :
    ∃ (xs : List α) (A : Option Addr) (c : Nat), v = .slice A xs.length c ∧ xs.length ≤ c ∧ d.C W A xs.length xs ∧ xs.length ≤ maxLen ∧ (∀ a ∈ xs, ok a) := by
  obtain ⟨A, len, cap, rfl⟩ := okWide_slice ht hv
  obtain ⟨fuel, hf⟩ := h
  obtain ⟨xs, A', c, h1, h2⟩ := slice_reads ht hc he hf
  simp [Value.cells] at h1
  obtain ⟨rfl, rfl, rfl⟩ := h1
  exact ⟨xs, A, cap, rfl, h2⟩
/-- A field that is a row. -/
theorem field_slice {α : Type} [Inhabited α] {d : Kd α} {ok : α → Prop} {t e : TypeId} (ht : P.underlying t = some (.slice e)) (hc : P.cellsOf e = d.sz) (he : Opens enc P W e d ok) {fuel : Nat} {v : Value} {x : DataW H × List MemPlace}
    (h : DataW.trod enc P W 0 (fun _ => true) true fuel t [v] = some x) :
    ∃ (xs : List α) (A : Option Addr) (c : Nat), v = .slice A xs.length c ∧ xs.length ≤ c ∧ d.C W A xs.length xs ∧ xs.length ≤ maxLen ∧ (∀ a ∈ xs, ok a) := by
  obtain ⟨xs, A, c, h1, h2⟩ := slice_reads ht hc he h
  exact ⟨xs, A, c, by simpa using h1, h2⟩
theorem field_int {t : TypeId} {k : IntKind} (ht : P.underlying t = some (.int k)) {fuel : Nat} {v : Value} {x : DataW H × List MemPlace} (h : DataW.trod enc P W 0 (fun _ => true) true fuel t [v] = some x) : ∃ n, v = .int k n ∧ (Lit.int k n).wf = true := by
  obtain ⟨n, h1, h2, h3⟩ := DataW.trod_int ht h
  exact ⟨n, by simpa using h1, h3⟩
theorem field_bool {t : TypeId} (ht : P.underlying t = some .bool) {fuel : Nat} {v : Value} {x : DataW H × List MemPlace} (h : DataW.trod enc P W 0 (fun _ => true) true fuel t [v] = some x) : ∃ b, v = .bool b := by
  obtain ⟨b, h1, h2⟩ := DataW.trod_bool ht h
  exact ⟨b, by simpa using h1⟩
end
end Go.Proofs.Ytpoigjkkcehpdaa.Opn
