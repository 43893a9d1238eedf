/- A scope in which the run jumps back to one label, as a loop whose measure stands in no slot. Condition: all jumps lead to that label. -/
import Derived.ScopeJumps
import Derived.WalkMore
import Derived.Deep.LoopGhost
namespace Go.Proofs.Ytcdnabonljmegaa
open Go

theorem wp_scope_ghost_k {P : Program} {Q : Exit → Act → World → Prop} {a : Act} {w : World} {c B : Code} (l : Nat) (hf : findLabel c l = some (Code.seq .skip B)) (I : Nat → Act → World → Prop)
    (round : ∀ n a w, I n a w → ∀ (J : Nat → Act → World → Prop) (K : Act → World → Prop), (∀ k a' w', I k a' w' → J k a' w') → (∀ a' w', Handed J n a' w' → K a' w') → B.wp P (Exit.jump l K Q) a w)
    (first : ∀ K : Act → World → Prop, (∀ n a w, I n a w → B.wp P (Exit.jump l K Q) a w) → c.wp P (Exit.jump l K Q) a w) : (Code.scope c).wp P Q a w := by
  have key : ∀ n a w, I n a w → B.wp P (Exit.jump l (fun a' w' => (∃ n, I n a' w') ∧ leastOf (fun n => I n a' w') < leastOf (fun n => I n a w)) Q) a w := by
    intro n a w hI
    refine wp_mono (round _ a w (leastOf_spec (p := fun n => I n a w) ⟨n, hI⟩).1 I (fun a' w' => Handed I (leastOf fun n => I n a w) a' w') (fun _ _ _ q => q) (fun _ _ q => q)) ?_
    intro e a' w' hq
    cases e with
    | goto l' =>
      obtain ⟨rfl, n', hlt, hI'⟩ := hq
      exact ⟨rfl, ⟨n', hI'⟩, Nat.lt_of_le_of_lt ((leastOf_spec (p := fun n => I n a' w') ⟨n', hI'⟩).2 n' hI') hlt⟩
    | normal => exact hq
    | exit id => exact hq
    | ret => exact hq
    | panic ch => exact hq
    | outgrown => exact hq
  refine wp_scope_jumps (rest := Code.seq .skip B) l (fun a w => ∃ n, I n a w) (fun a w => leastOf (fun n => I n a w)) hf ?_ ?_
  · refine first _ fun n a w hI => wp_mono (key n a w hI) ?_
    intro e a' w' hq
    cases e with
    | goto l' => exact ⟨hq.1, hq.2.1⟩
    | normal => exact hq
    | exit id => exact hq
    | ret => exact hq
    | panic ch => exact hq
    | outgrown => exact hq
  · rintro a w ⟨n, hI⟩
    exact wp_seq (wp_skip (key n a w hI))
end Go.Proofs.Ytcdnabonljmegaa
