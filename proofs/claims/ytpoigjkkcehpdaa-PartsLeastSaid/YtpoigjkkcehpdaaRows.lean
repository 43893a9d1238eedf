/-
  No cell of these rows narrows 'for every input' (looked for: loops, veiled, ifaces, maps, wideKeys, modest, calm, conditions, laid).
  DERIVED. THE GIVEN ROWS OF THIS SEAT. 5 by the template 'for every input the law returns true; each argument reads behind the call as it read before'; 0 by the template 'total and deterministic' (their statements: YtpoigjkkcehpdaaTotals.lean).
  GIVEN WITH THE SEED: the statements are not yours to turn. If you find one false, say at which input.
  Laid BY PROGRAM, IN A SANDBOX (cutbox-rows.mjs): the forced cells as the released guide's own fill.sh prints them over the translation c0f485d118cc5e76… (all of the seat's roots in one cut). By AI agents, Wed Nov 11 2026. No macro, syntax, notation, axiom, sorry.
-/
import Derived.Test.YtpoigjkkcehpdaaChecked
import GoSem.Claim
import GoSem.ClaimJoined
import GoSem.ClaimMapViews
import Derived.JoinedTies
import Derived.KernelRfl
namespace Go.Proofs.Ytpoigjkkcehpdaa
/- THE CELL 'sum', in the pinned program and in every row, IS THE sha256 OF THE DUMP (.gsa) THAT YtpoigjkkcehpdaaProg.lean LOADS. Nothing in Lean hashes anything: it is a label: what it is worth is what the hold of that sum in a sandbox is worth. -/
noncomputable def Try.pinned : Pinned := { name := "ytpoigjkkcehpdaa", sum := "c0f485d118cc5e7624c3184143b7b40049c817b62e72b4b1e31d0b055dafbbe4", checked := Try.checked }
namespace Rows
def none {H : Type} : Left H := { results := [], args := [] }

/-- 'serinettelaw14.PartsBest': WHATEVER THE INPUT: true; the input reads as it did. -/
def partsBestSpec : ChangeSpec := { name := "partsBest", fn := fun _ => fun
  | [d1, d2, d3, d4] => { results := [.lit (.bool true)], args := [d1, d2, d3, d4] }
  | _ => none }
def partsBestRow : OpenClaim := { program := "ytpoigjkkcehpdaa", sum := "c0f485d118cc5e7624c3184143b7b40049c817b62e72b4b1e31d0b055dafbbe4", func := "serinette/serinettelaw14.PartsBest", spec := "partsBest", unfollowed := true, recurses := true, apart := false }
def PartsBestSaid : Prop := partsBestRow.holds Try.pinned (OpenSpec.ofChange partsBestSpec)

/-- ITS FALSE NEIGHBOUR: 'it returns false'. Refute it at one input. -/
def partsBestWrong : ChangeSpec := { name := "partsBest", fn := fun _ => fun
  | [d1, d2, d3, d4] => { results := [.lit (.bool false)], args := [d1, d2, d3, d4] }
  | _ => none }
def PartsBestWrongFalsely : Prop := partsBestRow.holds Try.pinned (OpenSpec.ofChange partsBestWrong)

/-- 'serinettelaw14.PartsSum': WHATEVER THE INPUT: true; the input reads as it did. -/
def partsSumSpec : ChangeSpec := { name := "partsSum", fn := fun _ => fun
  | [d1, d2, d3] => { results := [.lit (.bool true)], args := [d1, d2, d3] }
  | _ => none }
def partsSumRow : OpenClaim := { program := "ytpoigjkkcehpdaa", sum := "c0f485d118cc5e7624c3184143b7b40049c817b62e72b4b1e31d0b055dafbbe4", func := "serinette/serinettelaw14.PartsSum", spec := "partsSum", unfollowed := true, recurses := true, apart := false }
def PartsSumSaid : Prop := partsSumRow.holds Try.pinned (OpenSpec.ofChange partsSumSpec)

/-- ITS FALSE NEIGHBOUR: 'it returns false'. Refute it at one input. -/
def partsSumWrong : ChangeSpec := { name := "partsSum", fn := fun _ => fun
  | [d1, d2, d3] => { results := [.lit (.bool false)], args := [d1, d2, d3] }
  | _ => none }
def PartsSumWrongFalsely : Prop := partsSumRow.holds Try.pinned (OpenSpec.ofChange partsSumWrong)

/-- 'serinettelaw14.PartsLeast': WHATEVER THE INPUT: true; the input reads as it did. -/
def partsLeastSpec : ChangeSpec := { name := "partsLeast", fn := fun _ => fun
  | [d1, d2, d3, d4] => { results := [.lit (.bool true)], args := [d1, d2, d3, d4] }
  | _ => none }
def partsLeastRow : OpenClaim := { program := "ytpoigjkkcehpdaa", sum := "c0f485d118cc5e7624c3184143b7b40049c817b62e72b4b1e31d0b055dafbbe4", func := "serinette/serinettelaw14.PartsLeast", spec := "partsLeast", unfollowed := true, recurses := true, apart := false }
def PartsLeastSaid : Prop := partsLeastRow.holds Try.pinned (OpenSpec.ofChange partsLeastSpec)

/-- ITS FALSE NEIGHBOUR: 'it returns false'. Refute it at one input. -/
def partsLeastWrong : ChangeSpec := { name := "partsLeast", fn := fun _ => fun
  | [d1, d2, d3, d4] => { results := [.lit (.bool false)], args := [d1, d2, d3, d4] }
  | _ => none }
def PartsLeastWrongFalsely : Prop := partsLeastRow.holds Try.pinned (OpenSpec.ofChange partsLeastWrong)

/-- 'serinettelaw14.PartsSame': WHATEVER THE INPUT: true; the input reads as it did. -/
def partsSameSpec : ChangeSpec := { name := "partsSame", fn := fun _ => fun
  | [d1, d2, d3, d4] => { results := [.lit (.bool true)], args := [d1, d2, d3, d4] }
  | _ => none }
def partsSameRow : OpenClaim := { program := "ytpoigjkkcehpdaa", sum := "c0f485d118cc5e7624c3184143b7b40049c817b62e72b4b1e31d0b055dafbbe4", func := "serinette/serinettelaw14.PartsSame", spec := "partsSame", unfollowed := true, recurses := true, apart := false }
def PartsSameSaid : Prop := partsSameRow.holds Try.pinned (OpenSpec.ofChange partsSameSpec)

/-- ITS FALSE NEIGHBOUR: 'it returns false'. Refute it at one input. -/
def partsSameWrong : ChangeSpec := { name := "partsSame", fn := fun _ => fun
  | [d1, d2, d3, d4] => { results := [.lit (.bool false)], args := [d1, d2, d3, d4] }
  | _ => none }
def PartsSameWrongFalsely : Prop := partsSameRow.holds Try.pinned (OpenSpec.ofChange partsSameWrong)

/-- 'serinettelaw14.PartsWhole': WHATEVER THE INPUT: true; the input reads as it did. -/
def partsWholeSpec : ChangeSpec := { name := "partsWhole", fn := fun _ => fun
  | [d1, d2, d3] => { results := [.lit (.bool true)], args := [d1, d2, d3] }
  | _ => none }
def partsWholeRow : OpenClaim := { program := "ytpoigjkkcehpdaa", sum := "c0f485d118cc5e7624c3184143b7b40049c817b62e72b4b1e31d0b055dafbbe4", func := "serinette/serinettelaw14.PartsWhole", spec := "partsWhole", unfollowed := true, recurses := true, apart := false }
def PartsWholeSaid : Prop := partsWholeRow.holds Try.pinned (OpenSpec.ofChange partsWholeSpec)

/-- ITS FALSE NEIGHBOUR: 'it returns false'. Refute it at one input. -/
def partsWholeWrong : ChangeSpec := { name := "partsWhole", fn := fun _ => fun
  | [d1, d2, d3] => { results := [.lit (.bool false)], args := [d1, d2, d3] }
  | _ => none }
def PartsWholeWrongFalsely : Prop := partsWholeRow.holds Try.pinned (OpenSpec.ofChange partsWholeWrong)

/- THE SECOND FORM. 'bulk': how many values and letters a reading holds, each counted each time it is reached (what is shared counts as often as it is met; a slice's spare places count too). A statement '..UptoSaid' is the law's where the arguments, and the package variables that the reading takes, are together of bulk at most 1048576: NARROWER than '..Said'. Prove '..Said' where nothing that the law and all that it calls make is longer than what came in: it says more and counts as full. Else prove '..UptoSaid'. A law counts once. -/
mutual
def uptoBulk {H : Type} : DataW H → Nat
  | .lit (.string bytes) => bytes.length + 1
  | .lit _ => 1
  | .nil => 1
  | .ptr d => uptoBulk d + 1
  | .slice elems spare => uptoBulkAll elems + uptoBulkAll spare + 1
  | .agg parts => uptoBulkAll parts + 1
  | .iface _ d => uptoBulk d + 1
  | .map entries => uptoBulkEntries entries + 1
  | .held _ => 1
def uptoBulkAll {H : Type} : List (DataW H) → Nat
  | [] => 0
  | d :: r => uptoBulk d + uptoBulkAll r
def uptoBulkEntries {H : Type} : List (Lit × DataW H) → Nat
  | [] => 0
  | x :: r => uptoBulkEntry x + uptoBulkEntries r
def uptoBulkEntry {H : Type} : Lit × DataW H → Nat
  | (.string bytes, d) => bytes.length + uptoBulk d + 1
  | (_, d) => uptoBulk d + 1
 end
def uptoSmall : (H : Type) → List (DataW H) → Bool := fun _ ds => decide (uptoBulkAll ds ≤ 1048576)
def OpenSpec.upto (s : _root_.Go.ChangeSpec) : _root_.Go.OpenSpec := { _root_.Go.OpenSpec.ofChange s with cond := some uptoSmall }

/-- 'serinettelaw14.PartsBest', WHERE WHAT IT READS IS OF BULK AT MOST 1048576: true; the input reads as it did. -/
def partsBestUptoRow : OpenClaim := { program := "ytpoigjkkcehpdaa", sum := "c0f485d118cc5e7624c3184143b7b40049c817b62e72b4b1e31d0b055dafbbe4", func := "serinette/serinettelaw14.PartsBest", spec := "partsBest", unfollowed := true, recurses := true, apart := false, narrowed := true }
def PartsBestUptoSaid : Prop := partsBestUptoRow.holds Try.pinned (OpenSpec.upto partsBestSpec)

/-- 'serinettelaw14.PartsSum', WHERE WHAT IT READS IS OF BULK AT MOST 1048576: true; the input reads as it did. -/
def partsSumUptoRow : OpenClaim := { program := "ytpoigjkkcehpdaa", sum := "c0f485d118cc5e7624c3184143b7b40049c817b62e72b4b1e31d0b055dafbbe4", func := "serinette/serinettelaw14.PartsSum", spec := "partsSum", unfollowed := true, recurses := true, apart := false, narrowed := true }
def PartsSumUptoSaid : Prop := partsSumUptoRow.holds Try.pinned (OpenSpec.upto partsSumSpec)

/-- 'serinettelaw14.PartsLeast', WHERE WHAT IT READS IS OF BULK AT MOST 1048576: true; the input reads as it did. -/
def partsLeastUptoRow : OpenClaim := { program := "ytpoigjkkcehpdaa", sum := "c0f485d118cc5e7624c3184143b7b40049c817b62e72b4b1e31d0b055dafbbe4", func := "serinette/serinettelaw14.PartsLeast", spec := "partsLeast", unfollowed := true, recurses := true, apart := false, narrowed := true }
def PartsLeastUptoSaid : Prop := partsLeastUptoRow.holds Try.pinned (OpenSpec.upto partsLeastSpec)

/-- 'serinettelaw14.PartsSame', WHERE WHAT IT READS IS OF BULK AT MOST 1048576: true; the input reads as it did. -/
def partsSameUptoRow : OpenClaim := { program := "ytpoigjkkcehpdaa", sum := "c0f485d118cc5e7624c3184143b7b40049c817b62e72b4b1e31d0b055dafbbe4", func := "serinette/serinettelaw14.PartsSame", spec := "partsSame", unfollowed := true, recurses := true, apart := false, narrowed := true }
def PartsSameUptoSaid : Prop := partsSameUptoRow.holds Try.pinned (OpenSpec.upto partsSameSpec)

/-- 'serinettelaw14.PartsWhole', WHERE WHAT IT READS IS OF BULK AT MOST 1048576: true; the input reads as it did. -/
def partsWholeUptoRow : OpenClaim := { program := "ytpoigjkkcehpdaa", sum := "c0f485d118cc5e7624c3184143b7b40049c817b62e72b4b1e31d0b055dafbbe4", func := "serinette/serinettelaw14.PartsWhole", spec := "partsWhole", unfollowed := true, recurses := true, apart := false, narrowed := true }
def PartsWholeUptoSaid : Prop := partsWholeUptoRow.holds Try.pinned (OpenSpec.upto partsWholeSpec)

end Rows
end Go.Proofs.Ytpoigjkkcehpdaa
