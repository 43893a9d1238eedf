/-
  No cell of these rows narrows 'for every input' (looked for: loops, veiled, ifaces, maps, wideKeys, modest, calm, conditions, laid).
  DERIVED. THE GIVEN ROWS OF THIS SEAT. 6 by the template 'for every input the law returns true; each argument reads behind the call as it read before'; 0 by the template 'total and deterministic' (their statements: YtafbagphbonpiaaTotals.lean).
  GIVEN WITH THE SEED: the statements are not yours to turn. If you find one false, say at which input.
  Laid BY PROGRAM, IN A SANDBOX (cutbox-rows.mjs): the forced cells as the released guide's own fill.sh prints them over the translation 4b15442dec71adbc… (all of the seat's roots in one cut). By AI agents, Wed Nov 11 2026. No macro, syntax, notation, axiom, sorry.
-/
import Derived.Test.YtafbagphbonpiaaChecked
import GoSem.Claim
import GoSem.ClaimJoined
import GoSem.ClaimMapViews
import Derived.JoinedTies
import Derived.KernelRfl
namespace Go.Proofs.Ytafbagphbonpiaa
/- THE CELL 'sum', in the pinned program and in every row, IS THE sha256 OF THE DUMP (.gsa) THAT YtafbagphbonpiaaProg.lean LOADS. Nothing in Lean hashes anything: it is a label: what it is worth is what the hold of that sum in a sandbox is worth. -/
noncomputable def Try.pinned : Pinned := { name := "ytafbagphbonpiaa", sum := "4b15442dec71adbc11e9be6349d6bac67d4b38401c091389609b522fca06fc34", checked := Try.checked }
namespace Rows
def none {H : Type} : Left H := { results := [], args := [] }

/-- 'serinettelaw09.LagsTell': WHATEVER THE INPUT: true; the input reads as it did. -/
def lagsTellSpec : ChangeSpec := { name := "lagsTell", fn := fun _ => fun
  | [d1, d2] => { results := [.lit (.bool true)], args := [d1, d2] }
  | _ => none }
def lagsTellRow : OpenClaim := { program := "ytafbagphbonpiaa", sum := "4b15442dec71adbc11e9be6349d6bac67d4b38401c091389609b522fca06fc34", func := "serinette/serinettelaw09.LagsTell", spec := "lagsTell", unfollowed := true, recurses := true, apart := false }
def LagsTellSaid : Prop := lagsTellRow.holds Try.pinned (OpenSpec.ofChange lagsTellSpec)

/-- ITS FALSE NEIGHBOUR: 'it returns false'. Refute it at one input. -/
def lagsTellWrong : ChangeSpec := { name := "lagsTell", fn := fun _ => fun
  | [d1, d2] => { results := [.lit (.bool false)], args := [d1, d2] }
  | _ => none }
def LagsTellWrongFalsely : Prop := lagsTellRow.holds Try.pinned (OpenSpec.ofChange lagsTellWrong)

/-- 'serinettelaw09.LagsFirst': WHATEVER THE INPUT: true; the input reads as it did. -/
def lagsFirstSpec : ChangeSpec := { name := "lagsFirst", fn := fun _ => fun
  | [d1, d2] => { results := [.lit (.bool true)], args := [d1, d2] }
  | _ => none }
def lagsFirstRow : OpenClaim := { program := "ytafbagphbonpiaa", sum := "4b15442dec71adbc11e9be6349d6bac67d4b38401c091389609b522fca06fc34", func := "serinette/serinettelaw09.LagsFirst", spec := "lagsFirst", unfollowed := true, recurses := true, apart := false }
def LagsFirstSaid : Prop := lagsFirstRow.holds Try.pinned (OpenSpec.ofChange lagsFirstSpec)

/-- ITS FALSE NEIGHBOUR: 'it returns false'. Refute it at one input. -/
def lagsFirstWrong : ChangeSpec := { name := "lagsFirst", fn := fun _ => fun
  | [d1, d2] => { results := [.lit (.bool false)], args := [d1, d2] }
  | _ => none }
def LagsFirstWrongFalsely : Prop := lagsFirstRow.holds Try.pinned (OpenSpec.ofChange lagsFirstWrong)

/-- 'serinettelaw09.LagsTurn': WHATEVER THE INPUT: true; the input reads as it did. -/
def lagsTurnSpec : ChangeSpec := { name := "lagsTurn", fn := fun _ => fun
  | [d1, d2, d3, d4] => { results := [.lit (.bool true)], args := [d1, d2, d3, d4] }
  | _ => none }
def lagsTurnRow : OpenClaim := { program := "ytafbagphbonpiaa", sum := "4b15442dec71adbc11e9be6349d6bac67d4b38401c091389609b522fca06fc34", func := "serinette/serinettelaw09.LagsTurn", spec := "lagsTurn", unfollowed := true, recurses := true, apart := false }
def LagsTurnSaid : Prop := lagsTurnRow.holds Try.pinned (OpenSpec.ofChange lagsTurnSpec)

/-- ITS FALSE NEIGHBOUR: 'it returns false'. Refute it at one input. -/
def lagsTurnWrong : ChangeSpec := { name := "lagsTurn", fn := fun _ => fun
  | [d1, d2, d3, d4] => { results := [.lit (.bool false)], args := [d1, d2, d3, d4] }
  | _ => none }
def LagsTurnWrongFalsely : Prop := lagsTurnRow.holds Try.pinned (OpenSpec.ofChange lagsTurnWrong)

/-- 'serinettelaw09.LagsTwice': WHATEVER THE INPUT: true; the input reads as it did. -/
def lagsTwiceSpec : ChangeSpec := { name := "lagsTwice", fn := fun _ => fun
  | [d1, d2] => { results := [.lit (.bool true)], args := [d1, d2] }
  | _ => none }
def lagsTwiceRow : OpenClaim := { program := "ytafbagphbonpiaa", sum := "4b15442dec71adbc11e9be6349d6bac67d4b38401c091389609b522fca06fc34", func := "serinette/serinettelaw09.LagsTwice", spec := "lagsTwice", unfollowed := true, recurses := true, apart := false }
def LagsTwiceSaid : Prop := lagsTwiceRow.holds Try.pinned (OpenSpec.ofChange lagsTwiceSpec)

/-- ITS FALSE NEIGHBOUR: 'it returns false'. Refute it at one input. -/
def lagsTwiceWrong : ChangeSpec := { name := "lagsTwice", fn := fun _ => fun
  | [d1, d2] => { results := [.lit (.bool false)], args := [d1, d2] }
  | _ => none }
def LagsTwiceWrongFalsely : Prop := lagsTwiceRow.holds Try.pinned (OpenSpec.ofChange lagsTwiceWrong)

/-- 'serinettelaw09.LagsOrders': WHATEVER THE INPUT: true; the input reads as it did. -/
def lagsOrdersSpec : ChangeSpec := { name := "lagsOrders", fn := fun _ => fun
  | [d1, d2, d3] => { results := [.lit (.bool true)], args := [d1, d2, d3] }
  | _ => none }
def lagsOrdersRow : OpenClaim := { program := "ytafbagphbonpiaa", sum := "4b15442dec71adbc11e9be6349d6bac67d4b38401c091389609b522fca06fc34", func := "serinette/serinettelaw09.LagsOrders", spec := "lagsOrders", unfollowed := true, recurses := true, apart := false }
def LagsOrdersSaid : Prop := lagsOrdersRow.holds Try.pinned (OpenSpec.ofChange lagsOrdersSpec)

/-- ITS FALSE NEIGHBOUR: 'it returns false'. Refute it at one input. -/
def lagsOrdersWrong : ChangeSpec := { name := "lagsOrders", fn := fun _ => fun
  | [d1, d2, d3] => { results := [.lit (.bool false)], args := [d1, d2, d3] }
  | _ => none }
def LagsOrdersWrongFalsely : Prop := lagsOrdersRow.holds Try.pinned (OpenSpec.ofChange lagsOrdersWrong)

/-- 'serinettelaw09.LagsJoin': WHATEVER THE INPUT: true; the input reads as it did. -/
def lagsJoinSpec : ChangeSpec := { name := "lagsJoin", fn := fun _ => fun
  | [d1, d2, d3] => { results := [.lit (.bool true)], args := [d1, d2, d3] }
  | _ => none }
def lagsJoinRow : OpenClaim := { program := "ytafbagphbonpiaa", sum := "4b15442dec71adbc11e9be6349d6bac67d4b38401c091389609b522fca06fc34", func := "serinette/serinettelaw09.LagsJoin", spec := "lagsJoin", unfollowed := true, recurses := true, apart := false }
def LagsJoinSaid : Prop := lagsJoinRow.holds Try.pinned (OpenSpec.ofChange lagsJoinSpec)

/-- ITS FALSE NEIGHBOUR: 'it returns false'. Refute it at one input. -/
def lagsJoinWrong : ChangeSpec := { name := "lagsJoin", fn := fun _ => fun
  | [d1, d2, d3] => { results := [.lit (.bool false)], args := [d1, d2, d3] }
  | _ => none }
def LagsJoinWrongFalsely : Prop := lagsJoinRow.holds Try.pinned (OpenSpec.ofChange lagsJoinWrong)

/- THE SECOND FORM. 'bulk': how many values and letters a reading holds, each counted each time it is reached (what is shared counts as often as it is met; a slice's spare places count too). A statement '..UptoSaid' is the law's where the arguments, and the package variables that the reading takes, are together of bulk at most 1048576: NARROWER than '..Said'. Prove '..Said' where nothing that the law and all that it calls make is longer than what came in: it says more and counts as full. Else prove '..UptoSaid'. A law counts once. -/
mutual
def uptoBulk {H : Type} : DataW H → Nat
  | .lit (.string bytes) => bytes.length + 1
  | .lit _ => 1
  | .nil => 1
  | .ptr d => uptoBulk d + 1
  | .slice elems spare => uptoBulkAll elems + uptoBulkAll spare + 1
  | .agg parts => uptoBulkAll parts + 1
  | .iface _ d => uptoBulk d + 1
  | .map entries => uptoBulkEntries entries + 1
  | .held _ => 1
def uptoBulkAll {H : Type} : List (DataW H) → Nat
  | [] => 0
  | d :: r => uptoBulk d + uptoBulkAll r
def uptoBulkEntries {H : Type} : List (Lit × DataW H) → Nat
  | [] => 0
  | x :: r => uptoBulkEntry x + uptoBulkEntries r
def uptoBulkEntry {H : Type} : Lit × DataW H → Nat
  | (.string bytes, d) => bytes.length + uptoBulk d + 1
  | (_, d) => uptoBulk d + 1
 end
def uptoSmall : (H : Type) → List (DataW H) → Bool := fun _ ds => decide (uptoBulkAll ds ≤ 1048576)
def OpenSpec.upto (s : _root_.Go.ChangeSpec) : _root_.Go.OpenSpec := { _root_.Go.OpenSpec.ofChange s with cond := some uptoSmall }

/-- 'serinettelaw09.LagsTell', WHERE WHAT IT READS IS OF BULK AT MOST 1048576: true; the input reads as it did. -/
def lagsTellUptoRow : OpenClaim := { program := "ytafbagphbonpiaa", sum := "4b15442dec71adbc11e9be6349d6bac67d4b38401c091389609b522fca06fc34", func := "serinette/serinettelaw09.LagsTell", spec := "lagsTell", unfollowed := true, recurses := true, apart := false, narrowed := true }
def LagsTellUptoSaid : Prop := lagsTellUptoRow.holds Try.pinned (OpenSpec.upto lagsTellSpec)

/-- 'serinettelaw09.LagsFirst', WHERE WHAT IT READS IS OF BULK AT MOST 1048576: true; the input reads as it did. -/
def lagsFirstUptoRow : OpenClaim := { program := "ytafbagphbonpiaa", sum := "4b15442dec71adbc11e9be6349d6bac67d4b38401c091389609b522fca06fc34", func := "serinette/serinettelaw09.LagsFirst", spec := "lagsFirst", unfollowed := true, recurses := true, apart := false, narrowed := true }
def LagsFirstUptoSaid : Prop := lagsFirstUptoRow.holds Try.pinned (OpenSpec.upto lagsFirstSpec)

/-- 'serinettelaw09.LagsTurn', WHERE WHAT IT READS IS OF BULK AT MOST 1048576: true; the input reads as it did. -/
def lagsTurnUptoRow : OpenClaim := { program := "ytafbagphbonpiaa", sum := "4b15442dec71adbc11e9be6349d6bac67d4b38401c091389609b522fca06fc34", func := "serinette/serinettelaw09.LagsTurn", spec := "lagsTurn", unfollowed := true, recurses := true, apart := false, narrowed := true }
def LagsTurnUptoSaid : Prop := lagsTurnUptoRow.holds Try.pinned (OpenSpec.upto lagsTurnSpec)

/-- 'serinettelaw09.LagsTwice', WHERE WHAT IT READS IS OF BULK AT MOST 1048576: true; the input reads as it did. -/
def lagsTwiceUptoRow : OpenClaim := { program := "ytafbagphbonpiaa", sum := "4b15442dec71adbc11e9be6349d6bac67d4b38401c091389609b522fca06fc34", func := "serinette/serinettelaw09.LagsTwice", spec := "lagsTwice", unfollowed := true, recurses := true, apart := false, narrowed := true }
def LagsTwiceUptoSaid : Prop := lagsTwiceUptoRow.holds Try.pinned (OpenSpec.upto lagsTwiceSpec)

/-- 'serinettelaw09.LagsOrders', WHERE WHAT IT READS IS OF BULK AT MOST 1048576: true; the input reads as it did. -/
def lagsOrdersUptoRow : OpenClaim := { program := "ytafbagphbonpiaa", sum := "4b15442dec71adbc11e9be6349d6bac67d4b38401c091389609b522fca06fc34", func := "serinette/serinettelaw09.LagsOrders", spec := "lagsOrders", unfollowed := true, recurses := true, apart := false, narrowed := true }
def LagsOrdersUptoSaid : Prop := lagsOrdersUptoRow.holds Try.pinned (OpenSpec.upto lagsOrdersSpec)

/-- 'serinettelaw09.LagsJoin', WHERE WHAT IT READS IS OF BULK AT MOST 1048576: true; the input reads as it did. -/
def lagsJoinUptoRow : OpenClaim := { program := "ytafbagphbonpiaa", sum := "4b15442dec71adbc11e9be6349d6bac67d4b38401c091389609b522fca06fc34", func := "serinette/serinettelaw09.LagsJoin", spec := "lagsJoin", unfollowed := true, recurses := true, apart := false, narrowed := true }
def LagsJoinUptoSaid : Prop := lagsJoinUptoRow.holds Try.pinned (OpenSpec.upto lagsJoinSpec)

end Rows
end Go.Proofs.Ytafbagphbonpiaa
