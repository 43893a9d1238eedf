/-
  No cell of these rows narrows 'for every input' (looked for: loops, veiled, ifaces, maps, wideKeys, modest, calm, conditions, laid).
  DERIVED. THE GIVEN ROWS OF THIS SEAT. 6 by the template 'for every input the law returns true; each argument reads behind the call as it read before'; 0 by the template 'total and deterministic' (their statements: YthcognclnmcbhaaTotals.lean).
  GIVEN WITH THE SEED: the statements are not yours to turn. If you find one false, say at which input.
  Laid BY PROGRAM, IN A SANDBOX (cutbox-rows.mjs): the forced cells as the released guide's own fill.sh prints them over the translation a97fe8b3d22d5620… (all of the seat's roots in one cut). By AI agents, Wed Nov 11 2026. No macro, syntax, notation, axiom, sorry.
-/
import Derived.Test.YthcognclnmcbhaaChecked
import GoSem.Claim
import GoSem.ClaimJoined
import GoSem.ClaimMapViews
import Derived.JoinedTies
import Derived.KernelRfl
namespace Go.Proofs.Ythcognclnmcbhaa
/- THE CELL 'sum', in the pinned program and in every row, IS THE sha256 OF THE DUMP (.gsa) THAT YthcognclnmcbhaaProg.lean LOADS. Nothing in Lean hashes anything: it is a label: what it is worth is what the hold of that sum in a sandbox is worth. -/
noncomputable def Try.pinned : Pinned := { name := "ythcognclnmcbhaa", sum := "a97fe8b3d22d56205522e474ad0efef43d207757f879f98b7662c5ae752ecc37", checked := Try.checked }
namespace Rows
def none {H : Type} : Left H := { results := [], args := [] }

/-- 'serinettelaw10.SolveTells': WHATEVER THE INPUT: true; the input reads as it did. -/
def solveTellsSpec : ChangeSpec := { name := "solveTells", fn := fun _ => fun
  | [d1, d2] => { results := [.lit (.bool true)], args := [d1, d2] }
  | _ => none }
def solveTellsRow : OpenClaim := { program := "ythcognclnmcbhaa", sum := "a97fe8b3d22d56205522e474ad0efef43d207757f879f98b7662c5ae752ecc37", func := "serinette/serinettelaw10.SolveTells", spec := "solveTells", unfollowed := true, recurses := true, apart := false }
def SolveTellsSaid : Prop := solveTellsRow.holds Try.pinned (OpenSpec.ofChange solveTellsSpec)

/-- ITS FALSE NEIGHBOUR: 'it returns false'. Refute it at one input. -/
def solveTellsWrong : ChangeSpec := { name := "solveTells", fn := fun _ => fun
  | [d1, d2] => { results := [.lit (.bool false)], args := [d1, d2] }
  | _ => none }
def SolveTellsWrongFalsely : Prop := solveTellsRow.holds Try.pinned (OpenSpec.ofChange solveTellsWrong)

/-- 'serinettelaw10.SolveOrders': WHATEVER THE INPUT: true; the input reads as it did. -/
def solveOrdersSpec : ChangeSpec := { name := "solveOrders", fn := fun _ => fun
  | [d1, d2, d3] => { results := [.lit (.bool true)], args := [d1, d2, d3] }
  | _ => none }
def solveOrdersRow : OpenClaim := { program := "ythcognclnmcbhaa", sum := "a97fe8b3d22d56205522e474ad0efef43d207757f879f98b7662c5ae752ecc37", func := "serinette/serinettelaw10.SolveOrders", spec := "solveOrders", unfollowed := true, recurses := true, apart := false }
def SolveOrdersSaid : Prop := solveOrdersRow.holds Try.pinned (OpenSpec.ofChange solveOrdersSpec)

/-- ITS FALSE NEIGHBOUR: 'it returns false'. Refute it at one input. -/
def solveOrdersWrong : ChangeSpec := { name := "solveOrders", fn := fun _ => fun
  | [d1, d2, d3] => { results := [.lit (.bool false)], args := [d1, d2, d3] }
  | _ => none }
def SolveOrdersWrongFalsely : Prop := solveOrdersRow.holds Try.pinned (OpenSpec.ofChange solveOrdersWrong)

/-- 'serinettelaw10.SolveFlat': WHATEVER THE INPUT: true; the input reads as it did. -/
def solveFlatSpec : ChangeSpec := { name := "solveFlat", fn := fun _ => fun
  | [d1, d2, d3] => { results := [.lit (.bool true)], args := [d1, d2, d3] }
  | _ => none }
def solveFlatRow : OpenClaim := { program := "ythcognclnmcbhaa", sum := "a97fe8b3d22d56205522e474ad0efef43d207757f879f98b7662c5ae752ecc37", func := "serinette/serinettelaw10.SolveFlat", spec := "solveFlat", unfollowed := true, recurses := true, apart := false }
def SolveFlatSaid : Prop := solveFlatRow.holds Try.pinned (OpenSpec.ofChange solveFlatSpec)

/-- ITS FALSE NEIGHBOUR: 'it returns false'. Refute it at one input. -/
def solveFlatWrong : ChangeSpec := { name := "solveFlat", fn := fun _ => fun
  | [d1, d2, d3] => { results := [.lit (.bool false)], args := [d1, d2, d3] }
  | _ => none }
def SolveFlatWrongFalsely : Prop := solveFlatRow.holds Try.pinned (OpenSpec.ofChange solveFlatWrong)

/-- 'serinettelaw10.SolveTwice': WHATEVER THE INPUT: true; the input reads as it did. -/
def solveTwiceSpec : ChangeSpec := { name := "solveTwice", fn := fun _ => fun
  | [d1, d2] => { results := [.lit (.bool true)], args := [d1, d2] }
  | _ => none }
def solveTwiceRow : OpenClaim := { program := "ythcognclnmcbhaa", sum := "a97fe8b3d22d56205522e474ad0efef43d207757f879f98b7662c5ae752ecc37", func := "serinette/serinettelaw10.SolveTwice", spec := "solveTwice", unfollowed := true, recurses := true, apart := false }
def SolveTwiceSaid : Prop := solveTwiceRow.holds Try.pinned (OpenSpec.ofChange solveTwiceSpec)

/-- ITS FALSE NEIGHBOUR: 'it returns false'. Refute it at one input. -/
def solveTwiceWrong : ChangeSpec := { name := "solveTwice", fn := fun _ => fun
  | [d1, d2] => { results := [.lit (.bool false)], args := [d1, d2] }
  | _ => none }
def SolveTwiceWrongFalsely : Prop := solveTwiceRow.holds Try.pinned (OpenSpec.ofChange solveTwiceWrong)

/-- 'serinettelaw10.SolveOne': WHATEVER THE INPUT: true; the input reads as it did. -/
def solveOneSpec : ChangeSpec := { name := "solveOne", fn := fun _ => fun
  | [d1, d2] => { results := [.lit (.bool true)], args := [d1, d2] }
  | _ => none }
def solveOneRow : OpenClaim := { program := "ythcognclnmcbhaa", sum := "a97fe8b3d22d56205522e474ad0efef43d207757f879f98b7662c5ae752ecc37", func := "serinette/serinettelaw10.SolveOne", spec := "solveOne", unfollowed := true, recurses := true, apart := false }
def SolveOneSaid : Prop := solveOneRow.holds Try.pinned (OpenSpec.ofChange solveOneSpec)

/-- ITS FALSE NEIGHBOUR: 'it returns false'. Refute it at one input. -/
def solveOneWrong : ChangeSpec := { name := "solveOne", fn := fun _ => fun
  | [d1, d2] => { results := [.lit (.bool false)], args := [d1, d2] }
  | _ => none }
def SolveOneWrongFalsely : Prop := solveOneRow.holds Try.pinned (OpenSpec.ofChange solveOneWrong)

/-- 'serinettelaw10.SolveSamples': WHATEVER THE INPUT: true; the input reads as it did. -/
def solveSamplesSpec : ChangeSpec := { name := "solveSamples", fn := fun _ => fun
  | [d1, d2] => { results := [.lit (.bool true)], args := [d1, d2] }
  | _ => none }
def solveSamplesRow : OpenClaim := { program := "ythcognclnmcbhaa", sum := "a97fe8b3d22d56205522e474ad0efef43d207757f879f98b7662c5ae752ecc37", func := "serinette/serinettelaw10.SolveSamples", spec := "solveSamples", unfollowed := true, recurses := true, apart := false }
def SolveSamplesSaid : Prop := solveSamplesRow.holds Try.pinned (OpenSpec.ofChange solveSamplesSpec)

/-- ITS FALSE NEIGHBOUR: 'it returns false'. Refute it at one input. -/
def solveSamplesWrong : ChangeSpec := { name := "solveSamples", fn := fun _ => fun
  | [d1, d2] => { results := [.lit (.bool false)], args := [d1, d2] }
  | _ => none }
def SolveSamplesWrongFalsely : Prop := solveSamplesRow.holds Try.pinned (OpenSpec.ofChange solveSamplesWrong)

/- THE SECOND FORM. 'bulk': how many values and letters a reading holds, each counted each time it is reached (what is shared counts as often as it is met; a slice's spare places count too). A statement '..UptoSaid' is the law's where the arguments, and the package variables that the reading takes, are together of bulk at most 1048576: NARROWER than '..Said'. Prove '..Said' where nothing that the law and all that it calls make is longer than what came in: it says more and counts as full. Else prove '..UptoSaid'. A law counts once. -/
mutual
def uptoBulk {H : Type} : DataW H → Nat
  | .lit (.string bytes) => bytes.length + 1
  | .lit _ => 1
  | .nil => 1
  | .ptr d => uptoBulk d + 1
  | .slice elems spare => uptoBulkAll elems + uptoBulkAll spare + 1
  | .agg parts => uptoBulkAll parts + 1
  | .iface _ d => uptoBulk d + 1
  | .map entries => uptoBulkEntries entries + 1
  | .held _ => 1
def uptoBulkAll {H : Type} : List (DataW H) → Nat
  | [] => 0
  | d :: r => uptoBulk d + uptoBulkAll r
def uptoBulkEntries {H : Type} : List (Lit × DataW H) → Nat
  | [] => 0
  | x :: r => uptoBulkEntry x + uptoBulkEntries r
def uptoBulkEntry {H : Type} : Lit × DataW H → Nat
  | (.string bytes, d) => bytes.length + uptoBulk d + 1
  | (_, d) => uptoBulk d + 1
 end
def uptoSmall : (H : Type) → List (DataW H) → Bool := fun _ ds => decide (uptoBulkAll ds ≤ 1048576)
def OpenSpec.upto (s : _root_.Go.ChangeSpec) : _root_.Go.OpenSpec := { _root_.Go.OpenSpec.ofChange s with cond := some uptoSmall }

/-- 'serinettelaw10.SolveTells', WHERE WHAT IT READS IS OF BULK AT MOST 1048576: true; the input reads as it did. -/
def solveTellsUptoRow : OpenClaim := { program := "ythcognclnmcbhaa", sum := "a97fe8b3d22d56205522e474ad0efef43d207757f879f98b7662c5ae752ecc37", func := "serinette/serinettelaw10.SolveTells", spec := "solveTells", unfollowed := true, recurses := true, apart := false, narrowed := true }
def SolveTellsUptoSaid : Prop := solveTellsUptoRow.holds Try.pinned (OpenSpec.upto solveTellsSpec)

/-- 'serinettelaw10.SolveOrders', WHERE WHAT IT READS IS OF BULK AT MOST 1048576: true; the input reads as it did. -/
def solveOrdersUptoRow : OpenClaim := { program := "ythcognclnmcbhaa", sum := "a97fe8b3d22d56205522e474ad0efef43d207757f879f98b7662c5ae752ecc37", func := "serinette/serinettelaw10.SolveOrders", spec := "solveOrders", unfollowed := true, recurses := true, apart := false, narrowed := true }
def SolveOrdersUptoSaid : Prop := solveOrdersUptoRow.holds Try.pinned (OpenSpec.upto solveOrdersSpec)

/-- 'serinettelaw10.SolveFlat', WHERE WHAT IT READS IS OF BULK AT MOST 1048576: true; the input reads as it did. -/
def solveFlatUptoRow : OpenClaim := { program := "ythcognclnmcbhaa", sum := "a97fe8b3d22d56205522e474ad0efef43d207757f879f98b7662c5ae752ecc37", func := "serinette/serinettelaw10.SolveFlat", spec := "solveFlat", unfollowed := true, recurses := true, apart := false, narrowed := true }
def SolveFlatUptoSaid : Prop := solveFlatUptoRow.holds Try.pinned (OpenSpec.upto solveFlatSpec)

/-- 'serinettelaw10.SolveTwice', WHERE WHAT IT READS IS OF BULK AT MOST 1048576: true; the input reads as it did. -/
def solveTwiceUptoRow : OpenClaim := { program := "ythcognclnmcbhaa", sum := "a97fe8b3d22d56205522e474ad0efef43d207757f879f98b7662c5ae752ecc37", func := "serinette/serinettelaw10.SolveTwice", spec := "solveTwice", unfollowed := true, recurses := true, apart := false, narrowed := true }
def SolveTwiceUptoSaid : Prop := solveTwiceUptoRow.holds Try.pinned (OpenSpec.upto solveTwiceSpec)

/-- 'serinettelaw10.SolveOne', WHERE WHAT IT READS IS OF BULK AT MOST 1048576: true; the input reads as it did. -/
def solveOneUptoRow : OpenClaim := { program := "ythcognclnmcbhaa", sum := "a97fe8b3d22d56205522e474ad0efef43d207757f879f98b7662c5ae752ecc37", func := "serinette/serinettelaw10.SolveOne", spec := "solveOne", unfollowed := true, recurses := true, apart := false, narrowed := true }
def SolveOneUptoSaid : Prop := solveOneUptoRow.holds Try.pinned (OpenSpec.upto solveOneSpec)

/-- 'serinettelaw10.SolveSamples', WHERE WHAT IT READS IS OF BULK AT MOST 1048576: true; the input reads as it did. -/
def solveSamplesUptoRow : OpenClaim := { program := "ythcognclnmcbhaa", sum := "a97fe8b3d22d56205522e474ad0efef43d207757f879f98b7662c5ae752ecc37", func := "serinette/serinettelaw10.SolveSamples", spec := "solveSamples", unfollowed := true, recurses := true, apart := false, narrowed := true }
def SolveSamplesUptoSaid : Prop := solveSamplesUptoRow.holds Try.pinned (OpenSpec.upto solveSamplesSpec)

end Rows
end Go.Proofs.Ythcognclnmcbhaa
