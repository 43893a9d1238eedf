/-
  No cell of these rows narrows 'for every input' (looked for: loops, veiled, ifaces, maps, wideKeys, modest, calm, conditions, laid).
  DERIVED. THE GIVEN ROWS OF THIS SEAT. 5 by the template 'for every input the law returns true; each argument reads behind the call as it read before'; 0 by the template 'total and deterministic' (their statements: YtkkjpaijkhhlcaaTotals.lean).
  GIVEN WITH THE SEED: the statements are not yours to turn. If you find one false, say at which input.
  Laid BY PROGRAM, IN A SANDBOX (cutbox-rows.mjs): the forced cells as the released guide's own fill.sh prints them over the translation ac96e5b878d3eca8… (all of the seat's roots in one cut). By AI agents, Wed Nov 11 2026. No macro, syntax, notation, axiom, sorry.
-/
import Derived.Test.YtkkjpaijkhhlcaaChecked
import GoSem.Claim
import GoSem.ClaimJoined
import GoSem.ClaimMapViews
import Derived.JoinedTies
import Derived.KernelRfl
namespace Go.Proofs.Ytkkjpaijkhhlcaa
/- THE CELL 'sum', in the pinned program and in every row, IS THE sha256 OF THE DUMP (.gsa) THAT YtkkjpaijkhhlcaaProg.lean LOADS. Nothing in Lean hashes anything: it is a label: what it is worth is what the hold of that sum in a sandbox is worth. -/
noncomputable def Try.pinned : Pinned := { name := "ytkkjpaijkhhlcaa", sum := "ac96e5b878d3eca8e16e6e7c5b2901585bfc302acd48dcedd203abe0d8b1c70f", checked := Try.checked }
namespace Rows
def none {H : Type} : Left H := { results := [], args := [] }

/-- 'serinettelaw02.RicePuts': WHATEVER THE INPUT: true; the input reads as it did. -/
def ricePutsSpec : ChangeSpec := { name := "ricePuts", fn := fun _ => fun
  | [d1, d2, d3] => { results := [.lit (.bool true)], args := [d1, d2, d3] }
  | _ => none }
def ricePutsRow : OpenClaim := { program := "ytkkjpaijkhhlcaa", sum := "ac96e5b878d3eca8e16e6e7c5b2901585bfc302acd48dcedd203abe0d8b1c70f", func := "serinette/serinettelaw02.RicePuts", spec := "ricePuts", apart := false }
def RicePutsSaid : Prop := ricePutsRow.holds Try.pinned (OpenSpec.ofChange ricePutsSpec)

/-- ITS FALSE NEIGHBOUR: 'it returns false'. Refute it at one input. -/
def ricePutsWrong : ChangeSpec := { name := "ricePuts", fn := fun _ => fun
  | [d1, d2, d3] => { results := [.lit (.bool false)], args := [d1, d2, d3] }
  | _ => none }
def RicePutsWrongFalsely : Prop := ricePutsRow.holds Try.pinned (OpenSpec.ofChange ricePutsWrong)

/-- 'serinettelaw02.RiceNearer': WHATEVER THE INPUT: true; the input reads as it did. -/
def riceNearerSpec : ChangeSpec := { name := "riceNearer", fn := fun _ => fun
  | [d1, d2, d3] => { results := [.lit (.bool true)], args := [d1, d2, d3] }
  | _ => none }
def riceNearerRow : OpenClaim := { program := "ytkkjpaijkhhlcaa", sum := "ac96e5b878d3eca8e16e6e7c5b2901585bfc302acd48dcedd203abe0d8b1c70f", func := "serinette/serinettelaw02.RiceNearer", spec := "riceNearer", apart := false }
def RiceNearerSaid : Prop := riceNearerRow.holds Try.pinned (OpenSpec.ofChange riceNearerSpec)

/-- ITS FALSE NEIGHBOUR: 'it returns false'. Refute it at one input. -/
def riceNearerWrong : ChangeSpec := { name := "riceNearer", fn := fun _ => fun
  | [d1, d2, d3] => { results := [.lit (.bool false)], args := [d1, d2, d3] }
  | _ => none }
def RiceNearerWrongFalsely : Prop := riceNearerRow.holds Try.pinned (OpenSpec.ofChange riceNearerWrong)

/-- 'serinettelaw02.RiceFolds': WHATEVER THE INPUT: true; the input reads as it did. -/
def riceFoldsSpec : ChangeSpec := { name := "riceFolds", fn := fun _ => fun
  | [d1, d2, d3] => { results := [.lit (.bool true)], args := [d1, d2, d3] }
  | _ => none }
def riceFoldsRow : OpenClaim := { program := "ytkkjpaijkhhlcaa", sum := "ac96e5b878d3eca8e16e6e7c5b2901585bfc302acd48dcedd203abe0d8b1c70f", func := "serinette/serinettelaw02.RiceFolds", spec := "riceFolds", apart := false }
def RiceFoldsSaid : Prop := riceFoldsRow.holds Try.pinned (OpenSpec.ofChange riceFoldsSpec)

/-- ITS FALSE NEIGHBOUR: 'it returns false'. Refute it at one input. -/
def riceFoldsWrong : ChangeSpec := { name := "riceFolds", fn := fun _ => fun
  | [d1, d2, d3] => { results := [.lit (.bool false)], args := [d1, d2, d3] }
  | _ => none }
def RiceFoldsWrongFalsely : Prop := riceFoldsRow.holds Try.pinned (OpenSpec.ofChange riceFoldsWrong)

/-- 'serinettelaw02.RiceOnce': WHATEVER THE INPUT: true; the input reads as it did. -/
def riceOnceSpec : ChangeSpec := { name := "riceOnce", fn := fun _ => fun
  | [d1, d2, d3] => { results := [.lit (.bool true)], args := [d1, d2, d3] }
  | _ => none }
def riceOnceRow : OpenClaim := { program := "ytkkjpaijkhhlcaa", sum := "ac96e5b878d3eca8e16e6e7c5b2901585bfc302acd48dcedd203abe0d8b1c70f", func := "serinette/serinettelaw02.RiceOnce", spec := "riceOnce", apart := false }
def RiceOnceSaid : Prop := riceOnceRow.holds Try.pinned (OpenSpec.ofChange riceOnceSpec)

/-- ITS FALSE NEIGHBOUR: 'it returns false'. Refute it at one input. -/
def riceOnceWrong : ChangeSpec := { name := "riceOnce", fn := fun _ => fun
  | [d1, d2, d3] => { results := [.lit (.bool false)], args := [d1, d2, d3] }
  | _ => none }
def RiceOnceWrongFalsely : Prop := riceOnceRow.holds Try.pinned (OpenSpec.ofChange riceOnceWrong)

/-- 'serinettelaw02.RiceBack': WHATEVER THE INPUT: true; the input reads as it did. -/
def riceBackSpec : ChangeSpec := { name := "riceBack", fn := fun _ => fun
  | [d1, d2] => { results := [.lit (.bool true)], args := [d1, d2] }
  | _ => none }
def riceBackRow : OpenClaim := { program := "ytkkjpaijkhhlcaa", sum := "ac96e5b878d3eca8e16e6e7c5b2901585bfc302acd48dcedd203abe0d8b1c70f", func := "serinette/serinettelaw02.RiceBack", spec := "riceBack", apart := false }
def RiceBackSaid : Prop := riceBackRow.holds Try.pinned (OpenSpec.ofChange riceBackSpec)

/-- ITS FALSE NEIGHBOUR: 'it returns false'. Refute it at one input. -/
def riceBackWrong : ChangeSpec := { name := "riceBack", fn := fun _ => fun
  | [d1, d2] => { results := [.lit (.bool false)], args := [d1, d2] }
  | _ => none }
def RiceBackWrongFalsely : Prop := riceBackRow.holds Try.pinned (OpenSpec.ofChange riceBackWrong)

/- THE SECOND FORM. 'bulk': how many values and letters a reading holds, each counted each time it is reached (what is shared counts as often as it is met; a slice's spare places count too). A statement '..UptoSaid' is the law's where the arguments, and the package variables that the reading takes, are together of bulk at most 1048576: NARROWER than '..Said'. Prove '..Said' where nothing that the law and all that it calls make is longer than what came in: it says more and counts as full. Else prove '..UptoSaid'. A law counts once. -/
mutual
def uptoBulk {H : Type} : DataW H → Nat
  | .lit (.string bytes) => bytes.length + 1
  | .lit _ => 1
  | .nil => 1
  | .ptr d => uptoBulk d + 1
  | .slice elems spare => uptoBulkAll elems + uptoBulkAll spare + 1
  | .agg parts => uptoBulkAll parts + 1
  | .iface _ d => uptoBulk d + 1
  | .map entries => uptoBulkEntries entries + 1
  | .held _ => 1
def uptoBulkAll {H : Type} : List (DataW H) → Nat
  | [] => 0
  | d :: r => uptoBulk d + uptoBulkAll r
def uptoBulkEntries {H : Type} : List (Lit × DataW H) → Nat
  | [] => 0
  | x :: r => uptoBulkEntry x + uptoBulkEntries r
def uptoBulkEntry {H : Type} : Lit × DataW H → Nat
  | (.string bytes, d) => bytes.length + uptoBulk d + 1
  | (_, d) => uptoBulk d + 1
 end
def uptoSmall : (H : Type) → List (DataW H) → Bool := fun _ ds => decide (uptoBulkAll ds ≤ 1048576)
def OpenSpec.upto (s : _root_.Go.ChangeSpec) : _root_.Go.OpenSpec := { _root_.Go.OpenSpec.ofChange s with cond := some uptoSmall }

/-- 'serinettelaw02.RicePuts', WHERE WHAT IT READS IS OF BULK AT MOST 1048576: true; the input reads as it did. -/
def ricePutsUptoRow : OpenClaim := { program := "ytkkjpaijkhhlcaa", sum := "ac96e5b878d3eca8e16e6e7c5b2901585bfc302acd48dcedd203abe0d8b1c70f", func := "serinette/serinettelaw02.RicePuts", spec := "ricePuts", apart := false, narrowed := true }
def RicePutsUptoSaid : Prop := ricePutsUptoRow.holds Try.pinned (OpenSpec.upto ricePutsSpec)

/-- 'serinettelaw02.RiceNearer', WHERE WHAT IT READS IS OF BULK AT MOST 1048576: true; the input reads as it did. -/
def riceNearerUptoRow : OpenClaim := { program := "ytkkjpaijkhhlcaa", sum := "ac96e5b878d3eca8e16e6e7c5b2901585bfc302acd48dcedd203abe0d8b1c70f", func := "serinette/serinettelaw02.RiceNearer", spec := "riceNearer", apart := false, narrowed := true }
def RiceNearerUptoSaid : Prop := riceNearerUptoRow.holds Try.pinned (OpenSpec.upto riceNearerSpec)

/-- 'serinettelaw02.RiceFolds', WHERE WHAT IT READS IS OF BULK AT MOST 1048576: true; the input reads as it did. -/
def riceFoldsUptoRow : OpenClaim := { program := "ytkkjpaijkhhlcaa", sum := "ac96e5b878d3eca8e16e6e7c5b2901585bfc302acd48dcedd203abe0d8b1c70f", func := "serinette/serinettelaw02.RiceFolds", spec := "riceFolds", apart := false, narrowed := true }
def RiceFoldsUptoSaid : Prop := riceFoldsUptoRow.holds Try.pinned (OpenSpec.upto riceFoldsSpec)

/-- 'serinettelaw02.RiceOnce', WHERE WHAT IT READS IS OF BULK AT MOST 1048576: true; the input reads as it did. -/
def riceOnceUptoRow : OpenClaim := { program := "ytkkjpaijkhhlcaa", sum := "ac96e5b878d3eca8e16e6e7c5b2901585bfc302acd48dcedd203abe0d8b1c70f", func := "serinette/serinettelaw02.RiceOnce", spec := "riceOnce", apart := false, narrowed := true }
def RiceOnceUptoSaid : Prop := riceOnceUptoRow.holds Try.pinned (OpenSpec.upto riceOnceSpec)

/-- 'serinettelaw02.RiceBack', WHERE WHAT IT READS IS OF BULK AT MOST 1048576: true; the input reads as it did. -/
def riceBackUptoRow : OpenClaim := { program := "ytkkjpaijkhhlcaa", sum := "ac96e5b878d3eca8e16e6e7c5b2901585bfc302acd48dcedd203abe0d8b1c70f", func := "serinette/serinettelaw02.RiceBack", spec := "riceBack", apart := false, narrowed := true }
def RiceBackUptoSaid : Prop := riceBackUptoRow.holds Try.pinned (OpenSpec.upto riceBackSpec)

end Rows
end Go.Proofs.Ytkkjpaijkhhlcaa
