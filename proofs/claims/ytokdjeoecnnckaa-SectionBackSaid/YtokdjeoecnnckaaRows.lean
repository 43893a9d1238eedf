/-
  No cell of these rows narrows 'for every input' (looked for: loops, veiled, ifaces, maps, wideKeys, modest, calm, conditions, laid).
  DERIVED. THE GIVEN ROWS OF THIS SEAT. 3 by the template 'for every input the law returns true; each argument reads behind the call as it read before'; 0 by the template 'total and deterministic' (their statements: YtokdjeoecnnckaaTotals.lean).
  GIVEN WITH THE SEED: the statements are not yours to turn. If you find one false, say at which input.
  Laid BY PROGRAM, IN A SANDBOX (cutbox-rows.mjs): the forced cells as the released guide's own fill.sh prints them over the translation e96d2a9ee787b076… (all of the seat's roots in one cut). By AI agents, Wed Nov 11 2026. No macro, syntax, notation, axiom, sorry.
-/
import Derived.Test.YtokdjeoecnnckaaChecked
import GoSem.Claim
import GoSem.ClaimJoined
import GoSem.ClaimMapViews
import Derived.JoinedTies
import Derived.KernelRfl
namespace Go.Proofs.Ytokdjeoecnnckaa
/- THE CELL 'sum', in the pinned program and in every row, IS THE sha256 OF THE DUMP (.gsa) THAT YtokdjeoecnnckaaProg.lean LOADS. Nothing in Lean hashes anything: it is a label: what it is worth is what the hold of that sum in a sandbox is worth. -/
noncomputable def Try.pinned : Pinned := { name := "ytokdjeoecnnckaa", sum := "e96d2a9ee787b076e5444061c35ced30ee13576e9037d67c6a70fc61e8aa5916", checked := Try.checked }
namespace Rows
def none {H : Type} : Left H := { results := [], args := [] }

/-- 'serinettelaw15.SectionBack': WHATEVER THE INPUT: true; the input reads as it did. -/
def sectionBackSpec : ChangeSpec := { name := "sectionBack", fn := fun _ => fun
  | [d1, d2, d3, d4] => { results := [.lit (.bool true)], args := [d1, d2, d3, d4] }
  | _ => none }
def sectionBackRow : OpenClaim := { program := "ytokdjeoecnnckaa", sum := "e96d2a9ee787b076e5444061c35ced30ee13576e9037d67c6a70fc61e8aa5916", func := "serinette/serinettelaw15.SectionBack", spec := "sectionBack", unfollowed := true, recurses := true, apart := false }
def SectionBackSaid : Prop := sectionBackRow.holds Try.pinned (OpenSpec.ofChange sectionBackSpec)

/-- ITS FALSE NEIGHBOUR: 'it returns false'. Refute it at one input. -/
def sectionBackWrong : ChangeSpec := { name := "sectionBack", fn := fun _ => fun
  | [d1, d2, d3, d4] => { results := [.lit (.bool false)], args := [d1, d2, d3, d4] }
  | _ => none }
def SectionBackWrongFalsely : Prop := sectionBackRow.holds Try.pinned (OpenSpec.ofChange sectionBackWrong)

/-- 'serinettelaw15.SectionBest': WHATEVER THE INPUT: true; the input reads as it did. -/
def sectionBestSpec : ChangeSpec := { name := "sectionBest", fn := fun _ => fun
  | [d1, d2, d3, d4] => { results := [.lit (.bool true)], args := [d1, d2, d3, d4] }
  | _ => none }
def sectionBestRow : OpenClaim := { program := "ytokdjeoecnnckaa", sum := "e96d2a9ee787b076e5444061c35ced30ee13576e9037d67c6a70fc61e8aa5916", func := "serinette/serinettelaw15.SectionBest", spec := "sectionBest", unfollowed := true, recurses := true, apart := false }
def SectionBestSaid : Prop := sectionBestRow.holds Try.pinned (OpenSpec.ofChange sectionBestSpec)

/-- ITS FALSE NEIGHBOUR: 'it returns false'. Refute it at one input. -/
def sectionBestWrong : ChangeSpec := { name := "sectionBest", fn := fun _ => fun
  | [d1, d2, d3, d4] => { results := [.lit (.bool false)], args := [d1, d2, d3, d4] }
  | _ => none }
def SectionBestWrongFalsely : Prop := sectionBestRow.holds Try.pinned (OpenSpec.ofChange sectionBestWrong)

/-- 'serinettelaw15.SectionCuts': WHATEVER THE INPUT: true; the input reads as it did. -/
def sectionCutsSpec : ChangeSpec := { name := "sectionCuts", fn := fun _ => fun
  | [d1, d2, d3, d4] => { results := [.lit (.bool true)], args := [d1, d2, d3, d4] }
  | _ => none }
def sectionCutsRow : OpenClaim := { program := "ytokdjeoecnnckaa", sum := "e96d2a9ee787b076e5444061c35ced30ee13576e9037d67c6a70fc61e8aa5916", func := "serinette/serinettelaw15.SectionCuts", spec := "sectionCuts", unfollowed := true, recurses := true, apart := false }
def SectionCutsSaid : Prop := sectionCutsRow.holds Try.pinned (OpenSpec.ofChange sectionCutsSpec)

/-- ITS FALSE NEIGHBOUR: 'it returns false'. Refute it at one input. -/
def sectionCutsWrong : ChangeSpec := { name := "sectionCuts", fn := fun _ => fun
  | [d1, d2, d3, d4] => { results := [.lit (.bool false)], args := [d1, d2, d3, d4] }
  | _ => none }
def SectionCutsWrongFalsely : Prop := sectionCutsRow.holds Try.pinned (OpenSpec.ofChange sectionCutsWrong)

/- THE SECOND FORM. 'bulk': how many values and letters a reading holds, each counted each time it is reached (what is shared counts as often as it is met; a slice's spare places count too). A statement '..UptoSaid' is the law's where the arguments, and the package variables that the reading takes, are together of bulk at most 1048576: NARROWER than '..Said'. Prove '..Said' where nothing that the law and all that it calls make is longer than what came in: it says more and counts as full. Else prove '..UptoSaid'. A law counts once. -/
mutual
def uptoBulk {H : Type} : DataW H → Nat
  | .lit (.string bytes) => bytes.length + 1
  | .lit _ => 1
  | .nil => 1
  | .ptr d => uptoBulk d + 1
  | .slice elems spare => uptoBulkAll elems + uptoBulkAll spare + 1
  | .agg parts => uptoBulkAll parts + 1
  | .iface _ d => uptoBulk d + 1
  | .map entries => uptoBulkEntries entries + 1
  | .held _ => 1
def uptoBulkAll {H : Type} : List (DataW H) → Nat
  | [] => 0
  | d :: r => uptoBulk d + uptoBulkAll r
def uptoBulkEntries {H : Type} : List (Lit × DataW H) → Nat
  | [] => 0
  | x :: r => uptoBulkEntry x + uptoBulkEntries r
def uptoBulkEntry {H : Type} : Lit × DataW H → Nat
  | (.string bytes, d) => bytes.length + uptoBulk d + 1
  | (_, d) => uptoBulk d + 1
 end
def uptoSmall : (H : Type) → List (DataW H) → Bool := fun _ ds => decide (uptoBulkAll ds ≤ 1048576)
def OpenSpec.upto (s : _root_.Go.ChangeSpec) : _root_.Go.OpenSpec := { _root_.Go.OpenSpec.ofChange s with cond := some uptoSmall }

/-- 'serinettelaw15.SectionBack', WHERE WHAT IT READS IS OF BULK AT MOST 1048576: true; the input reads as it did. -/
def sectionBackUptoRow : OpenClaim := { program := "ytokdjeoecnnckaa", sum := "e96d2a9ee787b076e5444061c35ced30ee13576e9037d67c6a70fc61e8aa5916", func := "serinette/serinettelaw15.SectionBack", spec := "sectionBack", unfollowed := true, recurses := true, apart := false, narrowed := true }
def SectionBackUptoSaid : Prop := sectionBackUptoRow.holds Try.pinned (OpenSpec.upto sectionBackSpec)

/-- 'serinettelaw15.SectionBest', WHERE WHAT IT READS IS OF BULK AT MOST 1048576: true; the input reads as it did. -/
def sectionBestUptoRow : OpenClaim := { program := "ytokdjeoecnnckaa", sum := "e96d2a9ee787b076e5444061c35ced30ee13576e9037d67c6a70fc61e8aa5916", func := "serinette/serinettelaw15.SectionBest", spec := "sectionBest", unfollowed := true, recurses := true, apart := false, narrowed := true }
def SectionBestUptoSaid : Prop := sectionBestUptoRow.holds Try.pinned (OpenSpec.upto sectionBestSpec)

/-- 'serinettelaw15.SectionCuts', WHERE WHAT IT READS IS OF BULK AT MOST 1048576: true; the input reads as it did. -/
def sectionCutsUptoRow : OpenClaim := { program := "ytokdjeoecnnckaa", sum := "e96d2a9ee787b076e5444061c35ced30ee13576e9037d67c6a70fc61e8aa5916", func := "serinette/serinettelaw15.SectionCuts", spec := "sectionCuts", unfollowed := true, recurses := true, apart := false, narrowed := true }
def SectionCutsUptoSaid : Prop := sectionCutsUptoRow.holds Try.pinned (OpenSpec.upto sectionCutsSpec)

end Rows
end Go.Proofs.Ytokdjeoecnnckaa
