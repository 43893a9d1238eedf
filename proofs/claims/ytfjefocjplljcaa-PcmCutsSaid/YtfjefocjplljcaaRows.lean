/-
  No cell of these rows narrows 'for every input' (looked for: loops, veiled, ifaces, maps, wideKeys, modest, calm, conditions, laid).
  DERIVED. THE GIVEN ROWS OF THIS SEAT. 6 by the template 'for every input the law returns true; each argument reads behind the call as it read before'; 0 by the template 'total and deterministic' (their statements: YtfjefocjplljcaaTotals.lean).
  GIVEN WITH THE SEED: the statements are not yours to turn. If you find one false, say at which input.
  Laid BY PROGRAM, IN A SANDBOX (cutbox-rows.mjs): the forced cells as the released guide's own fill.sh prints them over the translation f8cf108b25edd514… (all of the seat's roots in one cut). By AI agents, Wed Nov 11 2026. No macro, syntax, notation, axiom, sorry.
-/
import Derived.Test.YtfjefocjplljcaaChecked
import GoSem.Claim
import GoSem.ClaimJoined
import GoSem.ClaimMapViews
import Derived.JoinedTies
import Derived.KernelRfl
namespace Go.Proofs.Ytfjefocjplljcaa
/- THE CELL 'sum', in the pinned program and in every row, IS THE sha256 OF THE DUMP (.gsa) THAT YtfjefocjplljcaaProg.lean LOADS. Nothing in Lean hashes anything: it is a label: what it is worth is what the hold of that sum in a sandbox is worth. -/
noncomputable def Try.pinned : Pinned := { name := "ytfjefocjplljcaa", sum := "f8cf108b25edd514f2592c97556e0e7e196f5e0468b70a9fb52ad8908dfcbdd3", checked := Try.checked }
namespace Rows
def none {H : Type} : Left H := { results := [], args := [] }

/-- 'serinettelaw06.PcmChecks': WHATEVER THE INPUT: true; the input reads as it did. -/
def pcmChecksSpec : ChangeSpec := { name := "pcmChecks", fn := fun _ => fun
  | [d1, d2, d3] => { results := [.lit (.bool true)], args := [d1, d2, d3] }
  | _ => none }
def pcmChecksRow : OpenClaim := { program := "ytfjefocjplljcaa", sum := "f8cf108b25edd514f2592c97556e0e7e196f5e0468b70a9fb52ad8908dfcbdd3", func := "serinette/serinettelaw06.PcmChecks", spec := "pcmChecks", unfollowed := true, recurses := true, apart := false }
def PcmChecksSaid : Prop := pcmChecksRow.holds Try.pinned (OpenSpec.ofChange pcmChecksSpec)

/-- ITS FALSE NEIGHBOUR: 'it returns false'. Refute it at one input. -/
def pcmChecksWrong : ChangeSpec := { name := "pcmChecks", fn := fun _ => fun
  | [d1, d2, d3] => { results := [.lit (.bool false)], args := [d1, d2, d3] }
  | _ => none }
def PcmChecksWrongFalsely : Prop := pcmChecksRow.holds Try.pinned (OpenSpec.ofChange pcmChecksWrong)

/-- 'serinettelaw06.PcmDepths': WHATEVER THE INPUT: true; the input reads as it did. -/
def pcmDepthsSpec : ChangeSpec := { name := "pcmDepths", fn := fun _ => fun
  | [d1, d2] => { results := [.lit (.bool true)], args := [d1, d2] }
  | _ => none }
def pcmDepthsRow : OpenClaim := { program := "ytfjefocjplljcaa", sum := "f8cf108b25edd514f2592c97556e0e7e196f5e0468b70a9fb52ad8908dfcbdd3", func := "serinette/serinettelaw06.PcmDepths", spec := "pcmDepths", unfollowed := true, recurses := true, apart := false }
def PcmDepthsSaid : Prop := pcmDepthsRow.holds Try.pinned (OpenSpec.ofChange pcmDepthsSpec)

/-- ITS FALSE NEIGHBOUR: 'it returns false'. Refute it at one input. -/
def pcmDepthsWrong : ChangeSpec := { name := "pcmDepths", fn := fun _ => fun
  | [d1, d2] => { results := [.lit (.bool false)], args := [d1, d2] }
  | _ => none }
def PcmDepthsWrongFalsely : Prop := pcmDepthsRow.holds Try.pinned (OpenSpec.ofChange pcmDepthsWrong)

/-- 'serinettelaw06.PcmBytes': WHATEVER THE INPUT: true; the input reads as it did. -/
def pcmBytesSpec : ChangeSpec := { name := "pcmBytes", fn := fun _ => fun
  | [d1, d2, d3, d4, d5] => { results := [.lit (.bool true)], args := [d1, d2, d3, d4, d5] }
  | _ => none }
def pcmBytesRow : OpenClaim := { program := "ytfjefocjplljcaa", sum := "f8cf108b25edd514f2592c97556e0e7e196f5e0468b70a9fb52ad8908dfcbdd3", func := "serinette/serinettelaw06.PcmBytes", spec := "pcmBytes", unfollowed := true, recurses := true, apart := false }
def PcmBytesSaid : Prop := pcmBytesRow.holds Try.pinned (OpenSpec.ofChange pcmBytesSpec)

/-- ITS FALSE NEIGHBOUR: 'it returns false'. Refute it at one input. -/
def pcmBytesWrong : ChangeSpec := { name := "pcmBytes", fn := fun _ => fun
  | [d1, d2, d3, d4, d5] => { results := [.lit (.bool false)], args := [d1, d2, d3, d4, d5] }
  | _ => none }
def PcmBytesWrongFalsely : Prop := pcmBytesRow.holds Try.pinned (OpenSpec.ofChange pcmBytesWrong)

/-- 'serinettelaw06.PcmBack': WHATEVER THE INPUT: true; the input reads as it did. -/
def pcmBackSpec : ChangeSpec := { name := "pcmBack", fn := fun _ => fun
  | [d1, d2, d3, d4, d5] => { results := [.lit (.bool true)], args := [d1, d2, d3, d4, d5] }
  | _ => none }
def pcmBackRow : OpenClaim := { program := "ytfjefocjplljcaa", sum := "f8cf108b25edd514f2592c97556e0e7e196f5e0468b70a9fb52ad8908dfcbdd3", func := "serinette/serinettelaw06.PcmBack", spec := "pcmBack", unfollowed := true, recurses := true, apart := false }
def PcmBackSaid : Prop := pcmBackRow.holds Try.pinned (OpenSpec.ofChange pcmBackSpec)

/-- ITS FALSE NEIGHBOUR: 'it returns false'. Refute it at one input. -/
def pcmBackWrong : ChangeSpec := { name := "pcmBack", fn := fun _ => fun
  | [d1, d2, d3, d4, d5] => { results := [.lit (.bool false)], args := [d1, d2, d3, d4, d5] }
  | _ => none }
def PcmBackWrongFalsely : Prop := pcmBackRow.holds Try.pinned (OpenSpec.ofChange pcmBackWrong)

/-- 'serinettelaw06.PcmParts': WHATEVER THE INPUT: true; the input reads as it did. -/
def pcmPartsSpec : ChangeSpec := { name := "pcmParts", fn := fun _ => fun
  | [d1, d2, d3, d4] => { results := [.lit (.bool true)], args := [d1, d2, d3, d4] }
  | _ => none }
def pcmPartsRow : OpenClaim := { program := "ytfjefocjplljcaa", sum := "f8cf108b25edd514f2592c97556e0e7e196f5e0468b70a9fb52ad8908dfcbdd3", func := "serinette/serinettelaw06.PcmParts", spec := "pcmParts", unfollowed := true, recurses := true, apart := false }
def PcmPartsSaid : Prop := pcmPartsRow.holds Try.pinned (OpenSpec.ofChange pcmPartsSpec)

/-- ITS FALSE NEIGHBOUR: 'it returns false'. Refute it at one input. -/
def pcmPartsWrong : ChangeSpec := { name := "pcmParts", fn := fun _ => fun
  | [d1, d2, d3, d4] => { results := [.lit (.bool false)], args := [d1, d2, d3, d4] }
  | _ => none }
def PcmPartsWrongFalsely : Prop := pcmPartsRow.holds Try.pinned (OpenSpec.ofChange pcmPartsWrong)

/-- 'serinettelaw06.PcmCuts': WHATEVER THE INPUT: true; the input reads as it did. -/
def pcmCutsSpec : ChangeSpec := { name := "pcmCuts", fn := fun _ => fun
  | [d1, d2] => { results := [.lit (.bool true)], args := [d1, d2] }
  | _ => none }
def pcmCutsRow : OpenClaim := { program := "ytfjefocjplljcaa", sum := "f8cf108b25edd514f2592c97556e0e7e196f5e0468b70a9fb52ad8908dfcbdd3", func := "serinette/serinettelaw06.PcmCuts", spec := "pcmCuts", unfollowed := true, recurses := true, apart := false }
def PcmCutsSaid : Prop := pcmCutsRow.holds Try.pinned (OpenSpec.ofChange pcmCutsSpec)

/-- ITS FALSE NEIGHBOUR: 'it returns false'. Refute it at one input. -/
def pcmCutsWrong : ChangeSpec := { name := "pcmCuts", fn := fun _ => fun
  | [d1, d2] => { results := [.lit (.bool false)], args := [d1, d2] }
  | _ => none }
def PcmCutsWrongFalsely : Prop := pcmCutsRow.holds Try.pinned (OpenSpec.ofChange pcmCutsWrong)

/- THE SECOND FORM. 'bulk': how many values and letters a reading holds, each counted each time it is reached (what is shared counts as often as it is met; a slice's spare places count too). A statement '..UptoSaid' is the law's where the arguments, and the package variables that the reading takes, are together of bulk at most 1048576: NARROWER than '..Said'. Prove '..Said' where nothing that the law and all that it calls make is longer than what came in: it says more and counts as full. Else prove '..UptoSaid'. A law counts once. -/
mutual
def uptoBulk {H : Type} : DataW H → Nat
  | .lit (.string bytes) => bytes.length + 1
  | .lit _ => 1
  | .nil => 1
  | .ptr d => uptoBulk d + 1
  | .slice elems spare => uptoBulkAll elems + uptoBulkAll spare + 1
  | .agg parts => uptoBulkAll parts + 1
  | .iface _ d => uptoBulk d + 1
  | .map entries => uptoBulkEntries entries + 1
  | .held _ => 1
def uptoBulkAll {H : Type} : List (DataW H) → Nat
  | [] => 0
  | d :: r => uptoBulk d + uptoBulkAll r
def uptoBulkEntries {H : Type} : List (Lit × DataW H) → Nat
  | [] => 0
  | x :: r => uptoBulkEntry x + uptoBulkEntries r
def uptoBulkEntry {H : Type} : Lit × DataW H → Nat
  | (.string bytes, d) => bytes.length + uptoBulk d + 1
  | (_, d) => uptoBulk d + 1
 end
def uptoSmall : (H : Type) → List (DataW H) → Bool := fun _ ds => decide (uptoBulkAll ds ≤ 1048576)
def OpenSpec.upto (s : _root_.Go.ChangeSpec) : _root_.Go.OpenSpec := { _root_.Go.OpenSpec.ofChange s with cond := some uptoSmall }

/-- 'serinettelaw06.PcmChecks', WHERE WHAT IT READS IS OF BULK AT MOST 1048576: true; the input reads as it did. -/
def pcmChecksUptoRow : OpenClaim := { program := "ytfjefocjplljcaa", sum := "f8cf108b25edd514f2592c97556e0e7e196f5e0468b70a9fb52ad8908dfcbdd3", func := "serinette/serinettelaw06.PcmChecks", spec := "pcmChecks", unfollowed := true, recurses := true, apart := false, narrowed := true }
def PcmChecksUptoSaid : Prop := pcmChecksUptoRow.holds Try.pinned (OpenSpec.upto pcmChecksSpec)

/-- 'serinettelaw06.PcmDepths', WHERE WHAT IT READS IS OF BULK AT MOST 1048576: true; the input reads as it did. -/
def pcmDepthsUptoRow : OpenClaim := { program := "ytfjefocjplljcaa", sum := "f8cf108b25edd514f2592c97556e0e7e196f5e0468b70a9fb52ad8908dfcbdd3", func := "serinette/serinettelaw06.PcmDepths", spec := "pcmDepths", unfollowed := true, recurses := true, apart := false, narrowed := true }
def PcmDepthsUptoSaid : Prop := pcmDepthsUptoRow.holds Try.pinned (OpenSpec.upto pcmDepthsSpec)

/-- 'serinettelaw06.PcmBytes', WHERE WHAT IT READS IS OF BULK AT MOST 1048576: true; the input reads as it did. -/
def pcmBytesUptoRow : OpenClaim := { program := "ytfjefocjplljcaa", sum := "f8cf108b25edd514f2592c97556e0e7e196f5e0468b70a9fb52ad8908dfcbdd3", func := "serinette/serinettelaw06.PcmBytes", spec := "pcmBytes", unfollowed := true, recurses := true, apart := false, narrowed := true }
def PcmBytesUptoSaid : Prop := pcmBytesUptoRow.holds Try.pinned (OpenSpec.upto pcmBytesSpec)

/-- 'serinettelaw06.PcmBack', WHERE WHAT IT READS IS OF BULK AT MOST 1048576: true; the input reads as it did. -/
def pcmBackUptoRow : OpenClaim := { program := "ytfjefocjplljcaa", sum := "f8cf108b25edd514f2592c97556e0e7e196f5e0468b70a9fb52ad8908dfcbdd3", func := "serinette/serinettelaw06.PcmBack", spec := "pcmBack", unfollowed := true, recurses := true, apart := false, narrowed := true }
def PcmBackUptoSaid : Prop := pcmBackUptoRow.holds Try.pinned (OpenSpec.upto pcmBackSpec)

/-- 'serinettelaw06.PcmParts', WHERE WHAT IT READS IS OF BULK AT MOST 1048576: true; the input reads as it did. -/
def pcmPartsUptoRow : OpenClaim := { program := "ytfjefocjplljcaa", sum := "f8cf108b25edd514f2592c97556e0e7e196f5e0468b70a9fb52ad8908dfcbdd3", func := "serinette/serinettelaw06.PcmParts", spec := "pcmParts", unfollowed := true, recurses := true, apart := false, narrowed := true }
def PcmPartsUptoSaid : Prop := pcmPartsUptoRow.holds Try.pinned (OpenSpec.upto pcmPartsSpec)

/-- 'serinettelaw06.PcmCuts', WHERE WHAT IT READS IS OF BULK AT MOST 1048576: true; the input reads as it did. -/
def pcmCutsUptoRow : OpenClaim := { program := "ytfjefocjplljcaa", sum := "f8cf108b25edd514f2592c97556e0e7e196f5e0468b70a9fb52ad8908dfcbdd3", func := "serinette/serinettelaw06.PcmCuts", spec := "pcmCuts", unfollowed := true, recurses := true, apart := false, narrowed := true }
def PcmCutsUptoSaid : Prop := pcmCutsUptoRow.holds Try.pinned (OpenSpec.upto pcmCutsSpec)

end Rows
end Go.Proofs.Ytfjefocjplljcaa
