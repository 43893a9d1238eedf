/-
  No cell of these rows narrows 'for every input' (looked for: loops, veiled, ifaces, maps, wideKeys, modest, calm, conditions, laid).
  DERIVED. THE GIVEN ROWS OF THIS SEAT. 6 by the template 'for every input the law returns true; each argument reads behind the call as it read before'; 0 by the template 'total and deterministic' (their statements: YtiojcihklmifgaaTotals.lean).
  GIVEN WITH THE SEED: the statements are not yours to turn. If you find one false, say at which input.
  Laid BY PROGRAM, IN A SANDBOX (cutbox-rows.mjs): the forced cells as the released guide's own fill.sh prints them over the translation e0c92008a0a58c18… (all of the seat's roots in one cut). By AI agents, Wed Nov 11 2026. No macro, syntax, notation, axiom, sorry.
-/
import Derived.Test.YtiojcihklmifgaaChecked
import GoSem.Claim
import GoSem.ClaimJoined
import GoSem.ClaimMapViews
import Derived.JoinedTies
import Derived.KernelRfl
namespace Go.Proofs.Ytiojcihklmifgaa
/- THE CELL 'sum', in the pinned program and in every row, IS THE sha256 OF THE DUMP (.gsa) THAT YtiojcihklmifgaaProg.lean LOADS. Nothing in Lean hashes anything: it is a label: what it is worth is what the hold of that sum in a sandbox is worth. -/
noncomputable def Try.pinned : Pinned := { name := "ytiojcihklmifgaa", sum := "e0c92008a0a58c1891e0023ca0ae41988c5d89a95572b1f33bdfea3c729bfece", checked := Try.checked }
namespace Rows
def none {H : Type} : Left H := { results := [], args := [] }

/-- 'serinettelaw07.FixedTells': WHATEVER THE INPUT: true; the input reads as it did. -/
def fixedTellsSpec : ChangeSpec := { name := "fixedTells", fn := fun _ => fun
  | [d1, d2] => { results := [.lit (.bool true)], args := [d1, d2] }
  | _ => none }
def fixedTellsRow : OpenClaim := { program := "ytiojcihklmifgaa", sum := "e0c92008a0a58c1891e0023ca0ae41988c5d89a95572b1f33bdfea3c729bfece", func := "serinette/serinettelaw07.FixedTells", spec := "fixedTells", apart := false }
def FixedTellsSaid : Prop := fixedTellsRow.holds Try.pinned (OpenSpec.ofChange fixedTellsSpec)

/-- ITS FALSE NEIGHBOUR: 'it returns false'. Refute it at one input. -/
def fixedTellsWrong : ChangeSpec := { name := "fixedTells", fn := fun _ => fun
  | [d1, d2] => { results := [.lit (.bool false)], args := [d1, d2] }
  | _ => none }
def FixedTellsWrongFalsely : Prop := fixedTellsRow.holds Try.pinned (OpenSpec.ofChange fixedTellsWrong)

/-- 'serinettelaw07.FixedRestores': WHATEVER THE INPUT: true; the input reads as it did. -/
def fixedRestoresSpec : ChangeSpec := { name := "fixedRestores", fn := fun _ => fun
  | [d1, d2] => { results := [.lit (.bool true)], args := [d1, d2] }
  | _ => none }
def fixedRestoresRow : OpenClaim := { program := "ytiojcihklmifgaa", sum := "e0c92008a0a58c1891e0023ca0ae41988c5d89a95572b1f33bdfea3c729bfece", func := "serinette/serinettelaw07.FixedRestores", spec := "fixedRestores", apart := false }
def FixedRestoresSaid : Prop := fixedRestoresRow.holds Try.pinned (OpenSpec.ofChange fixedRestoresSpec)

/-- ITS FALSE NEIGHBOUR: 'it returns false'. Refute it at one input. -/
def fixedRestoresWrong : ChangeSpec := { name := "fixedRestores", fn := fun _ => fun
  | [d1, d2] => { results := [.lit (.bool false)], args := [d1, d2] }
  | _ => none }
def FixedRestoresWrongFalsely : Prop := fixedRestoresRow.holds Try.pinned (OpenSpec.ofChange fixedRestoresWrong)

/-- 'serinettelaw07.FixedBack': WHATEVER THE INPUT: true; the input reads as it did. -/
def fixedBackSpec : ChangeSpec := { name := "fixedBack", fn := fun _ => fun
  | [d1, d2] => { results := [.lit (.bool true)], args := [d1, d2] }
  | _ => none }
def fixedBackRow : OpenClaim := { program := "ytiojcihklmifgaa", sum := "e0c92008a0a58c1891e0023ca0ae41988c5d89a95572b1f33bdfea3c729bfece", func := "serinette/serinettelaw07.FixedBack", spec := "fixedBack", apart := false }
def FixedBackSaid : Prop := fixedBackRow.holds Try.pinned (OpenSpec.ofChange fixedBackSpec)

/-- ITS FALSE NEIGHBOUR: 'it returns false'. Refute it at one input. -/
def fixedBackWrong : ChangeSpec := { name := "fixedBack", fn := fun _ => fun
  | [d1, d2] => { results := [.lit (.bool false)], args := [d1, d2] }
  | _ => none }
def FixedBackWrongFalsely : Prop := fixedBackRow.holds Try.pinned (OpenSpec.ofChange fixedBackWrong)

/-- 'serinettelaw07.FixedSteps': WHATEVER THE INPUT: true; the input reads as it did. -/
def fixedStepsSpec : ChangeSpec := { name := "fixedSteps", fn := fun _ => fun
  | [d1, d2] => { results := [.lit (.bool true)], args := [d1, d2] }
  | _ => none }
def fixedStepsRow : OpenClaim := { program := "ytiojcihklmifgaa", sum := "e0c92008a0a58c1891e0023ca0ae41988c5d89a95572b1f33bdfea3c729bfece", func := "serinette/serinettelaw07.FixedSteps", spec := "fixedSteps", apart := false }
def FixedStepsSaid : Prop := fixedStepsRow.holds Try.pinned (OpenSpec.ofChange fixedStepsSpec)

/-- ITS FALSE NEIGHBOUR: 'it returns false'. Refute it at one input. -/
def fixedStepsWrong : ChangeSpec := { name := "fixedSteps", fn := fun _ => fun
  | [d1, d2] => { results := [.lit (.bool false)], args := [d1, d2] }
  | _ => none }
def FixedStepsWrongFalsely : Prop := fixedStepsRow.holds Try.pinned (OpenSpec.ofChange fixedStepsWrong)

/-- 'serinettelaw07.FixedCurves': WHATEVER THE INPUT: true; the input reads as it did. -/
def fixedCurvesSpec : ChangeSpec := { name := "fixedCurves", fn := fun _ => fun
  | [d1, d2, d3, d4, d5] => { results := [.lit (.bool true)], args := [d1, d2, d3, d4, d5] }
  | _ => none }
def fixedCurvesRow : OpenClaim := { program := "ytiojcihklmifgaa", sum := "e0c92008a0a58c1891e0023ca0ae41988c5d89a95572b1f33bdfea3c729bfece", func := "serinette/serinettelaw07.FixedCurves", spec := "fixedCurves", apart := false }
def FixedCurvesSaid : Prop := fixedCurvesRow.holds Try.pinned (OpenSpec.ofChange fixedCurvesSpec)

/-- ITS FALSE NEIGHBOUR: 'it returns false'. Refute it at one input. -/
def fixedCurvesWrong : ChangeSpec := { name := "fixedCurves", fn := fun _ => fun
  | [d1, d2, d3, d4, d5] => { results := [.lit (.bool false)], args := [d1, d2, d3, d4, d5] }
  | _ => none }
def FixedCurvesWrongFalsely : Prop := fixedCurvesRow.holds Try.pinned (OpenSpec.ofChange fixedCurvesWrong)

/-- 'serinettelaw07.FixedSums': WHATEVER THE INPUT: true; the input reads as it did. -/
def fixedSumsSpec : ChangeSpec := { name := "fixedSums", fn := fun _ => fun
  | [d1, d2, d3] => { results := [.lit (.bool true)], args := [d1, d2, d3] }
  | _ => none }
def fixedSumsRow : OpenClaim := { program := "ytiojcihklmifgaa", sum := "e0c92008a0a58c1891e0023ca0ae41988c5d89a95572b1f33bdfea3c729bfece", func := "serinette/serinettelaw07.FixedSums", spec := "fixedSums", apart := false }
def FixedSumsSaid : Prop := fixedSumsRow.holds Try.pinned (OpenSpec.ofChange fixedSumsSpec)

/-- ITS FALSE NEIGHBOUR: 'it returns false'. Refute it at one input. -/
def fixedSumsWrong : ChangeSpec := { name := "fixedSums", fn := fun _ => fun
  | [d1, d2, d3] => { results := [.lit (.bool false)], args := [d1, d2, d3] }
  | _ => none }
def FixedSumsWrongFalsely : Prop := fixedSumsRow.holds Try.pinned (OpenSpec.ofChange fixedSumsWrong)

/- THE SECOND FORM. 'bulk': how many values and letters a reading holds, each counted each time it is reached (what is shared counts as often as it is met; a slice's spare places count too). A statement '..UptoSaid' is the law's where the arguments, and the package variables that the reading takes, are together of bulk at most 1048576: NARROWER than '..Said'. Prove '..Said' where nothing that the law and all that it calls make is longer than what came in: it says more and counts as full. Else prove '..UptoSaid'. A law counts once. -/
mutual
def uptoBulk {H : Type} : DataW H → Nat
  | .lit (.string bytes) => bytes.length + 1
  | .lit _ => 1
  | .nil => 1
  | .ptr d => uptoBulk d + 1
  | .slice elems spare => uptoBulkAll elems + uptoBulkAll spare + 1
  | .agg parts => uptoBulkAll parts + 1
  | .iface _ d => uptoBulk d + 1
  | .map entries => uptoBulkEntries entries + 1
  | .held _ => 1
def uptoBulkAll {H : Type} : List (DataW H) → Nat
  | [] => 0
  | d :: r => uptoBulk d + uptoBulkAll r
def uptoBulkEntries {H : Type} : List (Lit × DataW H) → Nat
  | [] => 0
  | x :: r => uptoBulkEntry x + uptoBulkEntries r
def uptoBulkEntry {H : Type} : Lit × DataW H → Nat
  | (.string bytes, d) => bytes.length + uptoBulk d + 1
  | (_, d) => uptoBulk d + 1
 end
def uptoSmall : (H : Type) → List (DataW H) → Bool := fun _ ds => decide (uptoBulkAll ds ≤ 1048576)
def OpenSpec.upto (s : _root_.Go.ChangeSpec) : _root_.Go.OpenSpec := { _root_.Go.OpenSpec.ofChange s with cond := some uptoSmall }

/-- 'serinettelaw07.FixedTells', WHERE WHAT IT READS IS OF BULK AT MOST 1048576: true; the input reads as it did. -/
def fixedTellsUptoRow : OpenClaim := { program := "ytiojcihklmifgaa", sum := "e0c92008a0a58c1891e0023ca0ae41988c5d89a95572b1f33bdfea3c729bfece", func := "serinette/serinettelaw07.FixedTells", spec := "fixedTells", apart := false, narrowed := true }
def FixedTellsUptoSaid : Prop := fixedTellsUptoRow.holds Try.pinned (OpenSpec.upto fixedTellsSpec)

/-- 'serinettelaw07.FixedRestores', WHERE WHAT IT READS IS OF BULK AT MOST 1048576: true; the input reads as it did. -/
def fixedRestoresUptoRow : OpenClaim := { program := "ytiojcihklmifgaa", sum := "e0c92008a0a58c1891e0023ca0ae41988c5d89a95572b1f33bdfea3c729bfece", func := "serinette/serinettelaw07.FixedRestores", spec := "fixedRestores", apart := false, narrowed := true }
def FixedRestoresUptoSaid : Prop := fixedRestoresUptoRow.holds Try.pinned (OpenSpec.upto fixedRestoresSpec)

/-- 'serinettelaw07.FixedBack', WHERE WHAT IT READS IS OF BULK AT MOST 1048576: true; the input reads as it did. -/
def fixedBackUptoRow : OpenClaim := { program := "ytiojcihklmifgaa", sum := "e0c92008a0a58c1891e0023ca0ae41988c5d89a95572b1f33bdfea3c729bfece", func := "serinette/serinettelaw07.FixedBack", spec := "fixedBack", apart := false, narrowed := true }
def FixedBackUptoSaid : Prop := fixedBackUptoRow.holds Try.pinned (OpenSpec.upto fixedBackSpec)

/-- 'serinettelaw07.FixedSteps', WHERE WHAT IT READS IS OF BULK AT MOST 1048576: true; the input reads as it did. -/
def fixedStepsUptoRow : OpenClaim := { program := "ytiojcihklmifgaa", sum := "e0c92008a0a58c1891e0023ca0ae41988c5d89a95572b1f33bdfea3c729bfece", func := "serinette/serinettelaw07.FixedSteps", spec := "fixedSteps", apart := false, narrowed := true }
def FixedStepsUptoSaid : Prop := fixedStepsUptoRow.holds Try.pinned (OpenSpec.upto fixedStepsSpec)

/-- 'serinettelaw07.FixedCurves', WHERE WHAT IT READS IS OF BULK AT MOST 1048576: true; the input reads as it did. -/
def fixedCurvesUptoRow : OpenClaim := { program := "ytiojcihklmifgaa", sum := "e0c92008a0a58c1891e0023ca0ae41988c5d89a95572b1f33bdfea3c729bfece", func := "serinette/serinettelaw07.FixedCurves", spec := "fixedCurves", apart := false, narrowed := true }
def FixedCurvesUptoSaid : Prop := fixedCurvesUptoRow.holds Try.pinned (OpenSpec.upto fixedCurvesSpec)

/-- 'serinettelaw07.FixedSums', WHERE WHAT IT READS IS OF BULK AT MOST 1048576: true; the input reads as it did. -/
def fixedSumsUptoRow : OpenClaim := { program := "ytiojcihklmifgaa", sum := "e0c92008a0a58c1891e0023ca0ae41988c5d89a95572b1f33bdfea3c729bfece", func := "serinette/serinettelaw07.FixedSums", spec := "fixedSums", apart := false, narrowed := true }
def FixedSumsUptoSaid : Prop := fixedSumsUptoRow.holds Try.pinned (OpenSpec.upto fixedSumsSpec)

end Rows
end Go.Proofs.Ytiojcihklmifgaa
