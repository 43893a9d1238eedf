/-
  No cell of these rows narrows 'for every input' (looked for: loops, veiled, ifaces, maps, wideKeys, modest, calm, conditions, laid).
  DERIVED. THE GIVEN ROWS OF THIS SEAT. 6 by the template 'for every input the law returns true; each argument reads behind the call as it read before'; 0 by the template 'total and deterministic' (their statements: YtdologjfcmidlaaTotals.lean).
  GIVEN WITH THE SEED: the statements are not yours to turn. If you find one false, say at which input.
  Laid BY PROGRAM, IN A SANDBOX (cutbox-rows.mjs): the forced cells as the released guide's own fill.sh prints them over the translation f376cc05ca42c70a… (all of the seat's roots in one cut). By AI agents, Wed Nov 11 2026. No macro, syntax, notation, axiom, sorry.
-/
import Derived.Test.YtdologjfcmidlaaChecked
import GoSem.Claim
import GoSem.ClaimJoined
import GoSem.ClaimMapViews
import Derived.JoinedTies
import Derived.KernelRfl
namespace Go.Proofs.Ytdologjfcmidlaa
/- THE CELL 'sum', in the pinned program and in every row, IS THE sha256 OF THE DUMP (.gsa) THAT YtdologjfcmidlaaProg.lean LOADS. Nothing in Lean hashes anything: it is a label: what it is worth is what the hold of that sum in a sandbox is worth. -/
noncomputable def Try.pinned : Pinned := { name := "ytdologjfcmidlaa", sum := "f376cc05ca42c70a9de650d07ae1e431b3217222657e07f743aae6945f1834f8", checked := Try.checked }
namespace Rows
def none {H : Type} : Left H := { results := [], args := [] }

/-- 'serinettelaw13.CostBest': WHATEVER THE INPUT: true; the input reads as it did. -/
def costBestSpec : ChangeSpec := { name := "costBest", fn := fun _ => fun
  | [d1, d2] => { results := [.lit (.bool true)], args := [d1, d2] }
  | _ => none }
def costBestRow : OpenClaim := { program := "ytdologjfcmidlaa", sum := "f376cc05ca42c70a9de650d07ae1e431b3217222657e07f743aae6945f1834f8", func := "serinette/serinettelaw13.CostBest", spec := "costBest", unfollowed := true, recurses := true, apart := false }
def CostBestSaid : Prop := costBestRow.holds Try.pinned (OpenSpec.ofChange costBestSpec)

/-- ITS FALSE NEIGHBOUR: 'it returns false'. Refute it at one input. -/
def costBestWrong : ChangeSpec := { name := "costBest", fn := fun _ => fun
  | [d1, d2] => { results := [.lit (.bool false)], args := [d1, d2] }
  | _ => none }
def CostBestWrongFalsely : Prop := costBestRow.holds Try.pinned (OpenSpec.ofChange costBestWrong)

/-- 'serinettelaw13.CostParts': WHATEVER THE INPUT: true; the input reads as it did. -/
def costPartsSpec : ChangeSpec := { name := "costParts", fn := fun _ => fun
  | [d1, d2, d3, d4] => { results := [.lit (.bool true)], args := [d1, d2, d3, d4] }
  | _ => none }
def costPartsRow : OpenClaim := { program := "ytdologjfcmidlaa", sum := "f376cc05ca42c70a9de650d07ae1e431b3217222657e07f743aae6945f1834f8", func := "serinette/serinettelaw13.CostParts", spec := "costParts", unfollowed := true, recurses := true, apart := false }
def CostPartsSaid : Prop := costPartsRow.holds Try.pinned (OpenSpec.ofChange costPartsSpec)

/-- ITS FALSE NEIGHBOUR: 'it returns false'. Refute it at one input. -/
def costPartsWrong : ChangeSpec := { name := "costParts", fn := fun _ => fun
  | [d1, d2, d3, d4] => { results := [.lit (.bool false)], args := [d1, d2, d3, d4] }
  | _ => none }
def CostPartsWrongFalsely : Prop := costPartsRow.holds Try.pinned (OpenSpec.ofChange costPartsWrong)

/-- 'serinettelaw13.CostOrder': WHATEVER THE INPUT: true; the input reads as it did. -/
def costOrderSpec : ChangeSpec := { name := "costOrder", fn := fun _ => fun
  | [d1, d2, d3] => { results := [.lit (.bool true)], args := [d1, d2, d3] }
  | _ => none }
def costOrderRow : OpenClaim := { program := "ytdologjfcmidlaa", sum := "f376cc05ca42c70a9de650d07ae1e431b3217222657e07f743aae6945f1834f8", func := "serinette/serinettelaw13.CostOrder", spec := "costOrder", unfollowed := true, recurses := true, apart := false }
def CostOrderSaid : Prop := costOrderRow.holds Try.pinned (OpenSpec.ofChange costOrderSpec)

/-- ITS FALSE NEIGHBOUR: 'it returns false'. Refute it at one input. -/
def costOrderWrong : ChangeSpec := { name := "costOrder", fn := fun _ => fun
  | [d1, d2, d3] => { results := [.lit (.bool false)], args := [d1, d2, d3] }
  | _ => none }
def CostOrderWrongFalsely : Prop := costOrderRow.holds Try.pinned (OpenSpec.ofChange costOrderWrong)

/-- 'serinettelaw13.CostTells': WHATEVER THE INPUT: true; the input reads as it did. -/
def costTellsSpec : ChangeSpec := { name := "costTells", fn := fun _ => fun
  | [d1, d2, d3] => { results := [.lit (.bool true)], args := [d1, d2, d3] }
  | _ => none }
def costTellsRow : OpenClaim := { program := "ytdologjfcmidlaa", sum := "f376cc05ca42c70a9de650d07ae1e431b3217222657e07f743aae6945f1834f8", func := "serinette/serinettelaw13.CostTells", spec := "costTells", unfollowed := true, recurses := true, apart := false }
def CostTellsSaid : Prop := costTellsRow.holds Try.pinned (OpenSpec.ofChange costTellsSpec)

/-- ITS FALSE NEIGHBOUR: 'it returns false'. Refute it at one input. -/
def costTellsWrong : ChangeSpec := { name := "costTells", fn := fun _ => fun
  | [d1, d2, d3] => { results := [.lit (.bool false)], args := [d1, d2, d3] }
  | _ => none }
def CostTellsWrongFalsely : Prop := costTellsRow.holds Try.pinned (OpenSpec.ofChange costTellsWrong)

/-- 'serinettelaw13.CostLeast': WHATEVER THE INPUT: true; the input reads as it did. -/
def costLeastSpec : ChangeSpec := { name := "costLeast", fn := fun _ => fun
  | [d1, d2, d3, d4] => { results := [.lit (.bool true)], args := [d1, d2, d3, d4] }
  | _ => none }
def costLeastRow : OpenClaim := { program := "ytdologjfcmidlaa", sum := "f376cc05ca42c70a9de650d07ae1e431b3217222657e07f743aae6945f1834f8", func := "serinette/serinettelaw13.CostLeast", spec := "costLeast", unfollowed := true, recurses := true, apart := false }
def CostLeastSaid : Prop := costLeastRow.holds Try.pinned (OpenSpec.ofChange costLeastSpec)

/-- ITS FALSE NEIGHBOUR: 'it returns false'. Refute it at one input. -/
def costLeastWrong : ChangeSpec := { name := "costLeast", fn := fun _ => fun
  | [d1, d2, d3, d4] => { results := [.lit (.bool false)], args := [d1, d2, d3, d4] }
  | _ => none }
def CostLeastWrongFalsely : Prop := costLeastRow.holds Try.pinned (OpenSpec.ofChange costLeastWrong)

/-- 'serinettelaw13.CostWritten': WHATEVER THE INPUT: true; the input reads as it did. -/
def costWrittenSpec : ChangeSpec := { name := "costWritten", fn := fun _ => fun
  | [d1, d2] => { results := [.lit (.bool true)], args := [d1, d2] }
  | _ => none }
def costWrittenRow : OpenClaim := { program := "ytdologjfcmidlaa", sum := "f376cc05ca42c70a9de650d07ae1e431b3217222657e07f743aae6945f1834f8", func := "serinette/serinettelaw13.CostWritten", spec := "costWritten", unfollowed := true, recurses := true, apart := false }
def CostWrittenSaid : Prop := costWrittenRow.holds Try.pinned (OpenSpec.ofChange costWrittenSpec)

/-- ITS FALSE NEIGHBOUR: 'it returns false'. Refute it at one input. -/
def costWrittenWrong : ChangeSpec := { name := "costWritten", fn := fun _ => fun
  | [d1, d2] => { results := [.lit (.bool false)], args := [d1, d2] }
  | _ => none }
def CostWrittenWrongFalsely : Prop := costWrittenRow.holds Try.pinned (OpenSpec.ofChange costWrittenWrong)

/- THE SECOND FORM. 'bulk': how many values and letters a reading holds, each counted each time it is reached (what is shared counts as often as it is met; a slice's spare places count too). A statement '..UptoSaid' is the law's where the arguments, and the package variables that the reading takes, are together of bulk at most 1048576: NARROWER than '..Said'. Prove '..Said' where nothing that the law and all that it calls make is longer than what came in: it says more and counts as full. Else prove '..UptoSaid'. A law counts once. -/
mutual
def uptoBulk {H : Type} : DataW H → Nat
  | .lit (.string bytes) => bytes.length + 1
  | .lit _ => 1
  | .nil => 1
  | .ptr d => uptoBulk d + 1
  | .slice elems spare => uptoBulkAll elems + uptoBulkAll spare + 1
  | .agg parts => uptoBulkAll parts + 1
  | .iface _ d => uptoBulk d + 1
  | .map entries => uptoBulkEntries entries + 1
  | .held _ => 1
def uptoBulkAll {H : Type} : List (DataW H) → Nat
  | [] => 0
  | d :: r => uptoBulk d + uptoBulkAll r
def uptoBulkEntries {H : Type} : List (Lit × DataW H) → Nat
  | [] => 0
  | x :: r => uptoBulkEntry x + uptoBulkEntries r
def uptoBulkEntry {H : Type} : Lit × DataW H → Nat
  | (.string bytes, d) => bytes.length + uptoBulk d + 1
  | (_, d) => uptoBulk d + 1
 end
def uptoSmall : (H : Type) → List (DataW H) → Bool := fun _ ds => decide (uptoBulkAll ds ≤ 1048576)
def OpenSpec.upto (s : _root_.Go.ChangeSpec) : _root_.Go.OpenSpec := { _root_.Go.OpenSpec.ofChange s with cond := some uptoSmall }

/-- 'serinettelaw13.CostBest', WHERE WHAT IT READS IS OF BULK AT MOST 1048576: true; the input reads as it did. -/
def costBestUptoRow : OpenClaim := { program := "ytdologjfcmidlaa", sum := "f376cc05ca42c70a9de650d07ae1e431b3217222657e07f743aae6945f1834f8", func := "serinette/serinettelaw13.CostBest", spec := "costBest", unfollowed := true, recurses := true, apart := false, narrowed := true }
def CostBestUptoSaid : Prop := costBestUptoRow.holds Try.pinned (OpenSpec.upto costBestSpec)

/-- 'serinettelaw13.CostParts', WHERE WHAT IT READS IS OF BULK AT MOST 1048576: true; the input reads as it did. -/
def costPartsUptoRow : OpenClaim := { program := "ytdologjfcmidlaa", sum := "f376cc05ca42c70a9de650d07ae1e431b3217222657e07f743aae6945f1834f8", func := "serinette/serinettelaw13.CostParts", spec := "costParts", unfollowed := true, recurses := true, apart := false, narrowed := true }
def CostPartsUptoSaid : Prop := costPartsUptoRow.holds Try.pinned (OpenSpec.upto costPartsSpec)

/-- 'serinettelaw13.CostOrder', WHERE WHAT IT READS IS OF BULK AT MOST 1048576: true; the input reads as it did. -/
def costOrderUptoRow : OpenClaim := { program := "ytdologjfcmidlaa", sum := "f376cc05ca42c70a9de650d07ae1e431b3217222657e07f743aae6945f1834f8", func := "serinette/serinettelaw13.CostOrder", spec := "costOrder", unfollowed := true, recurses := true, apart := false, narrowed := true }
def CostOrderUptoSaid : Prop := costOrderUptoRow.holds Try.pinned (OpenSpec.upto costOrderSpec)

/-- 'serinettelaw13.CostTells', WHERE WHAT IT READS IS OF BULK AT MOST 1048576: true; the input reads as it did. -/
def costTellsUptoRow : OpenClaim := { program := "ytdologjfcmidlaa", sum := "f376cc05ca42c70a9de650d07ae1e431b3217222657e07f743aae6945f1834f8", func := "serinette/serinettelaw13.CostTells", spec := "costTells", unfollowed := true, recurses := true, apart := false, narrowed := true }
def CostTellsUptoSaid : Prop := costTellsUptoRow.holds Try.pinned (OpenSpec.upto costTellsSpec)

/-- 'serinettelaw13.CostLeast', WHERE WHAT IT READS IS OF BULK AT MOST 1048576: true; the input reads as it did. -/
def costLeastUptoRow : OpenClaim := { program := "ytdologjfcmidlaa", sum := "f376cc05ca42c70a9de650d07ae1e431b3217222657e07f743aae6945f1834f8", func := "serinette/serinettelaw13.CostLeast", spec := "costLeast", unfollowed := true, recurses := true, apart := false, narrowed := true }
def CostLeastUptoSaid : Prop := costLeastUptoRow.holds Try.pinned (OpenSpec.upto costLeastSpec)

/-- 'serinettelaw13.CostWritten', WHERE WHAT IT READS IS OF BULK AT MOST 1048576: true; the input reads as it did. -/
def costWrittenUptoRow : OpenClaim := { program := "ytdologjfcmidlaa", sum := "f376cc05ca42c70a9de650d07ae1e431b3217222657e07f743aae6945f1834f8", func := "serinette/serinettelaw13.CostWritten", spec := "costWritten", unfollowed := true, recurses := true, apart := false, narrowed := true }
def CostWrittenUptoSaid : Prop := costWrittenUptoRow.holds Try.pinned (OpenSpec.upto costWrittenSpec)

end Rows
end Go.Proofs.Ytdologjfcmidlaa
