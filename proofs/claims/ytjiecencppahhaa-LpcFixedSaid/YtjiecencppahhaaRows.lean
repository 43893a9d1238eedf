/-
  No cell of these rows narrows 'for every input' (looked for: loops, veiled, ifaces, maps, wideKeys, modest, calm, conditions, laid).
  DERIVED. THE GIVEN ROWS OF THIS SEAT. 7 by the template 'for every input the law returns true; each argument reads behind the call as it read before'; 0 by the template 'total and deterministic' (their statements: YtjiecencppahhaaTotals.lean).
  GIVEN WITH THE SEED: the statements are not yours to turn. If you find one false, say at which input.
  Laid BY PROGRAM, IN A SANDBOX (cutbox-rows.mjs): the forced cells as the released guide's own fill.sh prints them over the translation 55d84ce446195698… (all of the seat's roots in one cut). By AI agents, Wed Nov 11 2026. No macro, syntax, notation, axiom, sorry.
-/
import Derived.Test.YtjiecencppahhaaChecked
import GoSem.Claim
import GoSem.ClaimJoined
import GoSem.ClaimMapViews
import Derived.JoinedTies
import Derived.KernelRfl
namespace Go.Proofs.Ytjiecencppahhaa
/- THE CELL 'sum', in the pinned program and in every row, IS THE sha256 OF THE DUMP (.gsa) THAT YtjiecencppahhaaProg.lean LOADS. Nothing in Lean hashes anything: it is a label: what it is worth is what the hold of that sum in a sandbox is worth. -/
noncomputable def Try.pinned : Pinned := { name := "ytjiecencppahhaa", sum := "55d84ce446195698b639352a666a6a175c64a73cebe8fbfdb7862003a9d6e4ac", checked := Try.checked }
namespace Rows
def none {H : Type} : Left H := { results := [], args := [] }

/-- 'serinettelaw12.LpcTells': WHATEVER THE INPUT: true; the input reads as it did. -/
def lpcTellsSpec : ChangeSpec := { name := "lpcTells", fn := fun _ => fun
  | [d1, d2] => { results := [.lit (.bool true)], args := [d1, d2] }
  | _ => none }
def lpcTellsRow : OpenClaim := { program := "ytjiecencppahhaa", sum := "55d84ce446195698b639352a666a6a175c64a73cebe8fbfdb7862003a9d6e4ac", func := "serinette/serinettelaw12.LpcTells", spec := "lpcTells", unfollowed := true, recurses := true, apart := false }
def LpcTellsSaid : Prop := lpcTellsRow.holds Try.pinned (OpenSpec.ofChange lpcTellsSpec)

/-- ITS FALSE NEIGHBOUR: 'it returns false'. Refute it at one input. -/
def lpcTellsWrong : ChangeSpec := { name := "lpcTells", fn := fun _ => fun
  | [d1, d2] => { results := [.lit (.bool false)], args := [d1, d2] }
  | _ => none }
def LpcTellsWrongFalsely : Prop := lpcTellsRow.holds Try.pinned (OpenSpec.ofChange lpcTellsWrong)

/-- 'serinettelaw12.LpcRestores': WHATEVER THE INPUT: true; the input reads as it did. -/
def lpcRestoresSpec : ChangeSpec := { name := "lpcRestores", fn := fun _ => fun
  | [d1, d2, d3] => { results := [.lit (.bool true)], args := [d1, d2, d3] }
  | _ => none }
def lpcRestoresRow : OpenClaim := { program := "ytjiecencppahhaa", sum := "55d84ce446195698b639352a666a6a175c64a73cebe8fbfdb7862003a9d6e4ac", func := "serinette/serinettelaw12.LpcRestores", spec := "lpcRestores", unfollowed := true, recurses := true, apart := false }
def LpcRestoresSaid : Prop := lpcRestoresRow.holds Try.pinned (OpenSpec.ofChange lpcRestoresSpec)

/-- ITS FALSE NEIGHBOUR: 'it returns false'. Refute it at one input. -/
def lpcRestoresWrong : ChangeSpec := { name := "lpcRestores", fn := fun _ => fun
  | [d1, d2, d3] => { results := [.lit (.bool false)], args := [d1, d2, d3] }
  | _ => none }
def LpcRestoresWrongFalsely : Prop := lpcRestoresRow.holds Try.pinned (OpenSpec.ofChange lpcRestoresWrong)

/-- 'serinettelaw12.LpcBack': WHATEVER THE INPUT: true; the input reads as it did. -/
def lpcBackSpec : ChangeSpec := { name := "lpcBack", fn := fun _ => fun
  | [d1, d2] => { results := [.lit (.bool true)], args := [d1, d2] }
  | _ => none }
def lpcBackRow : OpenClaim := { program := "ytjiecencppahhaa", sum := "55d84ce446195698b639352a666a6a175c64a73cebe8fbfdb7862003a9d6e4ac", func := "serinette/serinettelaw12.LpcBack", spec := "lpcBack", unfollowed := true, recurses := true, apart := false }
def LpcBackSaid : Prop := lpcBackRow.holds Try.pinned (OpenSpec.ofChange lpcBackSpec)

/-- ITS FALSE NEIGHBOUR: 'it returns false'. Refute it at one input. -/
def lpcBackWrong : ChangeSpec := { name := "lpcBack", fn := fun _ => fun
  | [d1, d2] => { results := [.lit (.bool false)], args := [d1, d2] }
  | _ => none }
def LpcBackWrongFalsely : Prop := lpcBackRow.holds Try.pinned (OpenSpec.ofChange lpcBackWrong)

/-- 'serinettelaw12.LpcStays': WHATEVER THE INPUT: true; the input reads as it did. -/
def lpcStaysSpec : ChangeSpec := { name := "lpcStays", fn := fun _ => fun
  | [d1, d2, d3, d4] => { results := [.lit (.bool true)], args := [d1, d2, d3, d4] }
  | _ => none }
def lpcStaysRow : OpenClaim := { program := "ytjiecencppahhaa", sum := "55d84ce446195698b639352a666a6a175c64a73cebe8fbfdb7862003a9d6e4ac", func := "serinette/serinettelaw12.LpcStays", spec := "lpcStays", unfollowed := true, recurses := true, apart := false }
def LpcStaysSaid : Prop := lpcStaysRow.holds Try.pinned (OpenSpec.ofChange lpcStaysSpec)

/-- ITS FALSE NEIGHBOUR: 'it returns false'. Refute it at one input. -/
def lpcStaysWrong : ChangeSpec := { name := "lpcStays", fn := fun _ => fun
  | [d1, d2, d3, d4] => { results := [.lit (.bool false)], args := [d1, d2, d3, d4] }
  | _ => none }
def LpcStaysWrongFalsely : Prop := lpcStaysRow.holds Try.pinned (OpenSpec.ofChange lpcStaysWrong)

/-- 'serinettelaw12.LpcParts': WHATEVER THE INPUT: true; the input reads as it did. -/
def lpcPartsSpec : ChangeSpec := { name := "lpcParts", fn := fun _ => fun
  | [d1, d2, d3] => { results := [.lit (.bool true)], args := [d1, d2, d3] }
  | _ => none }
def lpcPartsRow : OpenClaim := { program := "ytjiecencppahhaa", sum := "55d84ce446195698b639352a666a6a175c64a73cebe8fbfdb7862003a9d6e4ac", func := "serinette/serinettelaw12.LpcParts", spec := "lpcParts", unfollowed := true, recurses := true, apart := false }
def LpcPartsSaid : Prop := lpcPartsRow.holds Try.pinned (OpenSpec.ofChange lpcPartsSpec)

/-- ITS FALSE NEIGHBOUR: 'it returns false'. Refute it at one input. -/
def lpcPartsWrong : ChangeSpec := { name := "lpcParts", fn := fun _ => fun
  | [d1, d2, d3] => { results := [.lit (.bool false)], args := [d1, d2, d3] }
  | _ => none }
def LpcPartsWrongFalsely : Prop := lpcPartsRow.holds Try.pinned (OpenSpec.ofChange lpcPartsWrong)

/-- 'serinettelaw12.LpcNone': WHATEVER THE INPUT: true; the input reads as it did. -/
def lpcNoneSpec : ChangeSpec := { name := "lpcNone", fn := fun _ => fun
  | [d1, d2, d3] => { results := [.lit (.bool true)], args := [d1, d2, d3] }
  | _ => none }
def lpcNoneRow : OpenClaim := { program := "ytjiecencppahhaa", sum := "55d84ce446195698b639352a666a6a175c64a73cebe8fbfdb7862003a9d6e4ac", func := "serinette/serinettelaw12.LpcNone", spec := "lpcNone", unfollowed := true, recurses := true, apart := false }
def LpcNoneSaid : Prop := lpcNoneRow.holds Try.pinned (OpenSpec.ofChange lpcNoneSpec)

/-- ITS FALSE NEIGHBOUR: 'it returns false'. Refute it at one input. -/
def lpcNoneWrong : ChangeSpec := { name := "lpcNone", fn := fun _ => fun
  | [d1, d2, d3] => { results := [.lit (.bool false)], args := [d1, d2, d3] }
  | _ => none }
def LpcNoneWrongFalsely : Prop := lpcNoneRow.holds Try.pinned (OpenSpec.ofChange lpcNoneWrong)

/-- 'serinettelaw12.LpcFixed': WHATEVER THE INPUT: true; the input reads as it did. -/
def lpcFixedSpec : ChangeSpec := { name := "lpcFixed", fn := fun _ => fun
  | [d1, d2, d3] => { results := [.lit (.bool true)], args := [d1, d2, d3] }
  | _ => none }
def lpcFixedRow : OpenClaim := { program := "ytjiecencppahhaa", sum := "55d84ce446195698b639352a666a6a175c64a73cebe8fbfdb7862003a9d6e4ac", func := "serinette/serinettelaw12.LpcFixed", spec := "lpcFixed", unfollowed := true, recurses := true, apart := false }
def LpcFixedSaid : Prop := lpcFixedRow.holds Try.pinned (OpenSpec.ofChange lpcFixedSpec)

/-- ITS FALSE NEIGHBOUR: 'it returns false'. Refute it at one input. -/
def lpcFixedWrong : ChangeSpec := { name := "lpcFixed", fn := fun _ => fun
  | [d1, d2, d3] => { results := [.lit (.bool false)], args := [d1, d2, d3] }
  | _ => none }
def LpcFixedWrongFalsely : Prop := lpcFixedRow.holds Try.pinned (OpenSpec.ofChange lpcFixedWrong)

/- THE SECOND FORM. 'bulk': how many values and letters a reading holds, each counted each time it is reached (what is shared counts as often as it is met; a slice's spare places count too). A statement '..UptoSaid' is the law's where the arguments, and the package variables that the reading takes, are together of bulk at most 1048576: NARROWER than '..Said'. Prove '..Said' where nothing that the law and all that it calls make is longer than what came in: it says more and counts as full. Else prove '..UptoSaid'. A law counts once. -/
mutual
def uptoBulk {H : Type} : DataW H → Nat
  | .lit (.string bytes) => bytes.length + 1
  | .lit _ => 1
  | .nil => 1
  | .ptr d => uptoBulk d + 1
  | .slice elems spare => uptoBulkAll elems + uptoBulkAll spare + 1
  | .agg parts => uptoBulkAll parts + 1
  | .iface _ d => uptoBulk d + 1
  | .map entries => uptoBulkEntries entries + 1
  | .held _ => 1
def uptoBulkAll {H : Type} : List (DataW H) → Nat
  | [] => 0
  | d :: r => uptoBulk d + uptoBulkAll r
def uptoBulkEntries {H : Type} : List (Lit × DataW H) → Nat
  | [] => 0
  | x :: r => uptoBulkEntry x + uptoBulkEntries r
def uptoBulkEntry {H : Type} : Lit × DataW H → Nat
  | (.string bytes, d) => bytes.length + uptoBulk d + 1
  | (_, d) => uptoBulk d + 1
 end
def uptoSmall : (H : Type) → List (DataW H) → Bool := fun _ ds => decide (uptoBulkAll ds ≤ 1048576)
def OpenSpec.upto (s : _root_.Go.ChangeSpec) : _root_.Go.OpenSpec := { _root_.Go.OpenSpec.ofChange s with cond := some uptoSmall }

/-- 'serinettelaw12.LpcTells', WHERE WHAT IT READS IS OF BULK AT MOST 1048576: true; the input reads as it did. -/
def lpcTellsUptoRow : OpenClaim := { program := "ytjiecencppahhaa", sum := "55d84ce446195698b639352a666a6a175c64a73cebe8fbfdb7862003a9d6e4ac", func := "serinette/serinettelaw12.LpcTells", spec := "lpcTells", unfollowed := true, recurses := true, apart := false, narrowed := true }
def LpcTellsUptoSaid : Prop := lpcTellsUptoRow.holds Try.pinned (OpenSpec.upto lpcTellsSpec)

/-- 'serinettelaw12.LpcRestores', WHERE WHAT IT READS IS OF BULK AT MOST 1048576: true; the input reads as it did. -/
def lpcRestoresUptoRow : OpenClaim := { program := "ytjiecencppahhaa", sum := "55d84ce446195698b639352a666a6a175c64a73cebe8fbfdb7862003a9d6e4ac", func := "serinette/serinettelaw12.LpcRestores", spec := "lpcRestores", unfollowed := true, recurses := true, apart := false, narrowed := true }
def LpcRestoresUptoSaid : Prop := lpcRestoresUptoRow.holds Try.pinned (OpenSpec.upto lpcRestoresSpec)

/-- 'serinettelaw12.LpcBack', WHERE WHAT IT READS IS OF BULK AT MOST 1048576: true; the input reads as it did. -/
def lpcBackUptoRow : OpenClaim := { program := "ytjiecencppahhaa", sum := "55d84ce446195698b639352a666a6a175c64a73cebe8fbfdb7862003a9d6e4ac", func := "serinette/serinettelaw12.LpcBack", spec := "lpcBack", unfollowed := true, recurses := true, apart := false, narrowed := true }
def LpcBackUptoSaid : Prop := lpcBackUptoRow.holds Try.pinned (OpenSpec.upto lpcBackSpec)

/-- 'serinettelaw12.LpcStays', WHERE WHAT IT READS IS OF BULK AT MOST 1048576: true; the input reads as it did. -/
def lpcStaysUptoRow : OpenClaim := { program := "ytjiecencppahhaa", sum := "55d84ce446195698b639352a666a6a175c64a73cebe8fbfdb7862003a9d6e4ac", func := "serinette/serinettelaw12.LpcStays", spec := "lpcStays", unfollowed := true, recurses := true, apart := false, narrowed := true }
def LpcStaysUptoSaid : Prop := lpcStaysUptoRow.holds Try.pinned (OpenSpec.upto lpcStaysSpec)

/-- 'serinettelaw12.LpcParts', WHERE WHAT IT READS IS OF BULK AT MOST 1048576: true; the input reads as it did. -/
def lpcPartsUptoRow : OpenClaim := { program := "ytjiecencppahhaa", sum := "55d84ce446195698b639352a666a6a175c64a73cebe8fbfdb7862003a9d6e4ac", func := "serinette/serinettelaw12.LpcParts", spec := "lpcParts", unfollowed := true, recurses := true, apart := false, narrowed := true }
def LpcPartsUptoSaid : Prop := lpcPartsUptoRow.holds Try.pinned (OpenSpec.upto lpcPartsSpec)

/-- 'serinettelaw12.LpcNone', WHERE WHAT IT READS IS OF BULK AT MOST 1048576: true; the input reads as it did. -/
def lpcNoneUptoRow : OpenClaim := { program := "ytjiecencppahhaa", sum := "55d84ce446195698b639352a666a6a175c64a73cebe8fbfdb7862003a9d6e4ac", func := "serinette/serinettelaw12.LpcNone", spec := "lpcNone", unfollowed := true, recurses := true, apart := false, narrowed := true }
def LpcNoneUptoSaid : Prop := lpcNoneUptoRow.holds Try.pinned (OpenSpec.upto lpcNoneSpec)

/-- 'serinettelaw12.LpcFixed', WHERE WHAT IT READS IS OF BULK AT MOST 1048576: true; the input reads as it did. -/
def lpcFixedUptoRow : OpenClaim := { program := "ytjiecencppahhaa", sum := "55d84ce446195698b639352a666a6a175c64a73cebe8fbfdb7862003a9d6e4ac", func := "serinette/serinettelaw12.LpcFixed", spec := "lpcFixed", unfollowed := true, recurses := true, apart := false, narrowed := true }
def LpcFixedUptoSaid : Prop := lpcFixedUptoRow.holds Try.pinned (OpenSpec.upto lpcFixedSpec)

end Rows
end Go.Proofs.Ytjiecencppahhaa
