/-
  No cell of these rows narrows 'for every input' (looked for: loops, veiled, ifaces, maps, wideKeys, modest, calm, conditions, laid).
  DERIVED. THE GIVEN ROWS OF THIS SEAT. 6 by the template 'for every input the law returns true; each argument reads behind the call as it read before'; 0 by the template 'total and deterministic' (their statements: YtcdnabonljmegaaTotals.lean).
  GIVEN WITH THE SEED: the statements are not yours to turn. If you find one false, say at which input.
  Laid BY PROGRAM, IN A SANDBOX (cutbox-rows.mjs): the forced cells as the released guide's own fill.sh prints them over the translation a45430a6fd86c078… (all of the seat's roots in one cut). By AI agents, Wed Nov 11 2026. No macro, syntax, notation, axiom, sorry.
-/
import Derived.Test.YtcdnabonljmegaaChecked
import GoSem.Claim
import GoSem.ClaimJoined
import GoSem.ClaimMapViews
import Derived.JoinedTies
import Derived.KernelRfl
namespace Go.Proofs.Ytcdnabonljmegaa
/- THE CELL 'sum', in the pinned program and in every row, IS THE sha256 OF THE DUMP (.gsa) THAT YtcdnabonljmegaaProg.lean LOADS. Nothing in Lean hashes anything: it is a label: what it is worth is what the hold of that sum in a sandbox is worth. -/
noncomputable def Try.pinned : Pinned := { name := "ytcdnabonljmegaa", sum := "a45430a6fd86c0789bda0ceec82a0cdc7fc24278449e825cc791db34f6dc423f", checked := Try.checked }
namespace Rows
def none {H : Type} : Left H := { results := [], args := [] }

/-- 'serinettelaw01.BitsPut': WHATEVER THE INPUT: true; the input reads as it did. -/
def bitsPutSpec : ChangeSpec := { name := "bitsPut", fn := fun _ => fun
  | [d1, d2, d3] => { results := [.lit (.bool true)], args := [d1, d2, d3] }
  | _ => none }
def bitsPutRow : OpenClaim := { program := "ytcdnabonljmegaa", sum := "a45430a6fd86c0789bda0ceec82a0cdc7fc24278449e825cc791db34f6dc423f", func := "serinette/serinettelaw01.BitsPut", spec := "bitsPut", apart := false }
def BitsPutSaid : Prop := bitsPutRow.holds Try.pinned (OpenSpec.ofChange bitsPutSpec)

/-- ITS FALSE NEIGHBOUR: 'it returns false'. Refute it at one input. -/
def bitsPutWrong : ChangeSpec := { name := "bitsPut", fn := fun _ => fun
  | [d1, d2, d3] => { results := [.lit (.bool false)], args := [d1, d2, d3] }
  | _ => none }
def BitsPutWrongFalsely : Prop := bitsPutRow.holds Try.pinned (OpenSpec.ofChange bitsPutWrong)

/-- 'serinettelaw01.BitsSplit': WHATEVER THE INPUT: true; the input reads as it did. -/
def bitsSplitSpec : ChangeSpec := { name := "bitsSplit", fn := fun _ => fun
  | [d1, d2, d3, d4] => { results := [.lit (.bool true)], args := [d1, d2, d3, d4] }
  | _ => none }
def bitsSplitRow : OpenClaim := { program := "ytcdnabonljmegaa", sum := "a45430a6fd86c0789bda0ceec82a0cdc7fc24278449e825cc791db34f6dc423f", func := "serinette/serinettelaw01.BitsSplit", spec := "bitsSplit", apart := false }
def BitsSplitSaid : Prop := bitsSplitRow.holds Try.pinned (OpenSpec.ofChange bitsSplitSpec)

/-- ITS FALSE NEIGHBOUR: 'it returns false'. Refute it at one input. -/
def bitsSplitWrong : ChangeSpec := { name := "bitsSplit", fn := fun _ => fun
  | [d1, d2, d3, d4] => { results := [.lit (.bool false)], args := [d1, d2, d3, d4] }
  | _ => none }
def BitsSplitWrongFalsely : Prop := bitsSplitRow.holds Try.pinned (OpenSpec.ofChange bitsSplitWrong)

/-- 'serinettelaw01.BitsStay': WHATEVER THE INPUT: true; the input reads as it did. -/
def bitsStaySpec : ChangeSpec := { name := "bitsStay", fn := fun _ => fun
  | [d1, d2, d3] => { results := [.lit (.bool true)], args := [d1, d2, d3] }
  | _ => none }
def bitsStayRow : OpenClaim := { program := "ytcdnabonljmegaa", sum := "a45430a6fd86c0789bda0ceec82a0cdc7fc24278449e825cc791db34f6dc423f", func := "serinette/serinettelaw01.BitsStay", spec := "bitsStay", apart := false }
def BitsStaySaid : Prop := bitsStayRow.holds Try.pinned (OpenSpec.ofChange bitsStaySpec)

/-- ITS FALSE NEIGHBOUR: 'it returns false'. Refute it at one input. -/
def bitsStayWrong : ChangeSpec := { name := "bitsStay", fn := fun _ => fun
  | [d1, d2, d3] => { results := [.lit (.bool false)], args := [d1, d2, d3] }
  | _ => none }
def BitsStayWrongFalsely : Prop := bitsStayRow.holds Try.pinned (OpenSpec.ofChange bitsStayWrong)

/-- 'serinettelaw01.BitsFill': WHATEVER THE INPUT: true; the input reads as it did. -/
def bitsFillSpec : ChangeSpec := { name := "bitsFill", fn := fun _ => fun
  | [d1, d2, d3, d4] => { results := [.lit (.bool true)], args := [d1, d2, d3, d4] }
  | _ => none }
def bitsFillRow : OpenClaim := { program := "ytcdnabonljmegaa", sum := "a45430a6fd86c0789bda0ceec82a0cdc7fc24278449e825cc791db34f6dc423f", func := "serinette/serinettelaw01.BitsFill", spec := "bitsFill", apart := false }
def BitsFillSaid : Prop := bitsFillRow.holds Try.pinned (OpenSpec.ofChange bitsFillSpec)

/-- ITS FALSE NEIGHBOUR: 'it returns false'. Refute it at one input. -/
def bitsFillWrong : ChangeSpec := { name := "bitsFill", fn := fun _ => fun
  | [d1, d2, d3, d4] => { results := [.lit (.bool false)], args := [d1, d2, d3, d4] }
  | _ => none }
def BitsFillWrongFalsely : Prop := bitsFillRow.holds Try.pinned (OpenSpec.ofChange bitsFillWrong)

/-- 'serinettelaw01.BitsBack': WHATEVER THE INPUT: true; the input reads as it did. -/
def bitsBackSpec : ChangeSpec := { name := "bitsBack", fn := fun _ => fun
  | [d1, d2] => { results := [.lit (.bool true)], args := [d1, d2] }
  | _ => none }
def bitsBackRow : OpenClaim := { program := "ytcdnabonljmegaa", sum := "a45430a6fd86c0789bda0ceec82a0cdc7fc24278449e825cc791db34f6dc423f", func := "serinette/serinettelaw01.BitsBack", spec := "bitsBack", apart := false }
def BitsBackSaid : Prop := bitsBackRow.holds Try.pinned (OpenSpec.ofChange bitsBackSpec)

/-- ITS FALSE NEIGHBOUR: 'it returns false'. Refute it at one input. -/
def bitsBackWrong : ChangeSpec := { name := "bitsBack", fn := fun _ => fun
  | [d1, d2] => { results := [.lit (.bool false)], args := [d1, d2] }
  | _ => none }
def BitsBackWrongFalsely : Prop := bitsBackRow.holds Try.pinned (OpenSpec.ofChange bitsBackWrong)

/-- 'serinettelaw01.BitsTake': WHATEVER THE INPUT: true; the input reads as it did. -/
def bitsTakeSpec : ChangeSpec := { name := "bitsTake", fn := fun _ => fun
  | [d1, d2, d3] => { results := [.lit (.bool true)], args := [d1, d2, d3] }
  | _ => none }
def bitsTakeRow : OpenClaim := { program := "ytcdnabonljmegaa", sum := "a45430a6fd86c0789bda0ceec82a0cdc7fc24278449e825cc791db34f6dc423f", func := "serinette/serinettelaw01.BitsTake", spec := "bitsTake", apart := false }
def BitsTakeSaid : Prop := bitsTakeRow.holds Try.pinned (OpenSpec.ofChange bitsTakeSpec)

/-- ITS FALSE NEIGHBOUR: 'it returns false'. Refute it at one input. -/
def bitsTakeWrong : ChangeSpec := { name := "bitsTake", fn := fun _ => fun
  | [d1, d2, d3] => { results := [.lit (.bool false)], args := [d1, d2, d3] }
  | _ => none }
def BitsTakeWrongFalsely : Prop := bitsTakeRow.holds Try.pinned (OpenSpec.ofChange bitsTakeWrong)

/- THE SECOND FORM. 'bulk': how many values and letters a reading holds, each counted each time it is reached (what is shared counts as often as it is met; a slice's spare places count too). A statement '..UptoSaid' is the law's where the arguments, and the package variables that the reading takes, are together of bulk at most 1048576: NARROWER than '..Said'. Prove '..Said' where nothing that the law and all that it calls make is longer than what came in: it says more and counts as full. Else prove '..UptoSaid'. A law counts once. -/
mutual
def uptoBulk {H : Type} : DataW H → Nat
  | .lit (.string bytes) => bytes.length + 1
  | .lit _ => 1
  | .nil => 1
  | .ptr d => uptoBulk d + 1
  | .slice elems spare => uptoBulkAll elems + uptoBulkAll spare + 1
  | .agg parts => uptoBulkAll parts + 1
  | .iface _ d => uptoBulk d + 1
  | .map entries => uptoBulkEntries entries + 1
  | .held _ => 1
def uptoBulkAll {H : Type} : List (DataW H) → Nat
  | [] => 0
  | d :: r => uptoBulk d + uptoBulkAll r
def uptoBulkEntries {H : Type} : List (Lit × DataW H) → Nat
  | [] => 0
  | x :: r => uptoBulkEntry x + uptoBulkEntries r
def uptoBulkEntry {H : Type} : Lit × DataW H → Nat
  | (.string bytes, d) => bytes.length + uptoBulk d + 1
  | (_, d) => uptoBulk d + 1
 end
def uptoSmall : (H : Type) → List (DataW H) → Bool := fun _ ds => decide (uptoBulkAll ds ≤ 1048576)
def OpenSpec.upto (s : _root_.Go.ChangeSpec) : _root_.Go.OpenSpec := { _root_.Go.OpenSpec.ofChange s with cond := some uptoSmall }

/-- 'serinettelaw01.BitsPut', WHERE WHAT IT READS IS OF BULK AT MOST 1048576: true; the input reads as it did. -/
def bitsPutUptoRow : OpenClaim := { program := "ytcdnabonljmegaa", sum := "a45430a6fd86c0789bda0ceec82a0cdc7fc24278449e825cc791db34f6dc423f", func := "serinette/serinettelaw01.BitsPut", spec := "bitsPut", apart := false, narrowed := true }
def BitsPutUptoSaid : Prop := bitsPutUptoRow.holds Try.pinned (OpenSpec.upto bitsPutSpec)

/-- 'serinettelaw01.BitsSplit', WHERE WHAT IT READS IS OF BULK AT MOST 1048576: true; the input reads as it did. -/
def bitsSplitUptoRow : OpenClaim := { program := "ytcdnabonljmegaa", sum := "a45430a6fd86c0789bda0ceec82a0cdc7fc24278449e825cc791db34f6dc423f", func := "serinette/serinettelaw01.BitsSplit", spec := "bitsSplit", apart := false, narrowed := true }
def BitsSplitUptoSaid : Prop := bitsSplitUptoRow.holds Try.pinned (OpenSpec.upto bitsSplitSpec)

/-- 'serinettelaw01.BitsStay', WHERE WHAT IT READS IS OF BULK AT MOST 1048576: true; the input reads as it did. -/
def bitsStayUptoRow : OpenClaim := { program := "ytcdnabonljmegaa", sum := "a45430a6fd86c0789bda0ceec82a0cdc7fc24278449e825cc791db34f6dc423f", func := "serinette/serinettelaw01.BitsStay", spec := "bitsStay", apart := false, narrowed := true }
def BitsStayUptoSaid : Prop := bitsStayUptoRow.holds Try.pinned (OpenSpec.upto bitsStaySpec)

/-- 'serinettelaw01.BitsFill', WHERE WHAT IT READS IS OF BULK AT MOST 1048576: true; the input reads as it did. -/
def bitsFillUptoRow : OpenClaim := { program := "ytcdnabonljmegaa", sum := "a45430a6fd86c0789bda0ceec82a0cdc7fc24278449e825cc791db34f6dc423f", func := "serinette/serinettelaw01.BitsFill", spec := "bitsFill", apart := false, narrowed := true }
def BitsFillUptoSaid : Prop := bitsFillUptoRow.holds Try.pinned (OpenSpec.upto bitsFillSpec)

/-- 'serinettelaw01.BitsBack', WHERE WHAT IT READS IS OF BULK AT MOST 1048576: true; the input reads as it did. -/
def bitsBackUptoRow : OpenClaim := { program := "ytcdnabonljmegaa", sum := "a45430a6fd86c0789bda0ceec82a0cdc7fc24278449e825cc791db34f6dc423f", func := "serinette/serinettelaw01.BitsBack", spec := "bitsBack", apart := false, narrowed := true }
def BitsBackUptoSaid : Prop := bitsBackUptoRow.holds Try.pinned (OpenSpec.upto bitsBackSpec)

/-- 'serinettelaw01.BitsTake', WHERE WHAT IT READS IS OF BULK AT MOST 1048576: true; the input reads as it did. -/
def bitsTakeUptoRow : OpenClaim := { program := "ytcdnabonljmegaa", sum := "a45430a6fd86c0789bda0ceec82a0cdc7fc24278449e825cc791db34f6dc423f", func := "serinette/serinettelaw01.BitsTake", spec := "bitsTake", apart := false, narrowed := true }
def BitsTakeUptoSaid : Prop := bitsTakeUptoRow.holds Try.pinned (OpenSpec.upto bitsTakeSpec)

end Rows
end Go.Proofs.Ytcdnabonljmegaa
