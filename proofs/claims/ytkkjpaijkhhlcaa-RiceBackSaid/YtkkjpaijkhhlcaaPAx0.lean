/- Each Go function named below comes to what the plain Lean function of its name answers, wherever that answers (rounds enough, no panic, no row too long); texts by a program of this session by way of the kit's print.py, what that does not take by hand. Condition: what is read lies in memory as each theorem says. -/
import Derived.Test.YtkkjpaijkhhlcaaProg
import Derived.Below
import Derived.Deep.Draws
import Derived.Deep.AppendLies
import Derived.Maps.AppendAt
import Derived.OwnWalk
import Derived.Laws.BytesArg
import Derived.Laws.MakeOwn
import Derived.Laws.OwnMore
import Derived.Deep.OwnRows
import Derived.Tactics
import Derived.Lib.ConvBytes
import Derived.Laws.Slices
import Derived.WalkKit
import Derived.KernelRfl
import Derived.RowKit3
import Derived.Deep.LoopGhost
import Derived.Deep.QuietTactic
import Derived.BigQuiet
import Derived.WideLaws
import Derived.Deep.DeepCutAuto
import Derived.Deep.CutBlock
import Derived.Deep.RegionHeld3
import Derived.Laws.Rows
import Derived.Lib.AppendStr
import Derived.ArgAppend
import Derived.Laws.IdiomCopy
import Derived.OrdersHeld
import Derived.Laws.BitsLemmas
import Derived.RowKit
import Derived.Test.YtkkjpaijkhhlcaaWWords
import Derived.Test.YtkkjpaijkhhlcaaWLast
import Derived.Test.YtkkjpaijkhhlcaaWTab
import Derived.Test.YtkkjpaijkhhlcaaWFour
import Derived.Test.YtkkjpaijkhhlcaaWQPut
import Derived.Test.YtkkjpaijkhhlcaaWApart
import Derived.Test.YtkkjpaijkhhlcaaWArr
import Derived.Test.YtkkjpaijkhhlcaaWZeros
import Derived.Test.YtkkjpaijkhhlcaaWFoot
import Derived.Test.YtkkjpaijkhhlcaaWKept
import Derived.Test.YtkkjpaijkhhlcaaWShare
import Derived.Test.YtkkjpaijkhhlcaaWN
import Derived.Test.YtkkjpaijkhhlcaaWFootNe
import Derived.Test.YtkkjpaijkhhlcaaWAt
import Derived.Test.YtkkjpaijkhhlcaaWEqStruct
import Derived.Test.YtkkjpaijkhhlcaaWRepsOne
import Derived.Test.YtkkjpaijkhhlcaaWInv
import Derived.Test.YtkkjpaijkhhlcaaWInvWords
import Derived.Test.YtkkjpaijkhhlcaaWGuard
import Derived.Test.YtkkjpaijkhhlcaaWNEv
import Derived.Test.YtkkjpaijkhhlcaaWMore
namespace Go.Proofs.Ytkkjpaijkhhlcaa.PA
open Go.RowKit Go.Proofs.YtkkjpaijkhhlcaaW.PrintWords Go.Proofs.YtkkjpaijkhhlcaaW.PrintLast Go.Proofs.YtkkjpaijkhhlcaaW.PrintMore
attribute [local go_sem] max2_int min2_int max_two min_two max_three min_three max_four min_four   -- for this text's walks alone
set_option linter.unusedVariables false
set_option linter.unusedSimpArgs false



def errW : Option Int → Value
  | none => .nilIface
  | some c => .iface 0 (.int .i64 c)
theorem errW_none : errW none = .nilIface := rfl
theorem errW_some (c : Int) : errW (some c) = .iface 0 (.int .i64 c) := rfl

theorem info4 : (Try.prog.info? 4).map (fun i => (i.zero, i.size, i.bytes)) = some (some (.bool false), 1, 1) := by kernel_rfl
theorem info5 : (Try.prog.info? 5).map (fun i => (i.zero, i.size, i.bytes)) = some (some (.int .u8 0), 1, 1) := by kernel_rfl
-- the values' own types

end Go.Proofs.Ytkkjpaijkhhlcaa.PA
