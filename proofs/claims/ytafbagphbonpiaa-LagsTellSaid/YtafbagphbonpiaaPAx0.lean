/- Each Go function named below comes to what the plain Lean function of its name answers, wherever that answers (rounds enough, no panic, no row too long); texts by a program of this session by way of the kit's print.py, what that does not take by hand. Condition: what is read lies in memory as each theorem says. -/
import Derived.Test.YtafbagphbonpiaaProg
import Derived.Below
import Derived.Deep.Draws
import Derived.Deep.AppendLies
import Derived.Maps.AppendAt
import Derived.OwnWalk
import Derived.Laws.BytesArg
import Derived.Laws.MakeOwn
import Derived.Laws.OwnMore
import Derived.Deep.OwnRows
import Derived.Tactics
import Derived.Lib.ConvBytes
import Derived.Laws.Slices
import Derived.WalkKit
import Derived.KernelRfl
import Derived.RowKit3
import Derived.Deep.LoopGhost
import Derived.Deep.QuietTactic
import Derived.BigQuiet
import Derived.WideLaws
import Derived.Deep.DeepCutAuto
import Derived.Deep.CutBlock
import Derived.Deep.RegionHeld3
import Derived.Laws.Rows
import Derived.Lib.AppendStr
import Derived.ArgAppend
import Derived.Laws.IdiomCopy
import Derived.OrdersHeld
import Derived.Laws.BitsLemmas
import Derived.RowKit
import Derived.Test.YtafbagphbonpiaaWWords
import Derived.Test.YtafbagphbonpiaaWLast
import Derived.Test.YtafbagphbonpiaaWTab
import Derived.Test.YtafbagphbonpiaaWFour
import Derived.Test.YtafbagphbonpiaaWQPut
import Derived.Test.YtafbagphbonpiaaWApart
import Derived.Test.YtafbagphbonpiaaWArr
import Derived.Test.YtafbagphbonpiaaWZeros
import Derived.Test.YtafbagphbonpiaaWFoot
import Derived.Test.YtafbagphbonpiaaWKept
import Derived.Test.YtafbagphbonpiaaWShare
import Derived.Test.YtafbagphbonpiaaWN
import Derived.Test.YtafbagphbonpiaaWFootNe
import Derived.Test.YtafbagphbonpiaaWAt
import Derived.Test.YtafbagphbonpiaaWEqStruct
import Derived.Test.YtafbagphbonpiaaWRepsOne
import Derived.Test.YtafbagphbonpiaaWInv
import Derived.Test.YtafbagphbonpiaaWInvWords
import Derived.Test.YtafbagphbonpiaaWGuard
import Derived.Test.YtafbagphbonpiaaWNEv
import Derived.Test.YtafbagphbonpiaaWMore
namespace Go.Proofs.Ytafbagphbonpiaa.PA
open Go.RowKit Go.Proofs.YtafbagphbonpiaaW.PrintWords Go.Proofs.YtafbagphbonpiaaW.PrintLast Go.Proofs.YtafbagphbonpiaaW.PrintMore
attribute [local go_sem] max2_int min2_int max_two min_two max_three min_three max_four min_four   -- for this text's walks alone
set_option linter.unusedVariables false
set_option linter.unusedSimpArgs false



def errW : Option Int → Value
  | none => .nilIface
  | some c => .iface 0 (.int .i64 c)
theorem errW_none : errW none = .nilIface := rfl
theorem errW_some (c : Int) : errW (some c) = .iface 0 (.int .i64 c) := rfl

theorem info3 : (Try.prog.info? 3).map (fun i => (i.zero, i.size, i.bytes)) = some (some (.int .i64 0), 1, 8) := by kernel_rfl
-- the values' own types

end Go.Proofs.Ytafbagphbonpiaa.PA
