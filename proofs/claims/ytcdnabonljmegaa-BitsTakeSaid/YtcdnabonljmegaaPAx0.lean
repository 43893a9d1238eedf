/- Each Go function named below comes to what the plain Lean function of its name answers, wherever that answers (rounds enough, no panic, no row too long); texts by a program of this session by way of the kit's print.py, what that does not take by hand. Condition: what is read lies in memory as each theorem says. -/
import Derived.Test.YtcdnabonljmegaaProg
import Derived.Below
import Derived.Deep.Draws
import Derived.Deep.AppendLies
import Derived.Maps.AppendAt
import Derived.OwnWalk
import Derived.Laws.BytesArg
import Derived.Laws.MakeOwn
import Derived.Laws.OwnMore
import Derived.Deep.OwnRows
import Derived.Tactics
import Derived.Lib.ConvBytes
import Derived.Laws.Slices
import Derived.WalkKit
import Derived.KernelRfl
import Derived.RowKit3
import Derived.Deep.LoopGhost
import Derived.Deep.QuietTactic
import Derived.BigQuiet
import Derived.WideLaws
import Derived.Deep.DeepCutAuto
import Derived.Deep.CutBlock
import Derived.Deep.RegionHeld3
import Derived.Laws.Rows
import Derived.Lib.AppendStr
import Derived.ArgAppend
import Derived.Laws.IdiomCopy
import Derived.OrdersHeld
import Derived.Laws.BitsLemmas
import Derived.RowKit
import Derived.Test.YtcdnabonljmegaaWWords
import Derived.Test.YtcdnabonljmegaaWLast
import Derived.Test.YtcdnabonljmegaaWTab
import Derived.Test.YtcdnabonljmegaaWFour
import Derived.Test.YtcdnabonljmegaaWQPut
import Derived.Test.YtcdnabonljmegaaWApart
import Derived.Test.YtcdnabonljmegaaWArr
import Derived.Test.YtcdnabonljmegaaWZeros
import Derived.Test.YtcdnabonljmegaaWFoot
import Derived.Test.YtcdnabonljmegaaWKept
import Derived.Test.YtcdnabonljmegaaWShare
import Derived.Test.YtcdnabonljmegaaWN
import Derived.Test.YtcdnabonljmegaaWFootNe
import Derived.Test.YtcdnabonljmegaaWAt
import Derived.Test.YtcdnabonljmegaaWEqStruct
import Derived.Test.YtcdnabonljmegaaWRepsOne
import Derived.Test.YtcdnabonljmegaaWInv
import Derived.Test.YtcdnabonljmegaaWInvWords
import Derived.Test.YtcdnabonljmegaaWGuard
import Derived.Test.YtcdnabonljmegaaWNEv
import Derived.Test.YtcdnabonljmegaaWMore
namespace Go.Proofs.Ytcdnabonljmegaa.PA
open Go.RowKit Go.Proofs.YtcdnabonljmegaaW.PrintWords Go.Proofs.YtcdnabonljmegaaW.PrintLast Go.Proofs.YtcdnabonljmegaaW.PrintMore
attribute [local go_sem] max2_int min2_int max_two min_two max_three min_three max_four min_four   -- for this text's walks alone
set_option linter.unusedVariables false
set_option linter.unusedSimpArgs false



def errW : Option Int → Value
  | none => .nilIface
  | some c => .iface 0 (.int .i64 c)
theorem errW_none : errW none = .nilIface := rfl
theorem errW_some (c : Int) : errW (some c) = .iface 0 (.int .i64 c) := rfl

theorem info4 : (Try.prog.info? 4).map (fun i => (i.zero, i.size, i.bytes)) = some (some (.bool false), 1, 1) := by kernel_rfl
theorem info5 : (Try.prog.info? 5).map (fun i => (i.zero, i.size, i.bytes)) = some (some (.int .u8 0), 1, 1) := by kernel_rfl
-- the values' own types

end Go.Proofs.Ytcdnabonljmegaa.PA
