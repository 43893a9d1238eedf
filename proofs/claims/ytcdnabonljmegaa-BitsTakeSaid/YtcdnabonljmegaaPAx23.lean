/- Each Go function named below comes to what the plain Lean function of its name answers, wherever that answers (rounds enough, no panic, no row too long); texts by a program of this session by way of the kit's print.py, what that does not take by hand. Condition: what is read lies in memory as each theorem says. -/
import Derived.Test.YtcdnabonljmegaaPAx0
namespace Go.Proofs.Ytcdnabonljmegaa.PA
open Go.RowKit Go.Proofs.YtcdnabonljmegaaW.PrintWords Go.Proofs.YtcdnabonljmegaaW.PrintLast Go.Proofs.YtcdnabonljmegaaW.PrintMore
attribute [local go_sem] max2_int min2_int max_two min_two max_three min_three max_four min_four   -- for this text's walks alone
set_option linter.unusedVariables false
set_option linter.unusedSimpArgs false

/-! ### serinetteshadow_LenL: function 51 -/
/-- What stands for a load of a Reader's part. -/
def serinetteshadow_LenL.f (s0_0 : List Bool) (s0_1 : Int) (s0_2 : Int) : Option (Int × Int × Int) := some ((s0_0.length : Int), s0_1, s0_2)


/-! ### serinetteshadow_AtK: function 52 -/
/-- What stands for a load of a Reader's part. -/
def serinetteshadow_AtK.f (s0_0 : List Bool) (s0_1 : Int) (s0_2 : Int) : Option (Int × Int × Int) := some (s0_1, s0_1, s0_2)


/-! ### serinetteshadow_ErrE: function 53 -/
/-- What stands for a load of a Reader's part. -/
def serinetteshadow_ErrE.f (s0_0 : List Bool) (s0_1 : Int) (s0_2 : Int) : Option (Int × Int × Int) := some (s0_2, s0_1, s0_2)


end Go.Proofs.Ytcdnabonljmegaa.PA
