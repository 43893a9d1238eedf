/- What bits.Writer's Fill answers. Condition: fewer than 2^46 bits. -/
import Derived.Test.YtcdnabonljmegaaPBitsPut
import Derived.Test.YtcdnabonljmegaaPAx11
namespace Go.Proofs.Ytcdnabonljmegaa.PL
open Go Go.RowKit Go.Proofs.Ytcdnabonljmegaa.PA Go.Proofs.YtcdnabonljmegaaW.PrintWords Go.Proofs.YtcdnabonljmegaaW.PrintMore
set_option linter.unusedSimpArgs false
set_option linter.unusedVariables false
theorem fill_eq (l : List Bool) (hl : l.length < 70368744177664) : bits_Writer_Fill.f (WB l) (l.length : Int) = some (WB (fillB l), ((fillB l).length : Int)) := by
  unfold bits_Writer_Fill.f
  have e : WB (fillB l) = WB l := by unfold WB; rw [toB_fillB]
  rw [bytes_WB, e, fillB_len, toB_len, w64 (by omega) (by omega)]
  congr 2
end Go.Proofs.Ytcdnabonljmegaa.PL
