/- The chapter's example holds. No condition. -/
import Derived.Test.YtcdnabonljmegaaPBitsRef
import Derived.Test.YtcdnabonljmegaaPAx6
namespace Go.Proofs.Ytcdnabonljmegaa.PL
open Go.RowKit Go.Proofs.Ytcdnabonljmegaa.PA Go.Proofs.YtcdnabonljmegaaW.PrintWords
theorem awake_ev : Ev (fun k => serinettelaw01_awake.f k) true := Ev.of serinettelaw01_awake.mono (k := 60) (by decide +kernel)
end Go.Proofs.Ytcdnabonljmegaa.PL
