/- The chapter's example holds. No condition. -/
import Derived.Test.YtkkjpaijkhhlcaaPRefRice
import Derived.Test.YtkkjpaijkhhlcaaPAx5
namespace Go.Proofs.Ytkkjpaijkhhlcaa.PL
open Go.RowKit Go.Proofs.Ytkkjpaijkhhlcaa.PA Go.Proofs.YtkkjpaijkhhlcaaW.PrintWords
theorem awake_ev : Ev (fun k => serinettelaw02_awake.f k) true := Ev.of serinettelaw02_awake.mono (k := 60) (by decide +kernel)
end Go.Proofs.Ytkkjpaijkhhlcaa.PL
