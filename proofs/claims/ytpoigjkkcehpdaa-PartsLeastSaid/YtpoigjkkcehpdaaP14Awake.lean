/- The chapter's example. No condition. -/
import Derived.Test.YtpoigjkkcehpdaaPAx9
import Derived.Test.YtpoigjkkcehpdaaPL
namespace Go.Proofs.Ytpoigjkkcehpdaa.PL
open Go.RowKit Go.Proofs.Ytpoigjkkcehpdaa.PA Go.Proofs.YtpoigjkkcehpdaaW.PrintWords
theorem awake_ev : Ev (fun k => serinettelaw14_awake.f k) true := Ev.of serinettelaw14_awake.mono (k := 60) (by decide +kernel)
end Go.Proofs.Ytpoigjkkcehpdaa.PL
