/- The chapter's example holds. No condition. -/
import Derived.Test.YtiojcihklmifgaaPFix
import Derived.Test.YtiojcihklmifgaaPInts
import Derived.Test.YtiojcihklmifgaaPNear
import Derived.Test.YtiojcihklmifgaaPAx6
namespace Go.Proofs.Ytiojcihklmifgaa.PL
open Go.RowKit Go.Proofs.Ytiojcihklmifgaa.PA Go.Proofs.YtiojcihklmifgaaW.PrintWords
theorem awake_ev : Ev (fun k => serinettelaw07_awake.f k) true := Ev.of serinettelaw07_awake.mono (k := 60) (by decide +kernel)
theorem resI_len (l : List Int) (o : Int) : (resI l o).1.length ≤ l.length := by
  unfold resI; split
  · simp
  · split
    · simp
    · rw [diffs_len]; omega
end Go.Proofs.Ytiojcihklmifgaa.PL
