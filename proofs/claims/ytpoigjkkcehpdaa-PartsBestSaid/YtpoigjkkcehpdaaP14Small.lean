/- The chapter's example; what serinetteref14.Same answers of a plan and itself. Condition: no row too long. -/
import Derived.Test.YtpoigjkkcehpdaaPAx9
import Derived.Test.YtpoigjkkcehpdaaPL
import Derived.Test.YtpoigjkkcehpdaaPAx20
namespace Go.Proofs.Ytpoigjkkcehpdaa.PL
open Go.RowKit Go.Proofs.Ytpoigjkkcehpdaa.PA Go.Proofs.YtpoigjkkcehpdaaW.PrintWords
theorem awake_ev : Ev (fun k => serinettelaw14_awake.f k) true := Ev.of serinettelaw14_awake.mono (k := 60) (by decide +kernel)
end Go.Proofs.Ytpoigjkkcehpdaa.PL
namespace Go.Proofs.Ytpoigjkkcehpdaa.PL
open Go.RowKit Go.Proofs.Ytpoigjkkcehpdaa.PA Go.Proofs.YtpoigjkkcehpdaaW.PrintWords Go.Proofs.YtpoigjkkcehpdaaW.PrintLast Go.Proofs.YtpoigjkkcehpdaaW.PrintMore
theorem same_ev (w : Bool) (o : Int) (ps : List S39) (hl : ps.length < 1000000) : Ev (fun k => serinetteref14_Same.f k w o ps w o ps) true := by
  unfold serinetteref14_Same.f
  refine neg (by simp) (pos rfl ?_)
  have e : ((ps.length : Int) != (ps.length : Int)) = false := by simp
  rw [e]
  refine succ ?_
  simp only [serinetteref14_Same.j0]
  refine neg (by decide) ?_
  have key : ∀ (d i : Nat), i + d = ps.length → Ev (fun k => serinetteref14_Same.l0 k (i : Int) w o ps w o ps) true := by
    intro d
    induction d with
    | zero =>
      intro i hi
      refine succ ?_
      simp only [serinetteref14_Same.l0]
      exact neg (by omega) (now true)
    | succ d ih =>
      intro i hi
      refine succ ?_
      simp only [serinetteref14_Same.l0]
      rw [w64 (by omega) (by omega)]
      refine pos (by omega) (pos (by omega) (pos (by omega) (neg (by simp) ?_)))
      have := ih (i + 1) (by omega)
      simpa using this
  exact key ps.length 0 (by omega)
end Go.Proofs.Ytpoigjkkcehpdaa.PL
