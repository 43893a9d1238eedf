/- The chapter's example holds. No condition. -/
import Derived.Test.YtjiecencppahhaaPLpc
import Derived.Test.YtjiecencppahhaaPInts
import Derived.Test.YtjiecencppahhaaPNear
import Derived.Test.YtjiecencppahhaaPAx5
namespace Go.Proofs.Ytjiecencppahhaa.PL
open Go.RowKit Go.Proofs.Ytjiecencppahhaa.PA Go.Proofs.YtjiecencppahhaaW.PrintWords
theorem awake_ev : Ev (fun k => serinettelaw12_awake.f k) true := Ev.of serinettelaw12_awake.mono (k := 60) (by decide +kernel)
theorem lres_len (s : Int) (L : List Int) : ∀ (t P l : List Int), lres s L P t = some l → l.length = t.length
  | [], P, l, h => by simp [lres] at h; subst h; rfl
  | a :: t, P, l, h => by
    rw [lres] at h
    split at h
    · cases h
    · obtain ⟨l1, h1, rfl⟩ := Option.map_eq_some_iff.1 h
      simp [lres_len s L t _ l1 h1]
theorem lres_bd (s : Int) (L : List Int) : ∀ (t P l : List Int), lres s L P t = some l → ∀ n ∈ l, -2147483647 ≤ n ∧ n ≤ 2147483647
  | [], P, l, h => by simp [lres] at h; subst h; simp
  | a :: t, P, l, h => by
    rw [lres] at h
    split at h
    · cases h
    · obtain ⟨l1, h1, rfl⟩ := Option.map_eq_some_iff.1 h
      intro n hn
      rcases List.mem_cons.1 hn with rfl | hn
      · omega
      · exact lres_bd s L t _ l1 h1 n hn
theorem RES_len (s p : Int) (L x : List Int) : (RES s p L x).1.length ≤ x.length := by
  unfold RES
  split
  · split
    · simp
    · cases h : lres s L (x.take L.length).reverse (x.drop L.length) with
      | none => simp [fin]
      | some l => have := lres_len _ _ _ _ _ h; simp only [fin, List.nil_append]; rw [this]; simp
  · simp
end Go.Proofs.Ytjiecencppahhaa.PL
