/- Each Go function named below comes to what the plain Lean function of its name answers, wherever that answers (rounds enough, no panic, no row too long); texts by a program of this session by way of the kit's print.py, what that does not take by hand. Condition: what is read lies in memory as each theorem says. -/
import Derived.Test.YtcdnabonljmegaaPAx0
import Derived.Test.YtcdnabonljmegaaPAx1
import Derived.Test.YtcdnabonljmegaaPAx3
import Derived.Test.YtcdnabonljmegaaPAx4
import Derived.Test.YtcdnabonljmegaaPAx5
import Derived.Test.YtcdnabonljmegaaPAx7
import Derived.Test.YtcdnabonljmegaaPAx8
import Derived.Test.YtcdnabonljmegaaPAx11
import Derived.Test.YtcdnabonljmegaaPAx15
import Derived.Test.YtcdnabonljmegaaPAx17
import Derived.Test.YtcdnabonljmegaaPAx19
import Derived.Test.YtcdnabonljmegaaPAx20
import Derived.Test.YtcdnabonljmegaaPAx22
namespace Go.Proofs.Ytcdnabonljmegaa.PA
open Go.RowKit Go.Proofs.YtcdnabonljmegaaW.PrintWords Go.Proofs.YtcdnabonljmegaaW.PrintLast Go.Proofs.YtcdnabonljmegaaW.PrintMore
attribute [local go_sem] max2_int min2_int max_two min_two max_three min_three max_four min_four   -- for this text's walks alone
set_option linter.unusedVariables false
set_option linter.unusedSimpArgs false

/-! ### serinettelaw01_BitsFill: function 6 -/
mutual
def serinettelaw01_BitsFill.j0 : Nat → Int → Int → Bool → Bool → List Int → Int → Int → Option (Bool)
  | 0, _, _, _, _, _, _, _ => none
  | k + 1, x2, x3, x9, x75, x310000, x310001, x310002 => if x75 = true then (some false) else ((bits_Reader_Take.f k x310000 x310001 x310002 (wrap64 (Int.tmod x3 9))).bind fun bt336 => ((bits_Reader_Fill.f k x310000 bt336.2.1 bt336.2.2).bind fun bt339 => (if (wrap64 (Int.tmod x3 9)) = 0 then (serinettelaw01_BitsFill.j1 k x9 (wrap64 (Int.tmod x3 9)) true x310000 bt339.1 bt339.2) else (if (wrap64 (Int.tmod x3 9)) = 8 then (serinettelaw01_BitsFill.j1 k x9 (wrap64 (Int.tmod x3 9)) true x310000 bt339.1 bt339.2) else (if 0 ≤ (wrap64 (8 - (wrap64 (Int.tmod x3 9)))) then (if (shl .i64 1 (wrap64 (8 - (wrap64 (Int.tmod x3 9))))) = 0 then (none) else (serinettelaw01_BitsFill.j1 k x9 (wrap64 (Int.tmod x3 9)) ((Int.tmod (wrap64 (x2)) (shl .i64 1 (wrap64 (8 - (wrap64 (Int.tmod x3 9)))))) == 0) x310000 bt339.1 bt339.2)) else (none))))))
def serinettelaw01_BitsFill.j1 : Nat → Bool → Int → Bool → List Int → Int → Int → Option (Bool)
  | 0, _, _, _, _, _, _ => none
  | k + 1, x9, x15, x16, x310000, x310001, x310002 => if x16 = true then (if x9 = true then ((bits_Reader_Fail.f x310000 x310001 x310002).bind fun bt341 => (if bt341.1 = 0 then (if x15 = 0 then ((bits_Reader_At.f x310000 bt341.2.1 bt341.2.2).bind fun bt344 => (if bt344.1 = 0 then (some true) else (if x15 > 0 then ((bits_Reader_At.f x310000 bt344.2.1 bt344.2.2).bind fun bt347 => (some (bt347.1 == 8))) else (some false)))) else (if x15 > 0 then ((bits_Reader_At.f x310000 bt341.2.1 bt341.2.2).bind fun bt350 => (some (bt350.1 == 8))) else (some false))) else (some false))) else (some false)) else (if x9 = true then ((bits_Reader_Fail.f x310000 x310001 x310002).bind fun bt353 => (if bt353.1 = 5 then ((bits_Reader_At.f x310000 bt353.2.1 bt353.2.2).bind fun bt356 => (some (bt356.1 == x15))) else (some false))) else (some false))
end
def serinettelaw01_BitsFill.f (k : Nat) (a0 : Int) (a1 : Int) (a2 : Int) (a3 : Int) : Option (Bool) := (serinettelaw01_awake.f k).bind fun t299 => ((bits_New.f).bind fun bt300 => ((bits_Open.f (([a2] : List Int))).bind fun bt306 => ((bits_Writer_Put.f bt300.1 bt300.2 a0 a1).bind fun bt310 => ((bits_Writer_Bytes.f bt310.1 bt310.2).bind fun bt312 => ((bits_Writer_Len.f bt312.2.1 bt312.2.2).bind fun bt317 => ((bits_Writer_Fill.f bt317.2.1 bt317.2.2).bind fun bt320 => ((bits_Writer_Len.f bt320.1 bt320.2).bind fun bt322 => ((bits_Writer_Fill.f bt322.2.1 bt322.2.2).bind fun bt325 => ((bits_Writer_Len.f bt325.1 bt325.2).bind fun bt327 => (if bt322.1 = bt327.1 then (if (Int.tmod bt322.1 8) = 0 then (if bt322.1 < bt317.1 then (serinettelaw01_BitsFill.j0 k a2 a3 t299 true bt306.1 bt306.2.1 bt306.2.2) else (if (wrap64 (bt322.1 - bt317.1)) > 7 then (serinettelaw01_BitsFill.j0 k a2 a3 t299 true bt306.1 bt306.2.1 bt306.2.2) else ((bits_Writer_Bytes.f bt327.2.1 bt327.2.2).bind fun bt330 => ((serinetteref01_Same.f k bt312.1 bt330.1).bind fun t335 => (if t335 = true then (serinettelaw01_BitsFill.j0 k a2 a3 t299 ((wrap64 (8 * (bt312.1.length : Int))) != bt322.1) bt306.1 bt306.2.1 bt306.2.2) else (serinettelaw01_BitsFill.j0 k a2 a3 t299 true bt306.1 bt306.2.1 bt306.2.2)))))) else (serinettelaw01_BitsFill.j0 k a2 a3 t299 true bt306.1 bt306.2.1 bt306.2.2)) else (serinettelaw01_BitsFill.j0 k a2 a3 t299 true bt306.1 bt306.2.1 bt306.2.2)))))))))))
theorem serinettelaw01_BitsFill.mono_l : ∀ k, (∀ y0 y1 y2 y3 y4 y5 y6, LeO (serinettelaw01_BitsFill.j0 k y0 y1 y2 y3 y4 y5 y6) (serinettelaw01_BitsFill.j0 (k + 1) y0 y1 y2 y3 y4 y5 y6)) ∧ (∀ y0 y1 y2 y3 y4 y5, LeO (serinettelaw01_BitsFill.j1 k y0 y1 y2 y3 y4 y5) (serinettelaw01_BitsFill.j1 (k + 1) y0 y1 y2 y3 y4 y5))
  | 0 => ⟨fun _ _ _ _ _ _ _ r h => by simp [serinettelaw01_BitsFill.j0] at h, fun _ _ _ _ _ _ r h => by simp [serinettelaw01_BitsFill.j1] at h⟩
  | k + 1 => by
    obtain ⟨ih0, ih1⟩ := serinettelaw01_BitsFill.mono_l k
    refine ⟨?_, ?_⟩
    · intro y0 y1 y2 y3 y4 y5 y6
      unfold serinettelaw01_BitsFill.j0
      repeat' first
      | (with_reducible exact ih0 _ _ _ _ _ _ _)
      | (with_reducible exact ih1 _ _ _ _ _ _)
      | (with_reducible exact bits_Reader_Fill.mono _ _ _ _)
      | (with_reducible exact bits_Reader_Take.mono _ _ _ _ _)
      | (with_reducible exact serinettelaw01_awake.mono _)
      | (with_reducible exact serinetteref01_Same.mono _ _ _)
      | (with_reducible exact LeO.refl _)
      | (with_reducible exact LeO.none _)
      | (with_reducible refine LeO.ite ?_ ?_)
      | (with_reducible refine LeO.bind ?_ (fun _ => ?_))
      | exact ih0 _ _ _ _ _ _ _
      | exact ih1 _ _ _ _ _ _
      | exact bits_Reader_Fill.mono _ _ _ _
      | exact bits_Reader_Take.mono _ _ _ _ _
      | exact serinettelaw01_awake.mono _
      | exact serinetteref01_Same.mono _ _ _
      | exact LeO.none _
      | refine LeO.ite ?_ ?_
      | refine LeO.bind ?_ (fun _ => ?_)
    · intro y0 y1 y2 y3 y4 y5
      unfold serinettelaw01_BitsFill.j1
      repeat' first
      | (with_reducible exact ih0 _ _ _ _ _ _ _)
      | (with_reducible exact ih1 _ _ _ _ _ _)
      | (with_reducible exact bits_Reader_Fill.mono _ _ _ _)
      | (with_reducible exact bits_Reader_Take.mono _ _ _ _ _)
      | (with_reducible exact serinettelaw01_awake.mono _)
      | (with_reducible exact serinetteref01_Same.mono _ _ _)
      | (with_reducible exact LeO.refl _)
      | (with_reducible exact LeO.none _)
      | (with_reducible refine LeO.ite ?_ ?_)
      | (with_reducible refine LeO.bind ?_ (fun _ => ?_))
      | exact ih0 _ _ _ _ _ _ _
      | exact ih1 _ _ _ _ _ _
      | exact bits_Reader_Fill.mono _ _ _ _
      | exact bits_Reader_Take.mono _ _ _ _ _
      | exact serinettelaw01_awake.mono _
      | exact serinetteref01_Same.mono _ _ _
      | exact LeO.none _
      | refine LeO.ite ?_ ?_
      | refine LeO.bind ?_ (fun _ => ?_)
theorem serinettelaw01_BitsFill.mono : ∀ a0 a1 a2 a3 k, LeO (serinettelaw01_BitsFill.f k a0 a1 a2 a3) (serinettelaw01_BitsFill.f (k + 1) a0 a1 a2 a3) := by
  intro a0 a1 a2 a3 k
  obtain ⟨ih0, ih1⟩ := serinettelaw01_BitsFill.mono_l k
  unfold serinettelaw01_BitsFill.f
  repeat' first
      | (with_reducible exact ih0 _ _ _ _ _ _ _)
      | (with_reducible exact ih1 _ _ _ _ _ _)
      | (with_reducible exact bits_Reader_Fill.mono _ _ _ _)
      | (with_reducible exact bits_Reader_Take.mono _ _ _ _ _)
      | (with_reducible exact serinettelaw01_awake.mono _)
      | (with_reducible exact serinetteref01_Same.mono _ _ _)
      | (with_reducible exact LeO.refl _)
      | (with_reducible exact LeO.none _)
      | (with_reducible refine LeO.ite ?_ ?_)
      | (with_reducible refine LeO.bind ?_ (fun _ => ?_))
      | exact ih0 _ _ _ _ _ _ _
      | exact ih1 _ _ _ _ _ _
      | exact bits_Reader_Fill.mono _ _ _ _
      | exact bits_Reader_Take.mono _ _ _ _ _
      | exact serinettelaw01_awake.mono _
      | exact serinetteref01_Same.mono _ _ _
      | exact LeO.none _
      | refine LeO.ite ?_ ?_
      | refine LeO.bind ?_ (fun _ => ?_)
set_option maxHeartbeats 8000000 in
set_option maxRecDepth 100000 in
theorem serinettelaw01_BitsFill.calls (k : Nat) (a0 : Int) (a1 : Int) (a2 : Int) (a3 : Int) (r : Bool) (w : World) (h : serinettelaw01_BitsFill.f k a0 a1 a2 a3 = some r) :
    Calls Try.prog 6 #[.int .u64 a0, .int .i64 a1, .int .u8 a2, .int .u8 a3] w fun e w' => e = .returned (.bool r) ∧ Below w.heap.size w w' := by
  have HB := Aside0.mk (Below.refl w.heap.size w)
  have H : ((serinettelaw01_awake.f k).bind fun t299 => ((bits_New.f).bind fun bt300 => ((bits_Open.f (([a2] : List Int))).bind fun bt306 => ((bits_Writer_Put.f bt300.1 bt300.2 a0 a1).bind fun bt310 => ((bits_Writer_Bytes.f bt310.1 bt310.2).bind fun bt312 => ((bits_Writer_Len.f bt312.2.1 bt312.2.2).bind fun bt317 => ((bits_Writer_Fill.f bt317.2.1 bt317.2.2).bind fun bt320 => ((bits_Writer_Len.f bt320.1 bt320.2).bind fun bt322 => ((bits_Writer_Fill.f bt322.2.1 bt322.2.2).bind fun bt325 => ((bits_Writer_Len.f bt325.1 bt325.2).bind fun bt327 => (if bt322.1 = bt327.1 then (if (Int.tmod bt322.1 8) = 0 then (if bt322.1 < bt317.1 then (serinettelaw01_BitsFill.j0 k a2 a3 t299 true bt306.1 bt306.2.1 bt306.2.2) else (if (wrap64 (bt322.1 - bt317.1)) > 7 then (serinettelaw01_BitsFill.j0 k a2 a3 t299 true bt306.1 bt306.2.1 bt306.2.2) else ((bits_Writer_Bytes.f bt327.2.1 bt327.2.2).bind fun bt330 => ((serinetteref01_Same.f k bt312.1 bt330.1).bind fun t335 => (if t335 = true then (serinettelaw01_BitsFill.j0 k a2 a3 t299 ((wrap64 (8 * (bt312.1.length : Int))) != bt322.1) bt306.1 bt306.2.1 bt306.2.2) else (serinettelaw01_BitsFill.j0 k a2 a3 t299 true bt306.1 bt306.2.1 bt306.2.2)))))) else (serinettelaw01_BitsFill.j0 k a2 a3 t299 true bt306.1 bt306.2.1 bt306.2.2)) else (serinettelaw01_BitsFill.j0 k a2 a3 t299 true bt306.1 bt306.2.1 bt306.2.2)))))))))))) = some r := h
  clear h
  replace H := Option.bind_eq_some_iff.mp H
  obtain ⟨t299, A50, H⟩ := H
  replace H : ((bits_New.f).bind fun bt300 => ((bits_Open.f (([a2] : List Int))).bind fun bt306 => ((bits_Writer_Put.f bt300.1 bt300.2 a0 a1).bind fun bt310 => ((bits_Writer_Bytes.f bt310.1 bt310.2).bind fun bt312 => ((bits_Writer_Len.f bt312.2.1 bt312.2.2).bind fun bt317 => ((bits_Writer_Fill.f bt317.2.1 bt317.2.2).bind fun bt320 => ((bits_Writer_Len.f bt320.1 bt320.2).bind fun bt322 => ((bits_Writer_Fill.f bt322.2.1 bt322.2.2).bind fun bt325 => ((bits_Writer_Len.f bt325.1 bt325.2).bind fun bt327 => (if bt322.1 = bt327.1 then (if (Int.tmod bt322.1 8) = 0 then (if bt322.1 < bt317.1 then (serinettelaw01_BitsFill.j0 k a2 a3 t299 true bt306.1 bt306.2.1 bt306.2.2) else (if (wrap64 (bt322.1 - bt317.1)) > 7 then (serinettelaw01_BitsFill.j0 k a2 a3 t299 true bt306.1 bt306.2.1 bt306.2.2) else ((bits_Writer_Bytes.f bt327.2.1 bt327.2.2).bind fun bt330 => ((serinetteref01_Same.f k bt312.1 bt330.1).bind fun t335 => (if t335 = true then (serinettelaw01_BitsFill.j0 k a2 a3 t299 ((wrap64 (8 * (bt312.1.length : Int))) != bt322.1) bt306.1 bt306.2.1 bt306.2.2) else (serinettelaw01_BitsFill.j0 k a2 a3 t299 true bt306.1 bt306.2.1 bt306.2.2)))))) else (serinettelaw01_BitsFill.j0 k a2 a3 t299 true bt306.1 bt306.2.1 bt306.2.2)) else (serinettelaw01_BitsFill.j0 k a2 a3 t299 true bt306.1 bt306.2.1 bt306.2.2))))))))))) = some r := H
  have A5 := Aside0.mk A50
  clear A50
  replace H := Option.bind_eq_some_iff.mp H
  obtain ⟨⟨t300, t301⟩, A60, H⟩ := H
  replace H : ((bits_Open.f (([a2] : List Int))).bind fun bt306 => ((bits_Writer_Put.f t300 t301 a0 a1).bind fun bt310 => ((bits_Writer_Bytes.f bt310.1 bt310.2).bind fun bt312 => ((bits_Writer_Len.f bt312.2.1 bt312.2.2).bind fun bt317 => ((bits_Writer_Fill.f bt317.2.1 bt317.2.2).bind fun bt320 => ((bits_Writer_Len.f bt320.1 bt320.2).bind fun bt322 => ((bits_Writer_Fill.f bt322.2.1 bt322.2.2).bind fun bt325 => ((bits_Writer_Len.f bt325.1 bt325.2).bind fun bt327 => (if bt322.1 = bt327.1 then (if (Int.tmod bt322.1 8) = 0 then (if bt322.1 < bt317.1 then (serinettelaw01_BitsFill.j0 k a2 a3 t299 true bt306.1 bt306.2.1 bt306.2.2) else (if (wrap64 (bt322.1 - bt317.1)) > 7 then (serinettelaw01_BitsFill.j0 k a2 a3 t299 true bt306.1 bt306.2.1 bt306.2.2) else ((bits_Writer_Bytes.f bt327.2.1 bt327.2.2).bind fun bt330 => ((serinetteref01_Same.f k bt312.1 bt330.1).bind fun t335 => (if t335 = true then (serinettelaw01_BitsFill.j0 k a2 a3 t299 ((wrap64 (8 * (bt312.1.length : Int))) != bt322.1) bt306.1 bt306.2.1 bt306.2.2) else (serinettelaw01_BitsFill.j0 k a2 a3 t299 true bt306.1 bt306.2.1 bt306.2.2)))))) else (serinettelaw01_BitsFill.j0 k a2 a3 t299 true bt306.1 bt306.2.1 bt306.2.2)) else (serinettelaw01_BitsFill.j0 k a2 a3 t299 true bt306.1 bt306.2.1 bt306.2.2)))))))))) = some r := H
  have A6 := Aside0.mk A60
  clear A60
  obtain ⟨y303, hy303⟩ : ∃ y_ : List Int, y_ = (([a2] : List Int)) := ⟨_, rfl⟩
  replace H : ((bits_Open.f y303).bind fun bt306 => ((bits_Writer_Put.f t300 t301 a0 a1).bind fun bt310 => ((bits_Writer_Bytes.f bt310.1 bt310.2).bind fun bt312 => ((bits_Writer_Len.f bt312.2.1 bt312.2.2).bind fun bt317 => ((bits_Writer_Fill.f bt317.2.1 bt317.2.2).bind fun bt320 => ((bits_Writer_Len.f bt320.1 bt320.2).bind fun bt322 => ((bits_Writer_Fill.f bt322.2.1 bt322.2.2).bind fun bt325 => ((bits_Writer_Len.f bt325.1 bt325.2).bind fun bt327 => (if bt322.1 = bt327.1 then (if (Int.tmod bt322.1 8) = 0 then (if bt322.1 < bt317.1 then (serinettelaw01_BitsFill.j0 k a2 a3 t299 true bt306.1 bt306.2.1 bt306.2.2) else (if (wrap64 (bt322.1 - bt317.1)) > 7 then (serinettelaw01_BitsFill.j0 k a2 a3 t299 true bt306.1 bt306.2.1 bt306.2.2) else ((bits_Writer_Bytes.f bt327.2.1 bt327.2.2).bind fun bt330 => ((serinetteref01_Same.f k bt312.1 bt330.1).bind fun t335 => (if t335 = true then (serinettelaw01_BitsFill.j0 k a2 a3 t299 ((wrap64 (8 * (bt312.1.length : Int))) != bt322.1) bt306.1 bt306.2.1 bt306.2.2) else (serinettelaw01_BitsFill.j0 k a2 a3 t299 true bt306.1 bt306.2.1 bt306.2.2)))))) else (serinettelaw01_BitsFill.j0 k a2 a3 t299 true bt306.1 bt306.2.1 bt306.2.2)) else (serinettelaw01_BitsFill.j0 k a2 a3 t299 true bt306.1 bt306.2.1 bt306.2.2)))))))))) = some r := by first | (rw [hy303]; with_reducible exact H) | (have H2_ := (Option.bind_some _ _).symm.trans H; rw [hy303]; with_reducible exact H2_) | (have H2_ := (Option.bind_some _ _).symm.trans H; with_reducible exact H2_) | with_reducible exact H | (rw [hy303]; exact H) | exact H
  have Ny303 := Aside0.mk hy303
  clear hy303
  replace H := Option.bind_eq_some_iff.mp H
  obtain ⟨⟨t306, t307, t308⟩, A70, H⟩ := H
  replace H : ((bits_Writer_Put.f t300 t301 a0 a1).bind fun bt310 => ((bits_Writer_Bytes.f bt310.1 bt310.2).bind fun bt312 => ((bits_Writer_Len.f bt312.2.1 bt312.2.2).bind fun bt317 => ((bits_Writer_Fill.f bt317.2.1 bt317.2.2).bind fun bt320 => ((bits_Writer_Len.f bt320.1 bt320.2).bind fun bt322 => ((bits_Writer_Fill.f bt322.2.1 bt322.2.2).bind fun bt325 => ((bits_Writer_Len.f bt325.1 bt325.2).bind fun bt327 => (if bt322.1 = bt327.1 then (if (Int.tmod bt322.1 8) = 0 then (if bt322.1 < bt317.1 then (serinettelaw01_BitsFill.j0 k a2 a3 t299 true t306 t307 t308) else (if (wrap64 (bt322.1 - bt317.1)) > 7 then (serinettelaw01_BitsFill.j0 k a2 a3 t299 true t306 t307 t308) else ((bits_Writer_Bytes.f bt327.2.1 bt327.2.2).bind fun bt330 => ((serinetteref01_Same.f k bt312.1 bt330.1).bind fun t335 => (if t335 = true then (serinettelaw01_BitsFill.j0 k a2 a3 t299 ((wrap64 (8 * (bt312.1.length : Int))) != bt322.1) t306 t307 t308) else (serinettelaw01_BitsFill.j0 k a2 a3 t299 true t306 t307 t308)))))) else (serinettelaw01_BitsFill.j0 k a2 a3 t299 true t306 t307 t308)) else (serinettelaw01_BitsFill.j0 k a2 a3 t299 true t306 t307 t308))))))))) = some r := H
  have A7 := Aside0.mk A70
  clear A70
  replace H := Option.bind_eq_some_iff.mp H
  obtain ⟨⟨t310, t311⟩, A80, H⟩ := H
  replace H : ((bits_Writer_Bytes.f t310 t311).bind fun bt312 => ((bits_Writer_Len.f bt312.2.1 bt312.2.2).bind fun bt317 => ((bits_Writer_Fill.f bt317.2.1 bt317.2.2).bind fun bt320 => ((bits_Writer_Len.f bt320.1 bt320.2).bind fun bt322 => ((bits_Writer_Fill.f bt322.2.1 bt322.2.2).bind fun bt325 => ((bits_Writer_Len.f bt325.1 bt325.2).bind fun bt327 => (if bt322.1 = bt327.1 then (if (Int.tmod bt322.1 8) = 0 then (if bt322.1 < bt317.1 then (serinettelaw01_BitsFill.j0 k a2 a3 t299 true t306 t307 t308) else (if (wrap64 (bt322.1 - bt317.1)) > 7 then (serinettelaw01_BitsFill.j0 k a2 a3 t299 true t306 t307 t308) else ((bits_Writer_Bytes.f bt327.2.1 bt327.2.2).bind fun bt330 => ((serinetteref01_Same.f k bt312.1 bt330.1).bind fun t335 => (if t335 = true then (serinettelaw01_BitsFill.j0 k a2 a3 t299 ((wrap64 (8 * (bt312.1.length : Int))) != bt322.1) t306 t307 t308) else (serinettelaw01_BitsFill.j0 k a2 a3 t299 true t306 t307 t308)))))) else (serinettelaw01_BitsFill.j0 k a2 a3 t299 true t306 t307 t308)) else (serinettelaw01_BitsFill.j0 k a2 a3 t299 true t306 t307 t308)))))))) = some r := H
  have A8 := Aside0.mk A80
  clear A80
  replace H := Option.bind_eq_some_iff.mp H
  obtain ⟨⟨t312, t315, t316⟩, A90, H⟩ := H
  replace H : ((bits_Writer_Len.f t315 t316).bind fun bt317 => ((bits_Writer_Fill.f bt317.2.1 bt317.2.2).bind fun bt320 => ((bits_Writer_Len.f bt320.1 bt320.2).bind fun bt322 => ((bits_Writer_Fill.f bt322.2.1 bt322.2.2).bind fun bt325 => ((bits_Writer_Len.f bt325.1 bt325.2).bind fun bt327 => (if bt322.1 = bt327.1 then (if (Int.tmod bt322.1 8) = 0 then (if bt322.1 < bt317.1 then (serinettelaw01_BitsFill.j0 k a2 a3 t299 true t306 t307 t308) else (if (wrap64 (bt322.1 - bt317.1)) > 7 then (serinettelaw01_BitsFill.j0 k a2 a3 t299 true t306 t307 t308) else ((bits_Writer_Bytes.f bt327.2.1 bt327.2.2).bind fun bt330 => ((serinetteref01_Same.f k t312 bt330.1).bind fun t335 => (if t335 = true then (serinettelaw01_BitsFill.j0 k a2 a3 t299 ((wrap64 (8 * (t312.length : Int))) != bt322.1) t306 t307 t308) else (serinettelaw01_BitsFill.j0 k a2 a3 t299 true t306 t307 t308)))))) else (serinettelaw01_BitsFill.j0 k a2 a3 t299 true t306 t307 t308)) else (serinettelaw01_BitsFill.j0 k a2 a3 t299 true t306 t307 t308))))))) = some r := H
  have A9 := Aside0.mk A90
  clear A90
  replace H := Option.bind_eq_some_iff.mp H
  obtain ⟨⟨t317, t318, t319⟩, A100, H⟩ := H
  replace H : ((bits_Writer_Fill.f t318 t319).bind fun bt320 => ((bits_Writer_Len.f bt320.1 bt320.2).bind fun bt322 => ((bits_Writer_Fill.f bt322.2.1 bt322.2.2).bind fun bt325 => ((bits_Writer_Len.f bt325.1 bt325.2).bind fun bt327 => (if bt322.1 = bt327.1 then (if (Int.tmod bt322.1 8) = 0 then (if bt322.1 < t317 then (serinettelaw01_BitsFill.j0 k a2 a3 t299 true t306 t307 t308) else (if (wrap64 (bt322.1 - t317)) > 7 then (serinettelaw01_BitsFill.j0 k a2 a3 t299 true t306 t307 t308) else ((bits_Writer_Bytes.f bt327.2.1 bt327.2.2).bind fun bt330 => ((serinetteref01_Same.f k t312 bt330.1).bind fun t335 => (if t335 = true then (serinettelaw01_BitsFill.j0 k a2 a3 t299 ((wrap64 (8 * (t312.length : Int))) != bt322.1) t306 t307 t308) else (serinettelaw01_BitsFill.j0 k a2 a3 t299 true t306 t307 t308)))))) else (serinettelaw01_BitsFill.j0 k a2 a3 t299 true t306 t307 t308)) else (serinettelaw01_BitsFill.j0 k a2 a3 t299 true t306 t307 t308)))))) = some r := H
  have A10 := Aside0.mk A100
  clear A100
  replace H := Option.bind_eq_some_iff.mp H
  obtain ⟨⟨t320, t321⟩, A110, H⟩ := H
  replace H : ((bits_Writer_Len.f t320 t321).bind fun bt322 => ((bits_Writer_Fill.f bt322.2.1 bt322.2.2).bind fun bt325 => ((bits_Writer_Len.f bt325.1 bt325.2).bind fun bt327 => (if bt322.1 = bt327.1 then (if (Int.tmod bt322.1 8) = 0 then (if bt322.1 < t317 then (serinettelaw01_BitsFill.j0 k a2 a3 t299 true t306 t307 t308) else (if (wrap64 (bt322.1 - t317)) > 7 then (serinettelaw01_BitsFill.j0 k a2 a3 t299 true t306 t307 t308) else ((bits_Writer_Bytes.f bt327.2.1 bt327.2.2).bind fun bt330 => ((serinetteref01_Same.f k t312 bt330.1).bind fun t335 => (if t335 = true then (serinettelaw01_BitsFill.j0 k a2 a3 t299 ((wrap64 (8 * (t312.length : Int))) != bt322.1) t306 t307 t308) else (serinettelaw01_BitsFill.j0 k a2 a3 t299 true t306 t307 t308)))))) else (serinettelaw01_BitsFill.j0 k a2 a3 t299 true t306 t307 t308)) else (serinettelaw01_BitsFill.j0 k a2 a3 t299 true t306 t307 t308))))) = some r := H
  have A11 := Aside0.mk A110
  clear A110
  replace H := Option.bind_eq_some_iff.mp H
  obtain ⟨⟨t322, t323, t324⟩, A120, H⟩ := H
  replace H : ((bits_Writer_Fill.f t323 t324).bind fun bt325 => ((bits_Writer_Len.f bt325.1 bt325.2).bind fun bt327 => (if t322 = bt327.1 then (if (Int.tmod t322 8) = 0 then (if t322 < t317 then (serinettelaw01_BitsFill.j0 k a2 a3 t299 true t306 t307 t308) else (if (wrap64 (t322 - t317)) > 7 then (serinettelaw01_BitsFill.j0 k a2 a3 t299 true t306 t307 t308) else ((bits_Writer_Bytes.f bt327.2.1 bt327.2.2).bind fun bt330 => ((serinetteref01_Same.f k t312 bt330.1).bind fun t335 => (if t335 = true then (serinettelaw01_BitsFill.j0 k a2 a3 t299 ((wrap64 (8 * (t312.length : Int))) != t322) t306 t307 t308) else (serinettelaw01_BitsFill.j0 k a2 a3 t299 true t306 t307 t308)))))) else (serinettelaw01_BitsFill.j0 k a2 a3 t299 true t306 t307 t308)) else (serinettelaw01_BitsFill.j0 k a2 a3 t299 true t306 t307 t308)))) = some r := H
  have A12 := Aside0.mk A120
  clear A120
  replace H := Option.bind_eq_some_iff.mp H
  obtain ⟨⟨t325, t326⟩, A130, H⟩ := H
  replace H : ((bits_Writer_Len.f t325 t326).bind fun bt327 => (if t322 = bt327.1 then (if (Int.tmod t322 8) = 0 then (if t322 < t317 then (serinettelaw01_BitsFill.j0 k a2 a3 t299 true t306 t307 t308) else (if (wrap64 (t322 - t317)) > 7 then (serinettelaw01_BitsFill.j0 k a2 a3 t299 true t306 t307 t308) else ((bits_Writer_Bytes.f bt327.2.1 bt327.2.2).bind fun bt330 => ((serinetteref01_Same.f k t312 bt330.1).bind fun t335 => (if t335 = true then (serinettelaw01_BitsFill.j0 k a2 a3 t299 ((wrap64 (8 * (t312.length : Int))) != t322) t306 t307 t308) else (serinettelaw01_BitsFill.j0 k a2 a3 t299 true t306 t307 t308)))))) else (serinettelaw01_BitsFill.j0 k a2 a3 t299 true t306 t307 t308)) else (serinettelaw01_BitsFill.j0 k a2 a3 t299 true t306 t307 t308))) = some r := H
  have A13 := Aside0.mk A130
  clear A130
  have HC14 := Aside0.mk H
  clear H
  go_enter Try.func6, Try.ntmps6
  go_upto_region 12 with (first | ((with_reducible refine gate_callee (f := 9) rfl ?_); refine goesL_ (some 17) rfl rfl Try.func9 (by kernel_rfl) rfl #[] rfl (by (try simp only [List.map_toArray, List.map_cons, List.map_nil]); first | done | rfl | (simp only [List.length_drop, List.length_take]; rfl)) ?_; (with_reducible refine (serinettelaw01_awake.calls k  t299 _ A5.out).mono ?_); rintro e w15 ⟨rfl, hb⟩; refine ⟨_, rfl, ?_⟩; have n0_ := Aside0.mk (below_step (by repeat (first | (with_reducible first | exact HB.out | apply below_alloc | apply pw_below_drewN | apply below_drew1) | exact HB.out)) hb); clear HB; have HB := n0_; clear n0_; (try clear hb); (try clear hb2); (try clear hk); (try clear hi)) | ((with_reducible refine gate_callee (f := 10) rfl ?_); refine goesL_ (some 18) rfl rfl Try.func10 (by kernel_rfl) rfl #[] rfl (by (try simp only [List.map_toArray, List.map_cons, List.map_nil]); first | done | rfl | (simp only [List.length_drop, List.length_take]; rfl)) ?_; (with_reducible refine (bits_New.calls  t300 t301 w _ ?side1 A6.out).mono ?_); (case side1 => repeat (first | (with_reducible first | exact HB.out | apply below_alloc | apply pw_below_drewN | apply below_drew1) | exact HB.out)); rintro e w16 ⟨g302, rfl, hi, hb, hb2⟩; refine ⟨_, rfl, ?_⟩; have n0_ := Aside0.mk (hb); have n1_ := Aside0.mk (hi); clear HB; have HB := n0_; have HI302 := n1_; clear n0_ n1_; (try clear hb); (try clear hb2); (try clear hk); (try clear hi)) | ((with_reducible refine gate_dst (N := 20) rfl ?_); (try (refine gate_guard (by rfl) ?_; dsimp only)); refine Kd.R_lit (Kd.int .u8) _ 5 ?hg (N := 20) ?hd (xs := ([a2] : List Int)) (inner := [.int .u8 a2]) (ok := fun _ => True) (okp := fun _ => True) ?hr ?hp (fun _ hk => hk) trivial (Below.refl _ _) (Nat.le_refl _) (by simp) ?_; (case hd => rfl); (case hg => rfl); (case hr => first | (go_simp; done) | (go_simp; rfl)); (case hp => exact (Reps.one (show Kd.M (Kd.int .u8) _ _ _ a2 [.int .u8 a2] from rfl) (Reps.none _ _))); intro v304 w17 ho18 hb hg_ hnew_; clear hg_ hnew_; (first | rw [← Ny303.out] at ho18 | (simp only [Int.reduceToNat] at ho18; rw [← Ny303.out] at ho18)); have n0_ := Aside0.mk (Kd.R_lower ho18 (below_size (by repeat (first | (with_reducible first | exact HB.out | apply below_alloc | apply pw_below_drewN | apply below_drew1 | refine below_set ?_ (IsS52.ge HI302.out)) | exact HB.out)))); have n1_ := Aside0.mk (IsS52.below (by repeat (first | (with_reducible first | exact HI302.out | apply IsS52.alloc | apply IsS52.drewN | apply IsS52.drew | apply IsS52.set_0 | apply IsS52.set_1) | exact HI302.out)) hb); have n2_ := Aside0.mk (below_step (by repeat (first | (with_reducible first | exact HB.out | apply below_alloc | apply pw_below_drewN | apply below_drew1 | refine below_set ?_ (IsS52.ge HI302.out)) | exact HB.out)) hb); clear HI302; clear HB; have HO305 := n0_; have HI302 := n1_; have HB := n2_; clear n0_ n1_ n2_; clear hb ho18; obtain ⟨Ao19, co19, eo19⟩ := Kd.R_slice HO305.out; subst eo19) | ((with_reducible refine gate_callee (f := 18) rfl ?_); refine goesL_ (some 21) rfl rfl Try.func18 (by kernel_rfl) rfl #[.slice Ao19 y303.length co19] rfl (by (try simp only [List.map_toArray, List.map_cons, List.map_nil]); first | done | rfl | (simp only [List.length_drop, List.length_take]; rfl)) ?_; (with_reducible refine (bits_Open.calls _ _ y303 t306 t307 t308 w _ ?side1 ?side2 ?side3 A7.out).mono ?_); (case side1 => repeat (first | (with_reducible first | exact HB.out | apply below_alloc | apply pw_below_drewN | apply below_drew1 | refine below_set ?_ (IsS52.ge HI302.out)) | exact HB.out)); (case side2 => repeat (first | exact (Kd.R_reads' HO305.out).2.2 | (with_reducible refine Kd.C_alloc ?_ _) | (with_reducible refine Kd.C_drewN ?_ _) | (with_reducible refine Kd.C_drew ?_))); (case side3 => exact (Kd.R_reads' HO305.out).2.1); rintro e w20 ⟨g309, rfl, hi, hb, hb2⟩; refine ⟨_, rfl, ?_⟩; have n0_ := Aside0.mk (Kd.R_below (by (with_reducible repeat (first | apply Kd.R_alloc | apply Kd.R_drewN | apply Kd.R_drew)); exact HO305.out) hb2); have n1_ := Aside0.mk (IsS52.below (by repeat (first | (with_reducible first | exact HI302.out | apply IsS52.alloc | apply IsS52.drewN | apply IsS52.drew | apply IsS52.set_0 | apply IsS52.set_1) | exact HI302.out)) hb2); have n2_ := Aside0.mk (hb); have n3_ := Aside0.mk (hi); clear HO305; clear HI302; clear HB; have HO305 := n0_; have HI302 := n1_; have HB := n2_; have HI309 := n3_; clear n0_ n1_ n2_ n3_; (try clear hb); (try clear hb2); (try clear hk); (try clear hi)) | ((with_reducible refine gate_callee (f := 11) rfl ?_); refine goesL_ (some 31) rfl rfl Try.func11 (by kernel_rfl) rfl #[.pointer (some ⟨g302, 0, none⟩), .int .u64 a0, .int .i64 a1] rfl (by (try simp only [List.map_toArray, List.map_cons, List.map_nil]); first | done | rfl | (simp only [List.length_drop, List.length_take]; rfl)) ?_; (with_reducible refine (bits_Writer_Put.calls g302 t300 t301 a0 a1 t310 t311 w _ ?side1 ?side2 A8.out).mono ?_); (case side1 => repeat (first | (with_reducible first | exact HI302.out | apply IsS52.alloc | apply IsS52.drewN | apply IsS52.drew | apply IsS52.set_0 | apply IsS52.set_1) | exact HI302.out)); (case side2 => repeat (first | (with_reducible first | exact HB.out | apply below_alloc | apply pw_below_drewN | apply below_drew1 | refine below_set ?_ (IsS52.ge HI302.out) | refine below_set ?_ (IsS57.ge HI309.out)) | exact HB.out)); rintro e w21 ⟨rfl, hi, hb, hk⟩; refine ⟨_, rfl, ?_⟩; have n0_ := Aside0.mk (Kd.R_mono (Kd.R_keep (IsS52.apart (show IsS52 w _ g302 t300 t301 from by repeat (first | (with_reducible first | exact HI302.out | apply IsS52.alloc | apply IsS52.drewN | apply IsS52.drew | apply IsS52.set_0 | apply IsS52.set_1) | exact HI302.out)) (by (with_reducible repeat (first | apply Kd.R_alloc | apply Kd.R_drewN | apply Kd.R_drew)); exact HO305.out) (by decide)) (KBe.keep0 hk (show IsS52 w _ g302 t300 t301 from by repeat (first | (with_reducible first | exact HI302.out | apply IsS52.alloc | apply IsS52.drewN | apply IsS52.drew | apply IsS52.set_0 | apply IsS52.set_1) | exact HI302.out)) (by (have h_ := A6.out; simp only [bits_New.f, Option.some.injEq, Prod.mk.injEq] at h_; rw [← h_.1]; rfl))) (fun _ h => h.2)) (fun _ h => h.1)); have n1_ := Aside0.mk (IsS57.keepG (by repeat (first | (with_reducible first | exact HI309.out | apply IsS57.alloc | apply IsS57.drewN | apply IsS57.drew | apply IsS57.set_1 | apply IsS57.set_2) | exact HI309.out)) (IsS52.blk (show IsS52 w _ g302 t300 t301 from by repeat (first | (with_reducible first | exact HI302.out | apply IsS52.alloc | apply IsS52.drewN | apply IsS52.drew | apply IsS52.set_0 | apply IsS52.set_1) | exact HI302.out))).choose_spec (by decide) (KBe.keep0 hk (show IsS52 w _ g302 t300 t301 from by repeat (first | (with_reducible first | exact HI302.out | apply IsS52.alloc | apply IsS52.drewN | apply IsS52.drew | apply IsS52.set_0 | apply IsS52.set_1) | exact HI302.out)) (by (have h_ := A6.out; simp only [bits_New.f, Option.some.injEq, Prod.mk.injEq] at h_; rw [← h_.1]; rfl)))); have n2_ := Aside0.mk (hb); have n3_ := Aside0.mk (hi); clear HO305; clear HI309; clear HB; clear HI302; have HO305 := n0_; have HI309 := n1_; have HB := n2_; have HI302 := n3_; clear n0_ n1_ n2_ n3_; (try clear hb); (try clear hb2); (try clear hk); (try clear hi)) | ((with_reducible refine gate_callee (f := 16) rfl ?_); refine goesL_ (some 33) rfl rfl Try.func16 (by kernel_rfl) rfl #[.pointer (some ⟨g302, 0, none⟩)] rfl (by (try simp only [List.map_toArray, List.map_cons, List.map_nil]); first | done | rfl | (simp only [List.length_drop, List.length_take]; rfl)) ?_; (with_reducible refine (bits_Writer_Bytes.calls g302 t310 t311 t312 t315 t316 w _ ?side1 ?side2 A9.out).mono ?_); (case side1 => repeat (first | (with_reducible first | exact HI302.out | apply IsS52.alloc | apply IsS52.drewN | apply IsS52.drew | apply IsS52.set_0 | apply IsS52.set_1) | exact HI302.out)); (case side2 => repeat (first | (with_reducible first | exact HB.out | apply below_alloc | apply pw_below_drewN | apply below_drew1 | refine below_set ?_ (IsS52.ge HI302.out) | refine below_set ?_ (IsS57.ge HI309.out)) | exact HB.out)); rintro e w22 ⟨v313, rfl, ho0, hi, hb, hk⟩; refine ⟨_, rfl, ?_⟩; have n0_ := Aside0.mk (Kd.R_mono (Kd.R_told (Kd.R_oldK (IsS52.apart (show IsS52 w _ g302 t310 t311 from by repeat (first | (with_reducible first | exact HI302.out | apply IsS52.alloc | apply IsS52.drewN | apply IsS52.drew | apply IsS52.set_0 | apply IsS52.set_1) | exact HI302.out)) (by (with_reducible repeat (first | apply Kd.R_alloc | apply Kd.R_drewN | apply Kd.R_drew)); exact HO305.out) (by decide)) hk) (Kd.R_base ho0)) (fun _ h_ => h_.1)); have n1_ := Aside0.mk (IsS57.keepG (by repeat (first | (with_reducible first | exact HI309.out | apply IsS57.alloc | apply IsS57.drewN | apply IsS57.drew | apply IsS57.set_1 | apply IsS57.set_2) | exact HI309.out)) (IsS52.blk (show IsS52 w _ g302 t310 t311 from by repeat (first | (with_reducible first | exact HI302.out | apply IsS52.alloc | apply IsS52.drewN | apply IsS52.drew | apply IsS52.set_0 | apply IsS52.set_1) | exact HI302.out))).choose_spec (by decide) hk); have n2_ := Aside0.mk (Kd.R_lower (Kd.R_new' ho0 (Kd.R_lt (by (with_reducible repeat (first | apply Kd.R_alloc | apply Kd.R_drewN | apply Kd.R_drew)); exact HO305.out))) (below_size (by repeat (first | (with_reducible first | exact HB.out | apply below_alloc | apply pw_below_drewN | apply below_drew1 | refine below_set ?_ (IsS52.ge HI302.out) | refine below_set ?_ (IsS57.ge HI309.out)) | exact HB.out)))); have n3_ := Aside0.mk (hb); have n4_ := Aside0.mk (hi); clear HO305; clear HI309; clear HB; clear HI302; have HO305 := n0_; have HI309 := n1_; have HO314 := n2_; have HB := n3_; have HI302 := n4_; clear n0_ n1_ n2_ n3_ n4_; (try clear hb); (try clear hb2); (try clear hk); (try clear hi); (try clear ho0)) | ((with_reducible refine gate_callee (f := 14) rfl ?_); refine goesL_ (some 35) rfl rfl Try.func14 (by kernel_rfl) rfl #[.pointer (some ⟨g302, 0, none⟩)] rfl (by (try simp only [List.map_toArray, List.map_cons, List.map_nil]); first | done | rfl | (simp only [List.length_drop, List.length_take]; rfl)) ?_; (with_reducible refine (bits_Writer_Len.calls g302 t315 t316 t317 t318 t319 w _ ?side1 ?side2 A10.out).mono ?_); (case side1 => repeat (first | (with_reducible first | exact HI302.out | apply IsS52.alloc | apply IsS52.drewN | apply IsS52.drew | apply IsS52.set_0 | apply IsS52.set_1) | exact HI302.out)); (case side2 => repeat (first | (with_reducible first | exact HB.out | apply below_alloc | apply pw_below_drewN | apply below_drew1 | refine below_set ?_ (IsS52.ge HI302.out) | refine below_set ?_ (IsS57.ge HI309.out)) | exact HB.out)); rintro e w23 ⟨rfl, hi, hb, hk⟩; refine ⟨_, rfl, ?_⟩; have n0_ := Aside0.mk (Kd.R_mono (Kd.R_keep (IsS52.apart (show IsS52 w _ g302 t315 t316 from by repeat (first | (with_reducible first | exact HI302.out | apply IsS52.alloc | apply IsS52.drewN | apply IsS52.drew | apply IsS52.set_0 | apply IsS52.set_1) | exact HI302.out)) (by (with_reducible repeat (first | apply Kd.R_alloc | apply Kd.R_drewN | apply Kd.R_drew)); exact HO305.out) (by decide)) hk (fun _ h => h.2)) (fun _ h => h.1)); have n1_ := Aside0.mk (IsS57.keepG (by repeat (first | (with_reducible first | exact HI309.out | apply IsS57.alloc | apply IsS57.drewN | apply IsS57.drew | apply IsS57.set_1 | apply IsS57.set_2) | exact HI309.out)) (IsS52.blk (show IsS52 w _ g302 t315 t316 from by repeat (first | (with_reducible first | exact HI302.out | apply IsS52.alloc | apply IsS52.drewN | apply IsS52.drew | apply IsS52.set_0 | apply IsS52.set_1) | exact HI302.out))).choose_spec (by decide) hk); have n2_ := Aside0.mk (Kd.R_mono (Kd.R_keep (IsS52.apart (show IsS52 w _ g302 t315 t316 from by repeat (first | (with_reducible first | exact HI302.out | apply IsS52.alloc | apply IsS52.drewN | apply IsS52.drew | apply IsS52.set_0 | apply IsS52.set_1) | exact HI302.out)) (by (with_reducible repeat (first | apply Kd.R_alloc | apply Kd.R_drewN | apply Kd.R_drew)); exact HO314.out) (by decide)) hk (fun _ h => h.2)) (fun _ h => h.1)); have n3_ := Aside0.mk (hb); have n4_ := Aside0.mk (hi); clear HO305; clear HI309; clear HO314; clear HB; clear HI302; have HO305 := n0_; have HI309 := n1_; have HO314 := n2_; have HB := n3_; have HI302 := n4_; clear n0_ n1_ n2_ n3_ n4_; (try clear hb); (try clear hb2); (try clear hk); (try clear hi)) | ((with_reducible refine gate_callee (f := 13) rfl ?_); refine goesL_ (some 37) rfl rfl Try.func13 (by kernel_rfl) rfl #[.pointer (some ⟨g302, 0, none⟩)] rfl (by (try simp only [List.map_toArray, List.map_cons, List.map_nil]); first | done | rfl | (simp only [List.length_drop, List.length_take]; rfl)) ?_; (with_reducible refine (bits_Writer_Fill.calls g302 t318 t319 t320 t321 w _ ?side1 ?side2 A11.out).mono ?_); (case side1 => repeat (first | (with_reducible first | exact HI302.out | apply IsS52.alloc | apply IsS52.drewN | apply IsS52.drew | apply IsS52.set_0 | apply IsS52.set_1) | exact HI302.out)); (case side2 => repeat (first | (with_reducible first | exact HB.out | apply below_alloc | apply pw_below_drewN | apply below_drew1 | refine below_set ?_ (IsS52.ge HI302.out) | refine below_set ?_ (IsS57.ge HI309.out)) | exact HB.out)); rintro e w24 ⟨rfl, hi, hb, hk⟩; refine ⟨_, rfl, ?_⟩; have n0_ := Aside0.mk (Kd.R_mono (Kd.R_keep (IsS52.apart (show IsS52 w _ g302 t318 t319 from by repeat (first | (with_reducible first | exact HI302.out | apply IsS52.alloc | apply IsS52.drewN | apply IsS52.drew | apply IsS52.set_0 | apply IsS52.set_1) | exact HI302.out)) (by (with_reducible repeat (first | apply Kd.R_alloc | apply Kd.R_drewN | apply Kd.R_drew)); exact HO305.out) (by decide)) hk (fun _ h => h.2)) (fun _ h => h.1)); have n1_ := Aside0.mk (IsS57.keepG (by repeat (first | (with_reducible first | exact HI309.out | apply IsS57.alloc | apply IsS57.drewN | apply IsS57.drew | apply IsS57.set_1 | apply IsS57.set_2) | exact HI309.out)) (IsS52.blk (show IsS52 w _ g302 t318 t319 from by repeat (first | (with_reducible first | exact HI302.out | apply IsS52.alloc | apply IsS52.drewN | apply IsS52.drew | apply IsS52.set_0 | apply IsS52.set_1) | exact HI302.out))).choose_spec (by decide) hk); have n2_ := Aside0.mk (Kd.R_mono (Kd.R_keep (IsS52.apart (show IsS52 w _ g302 t318 t319 from by repeat (first | (with_reducible first | exact HI302.out | apply IsS52.alloc | apply IsS52.drewN | apply IsS52.drew | apply IsS52.set_0 | apply IsS52.set_1) | exact HI302.out)) (by (with_reducible repeat (first | apply Kd.R_alloc | apply Kd.R_drewN | apply Kd.R_drew)); exact HO314.out) (by decide)) hk (fun _ h => h.2)) (fun _ h => h.1)); have n3_ := Aside0.mk (hb); have n4_ := Aside0.mk (hi); clear HO305; clear HI309; clear HO314; clear HB; clear HI302; have HO305 := n0_; have HI309 := n1_; have HO314 := n2_; have HB := n3_; have HI302 := n4_; clear n0_ n1_ n2_ n3_ n4_; (try clear hb); (try clear hb2); (try clear hk); (try clear hi)) | ((with_reducible refine gate_callee (f := 14) rfl ?_); refine goesL_ (some 39) rfl rfl Try.func14 (by kernel_rfl) rfl #[.pointer (some ⟨g302, 0, none⟩)] rfl (by (try simp only [List.map_toArray, List.map_cons, List.map_nil]); first | done | rfl | (simp only [List.length_drop, List.length_take]; rfl)) ?_; (with_reducible refine (bits_Writer_Len.calls g302 t320 t321 t322 t323 t324 w _ ?side1 ?side2 A12.out).mono ?_); (case side1 => repeat (first | (with_reducible first | exact HI302.out | apply IsS52.alloc | apply IsS52.drewN | apply IsS52.drew | apply IsS52.set_0 | apply IsS52.set_1) | exact HI302.out)); (case side2 => repeat (first | (with_reducible first | exact HB.out | apply below_alloc | apply pw_below_drewN | apply below_drew1 | refine below_set ?_ (IsS52.ge HI302.out) | refine below_set ?_ (IsS57.ge HI309.out)) | exact HB.out)); rintro e w25 ⟨rfl, hi, hb, hk⟩; refine ⟨_, rfl, ?_⟩; have n0_ := Aside0.mk (Kd.R_mono (Kd.R_keep (IsS52.apart (show IsS52 w _ g302 t320 t321 from by repeat (first | (with_reducible first | exact HI302.out | apply IsS52.alloc | apply IsS52.drewN | apply IsS52.drew | apply IsS52.set_0 | apply IsS52.set_1) | exact HI302.out)) (by (with_reducible repeat (first | apply Kd.R_alloc | apply Kd.R_drewN | apply Kd.R_drew)); exact HO305.out) (by decide)) hk (fun _ h => h.2)) (fun _ h => h.1)); have n1_ := Aside0.mk (IsS57.keepG (by repeat (first | (with_reducible first | exact HI309.out | apply IsS57.alloc | apply IsS57.drewN | apply IsS57.drew | apply IsS57.set_1 | apply IsS57.set_2) | exact HI309.out)) (IsS52.blk (show IsS52 w _ g302 t320 t321 from by repeat (first | (with_reducible first | exact HI302.out | apply IsS52.alloc | apply IsS52.drewN | apply IsS52.drew | apply IsS52.set_0 | apply IsS52.set_1) | exact HI302.out))).choose_spec (by decide) hk); have n2_ := Aside0.mk (Kd.R_mono (Kd.R_keep (IsS52.apart (show IsS52 w _ g302 t320 t321 from by repeat (first | (with_reducible first | exact HI302.out | apply IsS52.alloc | apply IsS52.drewN | apply IsS52.drew | apply IsS52.set_0 | apply IsS52.set_1) | exact HI302.out)) (by (with_reducible repeat (first | apply Kd.R_alloc | apply Kd.R_drewN | apply Kd.R_drew)); exact HO314.out) (by decide)) hk (fun _ h => h.2)) (fun _ h => h.1)); have n3_ := Aside0.mk (hb); have n4_ := Aside0.mk (hi); clear HO305; clear HI309; clear HO314; clear HB; clear HI302; have HO305 := n0_; have HI309 := n1_; have HO314 := n2_; have HB := n3_; have HI302 := n4_; clear n0_ n1_ n2_ n3_ n4_; (try clear hb); (try clear hb2); (try clear hk); (try clear hi)) | ((with_reducible refine gate_callee (f := 13) rfl ?_); refine goesL_ (some 41) rfl rfl Try.func13 (by kernel_rfl) rfl #[.pointer (some ⟨g302, 0, none⟩)] rfl (by (try simp only [List.map_toArray, List.map_cons, List.map_nil]); first | done | rfl | (simp only [List.length_drop, List.length_take]; rfl)) ?_; (with_reducible refine (bits_Writer_Fill.calls g302 t323 t324 t325 t326 w _ ?side1 ?side2 A13.out).mono ?_); (case side1 => repeat (first | (with_reducible first | exact HI302.out | apply IsS52.alloc | apply IsS52.drewN | apply IsS52.drew | apply IsS52.set_0 | apply IsS52.set_1) | exact HI302.out)); (case side2 => repeat (first | (with_reducible first | exact HB.out | apply below_alloc | apply pw_below_drewN | apply below_drew1 | refine below_set ?_ (IsS52.ge HI302.out) | refine below_set ?_ (IsS57.ge HI309.out)) | exact HB.out)); rintro e w26 ⟨rfl, hi, hb, hk⟩; refine ⟨_, rfl, ?_⟩; have n0_ := Aside0.mk (Kd.R_mono (Kd.R_keep (IsS52.apart (show IsS52 w _ g302 t323 t324 from by repeat (first | (with_reducible first | exact HI302.out | apply IsS52.alloc | apply IsS52.drewN | apply IsS52.drew | apply IsS52.set_0 | apply IsS52.set_1) | exact HI302.out)) (by (with_reducible repeat (first | apply Kd.R_alloc | apply Kd.R_drewN | apply Kd.R_drew)); exact HO305.out) (by decide)) hk (fun _ h => h.2)) (fun _ h => h.1)); have n1_ := Aside0.mk (IsS57.keepG (by repeat (first | (with_reducible first | exact HI309.out | apply IsS57.alloc | apply IsS57.drewN | apply IsS57.drew | apply IsS57.set_1 | apply IsS57.set_2) | exact HI309.out)) (IsS52.blk (show IsS52 w _ g302 t323 t324 from by repeat (first | (with_reducible first | exact HI302.out | apply IsS52.alloc | apply IsS52.drewN | apply IsS52.drew | apply IsS52.set_0 | apply IsS52.set_1) | exact HI302.out))).choose_spec (by decide) hk); have n2_ := Aside0.mk (Kd.R_mono (Kd.R_keep (IsS52.apart (show IsS52 w _ g302 t323 t324 from by repeat (first | (with_reducible first | exact HI302.out | apply IsS52.alloc | apply IsS52.drewN | apply IsS52.drew | apply IsS52.set_0 | apply IsS52.set_1) | exact HI302.out)) (by (with_reducible repeat (first | apply Kd.R_alloc | apply Kd.R_drewN | apply Kd.R_drew)); exact HO314.out) (by decide)) hk (fun _ h => h.2)) (fun _ h => h.1)); have n3_ := Aside0.mk (hb); have n4_ := Aside0.mk (hi); clear HO305; clear HI309; clear HO314; clear HB; clear HI302; have HO305 := n0_; have HI309 := n1_; have HO314 := n2_; have HB := n3_; have HI302 := n4_; clear n0_ n1_ n2_ n3_ n4_; (try clear hb); (try clear hb2); (try clear hk); (try clear hi)))
  (try simp only [Act.put, List.setIfInBounds_toArray, List.set_cons_zero, List.set_cons_succ])
  go_cut [75] (fun v75 wc => ∃ (kq : Nat) (x75_13 : Bool), v75 = .bool x75_13 ∧ Aside0 (serinettelaw01_BitsFill.j0 kq a2 a3 t299 x75_13 t306 t307 t308 = some r) ∧ Aside0 (kq ≤ k) ∧ Aside0 (IsS57 w wc g309 t306 t307 t308) ∧ Aside0 (Below w.heap.size w wc))
  case first =>
    have H := HC14.out
    clear HC14
    replace H := Option.bind_eq_some_iff.mp H
    obtain ⟨⟨t327, t328, t329⟩, A270, H⟩ := H
    replace H : (if t322 = t327 then (if (Int.tmod t322 8) = 0 then (if t322 < t317 then (serinettelaw01_BitsFill.j0 k a2 a3 t299 true t306 t307 t308) else (if (wrap64 (t322 - t317)) > 7 then (serinettelaw01_BitsFill.j0 k a2 a3 t299 true t306 t307 t308) else ((bits_Writer_Bytes.f t328 t329).bind fun bt330 => ((serinetteref01_Same.f k t312 bt330.1).bind fun t335 => (if t335 = true then (serinettelaw01_BitsFill.j0 k a2 a3 t299 ((wrap64 (8 * (t312.length : Int))) != t322) t306 t307 t308) else (serinettelaw01_BitsFill.j0 k a2 a3 t299 true t306 t307 t308)))))) else (serinettelaw01_BitsFill.j0 k a2 a3 t299 true t306 t307 t308)) else (serinettelaw01_BitsFill.j0 k a2 a3 t299 true t306 t307 t308)) = some r := H
    have A27 := Aside0.mk A270
    clear A270
    by_cases c28 : t322 = t327
    · rw [if_pos c28] at H
      have c28b0 : (t322 == t327) = true := beq_iff_eq.mpr c28
      have c28b1 : (t322 != t327) = false := bne_eq_false_iff_eq.mpr c28
      clear c28
      (first | rw [c28b0] | (simp only [i64_w, i32_w]; rw [c28b0]) | skip)
      by_cases c29 : (Int.tmod t322 8) = 0
      · rw [if_pos c29] at H
        have c29b0 : ((Int.tmod t322 8) == 0) = true := beq_iff_eq.mpr c29
        have c29b1 : ((Int.tmod t322 8) != 0) = false := bne_eq_false_iff_eq.mpr c29
        clear c29
        by_cases c30 : t322 < t317
        · rw [if_pos c30] at H
          have c30b0 : decide (t322 < t317) = true := decide_eq_true c30
          clear c30
          have H' := Aside0.mk H
          clear H
          go_wp2_with (first | ((with_reducible refine gate_callee (f := 14) rfl ?_); refine goesL_ (some 44) rfl rfl Try.func14 (by kernel_rfl) rfl #[.pointer (some ⟨g302, 0, none⟩)] rfl (by (try simp only [List.map_toArray, List.map_cons, List.map_nil]); first | done | rfl | (simp only [List.length_drop, List.length_take]; rfl)) ?_; (with_reducible refine (bits_Writer_Len.calls g302 t325 t326 t327 t328 t329 w _ ?side1 ?side2 A27.out).mono ?_); (case side1 => repeat (first | (with_reducible first | exact HI302.out | apply IsS52.alloc | apply IsS52.drewN | apply IsS52.drew | apply IsS52.set_0 | apply IsS52.set_1) | exact HI302.out)); (case side2 => repeat (first | (with_reducible first | exact HB.out | apply below_alloc | apply pw_below_drewN | apply below_drew1 | refine below_set ?_ (IsS52.ge HI302.out) | refine below_set ?_ (IsS57.ge HI309.out)) | exact HB.out)); rintro e w31 ⟨rfl, hi, hb, hk⟩; refine ⟨_, rfl, ?_⟩; have n0_ := Aside0.mk (Kd.R_mono (Kd.R_keep (IsS52.apart (show IsS52 w _ g302 t325 t326 from by repeat (first | (with_reducible first | exact HI302.out | apply IsS52.alloc | apply IsS52.drewN | apply IsS52.drew | apply IsS52.set_0 | apply IsS52.set_1) | exact HI302.out)) (by (with_reducible repeat (first | apply Kd.R_alloc | apply Kd.R_drewN | apply Kd.R_drew)); exact HO305.out) (by decide)) hk (fun _ h => h.2)) (fun _ h => h.1)); have n1_ := Aside0.mk (IsS57.keepG (by repeat (first | (with_reducible first | exact HI309.out | apply IsS57.alloc | apply IsS57.drewN | apply IsS57.drew | apply IsS57.set_1 | apply IsS57.set_2) | exact HI309.out)) (IsS52.blk (show IsS52 w _ g302 t325 t326 from by repeat (first | (with_reducible first | exact HI302.out | apply IsS52.alloc | apply IsS52.drewN | apply IsS52.drew | apply IsS52.set_0 | apply IsS52.set_1) | exact HI302.out))).choose_spec (by decide) hk); have n2_ := Aside0.mk (Kd.R_mono (Kd.R_keep (IsS52.apart (show IsS52 w _ g302 t325 t326 from by repeat (first | (with_reducible first | exact HI302.out | apply IsS52.alloc | apply IsS52.drewN | apply IsS52.drew | apply IsS52.set_0 | apply IsS52.set_1) | exact HI302.out)) (by (with_reducible repeat (first | apply Kd.R_alloc | apply Kd.R_drewN | apply Kd.R_drew)); exact HO314.out) (by decide)) hk (fun _ h => h.2)) (fun _ h => h.1)); have n3_ := Aside0.mk (hb); have n4_ := Aside0.mk (hi); clear HO305; clear HI309; clear HO314; clear HB; clear HI302; have HO305 := n0_; have HI309 := n1_; have HO314 := n2_; have HB := n3_; have HI302 := n4_; clear n0_ n1_ n2_ n3_ n4_; (try clear hb); (try clear hb2); (try clear hk); (try clear hi)))
          go_meet
          case rel => exact ⟨_, (true), (by first | rfl | (simp; done) | (simp only [i64_w, i32_w]; done) | (simp [*]; done) | (simp only [i64_w, i32_w]; first | rfl | (simp; done) | (simp [*]; done))), H', ⟨by first | omega | exact Nat.le_refl _⟩, ⟨by repeat (first | (with_reducible first | exact HI309.out | apply IsS57.alloc | apply IsS57.drewN | apply IsS57.drew | apply IsS57.set_1 | apply IsS57.set_2) | exact HI309.out)⟩, ⟨by repeat (first | (with_reducible first | exact HB.out | apply below_alloc | apply pw_below_drewN | apply below_drew1 | refine below_set ?_ (IsS52.ge HI302.out) | refine below_set ?_ (IsS57.ge HI309.out)) | exact HB.out)⟩⟩
        · rw [if_neg c30] at H
          have c30b0 : decide (t322 < t317) = false := decide_eq_false c30
          clear c30
          by_cases c32 : (wrap64 (t322 - t317)) > 7
          · rw [if_pos c32] at H
            have c32b0 : decide (7 < (wrap64 (t322 - t317))) = true := decide_eq_true c32
            clear c32
            have H' := Aside0.mk H
            clear H
            go_wp2_with (first | ((with_reducible refine gate_callee (f := 14) rfl ?_); refine goesL_ (some 44) rfl rfl Try.func14 (by kernel_rfl) rfl #[.pointer (some ⟨g302, 0, none⟩)] rfl (by (try simp only [List.map_toArray, List.map_cons, List.map_nil]); first | done | rfl | (simp only [List.length_drop, List.length_take]; rfl)) ?_; (with_reducible refine (bits_Writer_Len.calls g302 t325 t326 t327 t328 t329 w _ ?side1 ?side2 A27.out).mono ?_); (case side1 => repeat (first | (with_reducible first | exact HI302.out | apply IsS52.alloc | apply IsS52.drewN | apply IsS52.drew | apply IsS52.set_0 | apply IsS52.set_1) | exact HI302.out)); (case side2 => repeat (first | (with_reducible first | exact HB.out | apply below_alloc | apply pw_below_drewN | apply below_drew1 | refine below_set ?_ (IsS52.ge HI302.out) | refine below_set ?_ (IsS57.ge HI309.out)) | exact HB.out)); rintro e w33 ⟨rfl, hi, hb, hk⟩; refine ⟨_, rfl, ?_⟩; have n0_ := Aside0.mk (Kd.R_mono (Kd.R_keep (IsS52.apart (show IsS52 w _ g302 t325 t326 from by repeat (first | (with_reducible first | exact HI302.out | apply IsS52.alloc | apply IsS52.drewN | apply IsS52.drew | apply IsS52.set_0 | apply IsS52.set_1) | exact HI302.out)) (by (with_reducible repeat (first | apply Kd.R_alloc | apply Kd.R_drewN | apply Kd.R_drew)); exact HO305.out) (by decide)) hk (fun _ h => h.2)) (fun _ h => h.1)); have n1_ := Aside0.mk (IsS57.keepG (by repeat (first | (with_reducible first | exact HI309.out | apply IsS57.alloc | apply IsS57.drewN | apply IsS57.drew | apply IsS57.set_1 | apply IsS57.set_2) | exact HI309.out)) (IsS52.blk (show IsS52 w _ g302 t325 t326 from by repeat (first | (with_reducible first | exact HI302.out | apply IsS52.alloc | apply IsS52.drewN | apply IsS52.drew | apply IsS52.set_0 | apply IsS52.set_1) | exact HI302.out))).choose_spec (by decide) hk); have n2_ := Aside0.mk (Kd.R_mono (Kd.R_keep (IsS52.apart (show IsS52 w _ g302 t325 t326 from by repeat (first | (with_reducible first | exact HI302.out | apply IsS52.alloc | apply IsS52.drewN | apply IsS52.drew | apply IsS52.set_0 | apply IsS52.set_1) | exact HI302.out)) (by (with_reducible repeat (first | apply Kd.R_alloc | apply Kd.R_drewN | apply Kd.R_drew)); exact HO314.out) (by decide)) hk (fun _ h => h.2)) (fun _ h => h.1)); have n3_ := Aside0.mk (hb); have n4_ := Aside0.mk (hi); clear HO305; clear HI309; clear HO314; clear HB; clear HI302; have HO305 := n0_; have HI309 := n1_; have HO314 := n2_; have HB := n3_; have HI302 := n4_; clear n0_ n1_ n2_ n3_ n4_; (try clear hb); (try clear hb2); (try clear hk); (try clear hi)))
            go_meet
            case rel => exact ⟨_, (true), (by first | rfl | (simp; done) | (simp only [i64_w, i32_w]; done) | (simp [*]; done) | (simp only [i64_w, i32_w]; first | rfl | (simp; done) | (simp [*]; done))), H', ⟨by first | omega | exact Nat.le_refl _⟩, ⟨by repeat (first | (with_reducible first | exact HI309.out | apply IsS57.alloc | apply IsS57.drewN | apply IsS57.drew | apply IsS57.set_1 | apply IsS57.set_2) | exact HI309.out)⟩, ⟨by repeat (first | (with_reducible first | exact HB.out | apply below_alloc | apply pw_below_drewN | apply below_drew1 | refine below_set ?_ (IsS52.ge HI302.out) | refine below_set ?_ (IsS57.ge HI309.out)) | exact HB.out)⟩⟩
          · rw [if_neg c32] at H
            have c32b0 : decide (7 < (wrap64 (t322 - t317))) = false := decide_eq_false c32
            clear c32
            replace H := Option.bind_eq_some_iff.mp H
            obtain ⟨⟨t330, t333, t334⟩, A340, H⟩ := H
            replace H : ((serinetteref01_Same.f k t312 t330).bind fun t335 => (if t335 = true then (serinettelaw01_BitsFill.j0 k a2 a3 t299 ((wrap64 (8 * (t312.length : Int))) != t322) t306 t307 t308) else (serinettelaw01_BitsFill.j0 k a2 a3 t299 true t306 t307 t308))) = some r := H
            have A34 := Aside0.mk A340
            clear A340
            replace H := Option.bind_eq_some_iff.mp H
            obtain ⟨t335, A350, H⟩ := H
            replace H : (if t335 = true then (serinettelaw01_BitsFill.j0 k a2 a3 t299 ((wrap64 (8 * (t312.length : Int))) != t322) t306 t307 t308) else (serinettelaw01_BitsFill.j0 k a2 a3 t299 true t306 t307 t308)) = some r := H
            have A35 := Aside0.mk A350
            clear A350
            by_cases c36 : t335 = true
            · subst c36
              have H1 : (serinettelaw01_BitsFill.j0 k a2 a3 t299 ((wrap64 (8 * (t312.length : Int))) != t322) t306 t307 t308) = some r := by rw [if_pos rfl] at H; exact H
              clear H
              have H := H1
              clear H1
              have H' := Aside0.mk H
              clear H
              go_wp2_with (first | ((with_reducible refine gate_callee (f := 14) rfl ?_); refine goesL_ (some 44) rfl rfl Try.func14 (by kernel_rfl) rfl #[.pointer (some ⟨g302, 0, none⟩)] rfl (by (try simp only [List.map_toArray, List.map_cons, List.map_nil]); first | done | rfl | (simp only [List.length_drop, List.length_take]; rfl)) ?_; (with_reducible refine (bits_Writer_Len.calls g302 t325 t326 t327 t328 t329 w _ ?side1 ?side2 A27.out).mono ?_); (case side1 => repeat (first | (with_reducible first | exact HI302.out | apply IsS52.alloc | apply IsS52.drewN | apply IsS52.drew | apply IsS52.set_0 | apply IsS52.set_1) | exact HI302.out)); (case side2 => repeat (first | (with_reducible first | exact HB.out | apply below_alloc | apply pw_below_drewN | apply below_drew1 | refine below_set ?_ (IsS52.ge HI302.out) | refine below_set ?_ (IsS57.ge HI309.out)) | exact HB.out)); rintro e w37 ⟨rfl, hi, hb, hk⟩; refine ⟨_, rfl, ?_⟩; have n0_ := Aside0.mk (Kd.R_mono (Kd.R_keep (IsS52.apart (show IsS52 w _ g302 t325 t326 from by repeat (first | (with_reducible first | exact HI302.out | apply IsS52.alloc | apply IsS52.drewN | apply IsS52.drew | apply IsS52.set_0 | apply IsS52.set_1) | exact HI302.out)) (by (with_reducible repeat (first | apply Kd.R_alloc | apply Kd.R_drewN | apply Kd.R_drew)); exact HO305.out) (by decide)) hk (fun _ h => h.2)) (fun _ h => h.1)); have n1_ := Aside0.mk (IsS57.keepG (by repeat (first | (with_reducible first | exact HI309.out | apply IsS57.alloc | apply IsS57.drewN | apply IsS57.drew | apply IsS57.set_1 | apply IsS57.set_2) | exact HI309.out)) (IsS52.blk (show IsS52 w _ g302 t325 t326 from by repeat (first | (with_reducible first | exact HI302.out | apply IsS52.alloc | apply IsS52.drewN | apply IsS52.drew | apply IsS52.set_0 | apply IsS52.set_1) | exact HI302.out))).choose_spec (by decide) hk); have n2_ := Aside0.mk (Kd.R_mono (Kd.R_keep (IsS52.apart (show IsS52 w _ g302 t325 t326 from by repeat (first | (with_reducible first | exact HI302.out | apply IsS52.alloc | apply IsS52.drewN | apply IsS52.drew | apply IsS52.set_0 | apply IsS52.set_1) | exact HI302.out)) (by (with_reducible repeat (first | apply Kd.R_alloc | apply Kd.R_drewN | apply Kd.R_drew)); exact HO314.out) (by decide)) hk (fun _ h => h.2)) (fun _ h => h.1)); have n3_ := Aside0.mk (hb); have n4_ := Aside0.mk (hi); clear HO305; clear HI309; clear HO314; clear HB; clear HI302; have HO305 := n0_; have HI309 := n1_; have HO314 := n2_; have HB := n3_; have HI302 := n4_; clear n0_ n1_ n2_ n3_ n4_; (try clear hb); (try clear hb2); (try clear hk); (try clear hi)) | (go_at_call 16; (with_reducible refine (bits_Writer_Bytes.calls g302 t328 t329 t330 t333 t334 w _ ?side1 ?side2 A34.out).mono ?_); (case side1 => repeat (first | (with_reducible first | exact HI302.out | apply IsS52.alloc | apply IsS52.drewN | apply IsS52.drew | apply IsS52.set_0 | apply IsS52.set_1) | exact HI302.out)); (case side2 => repeat (first | (with_reducible first | exact HB.out | apply below_alloc | apply pw_below_drewN | apply below_drew1 | refine below_set ?_ (IsS52.ge HI302.out) | refine below_set ?_ (IsS57.ge HI309.out)) | exact HB.out)); rintro e w38 ⟨v331, rfl, ho0, hi, hb, hk⟩; have n0_ := Aside0.mk (Kd.R_mono (Kd.R_told (Kd.R_oldK (IsS52.apart (show IsS52 w _ g302 t328 t329 from by repeat (first | (with_reducible first | exact HI302.out | apply IsS52.alloc | apply IsS52.drewN | apply IsS52.drew | apply IsS52.set_0 | apply IsS52.set_1) | exact HI302.out)) (by (with_reducible repeat (first | apply Kd.R_alloc | apply Kd.R_drewN | apply Kd.R_drew)); exact HO305.out) (by decide)) hk) (Kd.R_base ho0)) (fun _ h_ => h_.1)); have n1_ := Aside0.mk (IsS57.keepG (by repeat (first | (with_reducible first | exact HI309.out | apply IsS57.alloc | apply IsS57.drewN | apply IsS57.drew | apply IsS57.set_1 | apply IsS57.set_2) | exact HI309.out)) (IsS52.blk (show IsS52 w _ g302 t328 t329 from by repeat (first | (with_reducible first | exact HI302.out | apply IsS52.alloc | apply IsS52.drewN | apply IsS52.drew | apply IsS52.set_0 | apply IsS52.set_1) | exact HI302.out))).choose_spec (by decide) hk); have n2_ := Aside0.mk (Kd.R_mono (Kd.R_told (Kd.R_oldK (IsS52.apart (show IsS52 w _ g302 t328 t329 from by repeat (first | (with_reducible first | exact HI302.out | apply IsS52.alloc | apply IsS52.drewN | apply IsS52.drew | apply IsS52.set_0 | apply IsS52.set_1) | exact HI302.out)) (by (with_reducible repeat (first | apply Kd.R_alloc | apply Kd.R_drewN | apply Kd.R_drew)); exact HO314.out) (by decide)) hk) (Kd.R_base ho0)) (fun _ h_ => h_.1)); have n3_ := Aside0.mk (Kd.R_lower (Kd.R_new' (Kd.R_new' ho0 (Kd.R_lt (by (with_reducible repeat (first | apply Kd.R_alloc | apply Kd.R_drewN | apply Kd.R_drew)); exact HO305.out))) (Kd.R_lt (by (with_reducible repeat (first | apply Kd.R_alloc | apply Kd.R_drewN | apply Kd.R_drew)); exact HO314.out))) (below_size (by repeat (first | (with_reducible first | exact HB.out | apply below_alloc | apply pw_below_drewN | apply below_drew1 | refine below_set ?_ (IsS52.ge HI302.out) | refine below_set ?_ (IsS57.ge HI309.out)) | exact HB.out)))); have n4_ := Aside0.mk (hb); have n5_ := Aside0.mk (hi); clear HO305; clear HI309; clear HO314; clear HB; clear HI302; have HO305 := n0_; have HI309 := n1_; have HO314 := n2_; have HO332 := n3_; have HB := n4_; have HI302 := n5_; clear n0_ n1_ n2_ n3_ n4_ n5_; (try clear hb); (try clear hb2); (try clear hk); (try clear hi); (try clear ho0); obtain ⟨Ao39, co39, eo39⟩ := Kd.R_slice HO314.out; subst eo39; obtain ⟨Ao40, co40, eo40⟩ := Kd.R_slice HO332.out; subst eo40) | (go_at_call 15; (with_reducible refine (serinetteref01_Same.calls k _ _ t312 _ _ t330 true _ ?side1 ?side2 ?side3 ?side4 A35.out).mono ?_); (case side1 => repeat (first | exact (Kd.R_reads' HO314.out).2.2 | (with_reducible refine Kd.C_alloc ?_ _) | (with_reducible refine Kd.C_drewN ?_ _) | (with_reducible refine Kd.C_drew ?_))); (case side2 => exact (Kd.R_reads' HO314.out).2.1); (case side3 => repeat (first | exact (Kd.R_reads' HO332.out).2.2 | (with_reducible refine Kd.C_alloc ?_ _) | (with_reducible refine Kd.C_drewN ?_ _) | (with_reducible refine Kd.C_drew ?_))); (case side4 => exact (Kd.R_reads' HO332.out).2.1); rintro e w' ⟨rfl, ⟨nd, rfl⟩⟩))
              go_meet
              case rel => exact ⟨_, (((wrap64 (8 * (t312.length : Int))) != t322)), (by first | rfl | (simp; done) | (simp only [i64_w, i32_w]; done) | (simp [*]; done) | (simp only [i64_w, i32_w]; first | rfl | (simp; done) | (simp [*]; done))), H', ⟨by first | omega | exact Nat.le_refl _⟩, ⟨by repeat (first | (with_reducible first | exact HI309.out | apply IsS57.alloc | apply IsS57.drewN | apply IsS57.drew | apply IsS57.set_1 | apply IsS57.set_2) | exact HI309.out)⟩, ⟨by repeat (first | (with_reducible first | exact HB.out | apply below_alloc | apply pw_below_drewN | apply below_drew1 | refine below_set ?_ (IsS52.ge HI302.out) | refine below_set ?_ (IsS57.ge HI309.out)) | exact HB.out)⟩⟩
            · replace c36 := Bool.eq_false_iff.mpr c36
              subst c36
              have H1 : (serinettelaw01_BitsFill.j0 k a2 a3 t299 true t306 t307 t308) = some r := by rw [if_neg (show ¬ (false = true) by decide)] at H; exact H
              clear H
              have H := H1
              clear H1
              have H' := Aside0.mk H
              clear H
              go_wp2_with (first | ((with_reducible refine gate_callee (f := 14) rfl ?_); refine goesL_ (some 44) rfl rfl Try.func14 (by kernel_rfl) rfl #[.pointer (some ⟨g302, 0, none⟩)] rfl (by (try simp only [List.map_toArray, List.map_cons, List.map_nil]); first | done | rfl | (simp only [List.length_drop, List.length_take]; rfl)) ?_; (with_reducible refine (bits_Writer_Len.calls g302 t325 t326 t327 t328 t329 w _ ?side1 ?side2 A27.out).mono ?_); (case side1 => repeat (first | (with_reducible first | exact HI302.out | apply IsS52.alloc | apply IsS52.drewN | apply IsS52.drew | apply IsS52.set_0 | apply IsS52.set_1) | exact HI302.out)); (case side2 => repeat (first | (with_reducible first | exact HB.out | apply below_alloc | apply pw_below_drewN | apply below_drew1 | refine below_set ?_ (IsS52.ge HI302.out) | refine below_set ?_ (IsS57.ge HI309.out)) | exact HB.out)); rintro e w41 ⟨rfl, hi, hb, hk⟩; refine ⟨_, rfl, ?_⟩; have n0_ := Aside0.mk (Kd.R_mono (Kd.R_keep (IsS52.apart (show IsS52 w _ g302 t325 t326 from by repeat (first | (with_reducible first | exact HI302.out | apply IsS52.alloc | apply IsS52.drewN | apply IsS52.drew | apply IsS52.set_0 | apply IsS52.set_1) | exact HI302.out)) (by (with_reducible repeat (first | apply Kd.R_alloc | apply Kd.R_drewN | apply Kd.R_drew)); exact HO305.out) (by decide)) hk (fun _ h => h.2)) (fun _ h => h.1)); have n1_ := Aside0.mk (IsS57.keepG (by repeat (first | (with_reducible first | exact HI309.out | apply IsS57.alloc | apply IsS57.drewN | apply IsS57.drew | apply IsS57.set_1 | apply IsS57.set_2) | exact HI309.out)) (IsS52.blk (show IsS52 w _ g302 t325 t326 from by repeat (first | (with_reducible first | exact HI302.out | apply IsS52.alloc | apply IsS52.drewN | apply IsS52.drew | apply IsS52.set_0 | apply IsS52.set_1) | exact HI302.out))).choose_spec (by decide) hk); have n2_ := Aside0.mk (Kd.R_mono (Kd.R_keep (IsS52.apart (show IsS52 w _ g302 t325 t326 from by repeat (first | (with_reducible first | exact HI302.out | apply IsS52.alloc | apply IsS52.drewN | apply IsS52.drew | apply IsS52.set_0 | apply IsS52.set_1) | exact HI302.out)) (by (with_reducible repeat (first | apply Kd.R_alloc | apply Kd.R_drewN | apply Kd.R_drew)); exact HO314.out) (by decide)) hk (fun _ h => h.2)) (fun _ h => h.1)); have n3_ := Aside0.mk (hb); have n4_ := Aside0.mk (hi); clear HO305; clear HI309; clear HO314; clear HB; clear HI302; have HO305 := n0_; have HI309 := n1_; have HO314 := n2_; have HB := n3_; have HI302 := n4_; clear n0_ n1_ n2_ n3_ n4_; (try clear hb); (try clear hb2); (try clear hk); (try clear hi)) | (go_at_call 16; (with_reducible refine (bits_Writer_Bytes.calls g302 t328 t329 t330 t333 t334 w _ ?side1 ?side2 A34.out).mono ?_); (case side1 => repeat (first | (with_reducible first | exact HI302.out | apply IsS52.alloc | apply IsS52.drewN | apply IsS52.drew | apply IsS52.set_0 | apply IsS52.set_1) | exact HI302.out)); (case side2 => repeat (first | (with_reducible first | exact HB.out | apply below_alloc | apply pw_below_drewN | apply below_drew1 | refine below_set ?_ (IsS52.ge HI302.out) | refine below_set ?_ (IsS57.ge HI309.out)) | exact HB.out)); rintro e w42 ⟨v331, rfl, ho0, hi, hb, hk⟩; have n0_ := Aside0.mk (Kd.R_mono (Kd.R_told (Kd.R_oldK (IsS52.apart (show IsS52 w _ g302 t328 t329 from by repeat (first | (with_reducible first | exact HI302.out | apply IsS52.alloc | apply IsS52.drewN | apply IsS52.drew | apply IsS52.set_0 | apply IsS52.set_1) | exact HI302.out)) (by (with_reducible repeat (first | apply Kd.R_alloc | apply Kd.R_drewN | apply Kd.R_drew)); exact HO305.out) (by decide)) hk) (Kd.R_base ho0)) (fun _ h_ => h_.1)); have n1_ := Aside0.mk (IsS57.keepG (by repeat (first | (with_reducible first | exact HI309.out | apply IsS57.alloc | apply IsS57.drewN | apply IsS57.drew | apply IsS57.set_1 | apply IsS57.set_2) | exact HI309.out)) (IsS52.blk (show IsS52 w _ g302 t328 t329 from by repeat (first | (with_reducible first | exact HI302.out | apply IsS52.alloc | apply IsS52.drewN | apply IsS52.drew | apply IsS52.set_0 | apply IsS52.set_1) | exact HI302.out))).choose_spec (by decide) hk); have n2_ := Aside0.mk (Kd.R_mono (Kd.R_told (Kd.R_oldK (IsS52.apart (show IsS52 w _ g302 t328 t329 from by repeat (first | (with_reducible first | exact HI302.out | apply IsS52.alloc | apply IsS52.drewN | apply IsS52.drew | apply IsS52.set_0 | apply IsS52.set_1) | exact HI302.out)) (by (with_reducible repeat (first | apply Kd.R_alloc | apply Kd.R_drewN | apply Kd.R_drew)); exact HO314.out) (by decide)) hk) (Kd.R_base ho0)) (fun _ h_ => h_.1)); have n3_ := Aside0.mk (Kd.R_lower (Kd.R_new' (Kd.R_new' ho0 (Kd.R_lt (by (with_reducible repeat (first | apply Kd.R_alloc | apply Kd.R_drewN | apply Kd.R_drew)); exact HO305.out))) (Kd.R_lt (by (with_reducible repeat (first | apply Kd.R_alloc | apply Kd.R_drewN | apply Kd.R_drew)); exact HO314.out))) (below_size (by repeat (first | (with_reducible first | exact HB.out | apply below_alloc | apply pw_below_drewN | apply below_drew1 | refine below_set ?_ (IsS52.ge HI302.out) | refine below_set ?_ (IsS57.ge HI309.out)) | exact HB.out)))); have n4_ := Aside0.mk (hb); have n5_ := Aside0.mk (hi); clear HO305; clear HI309; clear HO314; clear HB; clear HI302; have HO305 := n0_; have HI309 := n1_; have HO314 := n2_; have HO332 := n3_; have HB := n4_; have HI302 := n5_; clear n0_ n1_ n2_ n3_ n4_ n5_; (try clear hb); (try clear hb2); (try clear hk); (try clear hi); (try clear ho0); obtain ⟨Ao43, co43, eo43⟩ := Kd.R_slice HO314.out; subst eo43; obtain ⟨Ao44, co44, eo44⟩ := Kd.R_slice HO332.out; subst eo44) | (go_at_call 15; (with_reducible refine (serinetteref01_Same.calls k _ _ t312 _ _ t330 false _ ?side1 ?side2 ?side3 ?side4 A35.out).mono ?_); (case side1 => repeat (first | exact (Kd.R_reads' HO314.out).2.2 | (with_reducible refine Kd.C_alloc ?_ _) | (with_reducible refine Kd.C_drewN ?_ _) | (with_reducible refine Kd.C_drew ?_))); (case side2 => exact (Kd.R_reads' HO314.out).2.1); (case side3 => repeat (first | exact (Kd.R_reads' HO332.out).2.2 | (with_reducible refine Kd.C_alloc ?_ _) | (with_reducible refine Kd.C_drewN ?_ _) | (with_reducible refine Kd.C_drew ?_))); (case side4 => exact (Kd.R_reads' HO332.out).2.1); rintro e w' ⟨rfl, ⟨nd, rfl⟩⟩))
              go_meet
              case rel => exact ⟨_, (true), (by first | rfl | (simp; done) | (simp only [i64_w, i32_w]; done) | (simp [*]; done) | (simp only [i64_w, i32_w]; first | rfl | (simp; done) | (simp [*]; done))), H', ⟨by first | omega | exact Nat.le_refl _⟩, ⟨by repeat (first | (with_reducible first | exact HI309.out | apply IsS57.alloc | apply IsS57.drewN | apply IsS57.drew | apply IsS57.set_1 | apply IsS57.set_2) | exact HI309.out)⟩, ⟨by repeat (first | (with_reducible first | exact HB.out | apply below_alloc | apply pw_below_drewN | apply below_drew1 | refine below_set ?_ (IsS52.ge HI302.out) | refine below_set ?_ (IsS57.ge HI309.out)) | exact HB.out)⟩⟩
      · rw [if_neg c29] at H
        have c29b0 : ((Int.tmod t322 8) == 0) = false := beq_eq_false_iff_ne.mpr c29
        have c29b1 : ((Int.tmod t322 8) != 0) = true := bne_iff_ne.mpr c29
        have H' := Aside0.mk H
        clear H
        go_wp2_with (first | ((with_reducible refine gate_callee (f := 14) rfl ?_); refine goesL_ (some 44) rfl rfl Try.func14 (by kernel_rfl) rfl #[.pointer (some ⟨g302, 0, none⟩)] rfl (by (try simp only [List.map_toArray, List.map_cons, List.map_nil]); first | done | rfl | (simp only [List.length_drop, List.length_take]; rfl)) ?_; (with_reducible refine (bits_Writer_Len.calls g302 t325 t326 t327 t328 t329 w _ ?side1 ?side2 A27.out).mono ?_); (case side1 => repeat (first | (with_reducible first | exact HI302.out | apply IsS52.alloc | apply IsS52.drewN | apply IsS52.drew | apply IsS52.set_0 | apply IsS52.set_1) | exact HI302.out)); (case side2 => repeat (first | (with_reducible first | exact HB.out | apply below_alloc | apply pw_below_drewN | apply below_drew1 | refine below_set ?_ (IsS52.ge HI302.out) | refine below_set ?_ (IsS57.ge HI309.out)) | exact HB.out)); rintro e w45 ⟨rfl, hi, hb, hk⟩; refine ⟨_, rfl, ?_⟩; have n0_ := Aside0.mk (Kd.R_mono (Kd.R_keep (IsS52.apart (show IsS52 w _ g302 t325 t326 from by repeat (first | (with_reducible first | exact HI302.out | apply IsS52.alloc | apply IsS52.drewN | apply IsS52.drew | apply IsS52.set_0 | apply IsS52.set_1) | exact HI302.out)) (by (with_reducible repeat (first | apply Kd.R_alloc | apply Kd.R_drewN | apply Kd.R_drew)); exact HO305.out) (by decide)) hk (fun _ h => h.2)) (fun _ h => h.1)); have n1_ := Aside0.mk (IsS57.keepG (by repeat (first | (with_reducible first | exact HI309.out | apply IsS57.alloc | apply IsS57.drewN | apply IsS57.drew | apply IsS57.set_1 | apply IsS57.set_2) | exact HI309.out)) (IsS52.blk (show IsS52 w _ g302 t325 t326 from by repeat (first | (with_reducible first | exact HI302.out | apply IsS52.alloc | apply IsS52.drewN | apply IsS52.drew | apply IsS52.set_0 | apply IsS52.set_1) | exact HI302.out))).choose_spec (by decide) hk); have n2_ := Aside0.mk (Kd.R_mono (Kd.R_keep (IsS52.apart (show IsS52 w _ g302 t325 t326 from by repeat (first | (with_reducible first | exact HI302.out | apply IsS52.alloc | apply IsS52.drewN | apply IsS52.drew | apply IsS52.set_0 | apply IsS52.set_1) | exact HI302.out)) (by (with_reducible repeat (first | apply Kd.R_alloc | apply Kd.R_drewN | apply Kd.R_drew)); exact HO314.out) (by decide)) hk (fun _ h => h.2)) (fun _ h => h.1)); have n3_ := Aside0.mk (hb); have n4_ := Aside0.mk (hi); clear HO305; clear HI309; clear HO314; clear HB; clear HI302; have HO305 := n0_; have HI309 := n1_; have HO314 := n2_; have HB := n3_; have HI302 := n4_; clear n0_ n1_ n2_ n3_ n4_; (try clear hb); (try clear hb2); (try clear hk); (try clear hi)))
        go_meet
        case rel => exact ⟨_, (true), (by first | rfl | (simp; done) | (simp only [i64_w, i32_w]; done) | (simp [*]; done) | (simp only [i64_w, i32_w]; first | rfl | (simp; done) | (simp [*]; done))), H', ⟨by first | omega | exact Nat.le_refl _⟩, ⟨by repeat (first | (with_reducible first | exact HI309.out | apply IsS57.alloc | apply IsS57.drewN | apply IsS57.drew | apply IsS57.set_1 | apply IsS57.set_2) | exact HI309.out)⟩, ⟨by repeat (first | (with_reducible first | exact HB.out | apply below_alloc | apply pw_below_drewN | apply below_drew1 | refine below_set ?_ (IsS52.ge HI302.out) | refine below_set ?_ (IsS57.ge HI309.out)) | exact HB.out)⟩⟩
    · rw [if_neg c28] at H
      have c28b0 : (t322 == t327) = false := beq_eq_false_iff_ne.mpr c28
      have c28b1 : (t322 != t327) = true := bne_iff_ne.mpr c28
      (first | rw [c28b0] | (simp only [i64_w, i32_w]; rw [c28b0]) | skip)
      have H' := Aside0.mk H
      clear H
      go_wp2_with (first | ((with_reducible refine gate_callee (f := 14) rfl ?_); refine goesL_ (some 44) rfl rfl Try.func14 (by kernel_rfl) rfl #[.pointer (some ⟨g302, 0, none⟩)] rfl (by (try simp only [List.map_toArray, List.map_cons, List.map_nil]); first | done | rfl | (simp only [List.length_drop, List.length_take]; rfl)) ?_; (with_reducible refine (bits_Writer_Len.calls g302 t325 t326 t327 t328 t329 w _ ?side1 ?side2 A27.out).mono ?_); (case side1 => repeat (first | (with_reducible first | exact HI302.out | apply IsS52.alloc | apply IsS52.drewN | apply IsS52.drew | apply IsS52.set_0 | apply IsS52.set_1) | exact HI302.out)); (case side2 => repeat (first | (with_reducible first | exact HB.out | apply below_alloc | apply pw_below_drewN | apply below_drew1 | refine below_set ?_ (IsS52.ge HI302.out) | refine below_set ?_ (IsS57.ge HI309.out)) | exact HB.out)); rintro e w46 ⟨rfl, hi, hb, hk⟩; refine ⟨_, rfl, ?_⟩; have n0_ := Aside0.mk (Kd.R_mono (Kd.R_keep (IsS52.apart (show IsS52 w _ g302 t325 t326 from by repeat (first | (with_reducible first | exact HI302.out | apply IsS52.alloc | apply IsS52.drewN | apply IsS52.drew | apply IsS52.set_0 | apply IsS52.set_1) | exact HI302.out)) (by (with_reducible repeat (first | apply Kd.R_alloc | apply Kd.R_drewN | apply Kd.R_drew)); exact HO305.out) (by decide)) hk (fun _ h => h.2)) (fun _ h => h.1)); have n1_ := Aside0.mk (IsS57.keepG (by repeat (first | (with_reducible first | exact HI309.out | apply IsS57.alloc | apply IsS57.drewN | apply IsS57.drew | apply IsS57.set_1 | apply IsS57.set_2) | exact HI309.out)) (IsS52.blk (show IsS52 w _ g302 t325 t326 from by repeat (first | (with_reducible first | exact HI302.out | apply IsS52.alloc | apply IsS52.drewN | apply IsS52.drew | apply IsS52.set_0 | apply IsS52.set_1) | exact HI302.out))).choose_spec (by decide) hk); have n2_ := Aside0.mk (Kd.R_mono (Kd.R_keep (IsS52.apart (show IsS52 w _ g302 t325 t326 from by repeat (first | (with_reducible first | exact HI302.out | apply IsS52.alloc | apply IsS52.drewN | apply IsS52.drew | apply IsS52.set_0 | apply IsS52.set_1) | exact HI302.out)) (by (with_reducible repeat (first | apply Kd.R_alloc | apply Kd.R_drewN | apply Kd.R_drew)); exact HO314.out) (by decide)) hk (fun _ h => h.2)) (fun _ h => h.1)); have n3_ := Aside0.mk (hb); have n4_ := Aside0.mk (hi); clear HO305; clear HI309; clear HO314; clear HB; clear HI302; have HO305 := n0_; have HI309 := n1_; have HO314 := n2_; have HB := n3_; have HI302 := n4_; clear n0_ n1_ n2_ n3_ n4_; (try clear hb); (try clear hb2); (try clear hk); (try clear hi)))
      go_meet
      case rel => exact ⟨_, (true), (by first | rfl | (simp; done) | (simp only [i64_w, i32_w]; done) | (simp [*]; done) | (simp only [i64_w, i32_w]; first | rfl | (simp; done) | (simp [*]; done))), H', ⟨by first | omega | exact Nat.le_refl _⟩, ⟨by repeat (first | (with_reducible first | exact HI309.out | apply IsS57.alloc | apply IsS57.drewN | apply IsS57.drew | apply IsS57.set_1 | apply IsS57.set_2) | exact HI309.out)⟩, ⟨by repeat (first | (with_reducible first | exact HB.out | apply below_alloc | apply pw_below_drewN | apply below_drew1 | refine below_set ?_ (IsS52.ge HI302.out) | refine below_set ?_ (IsS57.ge HI309.out)) | exact HB.out)⟩⟩
  case rest =>
    clear HC14
    try clear c1
    try clear c2
    try clear p2
    try clear c3
    try clear c6
    try clear p6
    try clear c9
    try clear c10
    try clear c11
    try clear c13
    try clear c14
    try clear c16
    try clear c18
    try clear c28
    try clear c28b0
    try clear c28b1
    try clear c29
    try clear c29b0
    try clear c29b1
    try clear c30
    try clear c30b0
    try clear c32
    try clear c32b0
    try clear c36
    obtain ⟨kq, x75_13, rfl, HA, HJ13, HI309, HB⟩ := hcut
    cases kq with
    | zero => exact absurd HA.out (by simp [serinettelaw01_BitsFill.j0])
    | succ kj13 =>
      have H := HA.out
      clear HA
      simp only [serinettelaw01_BitsFill.j0] at H
      by_cases c47 : x75_13 = true
      · subst c47
        have H1 : (some false) = some r := by rw [if_pos rfl] at H; exact H
        clear H
        have H := H1
        clear H1
        obtain rfl := Option.some.inj H
        go_wp2
        go_ret
        exact ⟨by first | rfl | (simp [errW_none, errW_some] <;> rfl) | (simp [*, errW_none, errW_some] <;> rfl), by repeat (first | (with_reducible first | exact HB.out | apply below_alloc | apply pw_below_drewN | apply below_drew1 | refine below_set ?_ (IsS57.ge HI309.out)) | exact HB.out)⟩
      · replace c47 := Bool.eq_false_iff.mpr c47
        subst c47
        have H1 : ((bits_Reader_Take.f kj13 t306 t307 t308 (wrap64 (Int.tmod a3 9))).bind fun bt336 => ((bits_Reader_Fill.f kj13 t306 bt336.2.1 bt336.2.2).bind fun bt339 => (if (wrap64 (Int.tmod a3 9)) = 0 then (serinettelaw01_BitsFill.j1 kj13 t299 (wrap64 (Int.tmod a3 9)) true t306 bt339.1 bt339.2) else (if (wrap64 (Int.tmod a3 9)) = 8 then (serinettelaw01_BitsFill.j1 kj13 t299 (wrap64 (Int.tmod a3 9)) true t306 bt339.1 bt339.2) else (if 0 ≤ (wrap64 (8 - (wrap64 (Int.tmod a3 9)))) then (if (shl .i64 1 (wrap64 (8 - (wrap64 (Int.tmod a3 9))))) = 0 then (none) else (serinettelaw01_BitsFill.j1 kj13 t299 (wrap64 (Int.tmod a3 9)) ((Int.tmod (wrap64 (a2)) (shl .i64 1 (wrap64 (8 - (wrap64 (Int.tmod a3 9)))))) == 0) t306 bt339.1 bt339.2)) else (none)))))) = some r := by rw [if_neg (show ¬ (false = true) by decide)] at H; exact H
        clear H
        have H := H1
        clear H1
        replace H := Option.bind_eq_some_iff.mp H
        obtain ⟨⟨t336, t337, t338⟩, A480, H⟩ := H
        replace H : ((bits_Reader_Fill.f kj13 t306 t337 t338).bind fun bt339 => (if (wrap64 (Int.tmod a3 9)) = 0 then (serinettelaw01_BitsFill.j1 kj13 t299 (wrap64 (Int.tmod a3 9)) true t306 bt339.1 bt339.2) else (if (wrap64 (Int.tmod a3 9)) = 8 then (serinettelaw01_BitsFill.j1 kj13 t299 (wrap64 (Int.tmod a3 9)) true t306 bt339.1 bt339.2) else (if 0 ≤ (wrap64 (8 - (wrap64 (Int.tmod a3 9)))) then (if (shl .i64 1 (wrap64 (8 - (wrap64 (Int.tmod a3 9))))) = 0 then (none) else (serinettelaw01_BitsFill.j1 kj13 t299 (wrap64 (Int.tmod a3 9)) ((Int.tmod (wrap64 (a2)) (shl .i64 1 (wrap64 (8 - (wrap64 (Int.tmod a3 9)))))) == 0) t306 bt339.1 bt339.2)) else (none))))) = some r := H
        have A48 := Aside0.mk A480
        clear A480
        replace H := Option.bind_eq_some_iff.mp H
        obtain ⟨⟨t339, t340⟩, A490, H⟩ := H
        replace H : (if (wrap64 (Int.tmod a3 9)) = 0 then (serinettelaw01_BitsFill.j1 kj13 t299 (wrap64 (Int.tmod a3 9)) true t306 t339 t340) else (if (wrap64 (Int.tmod a3 9)) = 8 then (serinettelaw01_BitsFill.j1 kj13 t299 (wrap64 (Int.tmod a3 9)) true t306 t339 t340) else (if 0 ≤ (wrap64 (8 - (wrap64 (Int.tmod a3 9)))) then (if (shl .i64 1 (wrap64 (8 - (wrap64 (Int.tmod a3 9))))) = 0 then (none) else (serinettelaw01_BitsFill.j1 kj13 t299 (wrap64 (Int.tmod a3 9)) ((Int.tmod (wrap64 (a2)) (shl .i64 1 (wrap64 (8 - (wrap64 (Int.tmod a3 9)))))) == 0) t306 t339 t340)) else (none)))) = some r := H
        have A49 := Aside0.mk A490
        clear A490
        have HC50 := Aside0.mk H
        clear H
        go_upto_region 17 with (first | ((with_reducible refine gate_callee (f := 19) rfl ?_); refine goesL_ (some 81) rfl rfl Try.func19 (by kernel_rfl) rfl #[.pointer (some ⟨g309, 0, none⟩), .int .i64 (wrap64 (Int.tmod a3 9))] rfl (by (try simp only [List.map_toArray, List.map_cons, List.map_nil]); first | done | rfl | (simp only [List.length_drop, List.length_take]; rfl)) ?_; (with_reducible refine (bits_Reader_Take.calls kj13 g309 t306 t307 t308 (wrap64 (Int.tmod a3 9)) t336 t337 t338 w _ ?side1 ?side2 A48.out).mono ?_); (case side1 => repeat (first | (with_reducible first | exact HI309.out | apply IsS57.alloc | apply IsS57.drewN | apply IsS57.drew | apply IsS57.set_1 | apply IsS57.set_2) | exact HI309.out)); (case side2 => repeat (first | (with_reducible first | exact HB.out | apply below_alloc | apply pw_below_drewN | apply below_drew1 | refine below_set ?_ (IsS57.ge HI309.out)) | exact HB.out)); rintro e w51 ⟨rfl, hi, hb, hk⟩; refine ⟨_, rfl, ?_⟩; have n0_ := Aside0.mk (hb); have n1_ := Aside0.mk (hi); clear HB; clear HI309; have HB := n0_; have HI309 := n1_; clear n0_ n1_; (try clear hb); (try clear hb2); (try clear hk); (try clear hi)) | ((with_reducible refine gate_callee (f := 23) rfl ?_); refine goesL_ (some 83) rfl rfl Try.func23 (by kernel_rfl) rfl #[.pointer (some ⟨g309, 0, none⟩)] rfl (by (try simp only [List.map_toArray, List.map_cons, List.map_nil]); first | done | rfl | (simp only [List.length_drop, List.length_take]; rfl)) ?_; (with_reducible refine (bits_Reader_Fill.calls kj13 g309 t306 t337 t338 t339 t340 w _ ?side1 ?side2 A49.out).mono ?_); (case side1 => repeat (first | (with_reducible first | exact HI309.out | apply IsS57.alloc | apply IsS57.drewN | apply IsS57.drew | apply IsS57.set_1 | apply IsS57.set_2) | exact HI309.out)); (case side2 => repeat (first | (with_reducible first | exact HB.out | apply below_alloc | apply pw_below_drewN | apply below_drew1 | refine below_set ?_ (IsS57.ge HI309.out)) | exact HB.out)); rintro e w52 ⟨rfl, hi, hb, hk⟩; refine ⟨_, rfl, ?_⟩; have n0_ := Aside0.mk (hb); have n1_ := Aside0.mk (hi); clear HB; clear HI309; have HB := n0_; have HI309 := n1_; clear n0_ n1_; (try clear hb); (try clear hb2); (try clear hk); (try clear hi)))
        (try simp only [Act.put, List.setIfInBounds_toArray, List.set_cons_zero, List.set_cons_succ])
        go_cut [16] (fun v16 wc => ∃ (kq : Nat) (x16_49 : Bool), v16 = .bool x16_49 ∧ Aside0 (serinettelaw01_BitsFill.j1 kq t299 (wrap64 (Int.tmod a3 9)) x16_49 t306 t339 t340 = some r) ∧ Aside0 (kq ≤ kj13) ∧ Aside0 (IsS57 w wc g309 t306 t339 t340) ∧ Aside0 (Below w.heap.size w wc))
        case first =>
          have H := HC50.out
          clear HC50
          by_cases c53 : (wrap64 (Int.tmod a3 9)) = 0
          · rw [if_pos c53] at H
            have c53b0 : ((wrap64 (Int.tmod a3 9)) == 0) = true := beq_iff_eq.mpr c53
            have c53b1 : ((wrap64 (Int.tmod a3 9)) != 0) = false := bne_eq_false_iff_eq.mpr c53
            clear c53
            (first | rw [c53b0] | (simp only [i64_w, i32_w]; rw [c53b0]) | skip)
            have H' := Aside0.mk H
            clear H
            go_wp2
            go_meet
            case rel => exact ⟨_, (true), (by first | rfl | (simp; done) | (simp only [i64_w, i32_w]; done) | (simp [*]; done) | (simp only [i64_w, i32_w]; first | rfl | (simp; done) | (simp [*]; done))), H', ⟨by have := HJ13.out; first | omega | exact Nat.le_refl _⟩, ⟨by repeat (first | (with_reducible first | exact HI309.out | apply IsS57.alloc | apply IsS57.drewN | apply IsS57.drew | apply IsS57.set_1 | apply IsS57.set_2) | exact HI309.out)⟩, ⟨by repeat (first | (with_reducible first | exact HB.out | apply below_alloc | apply pw_below_drewN | apply below_drew1 | refine below_set ?_ (IsS57.ge HI309.out)) | exact HB.out)⟩⟩
          · rw [if_neg c53] at H
            have c53b0 : ((wrap64 (Int.tmod a3 9)) == 0) = false := beq_eq_false_iff_ne.mpr c53
            have c53b1 : ((wrap64 (Int.tmod a3 9)) != 0) = true := bne_iff_ne.mpr c53
            (first | rw [c53b0] | (simp only [i64_w, i32_w]; rw [c53b0]) | skip)
            by_cases c54 : (wrap64 (Int.tmod a3 9)) = 8
            · rw [if_pos c54] at H
              have c54b0 : ((wrap64 (Int.tmod a3 9)) == 8) = true := beq_iff_eq.mpr c54
              have c54b1 : ((wrap64 (Int.tmod a3 9)) != 8) = false := bne_eq_false_iff_eq.mpr c54
              clear c54
              have H' := Aside0.mk H
              clear H
              go_wp2
              go_meet
              case rel => exact ⟨_, (true), (by first | rfl | (simp; done) | (simp only [i64_w, i32_w]; done) | (simp [*]; done) | (simp only [i64_w, i32_w]; first | rfl | (simp; done) | (simp [*]; done))), H', ⟨by have := HJ13.out; first | omega | exact Nat.le_refl _⟩, ⟨by repeat (first | (with_reducible first | exact HI309.out | apply IsS57.alloc | apply IsS57.drewN | apply IsS57.drew | apply IsS57.set_1 | apply IsS57.set_2) | exact HI309.out)⟩, ⟨by repeat (first | (with_reducible first | exact HB.out | apply below_alloc | apply pw_below_drewN | apply below_drew1 | refine below_set ?_ (IsS57.ge HI309.out)) | exact HB.out)⟩⟩
            · rw [if_neg c54] at H
              have c54b0 : ((wrap64 (Int.tmod a3 9)) == 8) = false := beq_eq_false_iff_ne.mpr c54
              have c54b1 : ((wrap64 (Int.tmod a3 9)) != 8) = true := bne_iff_ne.mpr c54
              obtain ⟨ji55, hji55⟩ : ∃ j_ : Int, (wrap64 (8 - (wrap64 (Int.tmod a3 9)))) = j_ := ⟨_, rfl⟩
              replace H : (if 0 ≤ (ji55) then (if (shl .i64 1 (ji55)) = 0 then (none) else (serinettelaw01_BitsFill.j1 kj13 t299 (wrap64 (Int.tmod a3 9)) ((Int.tmod (wrap64 (a2)) (shl .i64 1 (ji55))) == 0) t306 t339 t340)) else (none)) = some r := by first | (rw [hji55] at H; exact H) | (simp only [hji55] at H ⊢; exact H)
              have hji55w : (IntKind.i64.wrap (8 - (wrap64 (Int.tmod a3 9)))) = ji55 := (i64_w _).trans hji55
              by_cases c56 : 0 ≤ (ji55)
              · rw [if_pos c56] at H
                have c56b0 := eq_true c56
                have c56b1 : decide (0 ≤ (ji55)) = true := decide_eq_true c56
                clear c56
                obtain ⟨ji57, hji57⟩ : ∃ j_ : Int, (shl .i64 1 (ji55)) = j_ := ⟨_, rfl⟩
                replace H : (if (ji57) = 0 then (none) else (serinettelaw01_BitsFill.j1 kj13 t299 (wrap64 (Int.tmod a3 9)) ((Int.tmod (wrap64 (a2)) (ji57)) == 0) t306 t339 t340)) = some r := by first | (rw [hji57] at H; exact H) | (simp only [hji57] at H ⊢; exact H)
                have hji57_ : (IntKind.i64.wrap (1 * 2 ^ min (ji55).toNat 64)) = ji57 := hji57
                have hji57z : (ji55) ≤ 64 → (IntKind.i64.wrap (1 * 2 ^ (ji55).toNat)) = ji57 := shl_small hji57
                have hji57u : (IntKind.i64.wrap (2 ^ min (ji55).toNat 64)) = ji57 := by have h_ := hji57_; rw [Int.one_mul] at h_; exact h_
                have hji57v : (ji55) ≤ 64 → (IntKind.i64.wrap (2 ^ (ji55).toNat)) = ji57 := fun hle_ => by have h_ := hji57z hle_; rw [Int.one_mul] at h_; exact h_
                have hji57y : (wrap64 (1 * 2 ^ min (ji55).toNat 64)) = ji57 := (i64_w _).symm.trans hji57_
                have hji57x : (ji55) ≤ 64 → (wrap64 (1 * 2 ^ (ji55).toNat)) = ji57 := fun h_ => (i64_w _).symm.trans (hji57z h_)
                by_cases c58 : (ji57) = 0
                · rw [if_pos c58] at H
                  exact absurd H (by simp)
                · rw [if_neg c58] at H
                  have c58b0 : ((ji57) == 0) = false := beq_eq_false_iff_ne.mpr c58
                  have c58b1 : ((ji57) != 0) = true := bne_iff_ne.mpr c58
                  have H' := Aside0.mk H
                  clear H
                  go_wp2
                  go_meet
                  case rel => exact ⟨_, (((Int.tmod (wrap64 (a2)) (ji57)) == 0)), (by first | rfl | (simp; done) | (simp only [← hji57] <;> (first | rfl | simp)) | (simp [*]; done)), H', ⟨by have := HJ13.out; first | omega | exact Nat.le_refl _⟩, ⟨by repeat (first | (with_reducible first | exact HI309.out | apply IsS57.alloc | apply IsS57.drewN | apply IsS57.drew | apply IsS57.set_1 | apply IsS57.set_2) | exact HI309.out)⟩, ⟨by repeat (first | (with_reducible first | exact HB.out | apply below_alloc | apply pw_below_drewN | apply below_drew1 | refine below_set ?_ (IsS57.ge HI309.out)) | exact HB.out)⟩⟩
              · rw [if_neg c56] at H
                exact absurd H (by simp)
        case rest =>
          clear HC50
          try clear c1
          try clear c2
          try clear p2
          try clear c3
          try clear c4
          try clear c5
          try clear c6
          try clear p6
          try clear c9
          try clear c10
          try clear c11
          try clear c13
          try clear c14
          try clear c16
          try clear c18
          try clear c19
          try clear c23
          try clear c28
          try clear c28b0
          try clear c28b1
          try clear c29
          try clear c29b0
          try clear c29b1
          try clear c30
          try clear c30b0
          try clear c32
          try clear c32b0
          try clear c36
          try clear c47
          try clear c53
          try clear c53b0
          try clear c53b1
          try clear c54
          try clear c54b0
          try clear c54b1
          try clear c56
          try clear c56b0
          try clear c56b1
          try clear c58
          try clear c58b0
          try clear c58b1
          try clear p2
          try clear p6
          obtain ⟨kq, x16_49, rfl, HA, HJ49, HI309, HB⟩ := hcut
          cases kq with
          | zero => exact absurd HA.out (by simp [serinettelaw01_BitsFill.j1])
          | succ kj49 =>
            have H := HA.out
            clear HA
            simp only [serinettelaw01_BitsFill.j1] at H
            by_cases c59 : x16_49 = true
            · subst c59
              have H1 : (if t299 = true then ((bits_Reader_Fail.f t306 t339 t340).bind fun bt341 => (if bt341.1 = 0 then (if (wrap64 (Int.tmod a3 9)) = 0 then ((bits_Reader_At.f t306 bt341.2.1 bt341.2.2).bind fun bt344 => (if bt344.1 = 0 then (some true) else (if (wrap64 (Int.tmod a3 9)) > 0 then ((bits_Reader_At.f t306 bt344.2.1 bt344.2.2).bind fun bt347 => (some (bt347.1 == 8))) else (some false)))) else (if (wrap64 (Int.tmod a3 9)) > 0 then ((bits_Reader_At.f t306 bt341.2.1 bt341.2.2).bind fun bt350 => (some (bt350.1 == 8))) else (some false))) else (some false))) else (some false)) = some r := by rw [if_pos rfl] at H; exact H
              clear H
              have H := H1
              clear H1
              by_cases c60 : t299 = true
              · subst c60
                have H1 : ((bits_Reader_Fail.f t306 t339 t340).bind fun bt341 => (if bt341.1 = 0 then (if (wrap64 (Int.tmod a3 9)) = 0 then ((bits_Reader_At.f t306 bt341.2.1 bt341.2.2).bind fun bt344 => (if bt344.1 = 0 then (some true) else (if (wrap64 (Int.tmod a3 9)) > 0 then ((bits_Reader_At.f t306 bt344.2.1 bt344.2.2).bind fun bt347 => (some (bt347.1 == 8))) else (some false)))) else (if (wrap64 (Int.tmod a3 9)) > 0 then ((bits_Reader_At.f t306 bt341.2.1 bt341.2.2).bind fun bt350 => (some (bt350.1 == 8))) else (some false))) else (some false))) = some r := by rw [if_pos rfl] at H; exact H
                clear H
                have H := H1
                clear H1
                replace H := Option.bind_eq_some_iff.mp H
                obtain ⟨⟨t341, t342, t343⟩, A610, H⟩ := H
                replace H : (if t341 = 0 then (if (wrap64 (Int.tmod a3 9)) = 0 then ((bits_Reader_At.f t306 t342 t343).bind fun bt344 => (if bt344.1 = 0 then (some true) else (if (wrap64 (Int.tmod a3 9)) > 0 then ((bits_Reader_At.f t306 bt344.2.1 bt344.2.2).bind fun bt347 => (some (bt347.1 == 8))) else (some false)))) else (if (wrap64 (Int.tmod a3 9)) > 0 then ((bits_Reader_At.f t306 t342 t343).bind fun bt350 => (some (bt350.1 == 8))) else (some false))) else (some false)) = some r := H
                have A61 := Aside0.mk A610
                clear A610
                by_cases c62 : t341 = 0
                · rw [if_pos c62] at H
                  have c62b0 : (t341 == 0) = true := beq_iff_eq.mpr c62
                  have c62b1 : (t341 != 0) = false := bne_eq_false_iff_eq.mpr c62
                  clear c62
                  by_cases c63 : (wrap64 (Int.tmod a3 9)) = 0
                  · rw [if_pos c63] at H
                    have c63b0 : ((wrap64 (Int.tmod a3 9)) == 0) = true := beq_iff_eq.mpr c63
                    have c63b1 : ((wrap64 (Int.tmod a3 9)) != 0) = false := bne_eq_false_iff_eq.mpr c63
                    clear c63
                    replace H := Option.bind_eq_some_iff.mp H
                    obtain ⟨⟨t344, t345, t346⟩, A640, H⟩ := H
                    replace H : (if t344 = 0 then (some true) else (if (wrap64 (Int.tmod a3 9)) > 0 then ((bits_Reader_At.f t306 t345 t346).bind fun bt347 => (some (bt347.1 == 8))) else (some false))) = some r := H
                    have A64 := Aside0.mk A640
                    clear A640
                    by_cases c65 : t344 = 0
                    · rw [if_pos c65] at H
                      have c65b0 : (t344 == 0) = true := beq_iff_eq.mpr c65
                      have c65b1 : (t344 != 0) = false := bne_eq_false_iff_eq.mpr c65
                      clear c65
                      obtain rfl := Option.some.inj H
                      go_wp2_with (first | (go_at_call 21; (with_reducible refine (bits_Reader_Fail.calls g309 t306 t339 t340 t341 t342 t343 w _ ?side1 ?side2 A61.out).mono ?_); (case side1 => repeat (first | (with_reducible first | exact HI309.out | apply IsS57.alloc | apply IsS57.drewN | apply IsS57.drew | apply IsS57.set_1 | apply IsS57.set_2) | exact HI309.out)); (case side2 => repeat (first | (with_reducible first | exact HB.out | apply below_alloc | apply pw_below_drewN | apply below_drew1 | refine below_set ?_ (IsS57.ge HI309.out)) | exact HB.out)); rintro e w66 ⟨rfl, hi, hb, hk⟩; have n0_ := Aside0.mk (hb); have n1_ := Aside0.mk (hi); clear HB; clear HI309; have HB := n0_; have HI309 := n1_; clear n0_ n1_; (try clear hb); (try clear hb2); (try clear hk); (try clear hi)) | (go_at_call 20; (with_reducible refine (bits_Reader_At.calls g309 t306 t342 t343 t344 t345 t346 w _ ?side1 ?side2 A64.out).mono ?_); (case side1 => repeat (first | (with_reducible first | exact HI309.out | apply IsS57.alloc | apply IsS57.drewN | apply IsS57.drew | apply IsS57.set_1 | apply IsS57.set_2) | exact HI309.out)); (case side2 => repeat (first | (with_reducible first | exact HB.out | apply below_alloc | apply pw_below_drewN | apply below_drew1 | refine below_set ?_ (IsS57.ge HI309.out)) | exact HB.out)); rintro e w67 ⟨rfl, hi, hb, hk⟩; have n0_ := Aside0.mk (hb); have n1_ := Aside0.mk (hi); clear HB; clear HI309; have HB := n0_; have HI309 := n1_; clear n0_ n1_; (try clear hb); (try clear hb2); (try clear hk); (try clear hi)))
                      go_ret
                      exact ⟨by first | rfl | (simp [errW_none, errW_some] <;> rfl) | (simp [*, errW_none, errW_some] <;> rfl), by repeat (first | (with_reducible first | exact HB.out | apply below_alloc | apply pw_below_drewN | apply below_drew1 | refine below_set ?_ (IsS57.ge HI309.out)) | exact HB.out)⟩
                    · rw [if_neg c65] at H
                      have c65b0 : (t344 == 0) = false := beq_eq_false_iff_ne.mpr c65
                      have c65b1 : (t344 != 0) = true := bne_iff_ne.mpr c65
                      by_cases c68 : (wrap64 (Int.tmod a3 9)) > 0
                      · rw [if_pos c68] at H
                        have c68b0 : decide (0 < (wrap64 (Int.tmod a3 9))) = true := decide_eq_true c68
                        clear c68
                        replace H := Option.bind_eq_some_iff.mp H
                        obtain ⟨⟨t347, t348, t349⟩, A690, H⟩ := H
                        replace H : (some (t347 == 8)) = some r := H
                        have A69 := Aside0.mk A690
                        clear A690
                        obtain rfl := Option.some.inj H
                        go_wp2_with (first | (go_at_call 21; (with_reducible refine (bits_Reader_Fail.calls g309 t306 t339 t340 t341 t342 t343 w _ ?side1 ?side2 A61.out).mono ?_); (case side1 => repeat (first | (with_reducible first | exact HI309.out | apply IsS57.alloc | apply IsS57.drewN | apply IsS57.drew | apply IsS57.set_1 | apply IsS57.set_2) | exact HI309.out)); (case side2 => repeat (first | (with_reducible first | exact HB.out | apply below_alloc | apply pw_below_drewN | apply below_drew1 | refine below_set ?_ (IsS57.ge HI309.out)) | exact HB.out)); rintro e w70 ⟨rfl, hi, hb, hk⟩; have n0_ := Aside0.mk (hb); have n1_ := Aside0.mk (hi); clear HB; clear HI309; have HB := n0_; have HI309 := n1_; clear n0_ n1_; (try clear hb); (try clear hb2); (try clear hk); (try clear hi)) | (go_at_call 20; (with_reducible refine (bits_Reader_At.calls g309 t306 t342 t343 t344 t345 t346 w _ ?side1 ?side2 A64.out).mono ?_); (case side1 => repeat (first | (with_reducible first | exact HI309.out | apply IsS57.alloc | apply IsS57.drewN | apply IsS57.drew | apply IsS57.set_1 | apply IsS57.set_2) | exact HI309.out)); (case side2 => repeat (first | (with_reducible first | exact HB.out | apply below_alloc | apply pw_below_drewN | apply below_drew1 | refine below_set ?_ (IsS57.ge HI309.out)) | exact HB.out)); rintro e w71 ⟨rfl, hi, hb, hk⟩; have n0_ := Aside0.mk (hb); have n1_ := Aside0.mk (hi); clear HB; clear HI309; have HB := n0_; have HI309 := n1_; clear n0_ n1_; (try clear hb); (try clear hb2); (try clear hk); (try clear hi)) | (go_at_call 20; (with_reducible refine (bits_Reader_At.calls g309 t306 t345 t346 t347 t348 t349 w _ ?side1 ?side2 A69.out).mono ?_); (case side1 => repeat (first | (with_reducible first | exact HI309.out | apply IsS57.alloc | apply IsS57.drewN | apply IsS57.drew | apply IsS57.set_1 | apply IsS57.set_2) | exact HI309.out)); (case side2 => repeat (first | (with_reducible first | exact HB.out | apply below_alloc | apply pw_below_drewN | apply below_drew1 | refine below_set ?_ (IsS57.ge HI309.out)) | exact HB.out)); rintro e w72 ⟨rfl, hi, hb, hk⟩; have n0_ := Aside0.mk (hb); have n1_ := Aside0.mk (hi); clear HB; clear HI309; have HB := n0_; have HI309 := n1_; clear n0_ n1_; (try clear hb); (try clear hb2); (try clear hk); (try clear hi)))
                        go_ret
                        exact ⟨by first | rfl | (simp [errW_none, errW_some] <;> rfl) | (simp [*, errW_none, errW_some] <;> rfl), by repeat (first | (with_reducible first | exact HB.out | apply below_alloc | apply pw_below_drewN | apply below_drew1 | refine below_set ?_ (IsS57.ge HI309.out)) | exact HB.out)⟩
                      · rw [if_neg c68] at H
                        have c68b0 : decide (0 < (wrap64 (Int.tmod a3 9))) = false := decide_eq_false c68
                        clear c68
                        obtain rfl := Option.some.inj H
                        go_wp2_with (first | (go_at_call 21; (with_reducible refine (bits_Reader_Fail.calls g309 t306 t339 t340 t341 t342 t343 w _ ?side1 ?side2 A61.out).mono ?_); (case side1 => repeat (first | (with_reducible first | exact HI309.out | apply IsS57.alloc | apply IsS57.drewN | apply IsS57.drew | apply IsS57.set_1 | apply IsS57.set_2) | exact HI309.out)); (case side2 => repeat (first | (with_reducible first | exact HB.out | apply below_alloc | apply pw_below_drewN | apply below_drew1 | refine below_set ?_ (IsS57.ge HI309.out)) | exact HB.out)); rintro e w73 ⟨rfl, hi, hb, hk⟩; have n0_ := Aside0.mk (hb); have n1_ := Aside0.mk (hi); clear HB; clear HI309; have HB := n0_; have HI309 := n1_; clear n0_ n1_; (try clear hb); (try clear hb2); (try clear hk); (try clear hi)) | (go_at_call 20; (with_reducible refine (bits_Reader_At.calls g309 t306 t342 t343 t344 t345 t346 w _ ?side1 ?side2 A64.out).mono ?_); (case side1 => repeat (first | (with_reducible first | exact HI309.out | apply IsS57.alloc | apply IsS57.drewN | apply IsS57.drew | apply IsS57.set_1 | apply IsS57.set_2) | exact HI309.out)); (case side2 => repeat (first | (with_reducible first | exact HB.out | apply below_alloc | apply pw_below_drewN | apply below_drew1 | refine below_set ?_ (IsS57.ge HI309.out)) | exact HB.out)); rintro e w74 ⟨rfl, hi, hb, hk⟩; have n0_ := Aside0.mk (hb); have n1_ := Aside0.mk (hi); clear HB; clear HI309; have HB := n0_; have HI309 := n1_; clear n0_ n1_; (try clear hb); (try clear hb2); (try clear hk); (try clear hi)))
                        go_ret
                        exact ⟨by first | rfl | (simp [errW_none, errW_some] <;> rfl) | (simp [*, errW_none, errW_some] <;> rfl), by repeat (first | (with_reducible first | exact HB.out | apply below_alloc | apply pw_below_drewN | apply below_drew1 | refine below_set ?_ (IsS57.ge HI309.out)) | exact HB.out)⟩
                  · rw [if_neg c63] at H
                    have c63b0 : ((wrap64 (Int.tmod a3 9)) == 0) = false := beq_eq_false_iff_ne.mpr c63
                    have c63b1 : ((wrap64 (Int.tmod a3 9)) != 0) = true := bne_iff_ne.mpr c63
                    by_cases c75 : (wrap64 (Int.tmod a3 9)) > 0
                    · rw [if_pos c75] at H
                      have c75b0 : decide (0 < (wrap64 (Int.tmod a3 9))) = true := decide_eq_true c75
                      clear c75
                      replace H := Option.bind_eq_some_iff.mp H
                      obtain ⟨⟨t350, t351, t352⟩, A760, H⟩ := H
                      replace H : (some (t350 == 8)) = some r := H
                      have A76 := Aside0.mk A760
                      clear A760
                      obtain rfl := Option.some.inj H
                      go_wp2_with (first | (go_at_call 21; (with_reducible refine (bits_Reader_Fail.calls g309 t306 t339 t340 t341 t342 t343 w _ ?side1 ?side2 A61.out).mono ?_); (case side1 => repeat (first | (with_reducible first | exact HI309.out | apply IsS57.alloc | apply IsS57.drewN | apply IsS57.drew | apply IsS57.set_1 | apply IsS57.set_2) | exact HI309.out)); (case side2 => repeat (first | (with_reducible first | exact HB.out | apply below_alloc | apply pw_below_drewN | apply below_drew1 | refine below_set ?_ (IsS57.ge HI309.out)) | exact HB.out)); rintro e w77 ⟨rfl, hi, hb, hk⟩; have n0_ := Aside0.mk (hb); have n1_ := Aside0.mk (hi); clear HB; clear HI309; have HB := n0_; have HI309 := n1_; clear n0_ n1_; (try clear hb); (try clear hb2); (try clear hk); (try clear hi)) | (go_at_call 20; (with_reducible refine (bits_Reader_At.calls g309 t306 t342 t343 t350 t351 t352 w _ ?side1 ?side2 A76.out).mono ?_); (case side1 => repeat (first | (with_reducible first | exact HI309.out | apply IsS57.alloc | apply IsS57.drewN | apply IsS57.drew | apply IsS57.set_1 | apply IsS57.set_2) | exact HI309.out)); (case side2 => repeat (first | (with_reducible first | exact HB.out | apply below_alloc | apply pw_below_drewN | apply below_drew1 | refine below_set ?_ (IsS57.ge HI309.out)) | exact HB.out)); rintro e w78 ⟨rfl, hi, hb, hk⟩; have n0_ := Aside0.mk (hb); have n1_ := Aside0.mk (hi); clear HB; clear HI309; have HB := n0_; have HI309 := n1_; clear n0_ n1_; (try clear hb); (try clear hb2); (try clear hk); (try clear hi)))
                      go_ret
                      exact ⟨by first | rfl | (simp [errW_none, errW_some] <;> rfl) | (simp [*, errW_none, errW_some] <;> rfl), by repeat (first | (with_reducible first | exact HB.out | apply below_alloc | apply pw_below_drewN | apply below_drew1 | refine below_set ?_ (IsS57.ge HI309.out)) | exact HB.out)⟩
                    · rw [if_neg c75] at H
                      have c75b0 : decide (0 < (wrap64 (Int.tmod a3 9))) = false := decide_eq_false c75
                      clear c75
                      obtain rfl := Option.some.inj H
                      go_wp2_with (first | (go_at_call 21; (with_reducible refine (bits_Reader_Fail.calls g309 t306 t339 t340 t341 t342 t343 w _ ?side1 ?side2 A61.out).mono ?_); (case side1 => repeat (first | (with_reducible first | exact HI309.out | apply IsS57.alloc | apply IsS57.drewN | apply IsS57.drew | apply IsS57.set_1 | apply IsS57.set_2) | exact HI309.out)); (case side2 => repeat (first | (with_reducible first | exact HB.out | apply below_alloc | apply pw_below_drewN | apply below_drew1 | refine below_set ?_ (IsS57.ge HI309.out)) | exact HB.out)); rintro e w79 ⟨rfl, hi, hb, hk⟩; have n0_ := Aside0.mk (hb); have n1_ := Aside0.mk (hi); clear HB; clear HI309; have HB := n0_; have HI309 := n1_; clear n0_ n1_; (try clear hb); (try clear hb2); (try clear hk); (try clear hi)))
                      go_ret
                      exact ⟨by first | rfl | (simp [errW_none, errW_some] <;> rfl) | (simp [*, errW_none, errW_some] <;> rfl), by repeat (first | (with_reducible first | exact HB.out | apply below_alloc | apply pw_below_drewN | apply below_drew1 | refine below_set ?_ (IsS57.ge HI309.out)) | exact HB.out)⟩
                · rw [if_neg c62] at H
                  have c62b0 : (t341 == 0) = false := beq_eq_false_iff_ne.mpr c62
                  have c62b1 : (t341 != 0) = true := bne_iff_ne.mpr c62
                  obtain rfl := Option.some.inj H
                  go_wp2_with (first | (go_at_call 21; (with_reducible refine (bits_Reader_Fail.calls g309 t306 t339 t340 t341 t342 t343 w _ ?side1 ?side2 A61.out).mono ?_); (case side1 => repeat (first | (with_reducible first | exact HI309.out | apply IsS57.alloc | apply IsS57.drewN | apply IsS57.drew | apply IsS57.set_1 | apply IsS57.set_2) | exact HI309.out)); (case side2 => repeat (first | (with_reducible first | exact HB.out | apply below_alloc | apply pw_below_drewN | apply below_drew1 | refine below_set ?_ (IsS57.ge HI309.out)) | exact HB.out)); rintro e w80 ⟨rfl, hi, hb, hk⟩; have n0_ := Aside0.mk (hb); have n1_ := Aside0.mk (hi); clear HB; clear HI309; have HB := n0_; have HI309 := n1_; clear n0_ n1_; (try clear hb); (try clear hb2); (try clear hk); (try clear hi)))
                  go_ret
                  exact ⟨by first | rfl | (simp [errW_none, errW_some] <;> rfl) | (simp [*, errW_none, errW_some] <;> rfl), by repeat (first | (with_reducible first | exact HB.out | apply below_alloc | apply pw_below_drewN | apply below_drew1 | refine below_set ?_ (IsS57.ge HI309.out)) | exact HB.out)⟩
              · replace c60 := Bool.eq_false_iff.mpr c60
                subst c60
                have H1 : (some false) = some r := by rw [if_neg (show ¬ (false = true) by decide)] at H; exact H
                clear H
                have H := H1
                clear H1
                obtain rfl := Option.some.inj H
                go_wp2
                go_ret
                exact ⟨by first | rfl | (simp [errW_none, errW_some] <;> rfl) | (simp [*, errW_none, errW_some] <;> rfl), by repeat (first | (with_reducible first | exact HB.out | apply below_alloc | apply pw_below_drewN | apply below_drew1 | refine below_set ?_ (IsS57.ge HI309.out)) | exact HB.out)⟩
            · replace c59 := Bool.eq_false_iff.mpr c59
              subst c59
              have H1 : (if t299 = true then ((bits_Reader_Fail.f t306 t339 t340).bind fun bt353 => (if bt353.1 = 5 then ((bits_Reader_At.f t306 bt353.2.1 bt353.2.2).bind fun bt356 => (some (bt356.1 == (wrap64 (Int.tmod a3 9))))) else (some false))) else (some false)) = some r := by rw [if_neg (show ¬ (false = true) by decide)] at H; exact H
              clear H
              have H := H1
              clear H1
              by_cases c81 : t299 = true
              · subst c81
                have H1 : ((bits_Reader_Fail.f t306 t339 t340).bind fun bt353 => (if bt353.1 = 5 then ((bits_Reader_At.f t306 bt353.2.1 bt353.2.2).bind fun bt356 => (some (bt356.1 == (wrap64 (Int.tmod a3 9))))) else (some false))) = some r := by rw [if_pos rfl] at H; exact H
                clear H
                have H := H1
                clear H1
                replace H := Option.bind_eq_some_iff.mp H
                obtain ⟨⟨t353, t354, t355⟩, A820, H⟩ := H
                replace H : (if t353 = 5 then ((bits_Reader_At.f t306 t354 t355).bind fun bt356 => (some (bt356.1 == (wrap64 (Int.tmod a3 9))))) else (some false)) = some r := H
                have A82 := Aside0.mk A820
                clear A820
                by_cases c83 : t353 = 5
                · rw [if_pos c83] at H
                  have c83b0 : (t353 == 5) = true := beq_iff_eq.mpr c83
                  have c83b1 : (t353 != 5) = false := bne_eq_false_iff_eq.mpr c83
                  clear c83
                  replace H := Option.bind_eq_some_iff.mp H
                  obtain ⟨⟨t356, t357, t358⟩, A840, H⟩ := H
                  replace H : (some (t356 == (wrap64 (Int.tmod a3 9)))) = some r := H
                  have A84 := Aside0.mk A840
                  clear A840
                  obtain rfl := Option.some.inj H
                  go_wp2_with (first | (go_at_call 21; (with_reducible refine (bits_Reader_Fail.calls g309 t306 t339 t340 t353 t354 t355 w _ ?side1 ?side2 A82.out).mono ?_); (case side1 => repeat (first | (with_reducible first | exact HI309.out | apply IsS57.alloc | apply IsS57.drewN | apply IsS57.drew | apply IsS57.set_1 | apply IsS57.set_2) | exact HI309.out)); (case side2 => repeat (first | (with_reducible first | exact HB.out | apply below_alloc | apply pw_below_drewN | apply below_drew1 | refine below_set ?_ (IsS57.ge HI309.out)) | exact HB.out)); rintro e w85 ⟨rfl, hi, hb, hk⟩; have n0_ := Aside0.mk (hb); have n1_ := Aside0.mk (hi); clear HB; clear HI309; have HB := n0_; have HI309 := n1_; clear n0_ n1_; (try clear hb); (try clear hb2); (try clear hk); (try clear hi)) | (go_at_call 20; (with_reducible refine (bits_Reader_At.calls g309 t306 t354 t355 t356 t357 t358 w _ ?side1 ?side2 A84.out).mono ?_); (case side1 => repeat (first | (with_reducible first | exact HI309.out | apply IsS57.alloc | apply IsS57.drewN | apply IsS57.drew | apply IsS57.set_1 | apply IsS57.set_2) | exact HI309.out)); (case side2 => repeat (first | (with_reducible first | exact HB.out | apply below_alloc | apply pw_below_drewN | apply below_drew1 | refine below_set ?_ (IsS57.ge HI309.out)) | exact HB.out)); rintro e w86 ⟨rfl, hi, hb, hk⟩; have n0_ := Aside0.mk (hb); have n1_ := Aside0.mk (hi); clear HB; clear HI309; have HB := n0_; have HI309 := n1_; clear n0_ n1_; (try clear hb); (try clear hb2); (try clear hk); (try clear hi)))
                  go_ret
                  exact ⟨by first | rfl | (simp [errW_none, errW_some] <;> rfl) | (simp [*, errW_none, errW_some] <;> rfl), by repeat (first | (with_reducible first | exact HB.out | apply below_alloc | apply pw_below_drewN | apply below_drew1 | refine below_set ?_ (IsS57.ge HI309.out)) | exact HB.out)⟩
                · rw [if_neg c83] at H
                  have c83b0 : (t353 == 5) = false := beq_eq_false_iff_ne.mpr c83
                  have c83b1 : (t353 != 5) = true := bne_iff_ne.mpr c83
                  obtain rfl := Option.some.inj H
                  go_wp2_with (first | (go_at_call 21; (with_reducible refine (bits_Reader_Fail.calls g309 t306 t339 t340 t353 t354 t355 w _ ?side1 ?side2 A82.out).mono ?_); (case side1 => repeat (first | (with_reducible first | exact HI309.out | apply IsS57.alloc | apply IsS57.drewN | apply IsS57.drew | apply IsS57.set_1 | apply IsS57.set_2) | exact HI309.out)); (case side2 => repeat (first | (with_reducible first | exact HB.out | apply below_alloc | apply pw_below_drewN | apply below_drew1 | refine below_set ?_ (IsS57.ge HI309.out)) | exact HB.out)); rintro e w87 ⟨rfl, hi, hb, hk⟩; have n0_ := Aside0.mk (hb); have n1_ := Aside0.mk (hi); clear HB; clear HI309; have HB := n0_; have HI309 := n1_; clear n0_ n1_; (try clear hb); (try clear hb2); (try clear hk); (try clear hi)))
                  go_ret
                  exact ⟨by first | rfl | (simp [errW_none, errW_some] <;> rfl) | (simp [*, errW_none, errW_some] <;> rfl), by repeat (first | (with_reducible first | exact HB.out | apply below_alloc | apply pw_below_drewN | apply below_drew1 | refine below_set ?_ (IsS57.ge HI309.out)) | exact HB.out)⟩
              · replace c81 := Bool.eq_false_iff.mpr c81
                subst c81
                have H1 : (some false) = some r := by rw [if_neg (show ¬ (false = true) by decide)] at H; exact H
                clear H
                have H := H1
                clear H1
                obtain rfl := Option.some.inj H
                go_wp2
                go_ret
                exact ⟨by first | rfl | (simp [errW_none, errW_some] <;> rfl) | (simp [*, errW_none, errW_some] <;> rfl), by repeat (first | (with_reducible first | exact HB.out | apply below_alloc | apply pw_below_drewN | apply below_drew1 | refine below_set ?_ (IsS57.ge HI309.out)) | exact HB.out)⟩

/-- THE ONE PURE STATEMENT of serinettelaw01_BitsFill: yours. -/
def serinettelaw01_BitsFill.Pure : Prop := ∀ (a0 : Int) (a1 : Int) (a2 : Int) (a3 : Int), (Lit.int .u64 a0).wf = true → (Lit.int .i64 a1).wf = true → (Lit.int .u8 a2).wf = true → (Lit.int .u8 a3).wf = true → ∃ k, serinettelaw01_BitsFill.f k a0 a1 a2 a3 = some true
theorem serinettelaw01_BitsFill.walk (P : serinettelaw01_BitsFill.Pure) (a0 : Int) (a1 : Int) (a2 : Int) (a3 : Int) (w : World) (w0 : (Lit.int .u64 a0).wf = true) (w1 : (Lit.int .i64 a1).wf = true) (w2 : (Lit.int .u8 a2).wf = true) (w3 : (Lit.int .u8 a3).wf = true) :
    Calls Try.prog 6 #[.int .u64 a0, .int .i64 a1, .int .u8 a2, .int .u8 a3] w fun e w' => e = .returned (.bool true) ∧ Below w.heap.size w w' := by
  obtain ⟨k, h⟩ := P a0 a1 a2 a3 w0 w1 w2 w3
  refine (serinettelaw01_BitsFill.calls k a0 a1 a2 a3 true w h).mono ?_
  rintro e w' ⟨rfl, hd⟩
  exact ⟨rfl, hd⟩

end Go.Proofs.Ytcdnabonljmegaa.PA
