/- The row of the law PartsLeast, for every input that can be read: out of its plain statement (Pure) and the walk. No further condition. -/
import Derived.Test.YtpoigjkkcehpdaaRows
import Derived.Test.YtpoigjkkcehpdaaPAx23
import Derived.Test.YtpoigjkkcehpdaaPurePartsLeast
import Derived.Test.YtpoigjkkcehpdaaOpn
import Derived.Test.YtpoigjkkcehpdaaWSized
import Derived.WalkKit
import Derived.ProofKit
import Derived.OpenShut
import Derived.ShutString
import Derived.ChangeOld
import Derived.Below
import Derived.SizedLaws
namespace Go.Proofs.Ytpoigjkkcehpdaa.partsLeast
open Go.ChangeShapes Go.WideShapes Go.ChangeAt Go.RowKit Go.Joins
open Go.Proofs.YtpoigjkkcehpdaaW.PrintWords
open Go.Proofs.Ytpoigjkkcehpdaa.Opn
set_option linter.unusedVariables false
theorem own : ownKnob Try.prog.godebug = none := by kernel_rfl
theorem laidOut : laidOutB Try.prog = true := by kernel_rfl
instance : Inhabited PA.S39 := ⟨PA.z39⟩
set_option maxRecDepth 100000 in
theorem lifted (os : Os) (started : os.Started) (H : Type) (enc : TypeId × Value → H) :
    ReturnsInHanded {} Try.checked os 5 .any (Rows.partsLeastSpec.pre6 enc Try.prog Try.f5 Rows.partsLeastRow.domain false) (Rows.partsLeastSpec.post enc Try.prog Try.f5 false true false false) := by
  refine returnsInHanded_of_change_sized (C := Try.checked) own started (by kernel_rfl) Try.func5
    (ChangeSpec.witness6 (enc := enc) (C := Try.checked) false ⟨#[], #[.slice none 0 0, .int .u8 0, .int .u8 0, .agg #[.bool false, .int .i64 0, .slice none 0 0]], []⟩ 8 (by kernel_rfl) (by kernel_rfl) (by kernel_rfl) (by kernel_rfl)) ?_
  intro W base args ds gs before hval0 hW hcnd hsz0 _
  have hsz : (DataW.weightsEach Try.prog (Try.f5.params.toList ++ Rows.partsLeastSpec.plain.varTypes Try.prog) (ds ++ gs)).all (· ≤ reachBytes) = true := hsz0
  have hval : ∀ (j : Nat) t v, Try.f5.params[j]? = some t → args[j]? = some v → Value.okWide Try.prog W .any base t v := hval0
  have hW' := hW
  obtain ⟨p, q, hA0, hV, rfl, hfz, hnd⟩ := hW
  have hA : DataW.TrodAll enc Try.prog W 0 (fun _ => true) true Try.f5.params.toList args.toList ds p := hA0
  rw [Try.params5] at hA hval hsz
  obtain ⟨v0, vs0, d0, ds0, p0, q0, hargs, rfl, rfl, h0, r0⟩ := trodAll_cons hA
  obtain ⟨v1, vs1, d1, ds1, p1, q1, rfl, rfl, rfl, h1, r1⟩ := trodAll_cons r0
  obtain ⟨v2, vs2, d2, ds2, p2, q2, rfl, rfl, rfl, h2, r2⟩ := trodAll_cons r1
  obtain ⟨v3, vs3, d3, ds3, p3, q3, rfl, rfl, rfl, h3, r3⟩ := trodAll_cons r2
  obtain ⟨rfl, rfl, rfl⟩ := trodAll_nil r3
  obtain rfl : args = #[v0, v1, v2, v3] := by cases args; simp_all
  obtain ⟨rfl, rfl⟩ := trodVars_none hV
  have k0 := h0
  have lt0 : ∀ x ∈ p0, x.block < W.heap.size := by obtain ⟨m, hm⟩ := k0; exact DataW.trod_lt m _ _ _ hm
  obtain ⟨l0, A0, c0, rfl, hc0, hr0, hm0, w0⟩ := arg_slice Try.underlying22 (by kernel_rfl) (opens_int Try.underlying3) (hval 0 22 v0 rfl rfl) h0
  have y0 : l0.length * 8 ≤ 140737488351232 := sized_ints hsz (j := 0) (t := 22) rfl rfl Try.underlying22 Try.underlying3 (by kernel_rfl) (by kernel_rfl) k0
  obtain ⟨a1, rfl, rfl, rfl, w1⟩ := open_int Try.underlying5 (hval 1 5 v1 rfl rfl) h1
  obtain ⟨a2, rfl, rfl, rfl, w2⟩ := open_int Try.underlying5 (hval 2 5 v2 rfl rfl) h2
  have k3 := h3
  have lt3 : ∀ x ∈ p3, x.block < W.heap.size := by obtain ⟨m, hm⟩ := k3; exact DataW.trod_lt m _ _ _ hm
  obtain ⟨v3_0, v3_1, v3_2, y3_0, y3_1, y3_2, n3, rfl, _, _, h3_0, h3_1, h3_2⟩ := open_agg3 Try.underlying26 (by kernel_rfl) (by kernel_rfl) (hval 3 26 v3 rfl rfl) h3
  obtain ⟨a3_0, rfl⟩ := field_bool Try.underlying4 h3_0
  obtain ⟨a3_1, rfl, w3_1⟩ := field_int Try.underlying3 h3_1
  obtain ⟨l3_2, A3_2, c3_2, rfl, hc3_2, hr3_2, hm3_2, w3_2⟩ := field_slice Try.underlying24 (by kernel_rfl) (opens_pair Try.underlying39 rfl (by kernel_rfl) rfl (by kernel_rfl) (by kernel_rfl) (opens_int Try.underlying3) (opens_bool Try.underlying4) PA.S39.mk (fun x : PA.S39 => (x.f0, x.f1)) (fun _ _ => rfl)) h3_2
  clear hA0 hval0 hsz0 hsz
  obtain ⟨k, hk⟩ := Pure.PartsLeast l0 a1 a2 a3_0 a3_1 l3_2 hm0 y0 w0 w1 w2 w3_1 hm3_2 w3_2
  refine (PA.serinettelaw14_PartsLeast.calls k A0 c0 l0 a1 a2 a3_0 a3_1 A3_2 c3_2 l3_2 true W hr0 hc0 hr3_2 hc3_2 hk).mono ?_
  rintro e W' ⟨he, bel0⟩
  have bel : Below W.heap.size W W' := bel0
  clear bel0
  subst he
  exact ⟨_, rfl, _, _, _, [], _, [], hW', trodAll_mk1 (shut_bool Try.underlying4 _), (trodAll_cons_mk (Below.trod laidOut (by kernel_rfl) (of_decide_eq_true (by kernel_rfl)) k0 bel lt0) (trodAll_cons_mk (shut_int Try.underlying5 w1) (trodAll_cons_mk (shut_int Try.underlying5 w2) (trodAll_cons_mk (Below.trod laidOut (by kernel_rfl) (of_decide_eq_true (by kernel_rfl)) k3 bel lt3) trodAll_mk0)))), rfl, bel.frame _, fun h => by cases h⟩
theorem over : Rows.partsLeastRow.holds Try.pinned (OpenSpec.ofChange Rows.partsLeastSpec) :=
  OpenClaim.holds_of_wide 5 Try.f5 rfl rfl rfl rfl rfl rfl rfl ⟨rfl, rfl, rfl, rfl, rfl⟩ rfl rfl rfl rfl rfl (by kernel_rfl) Try.func5 (by kernel_rfl)
    (of_decide_eq_true (by kernel_rfl)) (by unfold Func.isWrapper; first | (rw [if_pos (by decide +kernel)]; kernel_rfl) | (rw [if_neg (by decide +kernel)]; exact ⟨rfl, rfl⟩))
    (fun os started H enc _ => lifted os started H enc)
theorem proved : Rows.PartsLeastSaid := over
#print axioms proved
end Go.Proofs.Ytpoigjkkcehpdaa.partsLeast
namespace Go.Proofs.Ytpoigjkkcehpdaa
/-- The row, under a short name, for the claim. -/
theorem partsLeast_holds : Rows.PartsLeastSaid := partsLeast.proved
end Go.Proofs.Ytpoigjkkcehpdaa
