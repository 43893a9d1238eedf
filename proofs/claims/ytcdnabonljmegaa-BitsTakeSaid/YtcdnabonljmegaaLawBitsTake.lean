/- The row of the law BitsTake, for every input that can be read: out of its plain statement (Pure) and the walk. No further condition. -/
import Derived.Test.YtcdnabonljmegaaRows
import Derived.Test.YtcdnabonljmegaaPAx24
import Derived.Test.YtcdnabonljmegaaPureBitsTake
import Derived.Test.YtcdnabonljmegaaOpn
import Derived.Test.YtcdnabonljmegaaWSized
import Derived.WalkKit
import Derived.ProofKit
import Derived.OpenShut
import Derived.ShutString
import Derived.ChangeOld
import Derived.Below
import Derived.SizedLaws
namespace Go.Proofs.Ytcdnabonljmegaa.bitsTake
open Go.ChangeShapes Go.WideShapes Go.ChangeAt Go.RowKit Go.Joins
open Go.Proofs.YtcdnabonljmegaaW.PrintWords
open Go.Proofs.Ytcdnabonljmegaa.Opn
set_option linter.unusedVariables false
theorem own : ownKnob Try.prog.godebug = none := by kernel_rfl
theorem laidOut : laidOutB Try.prog = true := by kernel_rfl
set_option maxRecDepth 100000 in
theorem lifted (os : Os) (started : os.Started) (H : Type) (enc : TypeId × Value → H) :
    ReturnsInHanded {} Try.checked os 8 .any (Rows.bitsTakeSpec.pre6 enc Try.prog Try.f8 Rows.bitsTakeRow.domain false) (Rows.bitsTakeSpec.post enc Try.prog Try.f8 false true false false) := by
  refine returnsInHanded_of_change_sized (C := Try.checked) own started (by kernel_rfl) Try.func8
    (ChangeSpec.witness6 (enc := enc) (C := Try.checked) false ⟨#[], #[.slice none 0 0, .slice none 0 0, .slice none 0 0], []⟩ 8 (by kernel_rfl) (by kernel_rfl) (by kernel_rfl) (by kernel_rfl)) ?_
  intro W base args ds gs before hval0 hW hcnd hsz0 _
  have hsz : (DataW.weightsEach Try.prog (Try.f8.params.toList ++ Rows.bitsTakeSpec.plain.varTypes Try.prog) (ds ++ gs)).all (· ≤ reachBytes) = true := hsz0
  have hval : ∀ (j : Nat) t v, Try.f8.params[j]? = some t → args[j]? = some v → Value.okWide Try.prog W .any base t v := hval0
  have hW' := hW
  obtain ⟨p, q, hA0, hV, rfl, hfz, hnd⟩ := hW
  have hA : DataW.TrodAll enc Try.prog W 0 (fun _ => true) true Try.f8.params.toList args.toList ds p := hA0
  rw [Try.params8] at hA hval hsz
  obtain ⟨v0, vs0, d0, ds0, p0, q0, hargs, rfl, rfl, h0, r0⟩ := trodAll_cons hA
  obtain ⟨v1, vs1, d1, ds1, p1, q1, rfl, rfl, rfl, h1, r1⟩ := trodAll_cons r0
  obtain ⟨v2, vs2, d2, ds2, p2, q2, rfl, rfl, rfl, h2, r2⟩ := trodAll_cons r1
  obtain ⟨rfl, rfl, rfl⟩ := trodAll_nil r2
  obtain rfl : args = #[v0, v1, v2] := by cases args; simp_all
  obtain ⟨rfl, rfl⟩ := trodVars_none hV
  have k0 := h0
  have lt0 : ∀ x ∈ p0, x.block < W.heap.size := by obtain ⟨m, hm⟩ := k0; exact DataW.trod_lt m _ _ _ hm
  obtain ⟨l0, A0, c0, rfl, hc0, hr0, hm0, w0⟩ := arg_slice Try.underlying33 (by kernel_rfl) (opens_int Try.underlying5) (hval 0 33 v0 rfl rfl) h0
  have y0 : l0.length * 1 ≤ 140737488351232 := sized_ints hsz (j := 0) (t := 33) rfl rfl Try.underlying33 Try.underlying5 (by kernel_rfl) (by kernel_rfl) k0
  have k1 := h1
  have lt1 : ∀ x ∈ p1, x.block < W.heap.size := by obtain ⟨m, hm⟩ := k1; exact DataW.trod_lt m _ _ _ hm
  obtain ⟨l1, A1, c1, rfl, hc1, hr1, hm1, w1⟩ := arg_slice Try.underlying23 (by kernel_rfl) (opens_int Try.underlying3) (hval 1 23 v1 rfl rfl) h1
  have y1 : l1.length * 8 ≤ 140737488351232 := sized_ints hsz (j := 1) (t := 23) rfl rfl Try.underlying23 Try.underlying3 (by kernel_rfl) (by kernel_rfl) k1
  have k2 := h2
  have lt2 : ∀ x ∈ p2, x.block < W.heap.size := by obtain ⟨m, hm⟩ := k2; exact DataW.trod_lt m _ _ _ hm
  obtain ⟨l2, A2, c2, rfl, hc2, hr2, hm2, w2⟩ := arg_slice Try.underlying24 (by kernel_rfl) (opens_bool Try.underlying4) (hval 2 24 v2 rfl rfl) h2
  clear hA0 hval0 hsz0 hsz
  obtain ⟨k, hk⟩ := Pure.BitsTake l0 l1 l2 hm0 y0 w0 hm1 y1 w1 hm2 w2
  refine (PA.serinettelaw01_BitsTake.calls k A0 c0 l0 A1 c1 l1 A2 c2 l2 true W hr0 hc0 hr1 hc1 hr2 hc2 hk).mono ?_
  rintro e W' ⟨he, bel0⟩
  have bel : Below W.heap.size W W' := bel0
  clear bel0
  subst he
  exact ⟨_, rfl, _, _, _, [], _, [], hW', trodAll_mk1 (shut_bool Try.underlying4 _), (trodAll_cons_mk (Below.trod laidOut (by kernel_rfl) (of_decide_eq_true (by kernel_rfl)) k0 bel lt0) (trodAll_cons_mk (Below.trod laidOut (by kernel_rfl) (of_decide_eq_true (by kernel_rfl)) k1 bel lt1) (trodAll_cons_mk (Below.trod laidOut (by kernel_rfl) (of_decide_eq_true (by kernel_rfl)) k2 bel lt2) trodAll_mk0))), rfl, bel.frame _, fun h => by cases h⟩
theorem over : Rows.bitsTakeRow.holds Try.pinned (OpenSpec.ofChange Rows.bitsTakeSpec) :=
  OpenClaim.holds_of_wide 8 Try.f8 rfl rfl rfl rfl rfl rfl rfl ⟨rfl, rfl, rfl, rfl, rfl⟩ rfl rfl rfl rfl rfl (by kernel_rfl) Try.func8 (by kernel_rfl)
    (of_decide_eq_true (by kernel_rfl)) (by unfold Func.isWrapper; first | (rw [if_pos (by decide +kernel)]; kernel_rfl) | (rw [if_neg (by decide +kernel)]; exact ⟨rfl, rfl⟩))
    (fun os started H enc _ => lifted os started H enc)
theorem proved : Rows.BitsTakeSaid := over
#print axioms proved
end Go.Proofs.Ytcdnabonljmegaa.bitsTake
namespace Go.Proofs.Ytcdnabonljmegaa
/-- The row, under a short name, for the claim. -/
theorem bitsTake_holds : Rows.BitsTakeSaid := bitsTake.proved
end Go.Proofs.Ytcdnabonljmegaa
