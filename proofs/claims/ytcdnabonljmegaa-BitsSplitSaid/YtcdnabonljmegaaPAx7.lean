/- Each Go function named below comes to what the plain Lean function of its name answers, wherever that answers (rounds enough, no panic, no row too long); texts by a program of this session by way of the kit's print.py, what that does not take by hand. Condition: what is read lies in memory as each theorem says. -/
import Derived.Test.YtcdnabonljmegaaPAx0
import Derived.Test.YtcdnabonljmegaaPAx1
import Derived.Test.YtcdnabonljmegaaPAx6
namespace Go.Proofs.Ytcdnabonljmegaa.PA
open Go.RowKit Go.Proofs.YtcdnabonljmegaaW.PrintWords Go.Proofs.YtcdnabonljmegaaW.PrintLast Go.Proofs.YtcdnabonljmegaaW.PrintMore
attribute [local go_sem] max2_int min2_int max_two min_two max_three min_three max_four min_four   -- for this text's walks alone
set_option linter.unusedVariables false
set_option linter.unusedSimpArgs false

/-! ### bits_Writer_Bytes: function 16 -/
def bits_Writer_Bytes.f (s0_0 : ByteArray) (s0_1 : Int) : Option (List Int × ByteArray × Int) := (bytes_Clone.f (bytesOf s0_0)).map fun r => (r, s0_0, s0_1)
set_option maxRecDepth 100000 in
theorem bits_Writer_Bytes.calls (g : Nat) (s0_0 : ByteArray) (s0_1 : Int) (r1 : List Int) (r2 : ByteArray) (r3 : Int) (w0 w : World) (hI : IsS52 w0 w g s0_0 s0_1) (hB : Below w0.heap.size w0 w) (h : bits_Writer_Bytes.f s0_0 s0_1 = some (r1, r2, r3)) :
    Calls Try.prog 16 #[.pointer (some ⟨g, 0, none⟩)] w fun e w' => ∃ v0_ : Value, e = .returned (v0_) ∧ Kd.R (Kd.int .u8) 5 w' w.heap.size (fun _ => True) v0_ r1 ∧ IsS52 w0 w' g r2 r3 ∧ Below w0.heap.size w0 w' ∧ KeepBut w w' g none := by
  have HI := Aside0.mk hI
  have HB := Aside0.mk hB
  clear hB
  obtain ⟨r, hc, he⟩ := Option.map_eq_some_iff.1 h
  simp only [Prod.mk.injEq] at he
  obtain ⟨rfl, rfl, rfl⟩ := he
  clear h
  obtain ⟨v, hb, hg, hr, hz⟩ := hI
  obtain ⟨A, c, rfl⟩ := Kd.R_slice hr
  have hc0 : w.cell? ⟨g, 0, none⟩ = some (.slice A (bytesOf s0_0).length c) := (blk_cell hb 0).trans rfl
  have HC := Aside0.mk (bytes_Clone.calls A c (bytesOf s0_0) r w (Kd.R_reads' hr).2.2 (Kd.R_reads' hr).2.1 hc)
  clear hb hg hr hz hc
  go_enter Try.func16, Try.ntmps16
  go_wp2_with (go_at_call 31; (with_reducible refine HC.out.mono ?_); rintro e w' ⟨v0, rfl, ho, hb⟩; have HO := Aside0.mk ho; have HBB := Aside0.mk hb; clear ho hb)
  go_ret
  exact ⟨_, rfl, HO.out, HI.out.below HBB.out, below_step HB.out HBB.out, KeepBut.of_below HBB.out _ _⟩


end Go.Proofs.Ytcdnabonljmegaa.PA
