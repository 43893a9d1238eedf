/- BitsSplit: a number is its two parts, put one behind the other; so it is taken, too. For every input (the law's own guards are in it). -/
import Derived.Test.YtcdnabonljmegaaPAx18
import Derived.Test.YtcdnabonljmegaaPBitsAwake
import Derived.Test.YtcdnabonljmegaaPBitsTake
namespace Go.Proofs.Ytcdnabonljmegaa.Pure
open Go Go.RowKit Go.Proofs.Ytcdnabonljmegaa.PA Go.Proofs.YtcdnabonljmegaaW.PrintWords Go.Proofs.YtcdnabonljmegaaW.PrintLast Go.Proofs.YtcdnabonljmegaaW.PrintMore Go.Proofs.Ytcdnabonljmegaa.PL
set_option linter.unusedSimpArgs false
set_option linter.unusedVariables false
theorem bsome {α β : Type} (a : α) (f : α → Option β) : (some a).bind f = f a := by
  have h := Option.bind_some a f
  exact h
theorem take_at (A B C : List Bool) (w : Int) (hw' : hw w = B.length) (hlen : (A ++ B ++ C).length < 8796093000000) :
    Ev (fun q => bits_Reader_Take.f q (toB (A ++ B ++ C)) (A.length : Int) 0 w) (num B, ((A ++ B).length : Int), 0) := by
  have h8 := toB_len8 (A ++ B ++ C)
  have hl : (A ++ B ++ C).length = A.length + B.length + C.length := by rw [List.length_append, List.length_append]
  have ht := take_ev (toB (A ++ B ++ C)) A.length 0 w (by omega) (by omega) (toB_bd _)
  rw [hw', takeR_ok (by omega), cutB_toB] at ht
  rw [List.length_append]
  exact ht
theorem join_eq (n : Int) (a b : Nat) (ha : a ≤ 32) (hb : b ≤ 31) : Go.bits .or .u64 (shl .u64 (num (digs (n / 2 ^ b) a)) (b : Int)) (num (digs n b)) = num (digs n (a + b)) := by
  have h1 := num_bd (digs (n / 2 ^ b) a)
  have h2 := num_bd (digs n b)
  rw [digs_len] at h1 h2
  rw [or_join _ _ b a h1.1 h1.2 (by omega) h2.1 h2.2, digs_add, num_append, digs_len]
theorem BitsSplit : serinettelaw01_BitsSplit.Pure := by
  intro n x y z hn hx hy hz
  have bn := wfu64 hn
  have bx := wfu8 hx
  have by' := wfu8 hy
  have bz := wfu8 hz
  obtain ⟨a, ha⟩ := Int.eq_ofNat_of_zero_le (show 0 ≤ x % 33 by omega)
  obtain ⟨b, hb⟩ := Int.eq_ofNat_of_zero_le (show 0 ≤ y % 32 by omega)
  obtain ⟨c, hc⟩ := Int.eq_ofNat_of_zero_le (show 0 ≤ z % 9 by omega)
  have a32 : a ≤ 32 := by omega
  have b31 : b ≤ 31 := by omega
  have c8 : c ≤ 8 := by omega
  have ea : Aside0 (wrap64 (Int.tmod x 33) = (a : Int)) := ⟨by rw [Int.tmod_eq_emod_of_nonneg bx.1, w64 (by omega) (by omega), ha]⟩
  have eb : Aside0 (wrap64 (Int.tmod y 32) = (b : Int)) := ⟨by rw [Int.tmod_eq_emod_of_nonneg by'.1, w64 (by omega) (by omega), hb]⟩
  have ec : Aside0 (wrap64 (Int.tmod z 9) = (c : Int)) := ⟨by rw [Int.tmod_eq_emod_of_nonneg bz.1, w64 (by omega) (by omega), hc]⟩
  clear ha hb hc
  have eab : Aside0 (wrap64 ((a : Int) + (b : Int)) = ((a + b : Nat) : Int)) := ⟨wadd (by omega)⟩
  have es : Aside0 (shr .u64 n (b : Int) = n / 2 ^ b) := ⟨shr_u64' n (by omega)⟩
  have wa : hw (a : Int) = a := hw_nat (by omega)
  have wb : hw (b : Int) = b := hw_nat (by omega)
  have wc : hw (c : Int) = c := hw_nat (by omega)
  have wab : hw ((a + b : Nat) : Int) = a + b := hw_nat (by omega)
  have hj := Aside0.mk (join_eq n a b a32 b31)
  have hd : digs n (a + b) = digs (n / 2 ^ b) a ++ digs n b := digs_add n a b
  have lC : (digs 1 c).length = c := digs_len _ _
  have lA : (digs (n / 2 ^ b) a).length = a := digs_len _ _
  have lB : (digs n b).length = b := digs_len _ _
  have lAB : (digs n (a + b)).length = a + b := digs_len _ _
  -- what is put
  have p1 := put_eq [] 1 (c : Int) (by decide)
  rw [wc, List.nil_append] at p1
  have p2 := put_eq (digs 1 c) n ((a + b : Nat) : Int) (by omega)
  rw [wab] at p2
  have p3 := put_eq (digs 1 c) (n / 2 ^ b) (a : Int) (by omega)
  rw [wa] at p3
  have p4 := put_eq (digs 1 c ++ digs (n / 2 ^ b) a) n (b : Int) (by rw [List.length_append]; omega)
  rw [wb, List.append_assoc, ← hd] at p4
  have l2 : (digs 1 c ++ digs n (a + b)).length = c + (a + b) := by rw [List.length_append, lC, lAB]
  have bb := bytes_eq (digs 1 c ++ digs n (a + b)) (by omega)
  have lt : (toB (digs 1 c ++ digs n (a + b))).length < 1152921504606846976 := by rw [toB_len]; omega
  have ho := open_eq (toB (digs 1 c ++ digs n (a + b))) (by rw [toB_len]; omega)
  have hs := same_refl (toB (digs 1 c ++ digs n (a + b))) lt
  -- what is taken
  have t0 := take_at [] (digs 1 c) (digs n (a + b)) (c : Int) (by rw [wc, lC]) (by rw [List.nil_append]; omega)
  rw [List.nil_append] at t0
  have t1 := take_at (digs 1 c) (digs n (a + b)) [] ((a + b : Nat) : Int) (by rw [wab, lAB]) (by rw [List.append_nil]; omega)
  rw [List.append_nil] at t1
  have e2 : digs 1 c ++ digs n (a + b) = digs 1 c ++ digs (n / 2 ^ b) a ++ digs n b := by rw [hd, List.append_assoc]
  have t2 := take_at (digs 1 c) (digs (n / 2 ^ b) a) (digs n b) (a : Int) (by rw [wa, lA]) (by rw [← e2]; omega)
  rw [← e2] at t2
  have t3 := take_at (digs 1 c ++ digs (n / 2 ^ b) a) (digs n b) [] (b : Int) (by rw [wb, lB]) (by rw [List.append_nil, ← e2]; omega)
  rw [List.append_nil, ← e2] at t3
  have b0 : (0 : Int) ≤ (b : Int) := Int.natCast_nonneg _
  clear hd e2 bn bx by' bz l2 lt a32 b31 c8 lC lA lB lAB wa wb wc wab
  refine Ev.rounds ?_
  unfold serinettelaw01_BitsSplit.f
  rw [ea.out, eb.out, ec.out, eab.out, es.out]
  generalize digs n (a + b) = AB at *
  generalize digs (n / 2 ^ b) a = A at *
  generalize digs n b = B at *
  generalize digs 1 c = C at *
  generalize n / 2 ^ b = nb at *
  refine bnd awake_ev ?_
  simp only [new_eq, p1, p2, p3, p4, bb, ho, len_eq, bsome]
  refine pos b0 (bnd t0 (bnd t0 (bnd t1 (bnd t2 (bnd t3 (pos trivial ?_))))))
  refine pos (by first | trivial | rfl) (bnd hs (pos (by first | trivial | rfl) (cst ?_)))
  simp only
  rw [hj.out]
  simp
end Go.Proofs.Ytcdnabonljmegaa.Pure
