/- For every row of bytes, every place in it and every byte that is not 0: with that byte laid over the one in the place, bit by bit, the sum is another one; and the byte put behind makes another sum than a 0 put behind. Rows of more than 300 bytes, places beyond the row and the byte 0 are answered true by the law itself. -/
import Derived.Test.YtkcleflejkkabaaCrcAwake
import Derived.Test.YtkcleflejkkabaaPAllx9
namespace Go.Proofs.Ytkcleflejkkabaa.Pure
open Go.RowKit Go.Proofs.Ytkcleflejkkabaa.PAll Go.Proofs.YtkcleflejkkabaaW.PrintWords Go.Proofs.YtkcleflejkkabaaW.PrintLast Go.Proofs.Ytkcleflejkkabaa.Bits32 Go.Proofs.Ytkcleflejkkabaa.Crc
theorem byte_ne (d : Int) (h0 : 0 ≤ d) (h : d ≤ 255) (hd : d ≠ 0) : B d ≠ 0#32 := by
  intro e
  rw [B_small d h0 h] at e
  have := V_nat d h0 (by omega)
  rw [e] at this
  simp at this
  omega
theorem CrcByte : foliatelaw02_CrcByte.Pure := by
  intro l0 a1 a2 _ _ hw _ w2
  have hb : 0 ≤ a2 ∧ a2 ≤ 255 := by simpa [Lit.wf, IntKind.min, IntKind.max, IntKind.signed, IntKind.bits] using w2
  refine ⟨20, ?_⟩
  unfold foliatelaw02_CrcByte.f
  rw [awake 20 (by omega)]
  simp only [obind, if_true]
  by_cases c0 : (l0.length : Int) > 300
  · simp [foliatelaw02_CrcByte.j0, c0]
  rw [if_neg c0]
  by_cases c1 : a1 < 0
  · simp [foliatelaw02_CrcByte.j0, c1]
  rw [if_neg c1]
  by_cases c2 : a1 ≥ (l0.length : Int)
  · simp [foliatelaw02_CrcByte.j0, c2]
  rw [if_neg c2]
  by_cases c3 : a2 = 0
  · simp [foliatelaw02_CrcByte.j0, c3]
  have hn := byte_ne a2 hb.1 hb.2 c3
  have e3 : (a2 == 0) = false := by simpa using c3
  simp only [foliatelaw02_CrcByte.j0, e3, Bool.false_eq_true, if_false, List.nil_append, List.length_nil, Nat.zero_add, obind, sum_eq]
  rw [if_pos (by omega), if_pos (by omega), if_pos (by omega), if_pos (by omega), if_pos (by omega)]
  have g1 : withC 0 (l0.set a1.toNat (Go.bits .xor .u8 (rd l0 a1) a2)) ≠ withC 0 l0 := by
    refine with_ne ?_
    unfold rd
    rw [G_set a2 l0 a1.toNat All1 (by omega)]
    intro e
    have := congrArg (fun z => G All1 l0 ^^^ z) e
    simp only [← BitVec.xor_assoc, BitVec.xor_self, BitVec.zero_xor] at this
    exact Tn_ne hn this
  have g2 : withC 0 (l0 ++ [a2]) ≠ withC 0 (l0 ++ [0]) := by
    refine with_ne ?_
    rw [G_append, G_append]
    intro e
    have := Tn_inj 8 (show Tn 8 (G All1 l0 ^^^ B a2) = Tn 8 (G All1 l0 ^^^ B 0) from e)
    have := congrArg (fun z => G All1 l0 ^^^ z) this
    simp only [← BitVec.xor_assoc, BitVec.xor_self, BitVec.zero_xor] at this
    exact hn (this.trans rfl)
  rw [if_neg g1]
  simp [g2]
end Go.Proofs.Ytkcleflejkkabaa.Pure
