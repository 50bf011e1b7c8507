/- For every two rows of bytes and every sum: the sum of the second part, begun with the sum of the first part, is the sum of both; this is so with a sum of one's own ahead and without; and the sum of no bytes leaves what was ahead. Rows of more than 300 bytes are answered true by the law itself. -/
import Derived.Test.YtkcleflejkkabaaCrcAwake
import Derived.Test.YtkcleflejkkabaaPAllx6
namespace Go.Proofs.Ytkcleflejkkabaa.Pure
open Go.RowKit Go.Proofs.Ytkcleflejkkabaa.PAll Go.Proofs.YtkcleflejkkabaaW.PrintWords Go.Proofs.YtkcleflejkkabaaW.PrintLast Go.Proofs.Ytkcleflejkkabaa.Bits32 Go.Proofs.Ytkcleflejkkabaa.Crc
theorem with_with (s : Int) (a b : List Int) : withC (withC s a) b = withC s (a ++ b) := by
  obtain ⟨p, q⟩ := withC_range (withC s a) b
  obtain ⟨r, t⟩ := withC_range s (a ++ b)
  refine V_inj p q r t ?_
  rw [V_withC, V_withC, V_withC, xor_cancel, G_append]
theorem with_nil (s : Int) (h0 : 0 ≤ s) (h : s < 4294967296) : withC s [] = s := by
  obtain ⟨p, q⟩ := withC_range s []
  refine V_inj p q h0 h ?_
  rw [V_withC, G_nil, xor_cancel]
theorem CrcParts : foliatelaw02_CrcParts.Pure := by
  intro l0 l1 a2 _ _ _ _ _ _ w2
  obtain ⟨s0, s1⟩ := u32_of w2
  refine ⟨20, ?_⟩
  unfold foliatelaw02_CrcParts.f
  rw [awake 20 (by omega)]
  simp only [Option.bind_some, if_true]
  by_cases c0 : (l0.length : Int) > 300
  · rw [if_pos c0]; simp [foliatelaw02_CrcParts.j0]
  · rw [if_neg c0]
    by_cases c1 : (l1.length : Int) > 300
    · simp [foliatelaw02_CrcParts.j0, c1]
    · simp only [foliatelaw02_CrcParts.j0, c1, decide_false, Bool.false_eq_true, if_false, List.nil_append, List.length_nil, Nat.zero_add, Option.bind_some]
      rw [if_pos (by omega), if_pos (by omega)]
      simp only [with_eq, sum_eq, Option.bind_some, with_with, if_true, with_nil a2 s0 s1]
      simp
end Go.Proofs.Ytkcleflejkkabaa.Pure
