/- For every row of bytes and every two sums: the sum of no bytes is 0; the row, sealed and sealed again, is good and eight bytes longer, and so is the first seal good; two sums ahead of the row come out alike just if they are alike. Rows of more than 300 bytes are answered true by the law itself. -/
import Derived.Test.YtkcleflejkkabaaCrcAwake
import Derived.Test.YtkcleflejkkabaaPAllx10
namespace Go.Proofs.Ytkcleflejkkabaa.Pure
open Go.RowKit Go.Proofs.Ytkcleflejkkabaa.PAll Go.Proofs.YtkcleflejkkabaaW.PrintWords Go.Proofs.YtkcleflejkkabaaW.PrintLast Go.Proofs.Ytkcleflejkkabaa.Bits32 Go.Proofs.Ytkcleflejkkabaa.Crc
theorem CrcZero : foliatelaw02_CrcZero.Pure := by
  intro l0 a1 a2 _ _ hw w1 w2
  obtain ⟨p0, p1⟩ := u32_of w1
  obtain ⟨q0, q1⟩ := u32_of w2
  refine ⟨20, ?_⟩
  unfold foliatelaw02_CrcZero.f
  rw [awake 20 (by omega)]
  simp only [obind, if_true]
  by_cases c0 : (l0.length : Int) > 300
  · simp [foliatelaw02_CrcZero.j0, c0]
  · have hl := sealed_length l0
    have hl2 := sealed_length (sealed l0)
    have e1 : wrap64 ((l0.length : Int) + 8) = (l0.length : Int) + 8 := by unfold wrap64; omega
    have e2 : wrap64 (((sealed (sealed l0)).length : Int) - 4) = ((sealed (sealed l0)).length : Int) - 4 := wrap_sub4 _ (by omega)
    have e3 : (((sealed (sealed l0)).length : Int) - 4).toNat = (sealed l0).length := by omega
    have e4 : (sealed (sealed l0)).take (sealed l0).length = sealed l0 := List.take_left
    simp only [foliatelaw02_CrcZero.j0, c0, decide_false, Bool.false_eq_true, if_false]
    rw [seal_eq _ (by omega)]
    simp only [obind]
    rw [seal_eq _ (by omega)]
    simp only [obind, sum_eq, with_eq, with_nil 0 (by decide) (by decide), if_true]
    rw [good_eq _ 19 (by omega) (by omega), sealed_good]
    simp only [obind, if_true]
    rw [e1, if_pos (by omega), e2, if_pos (by omega), if_pos (by omega), e3, e4, good_eq _ 19 (by omega) (by omega), sealed_good]
    simp only [obind, if_true]
    by_cases e : a1 = a2
    · subst e; simp
    · have h1 : (withC a1 l0 == withC a2 l0) = false := beq_eq_false_iff_ne.mpr fun h => e (with_inj p0 p1 q0 q1 h)
      have h2 : (a1 == a2) = false := beq_eq_false_iff_ne.mpr e
      rw [h1, h2]; rfl
end Go.Proofs.Ytkcleflejkkabaa.Pure
