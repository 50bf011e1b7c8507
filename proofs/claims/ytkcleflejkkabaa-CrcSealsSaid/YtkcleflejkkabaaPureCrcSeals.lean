/- For every row of bytes: the row, sealed, is good, four bytes longer, and begins by the row; and a row that is good is its own beginning, without the last four bytes, sealed. Rows of more than 300 bytes are answered true by the law itself. -/
import Derived.Test.YtkcleflejkkabaaCrcAwake
import Derived.Test.YtkcleflejkkabaaPAllx8
namespace Go.Proofs.Ytkcleflejkkabaa.Pure
open Go.RowKit Go.Proofs.Ytkcleflejkkabaa.PAll Go.Proofs.YtkcleflejkkabaaW.PrintWords Go.Proofs.YtkcleflejkkabaaW.PrintLast Go.Proofs.Ytkcleflejkkabaa.Bits32 Go.Proofs.Ytkcleflejkkabaa.Crc
theorem seals_end (x : List Int) (h : x.length ≤ 300) (k : Nat) (hk : 6 ≤ k) : foliatelaw02_CrcSeals.j1 k x false = some true := by
  obtain ⟨k, rfl⟩ : ∃ m, k = m + 1 := ⟨k - 1, by omega⟩
  simp only [foliatelaw02_CrcSeals.j1, Bool.false_eq_true, if_false]
  rw [good_eq _ k (by omega) (by omega)]
  simp only [obind]
  by_cases hg : goodB x = true
  · obtain ⟨h4, he⟩ := good_sealed hg
    have e : ((x.length : Int) - 4).toNat = x.length - 4 := by omega
    rw [if_pos hg, if_pos (by omega), wrap_sub4 _ (by omega), if_pos (by omega), if_pos (by omega), e, seal_eq _ (by rw [List.length_take]; omega), he]
    simp
  · rw [if_neg hg]
theorem CrcSeals : foliatelaw02_CrcSeals.Pure := by
  intro l0 _ _ hw
  refine ⟨20, ?_⟩
  unfold foliatelaw02_CrcSeals.f
  rw [awake 20 (by omega)]
  simp only [obind, if_true]
  by_cases c0 : (l0.length : Int) > 300
  · simp [foliatelaw02_CrcSeals.j0, c0]
  · have hl := sealed_length l0
    have e1 : wrap64 ((l0.length : Int) + 4) = (l0.length : Int) + 4 := by unfold wrap64; omega
    have e4 : (sealed l0).take l0.length = l0 := List.take_left
    simp only [foliatelaw02_CrcSeals.j0, c0, decide_false, Bool.false_eq_true, if_false]
    rw [seal_eq _ (by omega)]
    simp only [obind]
    rw [e1, if_pos (by omega), if_pos (by omega), if_pos (by omega), Int.toNat_natCast, e4, if_pos rfl, good_eq _ 19 (by omega) (by omega), sealed_good]
    simp only [obind, Bool.not_true]
    exact seals_end l0 (by omega) 19 (by omega)
end Go.Proofs.Ytkcleflejkkabaa.Pure
