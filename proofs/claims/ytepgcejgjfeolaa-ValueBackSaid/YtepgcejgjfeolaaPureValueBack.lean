/- For every field, every value and every row of at most 300 bytes: the value has bytes just if it fits, and these, with the row behind them, are read as the value, and as long as they are; what is read at the row's front fits, is no longer than the row, and is put as the same bytes; nothing read is of no length. Longer rows and texts are answered as the law itself says. -/
import Derived.Test.YtepgcejgjfeolaaBkValGet
import Derived.Test.YtepgcejgjfeolaaPBkx7
namespace Go.Proofs.Ytepgcejgjfeolaa.Pure
open Go.RowKit Go.Proofs.Ytepgcejgjfeolaa.PBk Go.Proofs.YtepgcejgjfeolaaW.PrintWords Go.Proofs.YtepgcejgjfeolaaW.PrintLast Go.Proofs.YtepgcejgjfeolaaW.PrintMore Go.Proofs.Ytepgcejgjfeolaa.BkVari Go.Proofs.Ytepgcejgjfeolaa.BkVal
theorem ValueBack (a0_0 : ByteArray) (a0_1 : Int) (a0_2 : ByteArray) (w0_1 : (Lit.int .i64 a0_1).wf = true) (a1_0 : Int) (a1_1 : ByteArray) (a1_2 : Int) (w1_0 : (Lit.int .i64 a1_0).wf = true) (w1_2 : (Lit.int .i64 a1_2).wf = true) (l2 : List Int) (hw2 : ∀ x ∈ l2, (Lit.int .u8 x).wf = true) :
    ∃ k, foliatelaw07_ValueBack.f k a0_0 a0_1 a0_2 a1_0 a1_1 a1_2 l2 = some true := by
  have hN := i64_of w1_0
  have hb := bytes_of hw2
  obtain ⟨K, hK⟩ : ∃ K : Nat, K = 3000 := ⟨_, rfl⟩
  refine ⟨K + 2, ?_⟩
  unfold foliatelaw07_ValueBack.f
  rw [awake (K + 2) (by omega), obind, if_pos rfl]
  by_cases c0 : (l2.length : Int) > 300
  · rw [if_pos c0]; simp [foliatelaw07_ValueBack.j0]
  rw [if_neg c0]
  by_cases c1 : (a1_1.size : Int) > 300
  · rw [decide_eq_true c1]; simp [foliatelaw07_ValueBack.j0]
  rw [decide_eq_false c1]
  simp only [foliatelaw07_ValueBack.j0, Bool.false_eq_true, if_false]
  have rest : foliatelaw07_ValueBack.j1 (K + 1) l2 false a0_0 a0_1 a0_2 = some true := by
    simp only [foliatelaw07_ValueBack.j1, Bool.false_eq_true, if_false]
    rcases val_get_inv a0_0 a0_2 K (by omega) l2 hb (by omega) (k := a0_1) with h | ⟨N, S, R, t, hf, hr, hl, h⟩
    · rw [h, obind]
      have : ∃ q, value_Put.f K a0_0 a0_1 a0_2 0 (⟨#[]⟩ : ByteArray) 0 = some q := by
        cases hf : fitsV a0_1 0 (⟨#[]⟩ : ByteArray) 0 with
        | false => exact ⟨_, put_no _ _ K hf⟩
        | true => exact ⟨_, put_yes _ _ K (by omega) (by omega) hf⟩
      obtain ⟨q, hq⟩ := this
      rw [hq, obind]
      simp
    · have hp := put_yes a0_0 a0_2 K (by omega) hr hf
      have hlen : l2.length = (V a0_1 N S R).length + t.length := by rw [← List.length_append, ← hl]
      have et : l2.take (V a0_1 N S R).length = V a0_1 N S R := by
        conv => lhs; rw [hl]
        exact List.take_left
      rw [h, obind, hp, obind, if_pos rfl, fits_eq, obind, hf, if_pos rfl]
      dsimp only
      rw [if_pos (by omega), if_pos (by omega), if_pos (by omega), Int.toNat_natCast, et, beq_self_eq_true]
  cases hf : fitsV a0_1 a1_0 a1_1 a1_2 with
  | true =>
    obtain ⟨vb, vl⟩ := val_bytes hN hf
    have e0 : ([] : List Int).length + (V a0_1 a1_0 a1_1 a1_2).length < 140737488355328 := by simp only [List.length_nil]; omega
    have e1 : (V a0_1 a1_0 a1_1 a1_2).length + l2.length < 140737488355328 := by omega
    rw [put_yes _ _ _ (by omega) hN hf, obind]
    dsimp only
    rw [if_pos e0, List.nil_append, obind, if_pos e1, val_get_put a0_0 a0_2 (K + 1) (by omega) l2 hb (by omega) hN hf, obind, fits_eq, obind, hf]
    simp only [bne_self_eq_false, Bool.false_eq_true, if_false, if_true, beq_self_eq_true, Bool.not_true, Bool.or_self]
    exact rest
  | false =>
    have hg : ∃ q, value_Get.f (K + 1) a0_0 a0_1 a0_2 l2 = some q := by
      rcases val_get_inv a0_0 a0_2 (K + 1) (by omega) l2 hb (by omega) (k := a0_1) with h | ⟨N, S, R, t, _, _, _, h⟩
      · exact ⟨_, h⟩
      · exact ⟨_, h⟩
    obtain ⟨q, hq⟩ := hg
    rw [put_no _ _ _ hf, obind]
    dsimp only
    rw [if_pos (by decide), List.nil_append, obind, if_pos (by simp only [List.length_nil]; omega), List.nil_append, hq, obind, fits_eq, obind, hf]
    simp only [bne_self_eq_false, Bool.false_eq_true, if_false]
    exact rest
end Go.Proofs.Ytepgcejgjfeolaa.Pure
