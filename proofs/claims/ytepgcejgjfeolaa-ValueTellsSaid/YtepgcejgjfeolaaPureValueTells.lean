/- For every field, every value and every row of at most 300 bytes: whether the value fits, its bytes, or that it has none, what the row is read as, and the field's first value, are what the document's own reckoning gives. Longer rows and texts are answered as the law itself says. -/
import Derived.Test.YtepgcejgjfeolaaTlValRef
import Derived.Test.YtepgcejgjfeolaaPTlx14
namespace Go.Proofs.Ytepgcejgjfeolaa.Pure
open Go.RowKit Go.Proofs.Ytepgcejgjfeolaa.PTl Go.Proofs.YtepgcejgjfeolaaW.PrintWords Go.Proofs.YtepgcejgjfeolaaW.PrintLast Go.Proofs.YtepgcejgjfeolaaW.PrintMore Go.Proofs.Ytepgcejgjfeolaa.TlVari Go.Proofs.Ytepgcejgjfeolaa.TlVal
theorem ValueTells (a0_0 : ByteArray) (a0_1 : Int) (a0_2 : ByteArray) (w0_1 : (Lit.int .i64 a0_1).wf = true) (a1_0 : Int) (a1_1 : ByteArray) (a1_2 : Int) (w1_0 : (Lit.int .i64 a1_0).wf = true) (w1_2 : (Lit.int .i64 a1_2).wf = true) (l2 : List Int) (hw2 : ∀ x ∈ l2, (Lit.int .u8 x).wf = true) :
    ∃ k, foliatelaw07_ValueTells.f k a0_0 a0_1 a0_2 a1_0 a1_1 a1_2 l2 = some true := by
  have hN := i64_of w1_0
  have hb := bytes_of hw2
  obtain ⟨K, hK⟩ : ∃ K : Nat, K = 3000 := ⟨_, rfl⟩
  refine ⟨K + 1, ?_⟩
  unfold foliatelaw07_ValueTells.f
  rw [awake (K + 1) (by omega), obind, if_pos rfl]
  by_cases c0 : (l2.length : Int) > 300
  · rw [if_pos c0]; simp [foliatelaw07_ValueTells.j0]
  rw [if_neg c0]
  by_cases c1 : (a1_1.size : Int) > 300
  · rw [decide_eq_true c1]; simp [foliatelaw07_ValueTells.j0]
  rw [decide_eq_false c1]
  simp only [foliatelaw07_ValueTells.j0, Bool.false_eq_true, if_false]
  have hp : ∃ q, value_Put.f K a0_0 a0_1 a0_2 a1_0 a1_1 a1_2 = some q := by
    cases hf : fitsV a0_1 a1_0 a1_1 a1_2 with
    | false => exact ⟨_, put_no _ _ K hf⟩
    | true => exact ⟨_, put_yes _ _ K (by omega) hN hf⟩
  obtain ⟨q, hq⟩ := hp
  have hz : ∃ z, value_Zero.f a0_0 a0_1 a0_2 = some z ∧ foliateref07_Zero.f a0_0 a0_1 a0_2 = some z := by
    unfold value_Zero.f foliateref07_Zero.f
    by_cases c : a0_1 = 5
    · rw [if_pos c]; exact ⟨_, rfl, rfl⟩
    · rw [if_neg c]; exact ⟨_, rfl, rfl⟩
  obtain ⟨z, hz1, hz2⟩ := hz
  rw [hq, obind, rval_put _ _ K (by omega) _ _ _ _ hN, hq, obind, val_get_eq _ _ K (by omega) l2 hb (by omega), obind, rval_get_eq _ _ K (by omega) l2 hb (by omega), obind, rfits_eq K (by omega) _ _ _ _ _ _ hN, obind]
  rw [if_pos rfl, beq_self_eq_true, if_pos rfl, beq_self_eq_true, beq_self_eq_true, beq_self_eq_true]
  simp only [Bool.and_self, if_true, beq_self_eq_true]
  rw [fits_eq, obind, beq_self_eq_true, if_pos rfl, hz1, obind, hz2, obind]
  simp only [beq_self_eq_true, Bool.and_self]
end Go.Proofs.Ytepgcejgjfeolaa.Pure
