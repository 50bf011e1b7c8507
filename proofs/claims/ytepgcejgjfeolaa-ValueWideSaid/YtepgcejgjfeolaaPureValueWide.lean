/- What fits a number of fewer bits fits one of more, with the same bytes. -/
import Derived.Test.YtepgcejgjfeolaaVal
import Derived.Test.YtepgcejgjfeolaaPAllx14
namespace Go.Proofs.Ytepgcejgjfeolaa.Pure
open Go.RowKit Go.Proofs.Ytepgcejgjfeolaa.PAll Go.Proofs.YtepgcejgjfeolaaW.PrintWords Go.Proofs.YtepgcejgjfeolaaW.PrintLast Go.Proofs.YtepgcejgjfeolaaW.PrintMore Go.Proofs.Ytepgcejgjfeolaa.Vari Go.Proofs.Ytepgcejgjfeolaa.Val
theorem bitsOf_mono {k m : Int} (h0 : 0 ≤ k) (hm : m ≤ 3) (hkm : k ≤ m) : bitsOf k ≤ bitsOf m := by
  rcases (show k = 0 ∨ k = 1 ∨ k = 2 ∨ k = 3 by omega) with rfl | rfl | rfl | rfl <;> rcases (show m = 0 ∨ m = 1 ∨ m = 2 ∨ m = 3 by omega) with rfl | rfl | rfl | rfl <;> first | decide | (exact absurd hkm (by decide))
theorem wide_fits {k m N : Int} {S : ByteArray} {R : Int} (h0 : 0 ≤ k) (hm : m ≤ 3) (hkm : k ≤ m) (h : fitsV k N S R = true) : fitsV m N S R = true := by
  rw [fits_num ⟨h0, by omega⟩] at h
  rw [fits_num ⟨by omega, hm⟩]
  by_cases c : S.toList = [] ∧ R = 0
  · rw [if_pos c] at h ⊢
    rw [bits_eq] at h ⊢
    have h1 := of_decide_eq_true h
    have hb : (2 : Int) ^ bitsOf k ≤ 2 ^ bitsOf m := by
      have : ∀ a b : Nat, a ≤ b → (2 : Int) ^ a ≤ 2 ^ b := fun a b hab => by
        have := Nat.pow_le_pow_right (n := 2) (by decide) hab
        exact_mod_cast this
      exact this _ _ (bitsOf_mono h0 hm hkm)
    exact decide_eq_true ⟨by omega, by omega⟩
  · rw [if_neg c] at h; exact absurd h (by simp)
theorem ValueWide (a0_0 : Int) (a0_1 : ByteArray) (a0_2 : Int) (w0_0 : (Lit.int .i64 a0_0).wf = true) (w0_2 : (Lit.int .i64 a0_2).wf = true) (a1 : Int) (w1 : (Lit.int .i64 a1).wf = true) (a2 : Int) (w2 : (Lit.int .i64 a2).wf = true) :
    ∃ k, foliatelaw07_ValueWide.f k a0_0 a0_1 a0_2 a1 a2 = some true := by
  have hN := i64_of w0_0
  obtain ⟨K, hK⟩ : ∃ K : Nat, K = 30 := ⟨_, rfl⟩
  refine ⟨K + 1, ?_⟩
  have out : foliatelaw07_ValueWide.j0 (K + 1) a1 a2 true true a0_0 a0_1 a0_2 = some true := by rw [foliatelaw07_ValueWide.j0, if_pos rfl]
  unfold foliatelaw07_ValueWide.f
  rw [awake (K + 1) (by omega)]
  simp only [obind, if_true]
  by_cases c1 : a1 < 0
  · rw [if_pos c1, out]
  rw [if_neg c1]
  by_cases c2 : a2 > 3
  · rw [if_pos c2, out]
  rw [if_neg c2]
  by_cases c3 : a1 > a2
  · rw [if_pos c3, out]
  rw [if_neg c3]
  by_cases c4 : (a0_1.size : Int) > 300
  · rw [decide_eq_true c4, out]
  rw [decide_eq_false c4, foliatelaw07_ValueWide.j0, if_neg (by simp)]
  cases hf : fitsV a1 a0_0 a0_1 a0_2 with
  | true =>
    have hg := wide_fits (by omega) (by omega) (by omega) hf (m := a2)
    rw [put_yes _ _ K (by omega) hN hf, put_yes _ _ K (by omega) hN hg]
    have e1 : V a1 a0_0 a0_1 a0_2 = pb (Z a0_0).toNat := by unfold V; rw [if_neg (by omega), if_neg (by omega)]
    have e2 : V a2 a0_0 a0_1 a0_2 = pb (Z a0_0).toNat := by unfold V; rw [if_neg (by omega), if_neg (by omega)]
    simp only [obind, if_true, e1, e2]
    simp
  | false =>
    rw [put_no _ _ K hf]
    cases hg : fitsV a2 a0_0 a0_1 a0_2 with
    | true => rw [put_yes _ _ K (by omega) hN hg]; simp [obind]
    | false => rw [put_no _ _ K hg]; simp [obind]
end Go.Proofs.Ytepgcejgjfeolaa.Pure
