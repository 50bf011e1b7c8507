/- The value that a field has at first fits it just if the kind may be; the name and where it leads change nothing; nothing fits a kind that may not be. -/
import Derived.Test.YtepgcejgjfeolaaVal
import Derived.Test.YtepgcejgjfeolaaPAllx15
namespace Go.Proofs.Ytepgcejgjfeolaa.Pure
open Go.RowKit Go.Proofs.Ytepgcejgjfeolaa.PAll Go.Proofs.YtepgcejgjfeolaaW.PrintWords Go.Proofs.YtepgcejgjfeolaaW.PrintLast Go.Proofs.YtepgcejgjfeolaaW.PrintMore Go.Proofs.Ytepgcejgjfeolaa.Vari Go.Proofs.Ytepgcejgjfeolaa.Val
theorem zero_fits (a c : ByteArray) (k : Int) : ∃ r : Int × ByteArray × Int, value_Zero.f a k c = some r ∧ fitsV k r.1 r.2.1 r.2.2 = decide (0 ≤ k ∧ k ≤ 5) := by
  unfold value_Zero.f
  by_cases h5 : k = 5
  · subst h5
    refine ⟨_, if_pos rfl, ?_⟩
    show fitsV 5 0 (⟨#[]⟩ : ByteArray) (-1) = _
    rw [fitsv_ref, if_pos ⟨rfl, none_bytes⟩]; decide
  · refine ⟨_, if_neg h5, ?_⟩
    show fitsV k 0 (⟨#[]⟩ : ByteArray) 0 = _
    by_cases h : 0 ≤ k ∧ k ≤ 5
    · rw [decide_eq_true h]
      by_cases h4 : k = 4
      · subst h4; rw [fits_text, if_pos ⟨rfl, rfl⟩]; decide
      · rw [fits_num (by omega), if_pos ⟨none_bytes, rfl⟩, bits_eq]
        have : (0 : Int) < 2 ^ (bitsOf k) := Int.pow_pos (by decide)
        exact decide_eq_true ⟨by omega, this⟩
    · rw [decide_eq_false h, fits_out h]
theorem ValueZero (a0_0 : ByteArray) (a0_1 : Int) (a0_2 : ByteArray) (w0_1 : (Lit.int .i64 a0_1).wf = true) (a1 a2 : ByteArray) (a3_0 : Int) (a3_1 : ByteArray) (a3_2 : Int) (w3_0 : (Lit.int .i64 a3_0).wf = true) (w3_2 : (Lit.int .i64 a3_2).wf = true) :
    ∃ k, foliatelaw07_ValueZero.f k a0_0 a0_1 a0_2 a1 a2 a3_0 a3_1 a3_2 = some true := by
  obtain ⟨K, hK⟩ : ∃ K : Nat, K = 30 := ⟨_, rfl⟩
  refine ⟨K + 1, ?_⟩
  obtain ⟨r, hr, hf⟩ := zero_fits a0_0 a0_2 a0_1
  have key : foliatelaw07_ValueZero.j0 (K + 1) true (decide (0 ≤ a0_1 ∧ a0_1 ≤ 5)) a0_0 a0_1 a0_2 a3_0 a3_1 a3_2 a1 a0_1 a2 = some true := by
    rw [foliatelaw07_ValueZero.j0, if_pos rfl, hr]
    simp only [obind, value_Fits.f, hf]
    rw [if_pos (by simp), if_pos (by simp)]
    by_cases h : 0 ≤ a0_1 ∧ a0_1 ≤ 5
    · rw [decide_eq_true h, if_pos rfl]
    · rw [decide_eq_false h, if_neg (by simp), fits_out h]; rfl
  unfold foliatelaw07_ValueZero.f
  rw [awake (K + 1) (by omega)]
  simp only [obind]
  by_cases h : a0_1 ≥ 0
  · rw [if_pos h, ← key]
    congr 1
    by_cases h2 : a0_1 ≤ 5
    · rw [decide_eq_true h2, decide_eq_true ⟨h, h2⟩]
    · rw [decide_eq_false h2, decide_eq_false (fun x => h2 x.2)]
  · rw [if_neg h, ← key]
    congr 1
    exact (decide_eq_false (fun x => h x.1)).symm
end Go.Proofs.Ytepgcejgjfeolaa.Pure
