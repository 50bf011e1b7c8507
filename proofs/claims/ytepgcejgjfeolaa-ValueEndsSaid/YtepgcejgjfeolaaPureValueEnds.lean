/- Of numbers just those from the least to the greatest one fit, of a Text just those of at most twelve bytes. -/
import Derived.Test.YtepgcejgjfeolaaVal
import Derived.Test.YtepgcejgjfeolaaPAllx18
namespace Go.Proofs.Ytepgcejgjfeolaa.Pure
open Go.RowKit Go.Proofs.Ytepgcejgjfeolaa.PAll Go.Proofs.YtepgcejgjfeolaaW.PrintWords Go.Proofs.YtepgcejgjfeolaaW.PrintLast Go.Proofs.YtepgcejgjfeolaaW.PrintMore Go.Proofs.Ytepgcejgjfeolaa.Vari Go.Proofs.Ytepgcejgjfeolaa.Val
theorem ends_num (k : Int) (b : Nat) (hk : 0 ≤ k ∧ k ≤ 3) (hb : bitsOf k = b) (n : Int) : fitsV k n (⟨#[]⟩ : ByteArray) 0 = decide (-(2 ^ b) ≤ n ∧ n < 2 ^ b) := by
  rw [fits_num hk, if_pos ⟨none_bytes, rfl⟩, hb, bits_eq]
theorem ValueEnds : foliatelaw07_ValueEnds.Pure := by
  intro a0 a1 w0 _
  have hN := i64_of w0
  obtain ⟨K, hK⟩ : ∃ K : Nat, K = 30 := ⟨_, rfl⟩
  refine ⟨K + 2, ?_⟩
  have f0 := ends_num 0 7 (by decide) rfl a0
  have f1 := ends_num 1 15 (by decide) rfl a0
  have f2 := ends_num 2 31 (by decide) rfl a0
  have f3 : fitsV 3 a0 (⟨#[]⟩ : ByteArray) 0 = true := by
    rw [ends_num 3 63 (by decide) rfl a0]; exact decide_eq_true ⟨by omega, by omega⟩
  have f4 : fitsV 4 0 a1 0 = decide ((a1.size : Int) ≤ 12) := by rw [fits_text, if_pos ⟨rfl, rfl⟩]
  have same (p q : Prop) [Decidable p] [Decidable q] (h : p ↔ q) : (decide p == decide q) = true := by
    by_cases hp : p
    · rw [decide_eq_true hp, decide_eq_true (h.1 hp)]; rfl
    · rw [decide_eq_false hp, decide_eq_false (fun x => hp (h.2 x))]; rfl
  have no (p : Prop) [Decidable p] (h : ¬ p) : (decide p == false) = true := by rw [decide_eq_false h]; rfl
  have j1 : ∀ x7, x7 = true → foliatelaw07_ValueEnds.j1 (K + 1) a0 a1 x7 a0 (⟨#[]⟩ : ByteArray) 0 = some true := by
    rintro _ rfl
    rw [foliatelaw07_ValueEnds.j1]
    simp only [value_Fits.f, obind, f1, f2, f3, f4]
    by_cases c1 : a0 ≥ -32768
    · rw [if_pos c1]
      by_cases c2 : a0 ≥ -2147483648
      · rw [if_pos c2, if_pos trivial, if_pos (same _ _ ⟨fun h => by omega, fun h => ⟨by omega, by omega⟩⟩), if_pos (same _ _ ⟨fun h => by omega, fun h => ⟨by omega, by omega⟩⟩)]
        simp
      · omega
    · rw [if_neg c1]
      by_cases c2 : a0 ≥ -2147483648
      · rw [if_pos c2, if_pos trivial, if_pos (no _ (fun h => c1 (by omega))), if_pos (same _ _ ⟨fun h => by omega, fun h => ⟨by omega, by omega⟩⟩)]
        simp
      · rw [if_neg c2, if_pos trivial, if_pos (no _ (fun h => c1 (by omega))), if_pos (no _ (fun h => c2 (by omega)))]
        simp
  unfold foliatelaw07_ValueEnds.f
  rw [awake (K + 2) (by omega)]
  simp only [obind, if_true]
  by_cases c0 : (a1.size : Int) > 300
  · rw [decide_eq_true c0, foliatelaw07_ValueEnds.j0, if_pos rfl]
  · rw [decide_eq_false c0, foliatelaw07_ValueEnds.j0, if_neg (by simp)]
    simp only [value_Fits.f, obind, f0]
    by_cases c1 : a0 ≥ -128
    · rw [if_pos c1]
      exact j1 _ (same _ _ ⟨fun h => by omega, fun h => ⟨by omega, by omega⟩⟩)
    · rw [if_neg c1]
      exact j1 _ (no _ (fun h => c1 (by omega)))
end Go.Proofs.Ytepgcejgjfeolaa.Pure
