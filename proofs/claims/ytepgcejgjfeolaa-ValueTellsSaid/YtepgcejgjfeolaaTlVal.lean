import Derived.Test.YtepgcejgjfeolaaTlVariZig
import Derived.Test.YtepgcejgjfeolaaPTlx6
import Derived.Test.YtepgcejgjfeolaaPTlx5
import Derived.Test.YtepgcejgjfeolaaPTlx3
import Derived.Test.YtepgcejgjfeolaaPTlx3
namespace Go.Proofs.Ytepgcejgjfeolaa.TlVal
open Go.RowKit Go.Proofs.Ytepgcejgjfeolaa.PTl Go.Proofs.YtepgcejgjfeolaaW.PrintWords Go.Proofs.YtepgcejgjfeolaaW.PrintLast Go.Proofs.YtepgcejgjfeolaaW.PrintMore Go.Proofs.Ytepgcejgjfeolaa.TlVari
/-! A field's values: plain mathematics over what is printed. -/
theorem awake20 : foliatelaw07_awake.f 20 = some true := by kernel_rfl
theorem awake (k : Nat) (h : 20 ≤ k) : foliatelaw07_awake.f k = some true := at_rounds foliatelaw07_awake.mono h awake20
theorem none_bytes : (⟨#[]⟩ : ByteArray).toList = [] := by rw [ByteArray.toList_eq]
theorem bits_eq (b : Nat) (N : Int) : inBits b N = decide (-(2 ^ b) ≤ N ∧ N < 2 ^ b) := by
  have hp : (0 : Int) < 2 ^ b := Int.pow_pos (by decide)
  generalize hq : (2 : Int) ^ b = q at hp
  unfold inBits
  rw [hq]
  by_cases h0 : 0 ≤ N
  · by_cases h1 : N < q
    · have e : N / q = 0 := Int.ediv_eq_zero_of_lt h0 h1
      simp [e]; omega
    · have e : 1 ≤ N / q := Int.le_ediv_of_mul_le hp (by omega)
      have e1 : (N / q == 0) = false := beq_eq_false_iff_ne.mpr (by omega)
      have e2 : (N / q == -1) = false := beq_eq_false_iff_ne.mpr (by omega)
      rw [e1, e2, decide_eq_false (by omega)]; rfl
  · by_cases h1 : -q ≤ N
    · have e : N / q = -1 := by
        have h4 : N / q < 0 := Int.ediv_neg_of_neg_of_pos (by omega) hp
        have h5 : -1 ≤ N / q := Int.le_ediv_of_mul_le hp (by omega)
        omega
      rw [e, decide_eq_true ⟨h1, by omega⟩]; rfl
    · have h5 : N / q < -1 := Int.ediv_lt_of_lt_mul hp (by omega)
      have e1 : (N / q == 0) = false := beq_eq_false_iff_ne.mpr (by omega)
      have e2 : (N / q == -1) = false := beq_eq_false_iff_ne.mpr (by omega)
      rw [e1, e2, decide_eq_false (by omega)]; rfl
theorem fits_num {k N : Int} {S : ByteArray} {R : Int} (hk : 0 ≤ k ∧ k ≤ 3) : fitsV k N S R = if S.toList = [] ∧ R = 0 then inBits (bitsOf k) N else false := by
  unfold fitsV
  by_cases c : S.toList = [] ∧ R = 0
  · rw [if_pos ⟨hk, c⟩, if_pos c]
  · rw [if_neg (fun h => c h.2), if_neg (fun h => by omega), if_neg (fun h => by omega), if_neg c]
theorem fits_text {N : Int} {S : ByteArray} {R : Int} : fitsV 4 N S R = if N = 0 ∧ R = 0 then decide ((S.size : Int) ≤ 12) else false := by
  unfold fitsV
  rw [if_neg (fun h => by omega)]
  by_cases c : N = 0 ∧ R = 0
  · rw [if_pos ⟨rfl, c⟩, if_pos c]
  · rw [if_neg (fun h => c h.2), if_neg (fun h => by omega), if_neg c]
theorem fitsv_ref {N : Int} {S : ByteArray} {R : Int} : fitsV 5 N S R = if N = 0 ∧ S.toList = [] then decide (-1 ≤ R) && decide (R ≤ 1073741824) else false := by
  unfold fitsV
  rw [if_neg (fun h => by omega), if_neg (fun h => by omega)]
  by_cases c : N = 0 ∧ S.toList = []
  · rw [if_pos ⟨rfl, c⟩, if_pos c]
  · rw [if_neg (fun h => c h.2), if_neg c]
theorem fits_out {k N : Int} {S : ByteArray} {R : Int} (hk : ¬ (0 ≤ k ∧ k ≤ 5)) : fitsV k N S R = false := by
  unfold fitsV
  rw [if_neg (fun h => hk (by omega)), if_neg (fun h => hk (by omega)), if_neg (fun h => hk (by omega))]
theorem i64r {x : Int} (h : (Lit.int .i64 x).wf = true) : -9223372036854775808 ≤ x ∧ x ≤ 9223372036854775807 := i64_of h
/-- the bytes of a value that fits -/
def V (k N : Int) (S : ByteArray) (R : Int) : List Int := if k = 4 then pb S.size ++ bytesOf S else if k = 5 then pb (R + 1).toNat else pb (Z N).toNat
theorem put_yes {k N : Int} {S : ByteArray} {R : Int} (a c : ByteArray) (K : Nat) (hK : 20 ≤ K) (hN : -9223372036854775808 ≤ N ∧ N ≤ 9223372036854775807) (h : fitsV k N S R = true) : value_Put.f K a k c N S R = some (V k N S R, true) := by
  unfold value_Put.f V
  rw [if_pos h]
  by_cases h4 : k = 4
  · subst h4
    rw [if_pos rfl, if_pos rfl]
    rw [fits_text] at h
    have hs : S.size ≤ 12 := by
      by_cases c : N = 0 ∧ R = 0
      · rw [if_pos c] at h; have := of_decide_eq_true h; omega
      · rw [if_neg c] at h; exact absurd h (by simp)
    have hp := pb_len S.size
    rw [put_eq S.size K (Nat.lt_of_le_of_lt hs (by decide)) (by omega)]
    simp only [obind]
    rw [if_pos (by omega)]
  rw [if_neg h4, if_neg h4]
  by_cases h5 : k = 5
  · subst h5
    rw [if_pos rfl, if_pos rfl]
    rw [fitsv_ref] at h
    have hs : -1 ≤ R ∧ R ≤ 1073741824 := by
      by_cases c : N = 0 ∧ S.toList = []
      · rw [if_pos c] at h; simpa using h
      · rw [if_neg c] at h; exact absurd h (by simp)
    have e : R + 1 = ((R + 1).toNat : Int) := by omega
    rw [e, put_eq (R + 1).toNat K (by omega) (by omega)]
    simp only [obind]
    rw [← e]
  · rw [if_neg h5, if_neg h5, zig_eq N hN.1 hN.2]
    have hz := Z_range N hN.1 hN.2
    have e : Z N = ((Z N).toNat : Int) := by omega
    simp only [obind]
    rw [e, put_eq (Z N).toNat K (by omega) (by omega)]
    simp only [obind]
    rw [← e]
theorem put_no {k N : Int} {S : ByteArray} {R : Int} (a c : ByteArray) (K : Nat) (h : fitsV k N S R = false) : value_Put.f K a k c N S R = some ([], false) := by
  unfold value_Put.f
  rw [h]; rfl
end Go.Proofs.Ytepgcejgjfeolaa.TlVal
