import Derived.Test.YtepgcejgjfeolaaTlVari
import Derived.Test.YtepgcejgjfeolaaPTlx2
import Derived.Test.YtepgcejgjfeolaaPTlx5
namespace Go.Proofs.Ytepgcejgjfeolaa.TlVari
open Go.RowKit Go.Proofs.Ytepgcejgjfeolaa.PTl Go.Proofs.YtepgcejgjfeolaaW.PrintWords Go.Proofs.YtepgcejgjfeolaaW.PrintLast Go.Proofs.YtepgcejgjfeolaaW.PrintMore
/-! Any number as one that is not below 0, and back. -/
theorem wrap_i64' (n : Int) : IntKind.i64.wrap n = wrap64 n := by rw [IntKind.wrap_i64]; unfold wrap64; rfl
theorem xor_none (a : Nat) (h : a < 2 ^ 64) : Go.bits .xor .u64 (a : Int) 0 = (a : Int) := by
  have e0 : BitVec.ofInt 64 0 = 0#64 := by decide
  have e : (BitVec.ofInt 64 (a : Int)).toNat = a := by rw [BitVec.ofInt_natCast, BitVec.toNat_ofNat]; exact Nat.mod_eq_of_lt h
  show IntKind.u64.wrap (((BitVec.ofInt 64 (a : Int) ^^^ BitVec.ofInt 64 0).toNat : Nat) : Int) = a
  rw [e0, BitVec.xor_zero, e, wrap_u64]; omega
theorem xor_all (a : Nat) (h : a < 2 ^ 64) : Go.bits .xor .u64 (a : Int) 18446744073709551615 = ((18446744073709551615 - a : Nat) : Int) := by
  have e0 : BitVec.ofInt 64 18446744073709551615 = BitVec.allOnes 64 := by decide
  have e : (BitVec.ofInt 64 (a : Int)).toNat = a := by rw [BitVec.ofInt_natCast, BitVec.toNat_ofNat]; exact Nat.mod_eq_of_lt h
  show IntKind.u64.wrap (((BitVec.ofInt 64 (a : Int) ^^^ BitVec.ofInt 64 18446744073709551615).toNat : Nat) : Int) = _
  rw [e0, BitVec.xor_allOnes, BitVec.toNat_not, e, wrap_u64]; omega
theorem xor_none_i (a : Nat) (h : a < 2 ^ 63) : Go.bits .xor .i64 (a : Int) 0 = (a : Int) := by
  have e0 : BitVec.ofInt 64 0 = 0#64 := by decide
  have e : (BitVec.ofInt 64 (a : Int)).toNat = a := by rw [BitVec.ofInt_natCast, BitVec.toNat_ofNat]; exact Nat.mod_eq_of_lt (by omega)
  show IntKind.i64.wrap (((BitVec.ofInt 64 (a : Int) ^^^ BitVec.ofInt 64 0).toNat : Nat) : Int) = a
  rw [e0, BitVec.xor_zero, e, IntKind.wrap_i64]; omega
theorem xor_all_i (a : Nat) (h : a < 2 ^ 63) : Go.bits .xor .i64 (a : Int) (-1) = -(a : Int) - 1 := by
  have e0 : BitVec.ofInt 64 (-1) = BitVec.allOnes 64 := by decide
  have e : (BitVec.ofInt 64 (a : Int)).toNat = a := by rw [BitVec.ofInt_natCast, BitVec.toNat_ofNat]; exact Nat.mod_eq_of_lt (by omega)
  show IntKind.i64.wrap (((BitVec.ofInt 64 (a : Int) ^^^ BitVec.ofInt 64 (-1)).toNat : Nat) : Int) = _
  rw [e0, BitVec.xor_allOnes, BitVec.toNat_not, e, IntKind.wrap_i64]; omega
def Z (n : Int) : Int := if 0 ≤ n then 2 * n else -2 * n - 1
theorem zig_eq (n : Int) (h0 : -9223372036854775808 ≤ n) (h1 : n ≤ 9223372036854775807) : vari_Zig.f n = some (Z n) := by
  unfold vari_Zig.f Z
  rw [wrap_u64 n, wrap_u64 (_ * 2), wrap_u64 (n / _)]
  by_cases h : 0 ≤ n
  · have e1 : n % 18446744073709551616 * 2 % 18446744073709551616 = ((2 * n.toNat : Nat) : Int) := by omega
    have e2 : n / 9223372036854775808 % 18446744073709551616 = 0 := by omega
    rw [e1, e2, xor_none _ (by omega), if_pos h]
    congr 1; omega
  · have e1 : n % 18446744073709551616 * 2 % 18446744073709551616 = ((18446744073709551616 - 2 * (-n).toNat : Nat) : Int) := by omega
    have e2 : n / 9223372036854775808 % 18446744073709551616 = 18446744073709551615 := by omega
    rw [e1, e2, xor_all _ (by omega), if_neg h]
    congr 1; omega
def Zb (n : Int) : Int := if n % 2 = 0 then n / 2 else -(n / 2) - 1
theorem zag_eq (n : Int) (h0 : 0 ≤ n) (h1 : n < 18446744073709551616) : vari_Zag.f n = some (Zb n) := by
  unfold vari_Zag.f Zb
  have ea : Go.bits .and .u64 n 1 = n % 2 := bits_mask .u64 64 (by decide) wraps_u64 1 (by decide) n h0 h1
  have e1 : wrap64 (n / 2) = ((n / 2).toNat : Int) := by unfold wrap64; omega
  rw [ea, e1]
  by_cases h : n % 2 = 0
  · have e2 : wrap64 (-(wrap64 (n % 2))) = 0 := by rw [h]; unfold wrap64; omega
    rw [e2, xor_none_i _ (by omega), if_pos h]
    congr 1; omega
  · have h' : n % 2 = 1 := by omega
    have e2 : wrap64 (-(wrap64 (n % 2))) = -1 := by rw [h']; unfold wrap64; omega
    rw [e2, xor_all_i _ (by omega), if_neg h]
    congr 1; omega
theorem Z_range (n : Int) (h0 : -9223372036854775808 ≤ n) (h1 : n ≤ 9223372036854775807) : 0 ≤ Z n ∧ Z n < 18446744073709551616 := by unfold Z; split <;> omega
theorem Zb_range (n : Int) (h0 : 0 ≤ n) (h1 : n < 18446744073709551616) : -9223372036854775808 ≤ Zb n ∧ Zb n ≤ 9223372036854775807 := by unfold Zb; split <;> omega
theorem Zb_Z (n : Int) : Zb (Z n) = n := by unfold Z Zb; split <;> split <;> omega
theorem Z_Zb (n : Int) (h0 : 0 ≤ n) : Z (Zb n) = n := by unfold Z Zb; split <;> split <;> omega
end Go.Proofs.Ytepgcejgjfeolaa.TlVari
