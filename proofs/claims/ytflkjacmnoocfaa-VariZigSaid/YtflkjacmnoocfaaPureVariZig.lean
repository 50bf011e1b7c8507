/- For every number of 64 bits, with or without a sign: what is made of it is not below 0 and comes back, the other way round too; it is odd just if the number is below 0, and twice the number else. -/
import Derived.Test.YtflkjacmnoocfaaVariZig
import Derived.Test.YtflkjacmnoocfaaVariAwake
import Derived.Test.YtflkjacmnoocfaaPAllx12
namespace Go.Proofs.Ytflkjacmnoocfaa.Pure
open Go.RowKit Go.Proofs.Ytflkjacmnoocfaa.PAll Go.Proofs.YtflkjacmnoocfaaW.PrintWords Go.Proofs.YtflkjacmnoocfaaW.PrintLast Go.Proofs.YtflkjacmnoocfaaW.PrintMore Go.Proofs.Ytflkjacmnoocfaa.Vari
theorem VariZig : foliatelaw01_VariZig.Pure := by
  intro a0 a1 w0 w1
  obtain ⟨h0, h1⟩ := i64_of w0
  obtain ⟨n, rfl, hn⟩ := u64_of w1
  have hz := Z_range a0 h0 h1
  have hb := Zb_range (n : Int) (by omega) (by omega)
  refine ⟨20, ?_⟩
  unfold foliatelaw01_VariZig.f
  rw [awake 20 (by omega), zig_eq a0 h0 h1]
  simp only [obind, if_true]
  rw [zag_eq _ hz.1 hz.2, zag_eq _ (by omega) (by omega)]
  simp only [obind]
  rw [if_pos (Zb_Z a0), zig_eq _ hb.1 hb.2]
  simp only [obind]
  rw [if_pos (Z_Zb n (by omega)), Int.tmod_eq_emod_of_nonneg hz.1, Int.tdiv_eq_ediv_of_nonneg hz.1]
  by_cases h : a0 < 0
  · have e : Z a0 % 2 = 1 := by unfold Z; rw [if_neg (by omega)]; omega
    rw [if_pos (by simp [e, h]), if_pos h]
  · have e : ¬ Z a0 % 2 = 1 := by unfold Z; rw [if_pos (by omega)]; omega
    have e2 : Z a0 / 2 = a0 := by unfold Z; rw [if_pos (by omega)]; omega
    rw [if_pos (by simp [e, h]), if_neg h, e2]
    simp
end Go.Proofs.Ytflkjacmnoocfaa.Pure
