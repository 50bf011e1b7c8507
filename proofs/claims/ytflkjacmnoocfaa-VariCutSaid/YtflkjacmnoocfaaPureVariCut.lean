/- For every two numbers and every length: a number that is not greater has no more bytes; a beginning of a number's bytes that is not all of them is read as 0, 0. -/
import Derived.Test.YtflkjacmnoocfaaVariAwake
import Derived.Test.YtflkjacmnoocfaaPAllx11
namespace Go.Proofs.Ytflkjacmnoocfaa.Pure
open Go.RowKit Go.Proofs.Ytflkjacmnoocfaa.PAll Go.Proofs.YtflkjacmnoocfaaW.PrintWords Go.Proofs.YtflkjacmnoocfaaW.PrintLast Go.Proofs.YtflkjacmnoocfaaW.PrintMore Go.Proofs.Ytflkjacmnoocfaa.Vari
theorem VariCut : foliatelaw01_VariCut.Pure := by
  intro a0 a1 a2 w0 w1 w2
  obtain ⟨n, rfl, hn⟩ := u64_of w0
  obtain ⟨m, rfl, hm⟩ := u64_of w1
  obtain ⟨K, hK⟩ : ∃ K : Nat, K = 1000 := ⟨_, rfl⟩
  refine ⟨K + 3, ?_⟩
  have hp := pb_len n
  have tail : foliatelaw01_VariCut.j0 (K + 3) a2 (pb n) false = some true := by
    rw [foliatelaw01_VariCut.j0, if_neg (by simp)]
    by_cases c1 : a2 < 0
    · rw [if_pos c1]
    rw [if_neg c1]
    by_cases c2 : a2 ≥ ((pb n).length : Int)
    · rw [if_pos c2]
    rw [if_neg c2, if_pos (by omega), if_pos (by omega), get_eq _ _ ((pb_bytes hn).take _) (by rw [List.length_take]; omega) (by rw [List.length_take]; omega), g_cut n _ hn (by omega)]
    simp [obind]
  unfold foliatelaw01_VariCut.f
  rw [awake (K + 3) (by omega), put_eq n _ hn (by omega), put_eq m _ hm (by omega)]
  simp only [obind, if_true]
  by_cases c : (m : Int) ≤ (n : Int)
  · have := pb_mono (show m ≤ n by omega)
    rw [if_pos c, decide_eq_false (by omega), tail]
  · rw [if_neg c, tail]
end Go.Proofs.Ytflkjacmnoocfaa.Pure
