/- For every number and every row of at most 300 bytes: the number's bytes, with the row behind them, are read as the number, and they are between one and ten; what is read at the row's front, if anything, is put as the same bytes, and nothing read is 0, 0. -/
import Derived.Test.YtflkjacmnoocfaaVariAwake
import Derived.Test.YtflkjacmnoocfaaPAllx10
namespace Go.Proofs.Ytflkjacmnoocfaa.Pure
open Go.RowKit Go.Proofs.Ytflkjacmnoocfaa.PAll Go.Proofs.YtflkjacmnoocfaaW.PrintWords Go.Proofs.YtflkjacmnoocfaaW.PrintLast Go.Proofs.YtflkjacmnoocfaaW.PrintMore Go.Proofs.Ytflkjacmnoocfaa.Vari
theorem VariBack : foliatelaw01_VariBack.Pure := by
  intro a0 l1 w0 _ _ hw
  obtain ⟨n, rfl, hn⟩ := u64_of w0
  have hb := bytes_of hw
  obtain ⟨K, hK⟩ : ∃ K : Nat, K = 1000 := ⟨_, rfl⟩
  refine ⟨K + 3, ?_⟩
  unfold foliatelaw01_VariBack.f
  rw [awake (K + 3) (by omega)]
  simp only [obind, if_true]
  by_cases c0 : (l1.length : Int) > 300
  · simp [foliatelaw01_VariBack.j0, c0]
  · have hp := pb_len n
    have hg := g_pb n l1 hn
    rw [foliatelaw01_VariBack.j0, if_neg (by simp; omega), put_eq n _ hn (by omega)]
    simp only [obind]
    rw [if_pos (by simp; omega)]
    simp only [List.nil_append]
    rw [if_pos (by omega), get_eq _ _ ((pb_bytes hn).append hb) (by simp; omega) (by simp; omega), hg]
    simp only [obind, if_true]
    rw [if_neg (by omega), foliatelaw01_VariBack.j1, if_neg (by simp; omega)]
    rw [get_eq l1 _ hb (by omega) (by omega)]
    rcases g_cases l1 0 0 with h0 | h0
    · rw [h0]; simp [obind]
    · obtain ⟨n2, rest, h1, h2, h3⟩ := g_read l1 hb h0
      have hp2 := pb_len n2
      have hle : ((pb n2).length : Int) ≤ l1.length := by rw [h2, List.length_append]; omega
      have ht : l1.take ((pb n2).length : Int).toNat = pb n2 := by rw [h2]; simp
      rw [h3]
      simp only [obind]
      rw [if_neg (by omega), if_pos (by omega), if_pos hle, put_eq n2 _ h1 (by omega)]
      simp only [obind]
      rw [if_pos (by omega), ht]
      simp
end Go.Proofs.Ytflkjacmnoocfaa.Pure
