/- For every number and every row of at most 300 bytes: each function of the layer answers as the document says. -/
import Derived.Test.YtflkjacmnoocfaaTlVariAwake
import Derived.Test.YtflkjacmnoocfaaTlVariRef
import Derived.Test.YtflkjacmnoocfaaPTlx10
namespace Go.Proofs.Ytflkjacmnoocfaa.Pure
open Go.RowKit Go.Proofs.Ytflkjacmnoocfaa.PTl Go.Proofs.YtflkjacmnoocfaaW.PrintWords Go.Proofs.YtflkjacmnoocfaaW.PrintLast Go.Proofs.YtflkjacmnoocfaaW.PrintMore Go.Proofs.Ytflkjacmnoocfaa.TlVari
theorem A_len (N : Nat) (l : List Int) : (A N l).1.length ≤ N := by
  unfold A
  split
  · have := E_len N l
    simp only [List.length_map]
    omega
  · simp
theorem VariTells : foliatelaw01_VariTells.Pure := by
  intro a0 a1 l2 w0 w1 _ _ hw
  obtain ⟨n, rfl, hn⟩ := u64_of w0
  obtain ⟨h0, h1⟩ := i64_of w1
  have hb := bytes_of hw
  obtain ⟨K, hK⟩ : ∃ K : Nat, K = 3000 := ⟨_, rfl⟩
  refine ⟨K + 1, ?_⟩
  unfold foliatelaw01_VariTells.f
  rw [awake (K + 1) (by omega)]
  simp only [obind, if_true]
  by_cases c0 : (l2.length : Int) > 300
  · simp [foliatelaw01_VariTells.j0, c0]
  · have hA := A_len 300 l2
    rw [decide_eq_false c0, foliatelaw01_VariTells.j0, if_neg (by simp), get_eq l2 K hb (by omega) (by omega), rget_eq l2 K hb (by omega) (by omega), all_eq 300 l2 K (by omega) hb (by omega) (by omega), rall_eq l2 K hb (by omega) (by omega)]
    simp only [obind]
    rw [rsame_eq (A 300 l2).1 K (by omega) (by omega), put_eq n K hn (by omega), rput_eq n K hn (by omega), zig_eq a1 h0 h1, rzig_eq a1 h0 h1, zag_eq (n : Int) (by omega) (by omega), rzag_eq (n : Int) (by omega) (by omega)]
    simp only [obind]
    simp
end Go.Proofs.Ytflkjacmnoocfaa.Pure
