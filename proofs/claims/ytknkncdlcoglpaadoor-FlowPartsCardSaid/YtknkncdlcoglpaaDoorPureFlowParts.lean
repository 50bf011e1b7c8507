/- For every flow that may be and every number: the frames of the flow's bytes are as many as its parts, and two, of the kinds 1, 2 and 3; and each part stands at the end of its frame's body, behind one byte, its own number. Of more than 40 parts, and parts of more than 300 bytes, nothing is asked. -/
import Derived.Test.YtknkncdlcoglpaaDoorFlowMore
import Derived.Test.YtknkncdlcoglpaaDoorPAllx15
namespace Go.Proofs.YtknkncdlcoglpaaDoor.Pure
open Go.RowKit Go.Proofs.YtknkncdlcoglpaaDoor.PAll Go.Proofs.YtknkncdlcoglpaaDoorW.PrintWords Go.Proofs.YtknkncdlcoglpaaDoorW.PrintLast Go.Proofs.YtknkncdlcoglpaaDoor.Vari Go.Proofs.YtknkncdlcoglpaaDoor.Flow
open Go.Proofs.YtknkncdlcoglpaaDoor.Frame (next_nat allf_eq)
theorem rdF {F : List Fr} {i : Nat} {x : Fr} (h : F[i]? = some x) : rd_T50 F (i : Int) = x := by
  unfold rd_T50
  rw [Int.toNat_natCast, List.getD_eq_getElem?_getD, h]
  rfl
theorem wrap_two (n : Nat) (h : n < 1000) : wrap64 ((n : Int) + 2) = ((n + 2 : Nat) : Int) := by unfold wrap64; omega
theorem wrap_pred (n : Nat) (h : n < 1000) : wrap64 (((n + 2 : Nat) : Int) - 1) = ((n + 1 : Nat) : Int) := by unfold wrap64; omega
theorem wrap_one (n : Nat) (_ : n < 1000) : wrap64 (((n + 1 : Nat) : Int) - (n : Int)) = 1 := by unfold wrap64; omega
theorem wrap_self (n : Nat) (h : n < 1000) : wrap64 (n : Int) = (n : Int) := by unfold wrap64; omega
theorem FlowParts (a : Int) (ps : List (List Int)) (wa : (Lit.int .u32 a).wf = true) (hp : ∀ y ∈ ps, ∀ z ∈ y, (Lit.int .u8 z).wf = true) (i : Int) : ∃ k, foliatelaw04_FlowParts.f k a ps i = some true := by
  obtain ⟨m, aw⟩ := awake
  obtain ⟨b, rfl, hb⟩ := u32_nat wa
  have hps := rows_of hp
  refine ⟨m + 20000 + 2, ?_⟩
  unfold foliatelaw04_FlowParts.f
  have triv : ∀ p, foliatelaw04_FlowParts.j0 (m + 20000 + 2) i true p true (b : Int) ps = some true := fun p => by rw [foliatelaw04_FlowParts.j0.eq_2, if_pos rfl]
  rw [aw _ (by omega), obind, few40 _ _ ps (by omega), obind]
  by_cases cm : mayB ps = true
  · rw [put_flow _ (by omega) b hb ps cm, obind]
    dsimp only
    rw [if_pos rfl]
    by_cases c : (decide (ps.length ≤ 40) && ps.all fun p => decide (p.length ≤ 300)) = true
    · have hB := flowB_bytes hb hps cm
      have hle := flowB_le hb cm
      obtain ⟨h40, hu⟩ := may_iff.1 cm
      have hn := framesF_length b ps
      have e2 := wrap_two ps.length (by omega)
      have e3 := wrap_pred ps.length (by omega)
      rw [if_pos c, foliatelaw04_FlowParts.j0.eq_2, if_neg (by decide), allf_eq _ _ hB (by omega) (by omega), obind, allL_flow hb hps cm]
      dsimp only
      rw [if_pos rfl, hn, e2, e3, if_pos rfl, if_pos (by omega), show (0 : Int) = ((0 : Nat) : Int) from rfl, rdF (frames_zero b ps), if_pos (by rfl), if_pos (by omega), if_pos (by omega), rdF (frames_end b ps), show ((tailR ps.length).f0 != 3) = false from rfl, foliatelaw04_FlowParts.j1.eq_2, if_neg (by decide)]
      by_cases c1 : i < 0
      · rw [if_pos c1]
      rw [if_neg c1]
      by_cases c2 : i ≥ (ps.length : Int)
      · rw [if_pos c2]
      obtain ⟨j, rfl⟩ := Int.eq_ofNat_of_zero_le (show 0 ≤ i by omega)
      have hj : j < ps.length := by omega
      have j0_ : (0 : Int) ≤ (j : Int) := by omega
      have j1_ : (j : Int) < (ps.length : Int) := by omega
      have j2_ : (0 : Int) ≤ ((j + 1 : Nat) : Int) := by omega
      have j3_ : ((j + 1 : Nat) : Int) < ((ps.length + 2 : Nat) : Int) := by omega
      have ew := next_nat j (by omega)
      have hpj := hu _ (List.getElem_mem hj)
      have e1 : pb j = [(j : Int)] := pb_one (by omega)
      have el : (pb j ++ ps[j]).length = ps[j].length + 1 := by rw [e1]; rfl
      have e5 := wrap_one ps[j].length (by omega)
      have e6 : rd (pb j ++ ps[j]) ((0 : Nat) : Int) = (j : Int) := by rw [e1]; rfl
      have e7 := wrap_self j (by omega)
      have e8 : (pb j ++ ps[j]).drop ((1 : Int).toNat) = ps[j] := by rw [e1]; rfl
      rw [if_neg c2, ew, if_pos j2_, if_pos (hn ▸ j3_), if_pos j0_, if_pos j1_, rdF (frames_at hj), rdL2_nat hj]
      dsimp only
      rw [if_pos rfl, el, e5, if_pos rfl, if_pos (by omega)]
      have e6' : rd (pb j ++ ps[j]) 0 = (j : Int) := e6
      simp only [e6', e7, e8]
      rw [if_pos trivial, if_pos (by decide), if_pos (by omega)]
      exact congrArg some (beq_self_eq_true _)
    · rw [if_neg c]
      exact triv _
  · have cm' : mayB ps = false := by simpa using cm
    rw [put_not _ _ ps cm', obind]
    dsimp only
    rw [if_pos rfl]
    by_cases c : (decide (ps.length ≤ 40) && ps.all fun p => decide (p.length ≤ 300)) = true
    · rw [if_pos c]
      exact triv _
    · rw [if_neg c]
      exact triv _
end Go.Proofs.YtknkncdlcoglpaaDoor.Pure
