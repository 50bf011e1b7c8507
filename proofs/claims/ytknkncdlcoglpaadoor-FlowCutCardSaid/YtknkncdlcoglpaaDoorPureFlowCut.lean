/- For every flow that may be, every number and every row of bytes: the flow's bytes with the row behind are read as a flow just if the row is empty, and no beginning of them, but all, is read as one. Of more than 40 parts, parts of more than 300 bytes, and more than 300 bytes behind, nothing is asked. -/
import Derived.Test.YtknkncdlcoglpaaDoorFlowMore
import Derived.Test.YtknkncdlcoglpaaDoorPAllx13
namespace Go.Proofs.YtknkncdlcoglpaaDoor.Pure
open Go.RowKit Go.Proofs.YtknkncdlcoglpaaDoor.PAll Go.Proofs.YtknkncdlcoglpaaDoorW.PrintWords Go.Proofs.YtknkncdlcoglpaaDoorW.PrintLast Go.Proofs.YtknkncdlcoglpaaDoor.Vari Go.Proofs.YtknkncdlcoglpaaDoor.Flow
theorem FlowCut (a : Int) (ps : List (List Int)) (wa : (Lit.int .u32 a).wf = true) (hp : ∀ y ∈ ps, ∀ z ∈ y, (Lit.int .u8 z).wf = true) (n : Int) (l : List Int) (hl : ∀ y ∈ l, (Lit.int .u8 y).wf = true) : ∃ k, foliatelaw04_FlowCut.f k a ps n l = some true := by
  obtain ⟨m, aw⟩ := awake
  obtain ⟨b, rfl, hb⟩ := u32_nat wa
  have hps := rows_of hp
  have hbl := bytes_of hl
  refine ⟨m + 20000 + 1, ?_⟩
  unfold foliatelaw04_FlowCut.f
  have triv : ∀ p, foliatelaw04_FlowCut.j0 (m + 20000 + 1) n l true p true = some true := fun p => by rw [foliatelaw04_FlowCut.j0.eq_2, if_pos rfl]
  rw [aw _ (by omega), obind, few40 _ _ ps (by omega), obind]
  by_cases cm : mayB ps = true
  · have hB := flowB_bytes hb hps cm
    have hle := flowB_le hb cm
    rw [put_flow _ (by omega) b hb ps cm, obind]
    dsimp only
    rw [if_pos rfl]
    by_cases c : (decide (ps.length ≤ 40) && ps.all fun p => decide (p.length ≤ 300)) = true
    · rw [if_pos c, if_pos rfl]
      by_cases c2 : (l.length : Int) > 300
      · rw [decide_eq_true c2]
        exact triv _
      · have c3 : l.length ≤ 300 := by omega
        have e0 : ((getQ (flowB b ps ++ l)).2.2 == 0) = ((l.length : Int) == 0) := by
          have h := get_longer hb hps cm hbl
          by_cases h0 : l = []
          · subst h0
            rw [List.append_nil, get_put hb hps cm]
            rfl
          · have h1 : (getQ (flowB b ps ++ l)).2.2 ≠ 0 := fun hh => h0 (h.1 hh)
            have h2 : (l.length : Int) ≠ 0 := fun hh => h0 (List.eq_nil_of_length_eq_zero (by omega))
            rw [beq_eq_false_iff_ne.2 h1, beq_eq_false_iff_ne.2 h2]
        rw [decide_eq_false c2, foliatelaw04_FlowCut.j0.eq_2, if_neg (by decide), if_pos (by rw [List.length_nil]; omega), obind, List.nil_append, if_pos (by omega), getQ_eq _ _ (hB.append hbl) (by rw [List.length_append]; omega) (by rw [List.length_append]; omega), obind, e0, bne_self_eq_false, if_neg (by decide), beq_self_eq_true]
        by_cases c4 : n < 0
        · rw [if_pos c4]
        by_cases c5 : n ≥ ((flowB b ps).length : Int)
        · rw [if_neg c4, if_pos c5]
        rw [if_neg c4, if_neg c5, if_pos (by omega), if_pos (by omega), getQ_eq _ _ (hB.take _) (by rw [List.length_take]; omega) (by rw [List.length_take]; omega), obind]
        exact congrArg some (bne_iff_ne.2 (get_shorter hb hps cm (by omega)))
    · rw [if_neg c]
      exact triv _
  · have cm' : mayB ps = false := by simpa using cm
    rw [put_not _ _ ps cm', obind]
    dsimp only
    rw [if_pos rfl]
    by_cases c : (decide (ps.length ≤ 40) && ps.all fun p => decide (p.length ≤ 300)) = true
    · rw [if_pos c, if_neg (by decide)]
      exact triv _
    · rw [if_neg c]
      exact triv _
end Go.Proofs.YtknkncdlcoglpaaDoor.Pure
