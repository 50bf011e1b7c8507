/- For every two flows and every row of bytes: whether the first flow may be, its bytes, what the row is read as, where it is cut, and whether the two flows are the same, are what the document's own reckoning gives. Of more than 60 parts, parts of more than 300 bytes, and more than 2000 bytes, nothing is asked. -/
import Derived.Test.YtknkncdlcoglpaaDoorFlowRef
import Derived.Test.YtknkncdlcoglpaaDoorPAllx12
namespace Go.Proofs.YtknkncdlcoglpaaDoor.Pure
open Go.RowKit Go.Proofs.YtknkncdlcoglpaaDoor.PAll Go.Proofs.YtknkncdlcoglpaaDoorW.PrintWords Go.Proofs.YtknkncdlcoglpaaDoorW.PrintLast Go.Proofs.YtknkncdlcoglpaaDoor.Vari Go.Proofs.YtknkncdlcoglpaaDoor.Flow
open Go.Proofs.YtknkncdlcoglpaaDoor.Frame (allL)
theorem getQ_bytes {l : List Int} (hb : Bytes l) : BytesP (getQ l).2.1 ∧ (getQ l).2.1.length ≤ 40 := by
  by_cases c : (getQ l).2.2 = 0
  · obtain ⟨b, ps, g1, g2, g3, g4, g5⟩ := getQ_inv hb c
    rw [g5]
    exact ⟨g2, (may_iff.1 g3).1⟩
  · rw [getQ_err c]
    exact ⟨(fun x hx => by cases hx), Nat.zero_le _⟩
theorem FlowTells (a : Int) (ps : List (List Int)) (wa : (Lit.int .u32 a).wf = true) (hp : ∀ y ∈ ps, ∀ z ∈ y, (Lit.int .u8 z).wf = true) (a' : Int) (ps' : List (List Int)) (wa' : (Lit.int .u32 a').wf = true) (hp' : ∀ y ∈ ps', ∀ z ∈ y, (Lit.int .u8 z).wf = true) (l : List Int) (hl : ∀ y ∈ l, (Lit.int .u8 y).wf = true) : ∃ k, foliatelaw04_FlowTells.f k a ps a' ps' l = some true := by
  obtain ⟨m, aw⟩ := awake
  obtain ⟨b, rfl, hb⟩ := u32_nat wa
  obtain ⟨b', rfl, hb'⟩ := u32_nat wa'
  have hps := rows_of hp
  have hps' := rows_of hp'
  have hbl := bytes_of hl
  refine ⟨m + 200000 + 1, ?_⟩
  unfold foliatelaw04_FlowTells.f
  have triv : foliatelaw04_FlowTells.j0 (m + 200000 + 1) l true true (b : Int) ps (b' : Int) ps' = some true := by rw [foliatelaw04_FlowTells.j0.eq_2, if_pos rfl]
  rw [aw _ (by omega), obind, few60 _ _ ps (by omega), obind, few60 _ _ ps' (by omega), obind, if_pos rfl]
  by_cases c1 : (decide (ps.length ≤ 60) && ps.all fun p => decide (p.length ≤ 300)) = true
  · rw [if_pos c1]
    by_cases c2 : (decide (ps'.length ≤ 60) && ps'.all fun p => decide (p.length ≤ 300)) = true
    · rw [if_pos c2]
      by_cases c3 : (l.length : Int) > 2000
      · rw [decide_eq_true c3]
        exact triv
      obtain ⟨h1, h2⟩ := few_true c1
      obtain ⟨h1', h2'⟩ := few_true c2
      have hg := getQ_bytes hbl
      obtain ⟨p, hp1, hp2⟩ : ∃ p, flow_Put.f (m + 200000) (b : Int) ps = some p ∧ foliateref04_Put.f (m + 200000) (b : Int) ps = some p := by
        by_cases cm : mayB ps = true
        · exact ⟨_, put_flow _ (by omega) b hb ps cm, rput_flow _ (by omega) b hb ps hps cm⟩
        · have cf : mayB ps = false := by simpa using cm
          exact ⟨_, put_not _ _ ps cf, rput_not _ _ ps (by omega) (by omega) cf⟩
      have hcl : (if (getQ l).2.2 = 0 then (cutsL (allL l).1, true) else ([], false)).1.length < 10000 := by
        by_cases c : (getQ l).2.2 = 0
        · rw [if_pos c, cutsL_length]
          obtain ⟨b2, ps2, g1, g2, g3, g4, g5⟩ := getQ_inv hbl c
          have ea : (allL l).1 = framesF b2 ps2 := by rw [g4, allL_flow g1 g2 g3]
          rw [ea, framesF_length]
          have := (may_iff.1 g3).1
          omega
        · rw [if_neg c]
          decide
      rw [decide_eq_false c3, foliatelaw04_FlowTells.j0.eq_2, if_neg (by decide), hp1, obind, hp2, obind, getQ_eq _ l hbl (by omega) (by omega), obind, rget_flow _ l hbl (by omega) (by omega), obind, cuts_eq _ l hbl (by omega) (by omega), obind, rcuts_eq _ l hbl (by omega) (by omega), obind, rsame_flow _ _ _ _ _ (by omega) (by omega) hg.1 hg.1, obind, rints_eq _ _ (by omega) (by omega), obind, rmay_eq _ _ ps (by omega) (by omega), obind, rsame_flow _ _ _ _ _ (by omega) (by omega) hps hps', obind, if_pos rfl, if_pos rfl, decide_eq_true ⟨rfl, rfl⟩, if_pos rfl, if_pos rfl, if_pos rfl, beq_self_eq_true, if_pos rfl, may_eq, obind, beq_self_eq_true, if_pos rfl, same_eq _ _ _ _ _ (by omega) (fun p hp => by have := h2 p hp; exact ⟨by omega, by omega⟩), obind]
      exact congrArg some (beq_self_eq_true _)
    · rw [if_neg c2]
      exact triv
  · rw [if_neg c1]
    exact triv
end Go.Proofs.YtknkncdlcoglpaaDoor.Pure
