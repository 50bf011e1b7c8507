/- For every flow and every row of bytes: if the flow may be, its bytes are read as it; if not, it has none; and what bytes are read as, has them. Of more than 40 parts, parts of more than 300 bytes, and more than 2000 bytes, nothing is asked. -/
import Derived.Test.YtknkncdlcoglpaaDoorFlowAwake
import Derived.Test.YtknkncdlcoglpaaDoorPAllx13
namespace Go.Proofs.YtknkncdlcoglpaaDoor.Pure
open Go.RowKit Go.Proofs.YtknkncdlcoglpaaDoor.PAll Go.Proofs.YtknkncdlcoglpaaDoorW.PrintWords Go.Proofs.YtknkncdlcoglpaaDoorW.PrintLast Go.Proofs.YtknkncdlcoglpaaDoor.Vari Go.Proofs.YtknkncdlcoglpaaDoor.Flow
theorem back_two (k : Nat) (hk : 12000 ≤ k) (l : List Int) (hb : Bytes l) (hl : l.length ≤ 2000) : foliatelaw04_FlowBack.j1 (k + 1) l false = some true := by
  rw [foliatelaw04_FlowBack.j1.eq_2, if_neg (by decide), getQ_eq k l hb (by omega) (by omega), obind]
  by_cases c : (getQ l).2.2 = 0
  · obtain ⟨b, ps, h1, h2, h3, h4, h5⟩ := getQ_inv hb c
    rw [if_pos c, h5]
    dsimp only
    rw [put_flow k (by omega) b h1 ps h3, obind]
    dsimp only
    rw [if_pos rfl, h4]
    exact congrArg some (beq_self_eq_true _)
  · rw [if_neg c, getQ_err c]
    rfl
theorem FlowBack (a : Int) (ps : List (List Int)) (wa : (Lit.int .u32 a).wf = true) (hp : ∀ y ∈ ps, ∀ z ∈ y, (Lit.int .u8 z).wf = true) (l : List Int) (hl : ∀ y ∈ l, (Lit.int .u8 y).wf = true) : ∃ k, foliatelaw04_FlowBack.f k a ps l = some true := by
  obtain ⟨m, aw⟩ := awake
  obtain ⟨b, rfl, hb⟩ := u32_nat wa
  have hps := rows_of hp
  have hbl := bytes_of hl
  refine ⟨m + 20000 + 2, ?_⟩
  unfold foliatelaw04_FlowBack.f
  have hj : ∀ x : Bool, (x = true ∨ (l.length ≤ 2000 ∧ ps.length ≤ 40 ∧ upto 300 ps)) → foliatelaw04_FlowBack.j0 (m + 20000 + 2) l true x (b : Int) ps = some true := by
    intro x hx
    rw [foliatelaw04_FlowBack.j0.eq_2]
    by_cases c : x = true
    · rw [if_pos c]
    · obtain ⟨h1, h2, h3⟩ := hx.resolve_left c
      rw [if_neg c]
      by_cases cm : mayB ps = true
      · have hB := flowB_bytes hb hps cm
        have hle := flowB_le hb cm
        rw [put_flow _ (by omega) b hb ps cm, obind]
        dsimp only
        rw [getQ_eq _ _ hB (by omega) (by omega), obind, may_eq, obind, get_put hb hps cm, cm]
        dsimp only
        rw [if_neg (by decide), if_pos rfl, if_pos rfl, same_eq _ _ _ _ _ (by omega) (fun p hp => by have := h3 p hp; exact ⟨by omega, by omega⟩), obind, decide_eq_true ⟨rfl, rfl⟩]
        exact back_two (m + 20000) (by omega) l hbl h1
      · have cm' : mayB ps = false := by simpa using cm
        rw [put_not _ _ ps cm', obind]
        dsimp only
        rw [getQ_eq _ [] (fun x hx => by cases hx) (by decide) (by show 0 + 1010 ≤ _; omega), obind, may_eq, obind, cm', if_neg (by decide), if_neg (by decide)]
        exact back_two (m + 20000) (by omega) l hbl h1
  rw [aw _ (by omega), obind, few40 _ _ ps (by omega), obind, if_pos rfl]
  by_cases c : (decide (ps.length ≤ 40) && ps.all fun p => decide (p.length ≤ 300)) = true
  · rw [if_pos c]
    obtain ⟨h2, h3⟩ := few_true c
    by_cases c2 : l.length ≤ 2000
    · exact hj _ (.inr ⟨c2, h2, h3⟩)
    · exact hj _ (.inl (decide_eq_true (by omega)))
  · rw [if_neg c]
    exact hj _ (.inl rfl)
end Go.Proofs.YtknkncdlcoglpaaDoor.Pure
