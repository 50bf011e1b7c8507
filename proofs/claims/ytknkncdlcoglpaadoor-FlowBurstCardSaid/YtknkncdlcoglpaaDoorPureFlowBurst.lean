/- For every flow that may be, every frame of its bytes, every mask of 32 bits that is not 0 and every place from which 32 bits lie in that frame: with the mask laid over these bytes from that place on, bit by bit, no flow is read. Of more than 40 parts, and parts of more than 300 bytes, nothing is asked. -/
import Derived.Test.YtknkncdlcoglpaaDoorFlowFlip
import Derived.Test.YtknkncdlcoglpaaDoorPAllx14
namespace Go.Proofs.YtknkncdlcoglpaaDoor.Pure
open Go.RowKit Go.Proofs.YtknkncdlcoglpaaDoor.PAll Go.Proofs.YtknkncdlcoglpaaDoorW.PrintWords Go.Proofs.YtknkncdlcoglpaaDoorW.PrintLast Go.Proofs.YtknkncdlcoglpaaDoor.Vari Go.Proofs.YtknkncdlcoglpaaDoor.Flow
open Go.Proofs.YtknkncdlcoglpaaDoor.Frame (frameB frameB_length allL allL_cons getP)
theorem allL_bad {x r : List Int} (hx : Bytes x) (h0 : x ≠ []) (hr : Bytes r) (h : getP (x ++ r) = (0, [], 0, 3)) : (allL (x ++ r)).2 = 3 := by
  have hne : x ++ r ≠ [] := fun hh => h0 (List.append_eq_nil_iff.1 hh).1
  rw [allL_cons (hx.append hr) hne, h]
  rfl
theorem getQ_bad {l : List Int} (h : (allL l).2 ≠ 0) : (getQ l).2.2 ≠ 0 := by
  unfold getQ
  rw [if_neg h]
  exact h
theorem wrap_sub1 (n : Nat) (h : n < 1000000) (h1 : 1 ≤ n) : wrap64 ((n : Int) - 1) = ((n - 1 : Nat) : Int) := by unfold wrap64; omega
theorem wrap_end (p q n : Nat) (h : q = p + n + 10) (hq : q < 100000) : wrap64 ((wrap64 (8 * (wrap64 ((q : Int) - (p : Int))))) - 32) = 8 * ((n : Int) + 10) - 32 := by
  have e1 : wrap64 ((q : Int) - (p : Int)) = (n : Int) + 10 := by unfold wrap64; omega
  rw [e1]
  unfold wrap64
  omega
theorem wrap_at (p t : Nat) (h : p < 100000) (ht : t < 100000) : wrap64 ((wrap64 (8 * (p : Int))) + (t : Int)) = ((8 * p + t : Nat) : Int) := by
  have e1 : wrap64 (8 * (p : Int)) = ((8 * p : Nat) : Int) := by unfold wrap64; omega
  rw [e1]
  unfold wrap64
  omega
theorem FlowBurst (a : Int) (ps : List (List Int)) (wa : (Lit.int .u32 a).wf = true) (hp : ∀ y ∈ ps, ∀ z ∈ y, (Lit.int .u8 z).wf = true) (i : Int) (mask : Int) (wm : (Lit.int .u32 mask).wf = true) (t : Int) : ∃ k, foliatelaw04_FlowBurst.f k a ps i mask t = some true := by
  obtain ⟨m, aw⟩ := awake
  obtain ⟨b, rfl, hb⟩ := u32_nat wa
  obtain ⟨p0, p1⟩ := Go.Proofs.YtknkncdlcoglpaaDoor.Crc.u32_of wm
  have hps := rows_of hp
  refine ⟨m + 20000 + 2, ?_⟩
  unfold foliatelaw04_FlowBurst.f
  have triv : ∀ p, foliatelaw04_FlowBurst.j0 (m + 20000 + 2) i mask t true p true = some true := fun p => by rw [foliatelaw04_FlowBurst.j0.eq_2, if_pos rfl]
  have triv1 : ∀ p q, foliatelaw04_FlowBurst.j1 (m + 20000 + 1) i mask t p q true true = some true := fun p q => by rw [foliatelaw04_FlowBurst.j1.eq_2, if_pos rfl]
  rw [aw _ (by omega), obind, few40 _ _ ps (by omega), obind]
  by_cases cm : mayB ps = true
  · rw [put_flow _ (by omega) b hb ps cm, obind]
    dsimp only
    rw [if_pos rfl]
    by_cases c : (decide (ps.length ≤ 40) && ps.all fun p => decide (p.length ≤ 300)) = true
    · rw [if_pos c, if_pos rfl]
      by_cases c2 : mask = 0
      · rw [c2, ← c2]
        have e : (mask == mask) = true := beq_self_eq_true _
        rw [c2] at e ⊢
        rw [e, ← c2]
        exact triv _
      · rw [beq_eq_false_iff_ne.2 c2, foliatelaw04_FlowBurst.j0.eq_2, if_neg (by decide), cuts_flow _ hb hps cm (by omega), obind]
        dsimp only
        rw [if_pos rfl]
        have hB := flowB_bytes hb hps cm
        have hle := flowB_le hb cm
        have hn := framesF_length b ps
        have h40 := (may_iff.1 cm).1
        have hcl := cutsL_length (framesF b ps)
        have hok := framesF_ok hb hps cm
        by_cases c3 : i < 0
        · rw [if_pos c3]
          exact triv1 _ _
        have ew : wrap64 (((cutsL (framesF b ps)).length : Int) - 1) = ((framesF b ps).length : Int) := by rw [hcl, wrap_sub1 _ (by omega) (by omega), Nat.add_sub_cancel]
        rw [if_neg c3, ew]
        by_cases c4 : i ≥ ((framesF b ps).length : Int)
        · rw [if_pos c4]
          exact triv1 _ _
        obtain ⟨j, rfl⟩ := Int.eq_ofNat_of_zero_le (show 0 ≤ i by omega)
        have hj : j < (framesF b ps).length := by omega
        have ejn : wrap64 ((j : Int) + 1) = ((j + 1 : Nat) : Int) := Go.Proofs.YtknkncdlcoglpaaDoor.Frame.next_nat j (by omega)
        have hc1 := cut_le (framesF b ps) j
        have hc2 := cut_le (framesF b ps) (j + 1)
        have hst := cut_step (framesF b ps) j hj
        have hfb : bytesF (framesF b ps) = flowB b ps := rfl
        rw [hfb] at hc1 hc2
        rw [if_neg c4, if_pos (by omega), if_pos (by omega), ejn, cutsL_rd _ j (by omega), cutsL_rd _ (j + 1) (by omega), if_neg (by omega), if_pos (by omega), if_pos (by omega), if_neg (by omega), wrap_end _ _ _ hst (by omega)]
        by_cases c5 : t < 0
        · rw [if_pos c5]
          exact triv1 _ _
        obtain ⟨q, rfl⟩ := Int.eq_ofNat_of_zero_le (show 0 ≤ t by omega)
        rw [if_neg c5]
        by_cases c6 : (q : Int) > 8 * (((framesF b ps)[j].f1.length : Int) + 10) - 32
        · rw [decide_eq_true c6]
          exact triv1 _ _
        have hf := hok _ (List.getElem_mem hj)
        have hfl := frameB_length (framesF b ps)[j].f0 (framesF b ps)[j].f1
        have e3 : flowB b ps = bytesF ((framesF b ps).take j) ++ frameB (framesF b ps)[j].f0 (framesF b ps)[j].f1 ++ bytesF ((framesF b ps).drop (j + 1)) := by
          rw [List.append_assoc, ← bytesF_cons, ← List.drop_eq_getElem_cons hj, ← bytesF_append, List.take_append_drop]
          rfl
        rw [decide_eq_false c6, foliatelaw04_FlowBurst.j1.eq_2, if_neg (by decide), if_pos (by omega), if_pos (by omega), cutsL_rd _ j (by omega), wrap_at _ _ (by omega) (by have := hf.1.2; omega)]
        obtain ⟨x', g1, g2, g3, g4⟩ := Go.Proofs.YtknkncdlcoglpaaDoor.Flip.burst_mid (A := bytesF ((framesF b ps).take j)) (r := bytesF ((framesF b ps).drop (j + 1))) hf.1.1.1 hf.1.1.2 hf.1.2 hf.2 mask p0 p1 c2 q (by omega) (by rw [← e3]; omega) (m + 20000) (by omega)
        have hbr : Bytes (bytesF ((framesF b ps).drop (j + 1))) := bytesF_bytes fun x hx => hok x (List.mem_of_mem_drop hx)
        have hba : ∀ x ∈ (framesF b ps).take j, okR x ∧ Bytes x.f1 := fun x hx => hok x (List.mem_of_mem_take hx)
        rw [← e3] at g4
        have hln : (bytesF ((framesF b ps).take j) ++ x' ++ bytesF ((framesF b ps).drop (j + 1))).length = (flowB b ps).length := by
          rw [e3, List.length_append, List.length_append, List.length_append, List.length_append, g1]
        rw [g4, obind, getQ_eq _ _ (((bytesF_bytes hba).append g2).append hbr) (by omega) (by omega), obind]
        have hbad := allL_bad g2 (fun hh => by rw [hh, List.length_nil] at g1; omega) hbr g3
        have h7 : (getQ (bytesF ((framesF b ps).take j) ++ x' ++ bytesF ((framesF b ps).drop (j + 1)))).2.2 ≠ 0 := by
          refine getQ_bad ?_
          rw [List.append_assoc, allL_bytesF _ (g2.append hbr) _ hba, if_neg (by rw [hbad]; decide)]
          rw [hbad]
          decide
        exact congrArg some (bne_iff_ne.2 h7)
    · rw [if_neg c]
      exact triv _
  · have cm' : mayB ps = false := by simpa using cm
    rw [put_not _ _ ps cm', obind]
    dsimp only
    rw [if_pos rfl]
    by_cases c : (decide (ps.length ≤ 40) && ps.all fun p => decide (p.length ≤ 300)) = true
    · rw [if_pos c, if_neg (by decide)]
      exact triv _
    · rw [if_neg c]
      exact triv _
end Go.Proofs.YtknkncdlcoglpaaDoor.Pure
