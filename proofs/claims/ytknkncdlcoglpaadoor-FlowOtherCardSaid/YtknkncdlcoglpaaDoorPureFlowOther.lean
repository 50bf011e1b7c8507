/- For every two flows and every base: if both may be, their bytes are the same just if they are the same; and a flow that may be has, with that base alone, the same bytes from the second frame on; one that may not be has none with it. Of more than 40 parts, and parts of more than 300 bytes, nothing is asked. -/
import Derived.Test.YtknkncdlcoglpaaDoorFlowMore
import Derived.Test.YtknkncdlcoglpaaDoorRefStr
import Derived.Test.YtknkncdlcoglpaaDoorPAllx16
namespace Go.Proofs.YtknkncdlcoglpaaDoor.Pure
open Go.RowKit Go.Proofs.YtknkncdlcoglpaaDoor.PAll Go.Proofs.YtknkncdlcoglpaaDoorW.PrintWords Go.Proofs.YtknkncdlcoglpaaDoorW.PrintLast Go.Proofs.YtknkncdlcoglpaaDoor.Vari Go.Proofs.YtknkncdlcoglpaaDoor.Flow
theorem flowB_inj {b b' : Nat} {ps ps' : List (List Int)} (hb : b < 2 ^ 32) (hp : BytesP ps) (hm : mayB ps = true) (hb' : b' < 2 ^ 32) (hp' : BytesP ps') (hm' : mayB ps' = true) (h : flowB b ps = flowB b' ps') : (b : Int) = (b' : Int) ∧ ps = ps' := by
  have h1 := get_put hb hp hm
  rw [h, get_put hb' hp' hm'] at h1
  obtain ⟨e1, e2⟩ := Prod.mk.inj h1
  exact ⟨e1.symm, (Prod.mk.inj e2).1.symm⟩
theorem other_two (k : Nat) (hk : 12000 ≤ k) (b c : Nat) (hb : b < 2 ^ 32) (hc : c < 2 ^ 32) (ps : List (List Int)) (hp : BytesP ps) (hm : mayB ps = true) : foliatelaw04_FlowOther.j1 (k + 1) (flowB b ps) 0 (flowB c ps) 0 false = some true := by
  have hn := framesF_length b ps
  have hn' := framesF_length c ps
  have hcl := cutsL_length (framesF b ps)
  have hcl' := cutsL_length (framesF c ps)
  have e1 := cutsL_rd (framesF b ps) 1 (by omega)
  have e1' := cutsL_rd (framesF c ps) 1 (by omega)
  have hle := cut_le (framesF b ps) 1
  have hle' := cut_le (framesF c ps) 1
  have hf : bytesF (framesF b ps) = flowB b ps := rfl
  have hf' : bytesF (framesF c ps) = flowB c ps := rfl
  rw [hf] at hle
  rw [hf'] at hle'
  have e2 : rd (cutsL (framesF b ps)) 1 = ((bytesF ((framesF b ps).take 1)).length : Int) := e1
  have e2' : rd (cutsL (framesF c ps)) 1 = ((bytesF ((framesF c ps).take 1)).length : Int) := e1'
  have d1 : (flowB b ps).drop (bytesF ((framesF b ps).take 1)).length = bytesF ((framesF b ps).drop 1) := drop_cut _ 1
  have d2 : (flowB c ps).drop (bytesF ((framesF c ps).take 1)).length = bytesF ((framesF c ps).drop 1) := drop_cut _ 1
  have ed : (framesF c ps).drop 1 = (framesF b ps).drop 1 := rfl
  rw [foliatelaw04_FlowOther.j1.eq_2, if_neg (by decide), cuts_flow k hb hp hm (by omega), obind, cuts_flow k hc hp hm (by omega), obind]
  dsimp only
  rw [if_pos rfl, if_pos rfl, if_pos rfl, if_pos rfl, if_pos (by omega), if_pos (by omega), if_pos (by omega), e2, e2', if_pos (by omega), if_pos (by omega), if_pos (by omega), if_pos (by omega), if_pos (by omega), Int.toNat_natCast, Int.toNat_natCast, d1, d2, ed]
  exact congrArg some (beq_self_eq_true _)
theorem FlowOther (a : Int) (ps : List (List Int)) (wa : (Lit.int .u32 a).wf = true) (hp : ∀ y ∈ ps, ∀ z ∈ y, (Lit.int .u8 z).wf = true) (a' : Int) (ps' : List (List Int)) (wa' : (Lit.int .u32 a').wf = true) (hp' : ∀ y ∈ ps', ∀ z ∈ y, (Lit.int .u8 z).wf = true) (c : Int) (wc : (Lit.int .u32 c).wf = true) : ∃ k, foliatelaw04_FlowOther.f k a ps a' ps' c = some true := by
  obtain ⟨m, aw⟩ := awake
  obtain ⟨b, rfl, hb⟩ := u32_nat wa
  obtain ⟨b', rfl, hb'⟩ := u32_nat wa'
  obtain ⟨d, rfl, hd⟩ := u32_nat wc
  have hps := rows_of hp
  have hps' := rows_of hp'
  refine ⟨m + 20000 + 2, ?_⟩
  unfold foliatelaw04_FlowOther.f
  have triv : foliatelaw04_FlowOther.j0 (m + 20000 + 2) (d : Int) true true (b : Int) ps (b' : Int) ps' = some true := by rw [foliatelaw04_FlowOther.j0.eq_2, if_pos rfl]
  rw [aw _ (by omega), obind, few40 _ _ ps (by omega), obind, few40 _ _ ps' (by omega), obind, if_pos rfl]
  by_cases c1 : (decide (ps.length ≤ 40) && ps.all fun p => decide (p.length ≤ 300)) = true
  · rw [if_pos c1]
    by_cases c2 : (decide (ps'.length ≤ 40) && ps'.all fun p => decide (p.length ≤ 300)) = true
    · obtain ⟨h1, h2⟩ := few_true c1
      rw [c2, foliatelaw04_FlowOther.j0.eq_2, if_neg (by decide)]
      by_cases cm : mayB ps = true
      · rw [put_flow _ (by omega) b hb ps cm, obind]
        by_cases cm' : mayB ps' = true
        · rw [put_flow _ (by omega) b' hb' ps' cm', obind, put_flow _ (by omega) d hd ps cm, obind]
          dsimp only
          rw [if_pos rfl, if_pos rfl, same_eq _ _ _ _ _ (by omega) (fun p hp => by have := h2 p hp; exact ⟨by omega, by omega⟩), obind]
          have e : ((strOfNums (flowB b ps)).toList == (strOfNums (flowB b' ps')).toList) = decide ((b : Int) = (b' : Int) ∧ ps = ps') := by
            by_cases h : (b : Int) = (b' : Int) ∧ ps = ps'
            · obtain ⟨h3, rfl⟩ := h
              obtain rfl : b = b' := by omega
              rw [decide_eq_true ⟨rfl, rfl⟩, beq_self_eq_true]
            · rw [decide_eq_false h]
              refine beq_eq_false_iff_ne.2 fun hh => h ?_
              exact flowB_inj hb hps cm hb' hps' cm' (str_inj0 (flowB_bytes hb hps cm) (flowB_bytes hb' hps' cm') hh)
          rw [e, bne_self_eq_false]
          exact other_two (m + 20000) (by omega) b d hb hd ps hps cm
        · have cmf : mayB ps' = false := by simpa using cm'
          rw [put_not _ _ ps' cmf, obind, put_flow _ (by omega) d hd ps cm, obind]
          dsimp only
          rw [if_pos rfl, if_neg (by decide)]
          exact other_two (m + 20000) (by omega) b d hb hd ps hps cm
      · have cmf : mayB ps = false := by simpa using cm
        have en : flow_Cuts.f (m + 20000) [] = some ([], false) := by
          rw [cuts_eq _ [] (fun x hx => by cases hx) (by decide) (by show 0 + 1010 ≤ _; omega)]
          rfl
        have hend : foliatelaw04_FlowOther.j1 (m + 20000 + 1) [] 1 [] 1 false = some true := by
          rw [foliatelaw04_FlowOther.j1.eq_2, if_neg (by decide), en, obind, obind]
          rfl
        rw [put_not _ _ ps cmf, obind]
        by_cases cm' : mayB ps' = true
        · rw [put_flow _ (by omega) b' hb' ps' cm', obind, put_not _ _ ps cmf, obind]
          dsimp only
          rw [if_neg (by decide)]
          exact hend
        · have cmf' : mayB ps' = false := by simpa using cm'
          rw [put_not _ _ ps' cmf', obind, put_not _ _ ps cmf, obind]
          dsimp only
          rw [if_neg (by decide)]
          exact hend
    · have c2' : (decide (ps'.length ≤ 40) && ps'.all fun p => decide (p.length ≤ 300)) = false := by simpa using c2
      rw [c2']
      exact triv
  · rw [if_neg c1]
    exact triv
end Go.Proofs.YtknkncdlcoglpaaDoor.Pure
