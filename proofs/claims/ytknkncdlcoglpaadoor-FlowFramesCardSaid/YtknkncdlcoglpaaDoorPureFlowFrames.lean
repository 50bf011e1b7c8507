/- For every flow that may be and every two numbers of frames of its bytes, the first one the lower: of these bytes without the first one's frame, with it twice, and with the two frames in each other's place, no flow is read; and the places where the frames begin rise, up to the bytes' end. Of more than 40 parts, and parts of more than 300 bytes, nothing is asked. -/
import Derived.Test.YtknkncdlcoglpaaDoorFrFlowMore
import Derived.Test.YtknkncdlcoglpaaDoorPFrx8
namespace Go.Proofs.YtknkncdlcoglpaaDoor.Pure
open Go.RowKit Go.Proofs.YtknkncdlcoglpaaDoor.PFr Go.Proofs.YtknkncdlcoglpaaDoorW.PrintWords Go.Proofs.YtknkncdlcoglpaaDoorW.PrintLast Go.Proofs.YtknkncdlcoglpaaDoor.FrVari Go.Proofs.YtknkncdlcoglpaaDoor.FrFlow
open Go.Proofs.YtknkncdlcoglpaaDoor.FrFrame (next_nat)
theorem wrap_three (n : Nat) (h : n < 1000) : wrap64 ((n : Int) + 3) = ((n + 3 : Nat) : Int) := by unfold wrap64; omega
theorem wrap_less (n : Nat) (h : n < 1000) (h1 : 1 ≤ n) : wrap64 ((n : Int) - 1) = ((n - 1 : Nat) : Int) := by unfold wrap64; omega
theorem rd_step (F : List Fr) (n : Nat) (h1 : 1 ≤ n) (h : n ≤ F.length) : rd (cutsL F) ((n - 1 : Nat) : Int) < rd (cutsL F) (n : Int) ∧ rd (cutsL F) (n : Int) ≤ ((bytesF F).length : Int) := by
  obtain ⟨n, rfl⟩ : ∃ q, n = q + 1 := ⟨n - 1, by omega⟩
  have e : n + 1 - 1 = n := by omega
  have h2 := cut_step F n (by omega)
  have h3 := cut_le F (n + 1)
  rw [e, cutsL_rd F n (by omega), cutsL_rd F (n + 1) h]
  omega
theorem frames_loop (x1 x2 : Int) (F : List Fr) (hF : F.length < 500) (q : Nat) : ∀ (d n : Nat), 1 ≤ n → n + d = F.length + 1 → foliatelaw04_FlowFrames.l0 (q + 1 + d) x1 x2 (bytesF F) (cutsL F) (n : Int) = foliatelaw04_FlowFrames.l0 (q + 1) x1 x2 (bytesF F) (cutsL F) ((F.length + 1 : Nat) : Int)
  | 0, n, h1, h => by
    obtain rfl : n = F.length + 1 := by omega
    rfl
  | d + 1, n, h1, h => by
    have hl := cutsL_length F
    have hs := rd_step F n h1 (by omega)
    have ew := next_nat n (by omega)
    have el := wrap_less n (by omega) h1
    have t1 : (n : Int) < ((cutsL F).length : Int) := by omega
    have t2 : ((n - 1 : Nat) : Int) < ((cutsL F).length : Int) := by omega
    have t3 : (0 : Int) ≤ ((n - 1 : Nat) : Int) := by omega
    have t4 : (0 : Int) ≤ (n : Int) := by omega
    have ih := frames_loop x1 x2 F hF q d (n + 1) (by omega) (by omega)
    have e : q + 1 + (d + 1) = (q + 1 + d) + 1 := by omega
    rw [e, foliatelaw04_FlowFrames.l0.eq_2, if_pos t1, if_pos t4, el, if_pos t3, if_pos t2, if_neg (by omega), if_neg (by omega), ew]
    exact ih
theorem frames_end_ (b : Nat) (hb : b < 2 ^ 32) (ps : List (List Int)) (hp : BytesP ps) (cm : mayB ps = true) (I K : Nat) (hik : I < K) (hk : K < ps.length + 2) (q : Nat) (hq : 40000 ≤ q) : foliatelaw04_FlowFrames.l0 (q + 1) (I : Int) (K : Int) (flowB b ps) (cutsL (framesF b ps)) (((framesF b ps).length + 1 : Nat) : Int) = some true := by
  have hok := framesF_ok hb hp cm
  have hn := framesF_length b ps
  have h40 := (may_iff.1 cm).1
  have hle := flowB_le hb cm
  have hfb : flowB b ps = bytesF (framesF b ps) := rfl
  have hx : ∃ x, (framesF b ps)[K]? = some x := ⟨_, List.getElem?_eq_getElem (show K < (framesF b ps).length by omega)⟩
  obtain ⟨xK, hxK⟩ := hx
  have hx : ∃ x, (framesF b ps)[I]? = some x := ⟨_, List.getElem?_eq_getElem (show I < (framesF b ps).length by omega)⟩
  obtain ⟨xI, hxI⟩ := hx
  have n1 : ∀ (b' : Nat) (ps' : List (List Int)), mayB ps' = true → (framesF b ps).take I ++ (framesF b ps).drop (I + 1) = framesF b' ps' → False := fun b' ps' m h => lacks_not cm m (by omega) h
  have n2 : ∀ (b' : Nat) (ps' : List (List Int)), mayB ps' = true → (framesF b ps).take (I + 1) ++ xI :: (framesF b ps).drop (I + 1) = framesF b' ps' → False := fun b' ps' m h => twice_not cm m (by omega) h
  have n3 : ∀ (R : List Fr) (b' : Nat) (ps' : List (List Int)), mayB ps' = true → (framesF b ps).length = (framesF b' ps').length → (framesF b ps).take I ++ xK :: R = framesF b' ps' → False := fun R b' ps' m hl h => swap_not cm m hik (by omega) hxK hl h
  generalize hF : framesF b ps = F at *
  rw [hfb] at hle ⊢
  have cl := cutsL_length F
  have r0 := cutsL_rd F I (by omega)
  have r1 := cutsL_rd F (I + 1) (by omega)
  have r2 := cutsL_rd F K (by omega)
  have r3 := cutsL_rd F (K + 1) (by omega)
  have ew1 := Aside0.mk (next_nat I (by omega))
  have ew2 := Aside0.mk (next_nat K (by omega))
  have s0 := rd_step F (I + 1) (by omega) (by omega)
  have s2 := rd_step F (K + 1) (by omega) (by omega)
  have mono : rd (cutsL F) ((I + 1 : Nat) : Int) ≤ rd (cutsL F) (K : Int) := by
    rw [r1, r2]
    have e : F.take K = F.take (I + 1) ++ (F.take K).drop (I + 1) := by
      have h : F.take (I + 1) = (F.take K).take (I + 1) := by rw [List.take_take, Nat.min_eq_left (by omega)]
      conv => lhs; rw [← List.take_append_drop (I + 1) (F.take K)]
      rw [← h]
    rw [e, bytesF_append, List.length_append]
    omega
  rw [Nat.add_sub_cancel] at s0 s2
  have xs1 : (F.take (I + 1)).drop I = [xI] := by
    rw [List.take_add_one, hxI, List.drop_append_of_le_length (by rw [List.length_take]; omega), List.drop_of_length_le (by rw [List.length_take]; omega)]
    rfl
  have xs2 : (F.take (K + 1)).drop K = [xK] := by
    rw [List.take_add_one, hxK, List.drop_append_of_le_length (by rw [List.length_take]; omega), List.drop_of_length_le (by rw [List.length_take]; omega)]
    rfl
  have T0 : (bytesF F).take (rd (cutsL F) (I : Int)).toNat = bytesF (F.take I) := by rw [r0, Int.toNat_natCast, take_cut]
  have T1 : (bytesF F).take (rd (cutsL F) ((I + 1 : Nat) : Int)).toNat = bytesF (F.take (I + 1)) := by rw [r1, Int.toNat_natCast, take_cut]
  have D1 : (bytesF F).drop (rd (cutsL F) ((I + 1 : Nat) : Int)).toNat = bytesF (F.drop (I + 1)) := by rw [r1, Int.toNat_natCast, drop_cut]
  have D3 : (bytesF F).drop (rd (cutsL F) ((K + 1 : Nat) : Int)).toNat = bytesF (F.drop (K + 1)) := by rw [r3, Int.toNat_natCast, drop_cut]
  have M0 : ((bytesF F).take (rd (cutsL F) ((I + 1 : Nat) : Int)).toNat).drop (rd (cutsL F) (I : Int)).toNat = bytesF [xI] := by rw [r0, r1, Int.toNat_natCast, Int.toNat_natCast, mid_cut F I (I + 1) (by omega), xs1]
  have M2 : ((bytesF F).take (rd (cutsL F) ((K + 1 : Nat) : Int)).toNat).drop (rd (cutsL F) (K : Int)).toNat = bytesF [xK] := by rw [r2, r3, Int.toNat_natCast, Int.toNat_natCast, mid_cut F K (K + 1) (by omega), xs2]
  have M1 : ((bytesF F).take (rd (cutsL F) (K : Int)).toNat).drop (rd (cutsL F) ((I + 1 : Nat) : Int)).toNat = bytesF ((F.take K).drop (I + 1)) := by rw [r1, r2, Int.toNat_natCast, Int.toNat_natCast, mid_cut F (I + 1) K (by omega)]
  have le : ∀ G H : List Fr, G ++ H = F → (bytesF G).length ≤ 9000 ∧ (bytesF H).length ≤ 9000 := fun G H h => by
    rw [← h, bytesF_append, List.length_append] at hle
    omega
  have l0 := (le _ _ (List.take_append_drop I F)).1
  have l1 := le _ _ (List.take_append_drop (I + 1) F)
  have l2 := (le _ _ (List.take_append_drop K F)).1
  have l3 := (le _ _ (List.take_append_drop (K + 1) F)).2
  have l4 : (bytesF ((F.take K).drop (I + 1))).length ≤ 9000 := by
    have h : bytesF (F.take K) = bytesF ((F.take K).take (I + 1)) ++ bytesF ((F.take K).drop (I + 1)) := by rw [← bytesF_append, List.take_append_drop]
    rw [h, List.length_append] at l2
    omega
  have okI : okR xI ∧ Bytes xI.f1 := hok xI (List.mem_of_getElem? hxI)
  have okK : okR xK ∧ Bytes xK.f1 := hok xK (List.mem_of_getElem? hxK)
  have l5 : (bytesF [xI]).length ≤ 300 := by rw [bytesF_length]; have := okI.1.2; simp; omega
  have l6 : (bytesF [xK]).length ≤ 300 := by rw [bytesF_length]; have := okK.1.2; simp; omega
  have k0 : (0 : Int) ≤ rd (cutsL F) (I : Int) := by rw [r0]; omega
  have k1 : (0 : Int) ≤ rd (cutsL F) ((I + 1 : Nat) : Int) := by omega
  have k2 : (0 : Int) ≤ rd (cutsL F) (K : Int) := by omega
  have k3 : (0 : Int) ≤ rd (cutsL F) ((K + 1 : Nat) : Int) := by omega
  have a1 : (bytesF F).length = (bytesF F).length := rfl
  have c1 : ¬ (((F.length + 1 : Nat) : Int) < ((cutsL F).length : Int)) := by omega
  have c2 : (0 : Int) ≤ (I : Int) := by omega
  have c3 : (I : Int) < ((cutsL F).length : Int) := by omega
  have c4 : (0 : Int) ≤ ((I + 1 : Nat) : Int) := by omega
  have c5 : ((I + 1 : Nat) : Int) < ((cutsL F).length : Int) := by omega
  have c6 : rd (cutsL F) (I : Int) ≤ rd (cutsL F) ((I + 1 : Nat) : Int) := by omega
  have c7 : rd (cutsL F) ((I + 1 : Nat) : Int) ≤ ((bytesF F).length : Int) := s0.2
  have c8 : (0 : Int) ≤ (K : Int) := by omega
  have c9 : (K : Int) < ((cutsL F).length : Int) := by omega
  have c10 : (0 : Int) ≤ ((K + 1 : Nat) : Int) := by omega
  have c11 : ((K + 1 : Nat) : Int) < ((cutsL F).length : Int) := by omega
  have c12 : rd (cutsL F) (K : Int) ≤ rd (cutsL F) ((K + 1 : Nat) : Int) := by omega
  have c13 : rd (cutsL F) ((K + 1 : Nat) : Int) ≤ ((bytesF F).length : Int) := s2.2
  have c14 : rd (cutsL F) (I : Int) ≤ ((bytesF F).length : Int) := by omega
  have c15 : rd (cutsL F) (K : Int) ≤ ((bytesF F).length : Int) := by omega
  have gk : ∀ G : List Fr, (∀ x ∈ G, okR x ∧ Bytes x.f1) → (bytesF G).length ≤ 30000 → flow_Get.f q (bytesF G) = some (getQ (bytesF G)) := fun G hG hl => getQ_eq q _ (bytesF_bytes hG) (by omega) (by omega)
  have okT : ∀ m, ∀ x ∈ F.take m, okR x ∧ Bytes x.f1 := fun m x hx => hok x (List.mem_of_mem_take hx)
  have okD : ∀ m, ∀ x ∈ F.drop m, okR x ∧ Bytes x.f1 := fun m x hx => hok x (List.mem_of_mem_drop hx)
  have ok1 : ∀ x ∈ F.take I ++ F.drop (I + 1), okR x ∧ Bytes x.f1 := fun x hx => (List.mem_append.1 hx).elim (okT I x) (okD (I + 1) x)
  have ok2 : ∀ x ∈ F.take (I + 1) ++ xI :: F.drop (I + 1), okR x ∧ Bytes x.f1 := fun x hx => by
    rcases List.mem_append.1 hx with h | h
    · exact okT _ x h
    · rcases List.mem_cons.1 h with rfl | h
      · exact okI
      · exact okD _ x h
  have ok3 : ∀ x ∈ F.take I ++ xK :: ((F.take K).drop (I + 1) ++ xI :: F.drop (K + 1)), okR x ∧ Bytes x.f1 := fun x hx => by
    rcases List.mem_append.1 hx with h | h
    · exact okT _ x h
    · rcases List.mem_cons.1 h with rfl | h
      · exact okK
      · rcases List.mem_append.1 h with h | h
        · exact okT K x (List.mem_of_mem_drop h)
        · rcases List.mem_cons.1 h with rfl | h
          · exact okI
          · exact okD _ x h
  have B1 : bytesF (F.take I) ++ bytesF (F.drop (I + 1)) = bytesF (F.take I ++ F.drop (I + 1)) := (bytesF_append _ _).symm
  have B2 : bytesF (F.take (I + 1)) ++ bytesF [xI] ++ bytesF (F.drop (I + 1)) = bytesF (F.take (I + 1) ++ xI :: F.drop (I + 1)) := by rw [← bytesF_append, ← bytesF_append, List.append_assoc]; rfl
  have B3 : bytesF (F.take I) ++ bytesF [xK] ++ bytesF ((F.take K).drop (I + 1)) ++ bytesF [xI] ++ bytesF (F.drop (K + 1)) = bytesF (F.take I ++ xK :: ((F.take K).drop (I + 1) ++ xI :: F.drop (K + 1))) := by
    rw [← bytesF_append, ← bytesF_append, ← bytesF_append, ← bytesF_append, List.append_assoc, List.append_assoc, List.append_assoc]; rfl
  have g1 := gk _ ok1 (by rw [← B1, List.length_append]; omega)
  have g2 := gk _ ok2 (by rw [← B2, List.length_append, List.length_append]; omega)
  have g3 := gk _ ok3 (by rw [← B3, List.length_append, List.length_append, List.length_append, List.length_append]; omega)
  have b1 : (getQ (bytesF (F.take I ++ F.drop (I + 1)))).2.2 ≠ 0 := fun h => by
    obtain ⟨b', ps', m, e⟩ := get_frames ok1 h
    exact n1 b' ps' m e
  have b2 : (getQ (bytesF (F.take (I + 1) ++ xI :: F.drop (I + 1)))).2.2 ≠ 0 := fun h => by
    obtain ⟨b', ps', m, e⟩ := get_frames ok2 h
    exact n2 b' ps' m e
  have b3 : (getQ (bytesF (F.take I ++ xK :: ((F.take K).drop (I + 1) ++ xI :: F.drop (K + 1))))).2.2 ≠ 0 := fun h => by
    obtain ⟨b', ps', m, e⟩ := get_frames ok3 h
    refine n3 _ b' ps' m ?_ e
    rw [← e]
    simp only [List.length_append, List.length_cons, List.length_take, List.length_drop]
    omega
  rw [foliatelaw04_FlowFrames.l0.eq_2, if_neg c1, if_pos c2, if_pos c3, ew1.out, if_pos c4, if_pos c5, if_pos k0, if_pos c6, if_pos c7, obind, M0, if_pos c8, if_pos c9, ew2.out, if_pos c10, if_pos c11, if_pos k2, if_pos c12, if_pos c13, obind, M2, if_pos c14, obind, T0, if_pos (by rw [List.length_nil]; omega), obind, List.nil_append, if_pos k1, obind, D1, if_pos (by omega), obind, T1, if_pos (by rw [List.length_nil]; omega), obind, List.nil_append, if_pos (by omega), obind, obind, if_pos (by rw [List.length_append]; omega), obind, if_pos (by rw [List.length_nil]; omega), obind, List.nil_append, if_pos (by omega), obind, if_pos mono, if_pos c15, obind, M1, if_pos (by rw [List.length_append]; omega), obind, if_pos (by rw [List.length_append, List.length_append]; omega), obind, if_pos k3, obind, D3, if_pos (by rw [List.length_append, List.length_append, List.length_append]; omega), B1, g1, obind, B2, g2, obind, B3, g3, obind, if_neg b1, if_neg b2]
  exact congrArg some (bne_iff_ne.2 b3)
theorem FlowFrames (a : Int) (ps : List (List Int)) (wa : (Lit.int .u32 a).wf = true) (hp : ∀ y ∈ ps, ∀ z ∈ y, (Lit.int .u8 z).wf = true) (i k : Int) : ∃ q, foliatelaw04_FlowFrames.f q a ps i k = some true := by
  obtain ⟨m, aw⟩ := awake
  obtain ⟨b, rfl, hb⟩ := u32_nat wa
  have hps := rows_of hp
  refine ⟨m + 50000 + 2, ?_⟩
  unfold foliatelaw04_FlowFrames.f
  have triv : ∀ p, foliatelaw04_FlowFrames.j0 (m + 50000 + 2) i k true p true (b : Int) ps = some true := fun p => by rw [foliatelaw04_FlowFrames.j0.eq_2, if_pos rfl]
  rw [aw _ (by omega), obind, few40 _ _ ps (by omega), obind]
  by_cases cm : mayB ps = true
  · rw [put_flow _ (by omega) b hb ps cm, obind]
    dsimp only
    rw [if_pos rfl]
    by_cases c : (decide (ps.length ≤ 40) && ps.all fun p => decide (p.length ≤ 300)) = true
    · have h40 := (may_iff.1 cm).1
      have hn := framesF_length b ps
      have cl := cutsL_length (framesF b ps)
      have e3 := wrap_three ps.length (by omega)
      have ec : ((cutsL (framesF b ps)).length : Int) = ((ps.length + 3 : Nat) : Int) := by rw [cl, hn]
      have e4 := wrap_less (ps.length + 3) (by omega) (by omega)
      have e4' : ps.length + 3 - 1 = ps.length + 2 := by omega
      rw [e4'] at e4
      have triv1 : foliatelaw04_FlowFrames.j1 (m + 50000 + 1) i k (flowB b ps) (cutsL (framesF b ps)) true true (b : Int) ps = some true := by
        rw [foliatelaw04_FlowFrames.j1.eq_2, if_pos rfl, if_pos rfl, ec, e3, beq_self_eq_true]
      rw [if_pos c, show ((0 : Int) != 0) = false from rfl, foliatelaw04_FlowFrames.j0.eq_2, if_neg (by decide), cuts_flow _ hb hps cm (by omega), obind]
      dsimp only
      rw [if_pos rfl, ec, e3, if_pos rfl, e4]
      by_cases c1 : i < 0
      · rw [if_pos c1]
        exact triv1
      rw [if_neg c1]
      by_cases c2 : k ≤ i
      · rw [if_pos c2]
        exact triv1
      rw [if_neg c2]
      by_cases c3 : k ≥ ((ps.length + 2 : Nat) : Int)
      · rw [decide_eq_true c3]
        exact triv1
      obtain ⟨I, rfl⟩ := Int.eq_ofNat_of_zero_le (show 0 ≤ i by omega)
      obtain ⟨K, rfl⟩ := Int.eq_ofNat_of_zero_le (show 0 ≤ k by omega)
      obtain ⟨q, hq⟩ : ∃ q, m + 50000 = q + 1 + (framesF b ps).length := ⟨m + 50000 - 1 - (framesF b ps).length, by omega⟩
      rw [decide_eq_false c3, foliatelaw04_FlowFrames.j1.eq_2, if_neg (by decide), hq]
      refine (frames_loop (I : Int) (K : Int) (framesF b ps) (by omega) q (framesF b ps).length 1 (Nat.le_refl _) (by omega)).trans ?_
      exact frames_end_ b hb ps hps cm I K (by omega) (by omega) q (by omega)
    · rw [if_neg c]
      exact triv _
  · have cm' : mayB ps = false := by simpa using cm
    rw [put_not _ _ ps cm', obind]
    dsimp only
    rw [if_pos rfl]
    by_cases c : (decide (ps.length ≤ 40) && ps.all fun p => decide (p.length ≤ 300)) = true
    · rw [if_pos c]
      exact triv _
    · rw [if_neg c]
      exact triv _
end Go.Proofs.YtknkncdlcoglpaaDoor.Pure
