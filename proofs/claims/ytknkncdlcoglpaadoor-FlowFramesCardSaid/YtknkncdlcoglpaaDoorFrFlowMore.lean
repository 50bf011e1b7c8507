import Derived.Test.YtknkncdlcoglpaaDoorFrFlowAwake
namespace Go.Proofs.YtknkncdlcoglpaaDoor.FrFlow
open Go.RowKit Go.Proofs.YtknkncdlcoglpaaDoor.PFr Go.Proofs.YtknkncdlcoglpaaDoorW.PrintWords Go.Proofs.YtknkncdlcoglpaaDoorW.PrintLast Go.Proofs.YtknkncdlcoglpaaDoor.FrVari
open Go.Proofs.YtknkncdlcoglpaaDoor.FrFrame (frameB frameB_length allL allf_eq allL_frame allL_nil frame_bytes put_ok next_nat getP get_inv get_err allL_cons allL_err equal_eq)
/-! Nothing else is a flow's bytes: what is longer or shorter, and frames that are not where they were. -/
theorem bytesF_inj {F G : List Fr} (hF : ∀ x ∈ F, okR x ∧ Bytes x.f1) (hG : ∀ x ∈ G, okR x ∧ Bytes x.f1) (h : bytesF F = bytesF G) : F = G := by
  have h1 := allL_F hF
  rw [h, allL_F hG] at h1
  exact (congrArg Prod.fst h1).symm
/-- frames of which a flow is read are a flow's -/
theorem get_frames {F : List Fr} (hF : ∀ x ∈ F, okR x ∧ Bytes x.f1) (h : (getQ (bytesF F)).2.2 = 0) : ∃ (b : Nat) (ps : List (List Int)), mayB ps = true ∧ F = framesF b ps := by
  obtain ⟨b', ps', h1, h2, h3, h4, _⟩ := getQ_inv (bytesF_bytes hF) h
  exact ⟨b', ps', h3, bytesF_inj hF (framesF_ok h1 h2 h3) h4⟩
theorem partsF_get : ∀ (ps : List (List Int)) (i j : Nat) (h : j < ps.length), (partsF i ps)[j]? = some ⟨2, pb (i + j) ++ ps[j]⟩
  | [], _, _, h => absurd h (Nat.not_lt_zero _)
  | p :: ps, i, 0, _ => rfl
  | p :: ps, i, j + 1, h => by
    show (partsF (i + 1) ps)[j]? = _
    rw [partsF_get ps (i + 1) j (by simpa using h), show i + 1 + j = i + (j + 1) by omega]
    rfl
theorem frames_at {b : Nat} {ps : List (List Int)} {j : Nat} (h : j < ps.length) : (framesF b ps)[j + 1]? = some ⟨2, pb j ++ ps[j]⟩ := by
  unfold framesF
  rw [List.getElem?_cons_succ, List.getElem?_append_left (by rw [partsF_length]; exact h), partsF_get ps 0 j h, Nat.zero_add]
theorem frames_end (b : Nat) (ps : List (List Int)) : (framesF b ps)[ps.length + 1]? = some (tailR ps.length) := by
  unfold framesF
  rw [List.getElem?_cons_succ, List.getElem?_append_right (by rw [partsF_length]; exact Nat.le_refl _), partsF_length, Nat.sub_self]
  rfl
theorem frames_zero (b : Nat) (ps : List (List Int)) : (framesF b ps)[0]? = some (headR b ps.length) := rfl
theorem tail_inj {n m : Nat} (hn : n ≤ 40) (hm : m ≤ 40) (h : tailR n = tailR m) : n = m := by
  have h1 : pb n = pb m := congrArg (fun x : Fr => x.f1) h
  rw [pb_one (by omega), pb_one (by omega)] at h1
  have := (List.cons.inj h1).1
  omega
/-- a flow's frames but one, not the last, are no flow's -/
theorem lacks_not {b b' : Nat} {ps ps' : List (List Int)} (hm : mayB ps = true) (hm' : mayB ps' = true) {i : Nat} (hi : i ≤ ps.length) (h : (framesF b ps).take i ++ (framesF b ps).drop (i + 1) = framesF b' ps') : False := by
  have hn := framesF_length b ps
  have hn' := framesF_length b' ps'
  have h1 := (may_iff.1 hm).1
  have h1' := (may_iff.1 hm').1
  have hl := congrArg List.length h
  rw [List.length_append, List.length_take, List.length_drop] at hl
  have e := frames_end b' ps'
  rw [← h, List.getElem?_append_right (by rw [List.length_take]; omega), List.length_take, List.getElem?_drop, show i + 1 + (ps'.length + 1 - min i (framesF b ps).length) = ps.length + 1 by omega, frames_end] at e
  have := tail_inj h1 h1' (Option.some.inj e)
  omega
theorem twice_not {b b' : Nat} {ps ps' : List (List Int)} (hm : mayB ps = true) (hm' : mayB ps' = true) {x : Fr} {i : Nat} (hi : i ≤ ps.length) (h : (framesF b ps).take (i + 1) ++ x :: (framesF b ps).drop (i + 1) = framesF b' ps') : False := by
  have hn := framesF_length b ps
  have hn' := framesF_length b' ps'
  have h1 := (may_iff.1 hm).1
  have h1' := (may_iff.1 hm').1
  have hl := congrArg List.length h
  rw [List.length_append, List.length_take, List.length_cons, List.length_drop] at hl
  have e := frames_end b' ps'
  have q : ps'.length + 1 - min (i + 1) (framesF b ps).length = (ps.length - i) + 1 := by omega
  rw [← h, List.getElem?_append_right (by rw [List.length_take]; omega), List.length_take, q, List.getElem?_cons_succ, List.getElem?_drop, show i + 1 + (ps.length - i) = ps.length + 1 by omega, frames_end] at e
  have := tail_inj h1 h1' (Option.some.inj e)
  omega
theorem swap_not {b b' : Nat} {ps ps' : List (List Int)} (hm : mayB ps = true) (hm' : mayB ps' = true) {i k : Nat} {R : List Fr} (hik : i < k) (hk : k ≤ ps.length + 1) {x : Fr} (hx : (framesF b ps)[k]? = some x) (hl : (framesF b ps).length = (framesF b' ps').length) (h : (framesF b ps).take i ++ x :: R = framesF b' ps') : False := by
  have hn := framesF_length b ps
  have hn' := framesF_length b' ps'
  have h1 := (may_iff.1 hm).1
  have h1' := (may_iff.1 hm').1
  have e : (framesF b' ps')[i]? = some x := by
    rw [← h, List.getElem?_append_right (by rw [List.length_take]; omega), List.length_take, show i - min i (framesF b ps).length = 0 by omega]
    rfl
  obtain ⟨k, rfl⟩ : ∃ q, k = q + 1 := ⟨k - 1, by omega⟩
  have h2 : x.f0 = 2 ∧ (∃ p, x.f1 = pb k ++ p) ∧ k < ps.length ∨ x.f0 = 3 := by
    by_cases c : k < ps.length
    · rw [frames_at c] at hx
      obtain rfl := Option.some.inj hx
      exact .inl ⟨rfl, ⟨_, rfl⟩, c⟩
    · obtain rfl : k = ps.length := by omega
      rw [frames_end] at hx
      obtain rfl := Option.some.inj hx
      exact .inr rfl
  cases i with
  | zero =>
    rw [frames_zero] at e
    have e0 : x.f0 = 1 := by rw [← Option.some.inj e]; rfl
    rcases h2 with ⟨h2, _⟩ | h2 <;> rw [e0] at h2 <;> exact absurd h2 (by decide)
  | succ i =>
    have hi : i < ps'.length := by omega
    rw [frames_at hi] at e
    have ex := Option.some.inj e
    rcases h2 with ⟨_, ⟨p, hp⟩, hk⟩ | h2
    · have e1 : x.f1 = pb i ++ ps'[i] := by rw [← ex]
      rw [hp, pb_one (by omega), pb_one (by omega)] at e1
      have := (List.cons.inj e1).1
      omega
    · have e0 : x.f0 = 2 := by rw [← ex]
      rw [e0] at h2
      exact absurd h2 (by decide)
/-! where frames begin -/
theorem bytesF_sum (F : List Fr) (x : Fr) : (bytesF (F ++ [x])).length = (bytesF F).length + x.f1.length + 10 := by
  have e : bytesF [x] = frameB x.f0 x.f1 := List.append_nil _
  rw [bytesF_append, List.length_append, e, frameB_length]
  omega
theorem cutsFrom_get : ∀ (F : List Fr) (at_ j : Nat), j < F.length → (cutsFrom at_ F)[j]? = some (at_ + (bytesF (F.take (j + 1))).length)
  | [], _, _, h => absurd h (Nat.not_lt_zero _)
  | x :: F, at_, 0, _ => by
    have e : bytesF [x] = frameB x.f0 x.f1 := List.append_nil _
    show some (at_ + x.f1.length + 10) = some (at_ + (bytesF [x]).length)
    rw [e, frameB_length, Nat.add_assoc]
  | x :: F, at_, j + 1, h => by
    show (cutsFrom (at_ + x.f1.length + 10) F)[j]? = some (at_ + (bytesF (x :: F.take (j + 1))).length)
    rw [cutsFrom_get F _ j (by simpa using h), bytesF_cons, List.length_append, frameB_length]
    congr 1
    omega
theorem cutsL_length (F : List Fr) : (cutsL F).length = F.length + 1 := by
  unfold cutsL
  rw [List.length_map, List.length_cons, cutsFrom_length]
theorem cutsL_get (F : List Fr) (i : Nat) (h : i ≤ F.length) : (cutsL F)[i]? = some ((bytesF (F.take i)).length : Int) := by
  unfold cutsL
  rw [List.getElem?_map]
  cases i with
  | zero => rfl
  | succ i =>
    rw [List.getElem?_cons_succ, cutsFrom_get F 0 i (by omega), Nat.zero_add]
    rfl
theorem cutsL_rd (F : List Fr) (i : Nat) (h : i ≤ F.length) : rd (cutsL F) (i : Int) = ((bytesF (F.take i)).length : Int) := by
  unfold rd
  rw [Int.toNat_natCast, List.getD_eq_getElem?_getD, cutsL_get F i h]
  rfl
theorem take_cut (F : List Fr) (i : Nat) : (bytesF F).take (bytesF (F.take i)).length = bytesF (F.take i) := by
  have e : bytesF F = bytesF (F.take i) ++ bytesF (F.drop i) := by rw [← bytesF_append, List.take_append_drop]
  conv => lhs; arg 2; rw [e]
  rw [List.take_left]
theorem drop_cut (F : List Fr) (i : Nat) : (bytesF F).drop (bytesF (F.take i)).length = bytesF (F.drop i) := by
  have e : bytesF F = bytesF (F.take i) ++ bytesF (F.drop i) := by rw [← bytesF_append, List.take_append_drop]
  conv => lhs; arg 2; rw [e]
  rw [List.drop_left]
theorem mid_cut (F : List Fr) (i k : Nat) (h : i ≤ k) : ((bytesF F).take (bytesF (F.take k)).length).drop (bytesF (F.take i)).length = bytesF ((F.take k).drop i) := by
  rw [take_cut]
  have e : F.take i = (F.take k).take i := by rw [List.take_take, Nat.min_eq_left h]
  rw [e, drop_cut]
theorem cut_step (F : List Fr) (i : Nat) (h : i < F.length) : (bytesF (F.take (i + 1))).length = (bytesF (F.take i)).length + F[i].f1.length + 10 := by
  rw [List.take_add_one, List.getElem?_eq_getElem h]
  exact bytesF_sum _ _
theorem cut_le (F : List Fr) (i : Nat) : (bytesF (F.take i)).length ≤ (bytesF F).length := by
  have e : bytesF F = bytesF (F.take i) ++ bytesF (F.drop i) := by rw [← bytesF_append, List.take_append_drop]
  rw [e, List.length_append]
  omega
theorem cuts_flow (k : Nat) {b : Nat} (hb : b < 2 ^ 32) {ps : List (List Int)} (hp : BytesP ps) (hm : mayB ps = true) (hk : 11000 ≤ k) : flow_Cuts.f k (flowB b ps) = some (cutsL (framesF b ps), true) := by
  have hle := flowB_le hb hm
  rw [cuts_eq k _ (flowB_bytes hb hp hm) (by omega) (by omega), get_put hb hp hm, if_pos rfl, allL_flow hb hp hm]
end Go.Proofs.YtknkncdlcoglpaaDoor.FrFlow
