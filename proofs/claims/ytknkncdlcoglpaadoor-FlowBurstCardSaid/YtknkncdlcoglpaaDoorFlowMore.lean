import Derived.Test.YtknkncdlcoglpaaDoorFlowAwake
namespace Go.Proofs.YtknkncdlcoglpaaDoor.Flow
open Go.RowKit Go.Proofs.YtknkncdlcoglpaaDoor.PAll Go.Proofs.YtknkncdlcoglpaaDoorW.PrintWords Go.Proofs.YtknkncdlcoglpaaDoorW.PrintLast Go.Proofs.YtknkncdlcoglpaaDoor.Vari
open Go.Proofs.YtknkncdlcoglpaaDoor.Frame (frameB frameB_length allL allf_eq allL_frame allL_nil frame_bytes put_ok next_nat getP get_inv get_err allL_cons allL_err equal_eq)
/-! Nothing else is a flow's bytes: what is longer or shorter, and frames that are not where they were. -/
theorem get_longer {b : Nat} (hb : b < 2 ^ 32) {ps : List (List Int)} (hp : BytesP ps) (hm : mayB ps = true) {r : List Int} (hr : Bytes r) : (getQ (flowB b ps ++ r)).2.2 = 0 ↔ r = [] := by
  constructor
  · intro h
    obtain ⟨b', ps', h1, h2, h3, h4, _⟩ := getQ_inv ((flowB_bytes hb hp hm).append hr) h
    exact flow_prefix hb hp hm h1 h2 h3 hr h4.symm
  · rintro rfl
    rw [List.append_nil, get_put hb hp hm]
theorem get_shorter {b : Nat} (hb : b < 2 ^ 32) {ps : List (List Int)} (hp : BytesP ps) (hm : mayB ps = true) {k : Nat} (hk : k < (flowB b ps).length) : (getQ ((flowB b ps).take k)).2.2 ≠ 0 := by
  intro h
  have hB := flowB_bytes hb hp hm
  obtain ⟨b', ps', h1, h2, h3, h4, _⟩ := getQ_inv (fun x hx => hB x (List.mem_of_mem_take hx)) h
  have e : flowB b ps = flowB b' ps' ++ (flowB b ps).drop k := by rw [← h4, List.take_append_drop]
  have := flow_prefix h1 h2 h3 hb hp hm (fun x hx => hB x (List.mem_of_mem_drop hx)) e
  have hl := congrArg List.length this
  rw [List.length_drop, List.length_nil] at hl
  omega
theorem partsF_get : ∀ (ps : List (List Int)) (i j : Nat) (h : j < ps.length), (partsF i ps)[j]? = some ⟨2, pb (i + j) ++ ps[j]⟩
  | [], _, _, h => absurd h (Nat.not_lt_zero _)
  | p :: ps, i, 0, _ => rfl
  | p :: ps, i, j + 1, h => by
    show (partsF (i + 1) ps)[j]? = _
    rw [partsF_get ps (i + 1) j (by simpa using h), show i + 1 + j = i + (j + 1) by omega]
    rfl
theorem frames_at {b : Nat} {ps : List (List Int)} {j : Nat} (h : j < ps.length) : (framesF b ps)[j + 1]? = some ⟨2, pb j ++ ps[j]⟩ := by
  unfold framesF
  rw [List.getElem?_cons_succ, List.getElem?_append_left (by rw [partsF_length]; exact h), partsF_get ps 0 j h, Nat.zero_add]
theorem frames_end (b : Nat) (ps : List (List Int)) : (framesF b ps)[ps.length + 1]? = some (tailR ps.length) := by
  unfold framesF
  rw [List.getElem?_cons_succ, List.getElem?_append_right (by rw [partsF_length]; exact Nat.le_refl _), partsF_length, Nat.sub_self]
  rfl
theorem frames_zero (b : Nat) (ps : List (List Int)) : (framesF b ps)[0]? = some (headR b ps.length) := rfl
/-! where frames begin -/
theorem bytesF_sum (F : List Fr) (x : Fr) : (bytesF (F ++ [x])).length = (bytesF F).length + x.f1.length + 10 := by
  have e : bytesF [x] = frameB x.f0 x.f1 := List.append_nil _
  rw [bytesF_append, List.length_append, e, frameB_length]
  omega
theorem cutsFrom_get : ∀ (F : List Fr) (at_ j : Nat), j < F.length → (cutsFrom at_ F)[j]? = some (at_ + (bytesF (F.take (j + 1))).length)
  | [], _, _, h => absurd h (Nat.not_lt_zero _)
  | x :: F, at_, 0, _ => by
    have e : bytesF [x] = frameB x.f0 x.f1 := List.append_nil _
    show some (at_ + x.f1.length + 10) = some (at_ + (bytesF [x]).length)
    rw [e, frameB_length, Nat.add_assoc]
  | x :: F, at_, j + 1, h => by
    show (cutsFrom (at_ + x.f1.length + 10) F)[j]? = some (at_ + (bytesF (x :: F.take (j + 1))).length)
    rw [cutsFrom_get F _ j (by simpa using h), bytesF_cons, List.length_append, frameB_length]
    congr 1
    omega
theorem cutsL_length (F : List Fr) : (cutsL F).length = F.length + 1 := by
  unfold cutsL
  rw [List.length_map, List.length_cons, cutsFrom_length]
theorem cutsL_get (F : List Fr) (i : Nat) (h : i ≤ F.length) : (cutsL F)[i]? = some ((bytesF (F.take i)).length : Int) := by
  unfold cutsL
  rw [List.getElem?_map]
  cases i with
  | zero => rfl
  | succ i =>
    rw [List.getElem?_cons_succ, cutsFrom_get F 0 i (by omega), Nat.zero_add]
    rfl
theorem cutsL_rd (F : List Fr) (i : Nat) (h : i ≤ F.length) : rd (cutsL F) (i : Int) = ((bytesF (F.take i)).length : Int) := by
  unfold rd
  rw [Int.toNat_natCast, List.getD_eq_getElem?_getD, cutsL_get F i h]
  rfl
theorem drop_cut (F : List Fr) (i : Nat) : (bytesF F).drop (bytesF (F.take i)).length = bytesF (F.drop i) := by
  have e : bytesF F = bytesF (F.take i) ++ bytesF (F.drop i) := by rw [← bytesF_append, List.take_append_drop]
  conv => lhs; arg 2; rw [e]
  rw [List.drop_left]
theorem cut_step (F : List Fr) (i : Nat) (h : i < F.length) : (bytesF (F.take (i + 1))).length = (bytesF (F.take i)).length + F[i].f1.length + 10 := by
  rw [List.take_add_one, List.getElem?_eq_getElem h]
  exact bytesF_sum _ _
theorem cut_le (F : List Fr) (i : Nat) : (bytesF (F.take i)).length ≤ (bytesF F).length := by
  have e : bytesF F = bytesF (F.take i) ++ bytesF (F.drop i) := by rw [← bytesF_append, List.take_append_drop]
  rw [e, List.length_append]
  omega
theorem cuts_flow (k : Nat) {b : Nat} (hb : b < 2 ^ 32) {ps : List (List Int)} (hp : BytesP ps) (hm : mayB ps = true) (hk : 11000 ≤ k) : flow_Cuts.f k (flowB b ps) = some (cutsL (framesF b ps), true) := by
  have hle := flowB_le hb hm
  rw [cuts_eq k _ (flowB_bytes hb hp hm) (by omega) (by omega), get_put hb hp hm, if_pos rfl, allL_flow hb hp hm]
end Go.Proofs.YtknkncdlcoglpaaDoor.Flow
