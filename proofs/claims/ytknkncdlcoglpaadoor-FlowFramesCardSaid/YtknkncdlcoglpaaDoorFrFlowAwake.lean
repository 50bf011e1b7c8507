import Derived.Test.YtknkncdlcoglpaaDoorFrFlowLaws
namespace Go.Proofs.YtknkncdlcoglpaaDoor.FrFlow
open Go.RowKit Go.Proofs.YtknkncdlcoglpaaDoor.PFr Go.Proofs.YtknkncdlcoglpaaDoorW.PrintWords Go.Proofs.YtknkncdlcoglpaaDoorW.PrintLast Go.Proofs.YtknkncdlcoglpaaDoor.FrVari
open Go.Proofs.YtknkncdlcoglpaaDoor.FrFrame (frameB frameB_length allL)
/-! The laws' own example. -/
theorem bytesF_length : ∀ (F : List Fr), (bytesF F).length = (F.map fun x => x.f1.length + 10).sum
  | [] => rfl
  | x :: F => by
    rw [bytesF_cons, List.length_append, frameB_length, bytesF_length F]
    rfl
theorem partsF_sum : ∀ (ps : List (List Int)) (i : Nat), upto 200 ps → i + ps.length ≤ 100 → ((partsF i ps).map fun x => x.f1.length + 10).sum ≤ 211 * ps.length
  | [], _, _, _ => Nat.le_refl _
  | p :: ps, i, hu, hi => by
    rw [List.length_cons] at hi
    have ih := partsF_sum ps (i + 1) (fun q hq => hu q (List.mem_cons_of_mem _ hq)) (by omega)
    have h1 : (pb i).length = 1 := by rw [pb_one (by omega)]; rfl
    have h2 := hu p List.mem_cons_self
    have e : ((partsF i (p :: ps)).map fun x => x.f1.length + 10).sum = ((pb i ++ p).length + 10) + ((partsF (i + 1) ps).map fun x => x.f1.length + 10).sum := rfl
    rw [e, List.length_append, List.length_cons]
    omega
/-- a flow has at most so many bytes -/
theorem flowB_le {b : Nat} (hb : b < 2 ^ 32) {ps : List (List Int)} (hm : mayB ps = true) : (flowB b ps).length ≤ 9000 := by
  obtain ⟨hl, hu⟩ := may_iff.1 hm
  have h1 := head_len hb hl
  have h2 := partsF_sum ps 0 hu (by omega)
  have h3 := pb_len ps.length
  unfold flowB framesF
  rw [bytesF_length, List.map_cons, List.map_append, List.sum_cons, List.sum_append]
  have e1 : (headR b ps.length).f1 = nums [1, b, ps.length] := rfl
  have e2 : ([tailR ps.length].map fun x => x.f1.length + 10).sum = (pb ps.length).length + 10 := rfl
  rw [e1, e2]
  omega
theorem u32_nat {x : Int} (h : (Lit.int .u32 x).wf = true) : ∃ n : Nat, x = (n : Int) ∧ n < 2 ^ 32 := by
  have := Go.Proofs.YtknkncdlcoglpaaDoor.FrCrc.u32_of h
  exact ⟨x.toNat, by omega, by omega⟩
theorem rows_of {ps : List (List Int)} (h : ∀ y ∈ ps, ∀ z ∈ y, (Lit.int .u8 z).wf = true) : BytesP ps := fun p hp => bytes_of (h p hp)
theorem awake : ∃ m, ∀ k, m ≤ k → foliatelaw04_awake.f k = some true := by
  have hb5 : BytesP [[5]] := fun p hp => by
    rw [List.mem_singleton.1 hp]
    exact fun x hx => by rw [List.mem_singleton.1 hx]; decide
  have hm5 : mayB [[5]] = true := rfl
  have hB : Bytes (flowB 300 [[5]]) := flowB_bytes (by decide) hb5 hm5
  have hg : getQ (flowB 300 [[5]]) = (((300 : Nat) : Int), [[5]], 0) := get_put (by decide) hb5 hm5
  have ha := allL_flow (b := 300) (by decide) hb5 hm5
  have l0 : (flowB 0 []).length = 24 := by unfold flowB; rw [bytesF_length]; rfl
  have l1 : (flowB 300 [[5]]).length = 37 := by unfold flowB; rw [bytesF_length]; rfl
  refine ⟨2000, fun k hk => ?_⟩
  have p0 : flow_Put.f k 0 [] = some (flowB 0 [], 0) := put_flow k (by omega) 0 (by decide) [] rfl
  have p1 : flow_Put.f k 300 [[5]] = some (flowB 300 [[5]], 0) := put_flow k (by omega) 300 (by decide) [[5]] hm5
  have g1 : flow_Get.f k (flowB 300 [[5]]) = some (300, [[5]], 0) := by
    rw [getQ_eq k _ hB (by omega) (by omega), hg]
    rfl
  have c1 : flow_Cuts.f k (flowB 300 [[5]]) = some ([0, 14, 26, 37], true) := by
    rw [cuts_eq k _ hB (by omega) (by omega), hg, ha]
    rfl
  have s1 : flow_Same.f k 300 [[5]] 300 [[5]] = some true := by
    rw [same_eq k 300 300 [[5]] [[5]] (by decide) (fun p hp => by rw [List.mem_singleton.1 hp]; exact ⟨by decide, by show 2 ≤ k; omega⟩)]
    rfl
  unfold foliatelaw04_awake.f
  rw [p0, obind, p1, obind]
  dsimp only
  rw [g1, obind, c1, obind, l0, l1]
  dsimp only
  rw [if_pos rfl, if_pos (by decide), if_pos rfl, if_pos (by decide), if_pos rfl, if_pos rfl, if_pos (by decide), if_pos rfl, if_pos (by decide), if_pos (by decide), if_pos (by decide), may_eq, obind, hm5, if_pos rfl, s1, obind]
end Go.Proofs.YtknkncdlcoglpaaDoor.FrFlow
