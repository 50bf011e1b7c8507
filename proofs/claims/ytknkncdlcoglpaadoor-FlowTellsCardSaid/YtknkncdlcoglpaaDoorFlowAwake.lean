import Derived.Test.YtknkncdlcoglpaaDoorFlowLaws
namespace Go.Proofs.YtknkncdlcoglpaaDoor.Flow
open Go.RowKit Go.Proofs.YtknkncdlcoglpaaDoor.PAll Go.Proofs.YtknkncdlcoglpaaDoorW.PrintWords Go.Proofs.YtknkncdlcoglpaaDoorW.PrintLast Go.Proofs.YtknkncdlcoglpaaDoor.Vari
open Go.Proofs.YtknkncdlcoglpaaDoor.Frame (frameB frameB_length allL)
/-! The laws' own example. -/
theorem bytesF_length : ∀ (F : List Fr), (bytesF F).length = (F.map fun x => x.f1.length + 10).sum
  | [] => rfl
  | x :: F => by
    rw [bytesF_cons, List.length_append, frameB_length, bytesF_length F]
    rfl
theorem u32_nat {x : Int} (h : (Lit.int .u32 x).wf = true) : ∃ n : Nat, x = (n : Int) ∧ n < 2 ^ 32 := by
  have := Go.Proofs.YtknkncdlcoglpaaDoor.Crc.u32_of h
  exact ⟨x.toNat, by omega, by omega⟩
theorem rows_of {ps : List (List Int)} (h : ∀ y ∈ ps, ∀ z ∈ y, (Lit.int .u8 z).wf = true) : BytesP ps := fun p hp => bytes_of (h p hp)
theorem awake : ∃ m, ∀ k, m ≤ k → foliatelaw04_awake.f k = some true := by
  have hb5 : BytesP [[5]] := fun p hp => by
    rw [List.mem_singleton.1 hp]
    exact fun x hx => by rw [List.mem_singleton.1 hx]; decide
  have hm5 : mayB [[5]] = true := rfl
  have hB : Bytes (flowB 300 [[5]]) := flowB_bytes (by decide) hb5 hm5
  have hg : getQ (flowB 300 [[5]]) = (((300 : Nat) : Int), [[5]], 0) := get_put (by decide) hb5 hm5
  have ha := allL_flow (b := 300) (by decide) hb5 hm5
  have l0 : (flowB 0 []).length = 24 := by unfold flowB; rw [bytesF_length]; rfl
  have l1 : (flowB 300 [[5]]).length = 37 := by unfold flowB; rw [bytesF_length]; rfl
  refine ⟨2000, fun k hk => ?_⟩
  have p0 : flow_Put.f k 0 [] = some (flowB 0 [], 0) := put_flow k (by omega) 0 (by decide) [] rfl
  have p1 : flow_Put.f k 300 [[5]] = some (flowB 300 [[5]], 0) := put_flow k (by omega) 300 (by decide) [[5]] hm5
  have g1 : flow_Get.f k (flowB 300 [[5]]) = some (300, [[5]], 0) := by
    rw [getQ_eq k _ hB (by omega) (by omega), hg]
    rfl
  have c1 : flow_Cuts.f k (flowB 300 [[5]]) = some ([0, 14, 26, 37], true) := by
    rw [cuts_eq k _ hB (by omega) (by omega), hg, ha]
    rfl
  have s1 : flow_Same.f k 300 [[5]] 300 [[5]] = some true := by
    rw [same_eq k 300 300 [[5]] [[5]] (by decide) (fun p hp => by rw [List.mem_singleton.1 hp]; exact ⟨by decide, by show 2 ≤ k; omega⟩)]
    rfl
  unfold foliatelaw04_awake.f
  rw [p0, obind, p1, obind]
  dsimp only
  rw [g1, obind, c1, obind, l0, l1]
  dsimp only
  rw [if_pos rfl, if_pos (by decide), if_pos rfl, if_pos (by decide), if_pos rfl, if_pos rfl, if_pos (by decide), if_pos rfl, if_pos (by decide), if_pos (by decide), if_pos (by decide), may_eq, obind, hm5, if_pos rfl, s1, obind]
end Go.Proofs.YtknkncdlcoglpaaDoor.Flow
