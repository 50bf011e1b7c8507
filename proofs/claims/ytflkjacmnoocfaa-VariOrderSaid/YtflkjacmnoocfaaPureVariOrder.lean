/- For every two numbers: alike, their bytes are alike; of as many bytes, the greater one is greater at the last byte at which they differ. -/
import Derived.Test.YtflkjacmnoocfaaVariAwake
import Derived.Test.YtflkjacmnoocfaaPAllx14
namespace Go.Proofs.Ytflkjacmnoocfaa.Pure
open Go.RowKit Go.Proofs.Ytflkjacmnoocfaa.PAll Go.Proofs.YtflkjacmnoocfaaW.PrintWords Go.Proofs.YtflkjacmnoocfaaW.PrintLast Go.Proofs.YtflkjacmnoocfaaW.PrintMore Go.Proofs.Ytflkjacmnoocfaa.Vari
theorem rd_zero (c : Int) (t : List Int) : rd (c :: t) ((0 : Nat) : Int) = c := rfl
theorem rd_succ (c : Int) (t : List Int) (i : Nat) : rd (c :: t) ((i + 1 : Nat) : Int) = rd t (i : Int) := by
  unfold rd
  rw [show ((i + 1 : Nat) : Int).toNat = i + 1 from by omega, show ((i : Nat) : Int).toNat = i from by omega]
  rfl
theorem P_order : ∀ (m a b : Nat), (P m a).length = (P m b).length → a ≠ b → ∃ i, i < (P m a).length ∧ (∀ j, i < j → j < (P m a).length → rd (P m a) (j : Int) = rd (P m b) (j : Int)) ∧ rd (P m a) (i : Int) ≠ rd (P m b) (i : Int) ∧ (rd (P m a) (i : Int) < rd (P m b) (i : Int) ↔ a < b)
  | 0, a, b, _, hne => by
    refine ⟨0, by simp [P], fun j h1 h2 => by simp [P] at h2; omega, ?_, ?_⟩
    · simp only [P, rd_zero]; omega
    · simp only [P, rd_zero]; omega
  | m + 1, a, b, hl, hne => by
    by_cases ha : a < 128
    · by_cases hb : b < 128
      · rw [P_small _ _ ha, P_small _ _ hb]
        refine ⟨0, by simp, fun j h1 h2 => by simp at h2; omega, ?_, ?_⟩
        · simp only [rd_zero]; omega
        · simp only [rd_zero]; omega
      · rw [P_small _ _ ha, P_big _ _ hb] at hl
        have := P_len m (b / 128)
        simp only [List.length_cons, List.length_nil] at hl
        omega
    · by_cases hb : b < 128
      · rw [P_small _ _ hb, P_big _ _ ha] at hl
        have := P_len m (a / 128)
        simp only [List.length_cons, List.length_nil] at hl
        omega
      · rw [P_big _ _ ha, P_big _ _ hb] at hl ⊢
        simp only [List.length_cons] at hl ⊢
        by_cases hd : a / 128 = b / 128
        · refine ⟨0, by omega, fun j h1 h2 => ?_, ?_, ?_⟩
          · obtain ⟨j, rfl⟩ : ∃ j', j = j' + 1 := ⟨j - 1, by omega⟩
            rw [rd_succ, rd_succ, hd]
          · simp only [rd_zero]; omega
          · simp only [rd_zero]; omega
        · obtain ⟨i, h1, h2, h3, h4⟩ := P_order m (a / 128) (b / 128) (by omega) hd
          refine ⟨i + 1, by omega, fun j h5 h6 => ?_, ?_, ?_⟩
          · obtain ⟨j, rfl⟩ : ∃ j', j = j' + 1 := ⟨j - 1, by omega⟩
            rw [rd_succ, rd_succ]
            exact h2 j (by omega) (by omega)
          · rw [rd_succ, rd_succ]; exact h3
          · rw [rd_succ, rd_succ, h4]; omega
theorem order_loop (x0 x1 : Int) (A B : List Int) (hl : A.length = B.length) (hA : A.length < 1000) (i0 : Nat) (hi0 : i0 < A.length) (heq : ∀ j, i0 < j → j < A.length → rd A (j : Int) = rd B (j : Int)) (hne : rd A (i0 : Int) ≠ rd B (i0 : Int)) (hlt : rd A (i0 : Int) < rd B (i0 : Int) ↔ x0 < x1) :
    ∀ (d k : Nat), i0 + d < A.length → d + 1 ≤ k → foliatelaw01_VariOrder.l0 k x0 x1 A B ((i0 + d : Nat) : Int) = some true
  | 0, k, hd, hk => by
    obtain ⟨k, rfl⟩ : ∃ k', k = k' + 1 := ⟨k - 1, by omega⟩
    simp only [Nat.add_zero]
    have fin : (decide (rd A (i0 : Int) < rd B (i0 : Int)) == decide (x0 < x1)) = true := by
      by_cases h : x0 < x1
      · simp [h, hlt.mpr h]
      · have : ¬ rd A (i0 : Int) < rd B (i0 : Int) := fun h' => h (hlt.mp h')
        simp [h, this]
    rw [foliatelaw01_VariOrder.l0]
    by_cases h : (i0 : Int) > 0
    · rw [if_pos h, if_pos (by omega), if_pos (by omega), if_pos (by omega), if_neg hne, fin]
    · rw [if_neg h, if_pos (by omega), if_pos (by omega), if_pos (by omega), fin]
  | d + 1, k, hd, hk => by
    obtain ⟨k, rfl⟩ : ∃ k', k = k' + 1 := ⟨k - 1, by omega⟩
    have e : wrap64 (((i0 + (d + 1) : Nat) : Int) - 1) = ((i0 + d : Nat) : Int) := by unfold wrap64; omega
    rw [foliatelaw01_VariOrder.l0, if_pos (by omega), if_pos (by omega), if_pos (by omega), if_pos (by omega), if_pos (heq _ (by omega) hd), e]
    exact order_loop x0 x1 A B hl hA i0 hi0 heq hne hlt d k (by omega) (by omega)
theorem VariOrder : foliatelaw01_VariOrder.Pure := by
  intro a0 a1 w0 w1
  obtain ⟨n, rfl, hn⟩ := u64_of w0
  obtain ⟨m, rfl, hm⟩ := u64_of w1
  obtain ⟨K, hK⟩ : ∃ K : Nat, K = 1000 := ⟨_, rfl⟩
  refine ⟨K + 3, ?_⟩
  have hp := pb_len n
  unfold foliatelaw01_VariOrder.f
  rw [awake (K + 3) (by omega), put_eq n _ hn (by omega), put_eq m _ hm (by omega)]
  simp only [obind, if_true]
  by_cases c : n = m
  · subst c
    simp [foliatelaw01_VariOrder.j0]
  · have hnm : ¬ (n : Int) = (m : Int) := by omega
    by_cases hl : ((pb n).length : Int) = ((pb m).length : Int)
    · have hl' : (pb n).length = (pb m).length := by omega
      obtain ⟨i, h1, h2, h3, h4⟩ := P_order 9 n m hl' c
      replace h1 : i < (pb n).length := h1
      have e : wrap64 (((pb n).length : Int) - 1) = ((i + ((pb n).length - 1 - i) : Nat) : Int) := by unfold wrap64; omega
      rw [if_pos hl, foliatelaw01_VariOrder.j0, if_neg (by simp [hnm]), e]
      exact order_loop (n : Int) (m : Int) (pb n) (pb m) hl' (by omega) i h1 h2 h3 (by rw [h4]; omega) _ _ (by omega) (by omega)
    · rw [if_neg hl, foliatelaw01_VariOrder.j0, if_pos rfl, if_pos rfl, if_neg hnm]
end Go.Proofs.Ytflkjacmnoocfaa.Pure
