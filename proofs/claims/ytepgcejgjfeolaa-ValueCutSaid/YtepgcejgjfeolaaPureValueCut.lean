/- No beginning of the bytes of a value that fits, but all of them, is read as one. -/
import Derived.Test.YtepgcejgjfeolaaVal
import Derived.Test.YtepgcejgjfeolaaPAllx16
namespace Go.Proofs.Ytepgcejgjfeolaa.Pure
open Go.RowKit Go.Proofs.Ytepgcejgjfeolaa.PAll Go.Proofs.YtepgcejgjfeolaaW.PrintWords Go.Proofs.YtepgcejgjfeolaaW.PrintLast Go.Proofs.YtepgcejgjfeolaaW.PrintMore Go.Proofs.Ytepgcejgjfeolaa.Vari Go.Proofs.Ytepgcejgjfeolaa.Val
theorem g_nil : g 0 0 [] = (0, 0) := rfl
theorem get_none {K : Nat} {a c : ByteArray} {k : Int} {l : List Int} (hb : Bytes l) (hl : l.length < 1000) (hK : 3000 ≤ K) (h : g 0 0 l = (0, 0)) : value_Get.f K a k c l = some (0, (⟨#[]⟩ : ByteArray), 0, 0, false) := by
  unfold value_Get.f
  rw [get_eq l K hb (by omega) (by omega), h]
  simp [obind]
theorem bytesOf_bytes (S : ByteArray) : Bytes (bytesOf S) := fun x hx => by
  unfold bytesOf at hx
  obtain ⟨b, _, rfl⟩ := List.mem_map.1 hx
  have := b.toNat_lt
  omega
theorem ValueCut (a0_0 : ByteArray) (a0_1 : Int) (a0_2 : ByteArray) (w0_1 : (Lit.int .i64 a0_1).wf = true) (a1_0 : Int) (a1_1 : ByteArray) (a1_2 : Int) (w1_0 : (Lit.int .i64 a1_0).wf = true) (w1_2 : (Lit.int .i64 a1_2).wf = true) (a2 : Int) (w2 : (Lit.int .i64 a2).wf = true) :
    ∃ k, foliatelaw07_ValueCut.f k a0_0 a0_1 a0_2 a1_0 a1_1 a1_2 a2 = some true := by
  have hN := i64_of w1_0
  obtain ⟨K, hK⟩ : ∃ K : Nat, K = 3000 := ⟨_, rfl⟩
  refine ⟨K, ?_⟩
  unfold foliatelaw07_ValueCut.f
  rw [awake K (by omega)]
  simp only [obind]
  cases hf : fitsV a0_1 a1_0 a1_1 a1_2 with
  | false =>
    rw [put_no _ _ K hf]
    simp [obind]
  | true =>
    rw [put_yes _ _ K (by omega) hN hf]
    simp only [obind, if_true]
    by_cases c1 : (a1_1.size : Int) > 300
    · rw [if_pos c1]
    rw [if_neg c1]
    by_cases c2 : a2 < 0
    · rw [if_pos c2]
    rw [if_neg c2]
    by_cases c3 : a2 ≥ ((V a0_1 a1_0 a1_1 a1_2).length : Int)
    · rw [if_pos c3]
    rw [if_neg c3, if_pos (by omega), if_pos (by omega)]
    have done : ∀ l, Bytes l → l.length < 1000 → g 0 0 l = (0, 0) → ((value_Get.f K a0_0 a0_1 a0_2 l).bind fun bt278 => (if bt278.2.2.2.2 = true then (some false) else (some (bt278.2.2.2.1 == 0)))) = some true := by
      intro l h1 h2 h3
      rw [get_none h1 h2 (by omega) h3]
      simp [obind]
    by_cases h4 : a0_1 = 4
    · subst h4
      have hs : a1_1.size ≤ 12 := by
        rw [fits_text] at hf
        by_cases c : a1_0 = 0 ∧ a1_2 = 0
        · rw [if_pos c] at hf; have := of_decide_eq_true hf; omega
        · rw [if_neg c] at hf; exact absurd hf (by simp)
      have hV : V 4 a1_0 a1_1 a1_2 = (a1_1.size : Int) :: bytesOf a1_1 := by
        unfold V
        rw [if_pos rfl]
        show P 9 a1_1.size ++ bytesOf a1_1 = _
        rw [P_small _ _ (by omega)]; rfl
      have hbs := bytesOf_bytes a1_1
      have hbl := bytesOf_length a1_1
      rw [hV] at c3 ⊢
      obtain ⟨k, hk⟩ : ∃ k : Nat, a2.toNat = k := ⟨_, rfl⟩
      rw [hk]
      cases k with
      | zero => exact done [] (fun x hx => by simp at hx) (by simp) g_nil
      | succ k =>
        simp only [List.length_cons] at c3
        have hl : ((bytesOf a1_1).take k).length = k := by rw [List.length_take]; omega
        have hB : Bytes ((a1_1.size : Int) :: (bytesOf a1_1).take k) := fun x hx => by
          rcases List.mem_cons.1 hx with rfl | hx
          · omega
          · exact hbs.take k x hx
        have hgg : g 0 0 ((a1_1.size : Int) :: (bytesOf a1_1).take k) = ((a1_1.size : Int), 1) := by
          have : g 0 0 (P 9 a1_1.size ++ (bytesOf a1_1).take k) = ((a1_1.size : Int), ((P 9 a1_1.size).length : Int)) := g_pb a1_1.size ((bytesOf a1_1).take k) (Nat.lt_of_le_of_lt hs (by decide))
          rw [P_small _ _ (by omega)] at this
          simpa using this
        have e1 : wrap64 ((((a1_1.size : Int) :: (bytesOf a1_1).take k).length : Int) - 1) = (k : Int) := by
          rw [List.length_cons, hl]; unfold wrap64; omega
        have e2 : IntKind.u64.wrap (k : Int) = (k : Int) := by rw [wrap_u64]; omega
        rw [List.take_succ_cons]
        unfold value_Get.f
        rw [get_eq _ K hB (by rw [List.length_cons, hl]; omega) (by rw [List.length_cons, hl]; omega), hgg]
        simp only [obind]
        rw [if_neg (by decide), if_pos trivial, e1, e2, if_pos (by omega)]
        simp [obind]
    · by_cases h5 : a0_1 = 5
      · subst h5
        have hs : -1 ≤ a1_2 ∧ a1_2 ≤ 1073741824 := by
          rw [fitsv_ref] at hf
          by_cases c : a1_0 = 0 ∧ a1_1.toList = []
          · rw [if_pos c] at hf; simpa using hf
          · rw [if_neg c] at hf; exact absurd hf (by simp)
        have hV : V 5 a1_0 a1_1 a1_2 = pb (a1_2 + 1).toNat := by unfold V; rw [if_neg (by decide), if_pos rfl]
        have hp := pb_len (a1_2 + 1).toNat
        rw [hV] at c3 ⊢
        exact done _ ((pb_bytes (by omega)).take _) (by rw [List.length_take]; omega) (g_cut _ _ (by omega) (by omega))
      · have hz := Z_range a1_0 hN.1 hN.2
        have hV : V a0_1 a1_0 a1_1 a1_2 = pb (Z a1_0).toNat := by unfold V; rw [if_neg h4, if_neg h5]
        have hp := pb_len (Z a1_0).toNat
        rw [hV] at c3 ⊢
        exact done _ ((pb_bytes (by omega)).take _) (by rw [List.length_take]; omega) (g_cut _ _ (by omega) (by omega))
end Go.Proofs.Ytepgcejgjfeolaa.Pure
