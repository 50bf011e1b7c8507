import Derived.Test.YtlcanmndeempfaaSchAwake
namespace Go.Proofs.Ytlcanmndeempfaa.Sch
open Go.RowKit Go.Proofs.Ytlcanmndeempfaa.PAll Go.Proofs.YtlcanmndeempfaaW.PrintWords Go.Proofs.YtlcanmndeempfaaW.PrintLast
open Go.Lib (encodeRune join)
/-! A text's length; few types; two texts. -/
theorem field_size {f : S40} (h : okF f) : (fieldT f).data.toList.length ≤ 36 := by
  have hs := okF_size h
  have hk := kindB_size f.f1 h.2.1 h.2.2.1
  have z : ∀ b : ByteArray, b.data.toList.length = b.size := fun b => by rw [Array.length_toList]; rfl
  unfold fieldT
  rw [ba_app, ba_app, ba_app, List.length_append, List.length_append, List.length_append, z, z, z, z]
  show f.f0.size + 1 + (kindB f.f1).size + f.f2.size ≤ 36
  omega
/-- few types, few fields of each -/
def fewB (T : List S34) : Bool := (T.all fun t => decide (t.f1.length ≤ 10)) && decide (T.length ≤ 10)
theorem few_loop (T : List S34) (hT : T.length ≤ 9223372036854775807) : ∀ (d i : Nat), i + d = T.length → ∀ k, d < k → foliatelaw06_Few.l0 k 10 (i : Int) T = some (((T.drop i).all fun t => decide (t.f1.length ≤ 10)) && decide (T.length ≤ 10))
  | 0, i, h, k, hk => by
    obtain ⟨k, rfl⟩ : ∃ q, k = q + 1 := ⟨k - 1, by omega⟩
    rw [foliatelaw06_Few.l0.eq_2, if_neg (by omega), List.drop_of_length_le (by omega)]
    have e : decide ((T.length : Int) ≤ 10) = decide (T.length ≤ 10) := by
      by_cases c : T.length ≤ 10
      · rw [decide_eq_true c, decide_eq_true (by omega)]
      · rw [decide_eq_false c, decide_eq_false (by omega)]
    rw [e]
    rfl
  | d + 1, i, h, k, hk => by
    obtain ⟨k, rfl⟩ : ∃ q, k = q + 1 := ⟨k - 1, by omega⟩
    have il : i < T.length := by omega
    have ih := few_loop T hT d (i + 1) (by omega) k (by omega)
    have ew : wrap64 ((i : Int) + 1) = ((i + 1 : Nat) : Int) := by unfold wrap64; omega
    rw [foliatelaw06_Few.l0.eq_2, if_pos (by omega), if_pos (by omega), rd34_at T i il, ew, ih, List.drop_eq_getElem_cons il, List.all_cons]
    by_cases c : (T[i]).f1.length ≤ 10
    · rw [if_neg (by omega), decide_eq_true c, Bool.true_and]
    · rw [if_pos (by omega), decide_eq_false c, Bool.false_and, Bool.false_and]
theorem few_eq (T : List S34) (hT : T.length ≤ 9223372036854775807) (k : Nat) (hk : T.length < k) : foliatelaw06_Few.f k T 10 = some (fewB T) := by
  have := few_loop T hT T.length 0 (by omega) k hk
  rw [List.drop_zero] at this
  exact this
theorem few_parts {T : List S34} (h : fewB T = true) : T.length ≤ 10 ∧ ∀ t ∈ T, t.f1.length ≤ 10 := by
  unfold fewB at h
  rw [Bool.and_eq_true, List.all_eq_true] at h
  exact ⟨of_decide_eq_true h.2, fun t ht => of_decide_eq_true (h.1 t ht)⟩
theorem same_few {a b : List S34} (h : fewB a = true) (k : Nat) (hk : 100 ≤ k) : schema_Same.f k a b = some (eqTs a b) := by
  obtain ⟨h1, h2⟩ := few_parts h
  exact same_eq a b (by omega) k (fun t ht => by have := h2 t ht; omega)
end Go.Proofs.Ytlcanmndeempfaa.Sch
