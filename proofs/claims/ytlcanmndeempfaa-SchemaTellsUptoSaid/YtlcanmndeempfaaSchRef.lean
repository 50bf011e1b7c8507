import Derived.Test.YtlcanmndeempfaaSchMore
import Derived.Test.YtlcanmndeempfaaPAllx9
import Derived.Test.YtlcanmndeempfaaPAllx15
namespace Go.Proofs.Ytlcanmndeempfaa.Sch
open Go.RowKit Go.Proofs.Ytlcanmndeempfaa.PAll Go.Proofs.YtlcanmndeempfaaW.PrintWords Go.Proofs.YtlcanmndeempfaaW.PrintLast
/-! The document's own answers: places, and whether two are the same. -/
theorem ref_field_loop (n x : ByteArray) (fs : List S40) (hn : fs.length ≤ 9223372036854775807) : ∀ (d i : Nat), i + d = fs.length → ∀ k, d < k → foliateref06_Field.l0 k x (i : Int) n fs = some (placeOf (fun y => y.f0.toList == x.toList) (fs.drop i) i)
  | 0, i, h, k, hk => by
    obtain ⟨k, rfl⟩ : ∃ q, k = q + 1 := ⟨k - 1, by omega⟩
    rw [foliateref06_Field.l0.eq_2, if_neg (by omega), List.drop_of_length_le (by omega)]
    rfl
  | d + 1, i, h, k, hk => by
    obtain ⟨k, rfl⟩ : ∃ q, k = q + 1 := ⟨k - 1, by omega⟩
    have il : i < fs.length := by omega
    have ih := ref_field_loop n x fs hn d (i + 1) (by omega) k (by omega)
    have ew : wrap64 ((i : Int) + 1) = ((i + 1 : Nat) : Int) := by unfold wrap64; omega
    rw [foliateref06_Field.l0.eq_2, if_pos (by omega), if_pos (by omega), rd40_at fs i il, ew, ih, List.drop_eq_getElem_cons il, placeOf]
    by_cases c : ((fs[i]).f0).toList = x.toList
    · rw [if_pos c, if_pos (beq_iff_eq.2 c)]
    · rw [if_neg c, if_neg (fun h => c (beq_iff_eq.1 h))]
theorem ref_field (n x : ByteArray) (fs : List S40) (hn : fs.length ≤ 9223372036854775807) (k : Nat) (hk : fs.length < k) : foliateref06_Field.f k n fs x = some (fieldIdx fs x) := by
  have := ref_field_loop n x fs hn fs.length 0 (by omega) k hk
  rw [List.drop_zero] at this
  exact this
theorem ref_find_loop (x : ByteArray) (T : List S34) (hn : T.length ≤ 9223372036854775807) : ∀ (d i : Nat), i + d = T.length → ∀ k, d < k → foliateref06_Find.l0 k x (i : Int) T = some (placeOf (fun y => y.f0.toList == x.toList) (T.drop i) i)
  | 0, i, h, k, hk => by
    obtain ⟨k, rfl⟩ : ∃ q, k = q + 1 := ⟨k - 1, by omega⟩
    rw [foliateref06_Find.l0.eq_2, if_neg (by omega), List.drop_of_length_le (by omega)]
    rfl
  | d + 1, i, h, k, hk => by
    obtain ⟨k, rfl⟩ : ∃ q, k = q + 1 := ⟨k - 1, by omega⟩
    have il : i < T.length := by omega
    have ih := ref_find_loop x T hn d (i + 1) (by omega) k (by omega)
    have ew : wrap64 ((i : Int) + 1) = ((i + 1 : Nat) : Int) := by unfold wrap64; omega
    rw [foliateref06_Find.l0.eq_2, if_pos (by omega), if_pos (by omega), rd34_at T i il, ew, ih, List.drop_eq_getElem_cons il, placeOf]
    by_cases c : ((T[i]).f0).toList = x.toList
    · rw [if_pos c, if_pos (beq_iff_eq.2 c)]
    · rw [if_neg c, if_neg (fun h => c (beq_iff_eq.1 h))]
theorem ref_find (x : ByteArray) (T : List S34) (hn : T.length ≤ 9223372036854775807) (k : Nat) (hk : T.length < k) : foliateref06_Find.f k T x = some (nameIdx T x) := by
  have := ref_find_loop x T hn T.length 0 (by omega) k hk
  rw [List.drop_zero] at this
  exact this
theorem ref_fields_loop (a b : List S40) (hl : a.length = b.length) (hn : a.length < 1000000) : ∀ (d i : Nat), i + d = a.length → ∀ k, d < k → foliateref06_fields.l0 k a b (i : Int) = some (eqFs (a.drop i) (b.drop i))
  | 0, i, h, k, hk => by
    obtain ⟨k, rfl⟩ : ∃ q, k = q + 1 := ⟨k - 1, by omega⟩
    rw [foliateref06_fields.l0.eq_2, if_neg (by omega), List.drop_of_length_le (by omega), List.drop_of_length_le (by omega)]
    rfl
  | d + 1, i, h, k, hk => by
    obtain ⟨k, rfl⟩ : ∃ q, k = q + 1 := ⟨k - 1, by omega⟩
    have il : i < a.length := by omega
    have jl : i < b.length := by omega
    have ih := ref_fields_loop a b hl hn d (i + 1) (by omega) k (by omega)
    rw [foliateref06_fields.l0.eq_2, if_pos (by omega), if_pos (by omega), if_pos (by omega), rd40_at a i il, rd40_at b i jl, List.drop_eq_getElem_cons il, List.drop_eq_getElem_cons jl, next_i i (by omega), ih]
    have e : (!(((a[i]).f0).toList == ((b[i]).f0).toList) || (!((a[i]).f1 == (b[i]).f1) || (!(((a[i]).f2).toList == ((b[i]).f2).toList)))) = !(eqF a[i] b[i]) := by
      unfold eqF
      rw [Bool.not_and, Bool.not_and]
    rw [e, eqFs_cons]
    cases eqF a[i] b[i] <;> rfl
theorem ref_fields (a b : List S40) (hn : a.length < 1000000) (k : Nat) (hk : a.length < k) : foliateref06_fields.f k a b = some (eqFs a b) := by
  unfold foliateref06_fields.f
  by_cases c : a.length = b.length
  · rw [if_pos (by omega)]
    exact ref_fields_loop a b c hn a.length 0 (by omega) k hk
  · rw [if_neg (by omega), eqFs_len a b c]
theorem eqTs_cons (x y : S34) (a b : List S34) : eqTs (x :: a) (y :: b) = (eqT x y && eqTs a b) := rfl
theorem ref_same_loop (a b : List S34) (hl : a.length = b.length) (hn : a.length < 1000000) (M : Nat) (hf : ∀ t ∈ a, t.f1.length < 1000000 ∧ t.f1.length < M) : ∀ (d i : Nat), i + d = a.length → ∀ k, d + M < k → foliateref06_Same.l0 k (i : Int) a b = some (eqTs (a.drop i) (b.drop i))
  | 0, i, h, k, hk => by
    obtain ⟨k, rfl⟩ : ∃ q, k = q + 1 := ⟨k - 1, by omega⟩
    rw [foliateref06_Same.l0.eq_2, if_neg (by omega), List.drop_of_length_le (by omega), List.drop_of_length_le (by omega)]
    rfl
  | d + 1, i, h, k, hk => by
    obtain ⟨k, rfl⟩ : ∃ q, k = q + 1 := ⟨k - 1, by omega⟩
    have il : i < a.length := by omega
    have jl : i < b.length := by omega
    have ih := ref_same_loop a b hl hn M hf d (i + 1) (by omega) k (by omega)
    have hx := hf a[i] (List.getElem_mem il)
    rw [foliateref06_Same.l0.eq_2, if_pos (by omega), if_pos (by omega), if_pos (by omega), rd34_at a i il, rd34_at b i jl, ref_fields _ _ hx.1 k (by omega), obindS, List.drop_eq_getElem_cons il, List.drop_eq_getElem_cons jl, next_i i (by omega), ih, eqTs_cons]
    unfold eqT
    cases eqFs (a[i]).f1 (b[i]).f1 with
    | false =>
      rw [Bool.and_false]
      rfl
    | true =>
      rw [if_pos rfl, Bool.and_true]
      by_cases c : ((a[i]).f0).toList = ((b[i]).f0).toList
      · rw [if_pos c, beq_iff_eq.2 c, Bool.true_and]
      · rw [if_neg c, beq_eq_false_iff_ne.2 c, Bool.false_and]
theorem ref_same (a b : List S34) (hn : a.length < 1000000) (M : Nat) (hf : ∀ t ∈ a, t.f1.length < 1000000 ∧ t.f1.length < M) (k : Nat) (hk : a.length + M < k) : foliateref06_Same.f k a b = some (eqTs a b) := by
  unfold foliateref06_Same.f
  by_cases c : a.length = b.length
  · rw [if_pos (by omega)]
    exact ref_same_loop a b c hn M hf a.length 0 (by omega) k hk
  · rw [if_neg (by omega), eqTs_len a b c]
end Go.Proofs.Ytlcanmndeempfaa.Sch
