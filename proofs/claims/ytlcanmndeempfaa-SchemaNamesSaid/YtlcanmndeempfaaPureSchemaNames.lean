/- For every schema that may be, every place of a type and of a field, and every name: the type's own name is found at its place, and the field's at its own; and what a name is found at, among the types or the type's fields, has that name. Of more than 10 types, or fields of a type, nothing is asked. -/
import Derived.Test.YtlcanmndeempfaaNmSchMore
import Derived.Test.YtlcanmndeempfaaPNmx9
namespace Go.Proofs.Ytlcanmndeempfaa.Pure
open Go.RowKit Go.Proofs.Ytlcanmndeempfaa.PNm Go.Proofs.YtlcanmndeempfaaW.PrintWords Go.Proofs.YtlcanmndeempfaaW.PrintLast Go.Proofs.Ytlcanmndeempfaa.NmSch
theorem place_spec {α : Type} (p : α → Bool) : ∀ (L : List α) (i : Nat), placeOf p L i = -1 ∨ ∃ (m : Nat) (hm : m < L.length), placeOf p L i = ((i + m : Nat) : Int) ∧ p L[m] = true
  | [], _ => .inl rfl
  | x :: t, i => by
    rw [placeOf]
    by_cases c : p x = true
    · rw [if_pos c]
      exact .inr ⟨0, by simp, rfl, c⟩
    · rw [if_neg c]
      rcases place_spec p t (i + 1) with h | ⟨m, hm, h1, h2⟩
      · exact .inl h
      · exact .inr ⟨m + 1, by simpa using hm, by rw [h1]; congr 1; omega, h2⟩
theorem names_same {a b : ByteArray} (h : (a.toList == b.toList) = true) : a.toList = b.toList := eq_of_beq h
theorem SchemaNames (a : List S34) (i j : Int) (n : ByteArray) (sa : smallN a) (la : a.length ≤ 9223372036854775807) : ∃ k, foliatelaw06_SchemaNames.f k a i j n = some true := by
  obtain ⟨m, aw⟩ := awake
  refine ⟨m + 1000 + a.length + 1, ?_⟩
  obtain ⟨q, hq⟩ : ∃ q, q = m + 1000 + a.length := ⟨_, rfl⟩
  rw [← hq]
  have triv : foliatelaw06_SchemaNames.j0 (q + 1) i j n true true a = some true := by rw [foliatelaw06_SchemaNames.j0.eq_2, if_pos rfl]
  unfold foliatelaw06_SchemaNames.f
  rw [aw _ (by omega), obindS, few_eq a la _ (by omega), obindS, if_pos rfl]
  cases fa : fewB a with
  | false => exact triv
  | true =>
  rw [if_pos rfl, may_eq a sa _ (by omega), obindS]
  cases ma : mayB a with
  | false => exact triv
  | true =>
  rw [if_pos rfl]
  by_cases c0 : i < 0
  · rw [if_pos c0]
    exact triv
  rw [if_neg c0]
  by_cases c1 : i ≥ (a.length : Int)
  · rw [decide_eq_true c1]
    exact triv
  rw [decide_eq_false c1]
  obtain ⟨I, rfl⟩ := Int.eq_ofNat_of_zero_le (show 0 ≤ i by omega)
  have hI : I < a.length := by omega
  obtain ⟨_, h4, hp⟩ := may_parts ma
  obtain ⟨_, hi, h5, hf⟩ := hp I hI
  have er := rd34_at a I hI
  have eF : ∀ x, schema_Find.f a x = some (nameIdx a x) := fun x => by
    unfold schema_Find.f
    rw [if_pos (by omega)]
    rfl
  have eG : ∀ y x, schema_Field.f y (a[I]).f1 x = some (fieldIdx (a[I]).f1 x) := fun y x => by
    unfold schema_Field.f
    rw [if_pos (by omega)]
    rfl
  rw [foliatelaw06_SchemaNames.j0.eq_2, if_neg (by decide), if_pos (by omega), if_pos (by omega), eF, obindS]
  simp only [er]
  rw [eG, obindS, eF, hi, obindS, if_pos rfl]
  have hl : (if j < 0 then (some true) else (if j ≥ (((a[I]).f1).length : Int) then (some true) else (if 0 ≤ j then (if j < (((a[I]).f1).length : Int) then ((schema_Field.f ((a[I]).f0) ((a[I]).f1) ((rd_T40 ((a[I]).f1) j).f0)).bind fun t170 => (some (t170 == j))) else (none)) else (none)))) = some true := by
    by_cases d0 : j < 0
    · rw [if_pos d0]
    · by_cases d1 : j ≥ (((a[I]).f1).length : Int)
      · rw [if_neg d0, if_pos d1]
      · obtain ⟨J, rfl⟩ := Int.eq_ofNat_of_zero_le (show 0 ≤ j by omega)
        have hJ : J < (a[I]).f1.length := by omega
        have hx := fieldsB_at a (a[I]).f1 (a[I]).f1 0 hf J hJ
        rw [Nat.zero_add] at hx
        rw [if_neg d0, if_neg d1, if_pos (by omega), if_pos (by omega), rd40_at _ J hJ, eG, hx, obindS, beq_self_eq_true]
  rw [hl]
  have h2 : (if fieldIdx (a[I]).f1 n ≥ 0 then (if fieldIdx (a[I]).f1 n ≥ (((a[I]).f1).length : Int) then (none) else (if 0 ≤ fieldIdx (a[I]).f1 n then (if fieldIdx (a[I]).f1 n < (((a[I]).f1).length : Int) then (if ((rd_T40 ((a[I]).f1) (fieldIdx (a[I]).f1 n)).f0).toList = n.toList then (some true) else (none)) else (none)) else (none))) else (some true)) = some true := by
    rcases place_spec (fun y => y.f0.toList == n.toList) (a[I]).f1 0 with h | ⟨J, hJ, h, he⟩
    · have h' : fieldIdx (a[I]).f1 n = -1 := h
      rw [h', if_neg (by decide)]
    · have h' : fieldIdx (a[I]).f1 n = ((J : Nat) : Int) := by rw [← Nat.zero_add J]; exact h
      rw [h', if_pos (by omega), if_neg (by omega), if_pos (by omega), if_pos (by omega), rd40_at _ J hJ, if_pos (names_same he)]
  rw [h2]
  rcases place_spec (fun y => y.f0.toList == n.toList) a 0 with h | ⟨J, hJ, h, he⟩
  · have h' : nameIdx a n = -1 := h
    rw [h', if_neg (by decide)]
  · have h' : nameIdx a n = ((J : Nat) : Int) := by rw [← Nat.zero_add J]; exact h
    rw [h', if_pos (by omega), if_neg (by omega), if_pos (by omega), if_pos (by omega), rd34_at a J hJ, if_pos (names_same he)]
end Go.Proofs.Ytlcanmndeempfaa.Pure
