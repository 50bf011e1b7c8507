import Derived.Test.YtlcanmndeempfaaMoSchRead
namespace Go.Proofs.Ytlcanmndeempfaa.MoSch
open Go.RowKit Go.Proofs.Ytlcanmndeempfaa.PMo Go.Proofs.YtlcanmndeempfaaW.PrintWords Go.Proofs.YtlcanmndeempfaaW.PrintLast
/-! Which schemas may be, in plain words. -/
def nameIdx (T : List S34) (n : ByteArray) : Int := placeOf (fun y => y.f0.toList == n.toList) T 0
def fieldIdx (fs : List S40) (n : ByteArray) : Int := placeOf (fun y => y.f0.toList == n.toList) fs 0
def fieldB (T : List S34) (f : S40) : Bool := (if f.f1 = 5 then !(nameIdx T f.f2 == -1) else f.f2.toList.isEmpty) && (nameB f.f0 && (decide (f.f1 ≥ 0) && decide (f.f1 < 6)))
def fieldsB (T : List S34) (all : List S40) : List S40 → Nat → Bool
  | [], _ => true
  | f :: fs, j => (fieldB T f && (fieldIdx all f.f0 == (j : Int))) && fieldsB T all fs (j + 1)
def typeB (T : List S34) (t : S34) (i : Nat) : Bool := ((nameB t.f0 && (nameIdx T t.f0 == (i : Int))) && decide (t.f1.length ≤ 5)) && fieldsB T t.f1 t.f1 0
def typesB (T : List S34) : List S34 → Nat → Bool
  | [], _ => true
  | t :: L, i => typeB T t i && typesB T L (i + 1)
def mayB (T : List S34) : Bool := (decide (1 ≤ T.length) && decide (T.length ≤ 4)) && typesB T T 0
/-- names that a computer holds -/
def smallN (T : List S34) : Prop := ∀ t ∈ T, t.f0.size ≤ 9223372036854775807 ∧ ∀ f ∈ t.f1, f.f0.size ≤ 9223372036854775807
theorem obindS {α β : Type} (a : α) (g : α → Option β) : (some a).bind g = g a := rfl
theorem field_eq (T : List S34) (hT : T.length ≤ 1000000) (f : S40) (hf : f.f0.size ≤ 9223372036854775807) : schema_field.f T f.f0 f.f1 f.f2 = some (fieldB T f) := by
  have hn := may_name f.f0 hf
  have e : schema_Find.f T f.f2 = some (nameIdx T f.f2) := by
    unfold schema_Find.f
    rw [if_pos hT]
    rfl
  have tail : (name_May.f f.f0).bind (fun t105 => (if t105 = true then (if f.f1 ≥ 0 then (some (decide (f.f1 < 6))) else (some false)) else (some false))) = some (nameB f.f0 && (decide (f.f1 ≥ 0) && decide (f.f1 < 6))) := by
    rw [hn, obindS]
    cases nameB f.f0 with
    | false => rfl
    | true =>
      rw [if_pos rfl]
      by_cases c : f.f1 ≥ 0
      · rw [if_pos c, decide_eq_true c]
        rfl
      · rw [if_neg c, decide_eq_false c]
        rfl
  unfold schema_field.f fieldB
  by_cases c : f.f1 = 5
  · rw [if_pos c, if_pos c, e, obindS]
    by_cases c2 : nameIdx T f.f2 = -1
    · rw [if_pos c2, c2]
      rfl
    · rw [if_neg c2, tail, beq_eq_false_iff_ne.2 c2]
      rfl
  · rw [if_neg c, if_neg c]
    by_cases c2 : f.f2.toList = []
    · rw [if_pos c2, tail, c2]
      rfl
    · rw [if_neg c2]
      cases h : f.f2.toList with
      | nil => exact absurd h c2
      | cons a b => rfl
theorem next_i (i : Nat) (h : i < 1000000) : wrap64 ((i : Int) + 1) = ((i + 1 : Nat) : Int) := by unfold wrap64; omega
theorem rd34_at (T : List S34) (i : Nat) (h : i < T.length) : rd_T34 T (i : Int) = T[i] := by
  unfold rd_T34
  rw [Int.toNat_natCast, List.getD_eq_getElem?_getD, List.getElem?_eq_getElem h]
  rfl
theorem rd40_at (T : List S40) (i : Nat) (h : i < T.length) : rd_T40 T (i : Int) = T[i] := by
  unfold rd_T40
  rw [Int.toNat_natCast, List.getD_eq_getElem?_getD, List.getElem?_eq_getElem h]
  rfl
theorem may_fields (T : List S34) (hT : T.length ≤ 1000000) (i : Nat) (hi : i < 1000000) (x19 : Int) (n : ByteArray) (fs : List S40) (h5 : fs.length ≤ 5) (hf : ∀ f ∈ fs, f.f0.size ≤ 9223372036854775807) (K : Nat) (R : Option Bool) (hR : ∀ k, K ≤ k → schema_May.l0 k T x19 ((i + 1 : Nat) : Int) T = R) :
    ∀ (d j : Nat), j + d = fs.length → ∀ k, K + 1 + d ≤ k → schema_May.l1 k T x19 (i : Int) fs (fs.length : Int) (j : Int) T n fs = if fieldsB T fs (fs.drop j) j = true then R else some false
  | 0, j, h, k, hk => by
    obtain ⟨k, rfl⟩ : ∃ q, k = q + 1 := ⟨k - 1, by omega⟩
    rw [schema_May.l1.eq_2, if_neg (by omega), next_i i hi, hR k (by omega), List.drop_of_length_le (by omega)]
    exact (if_pos rfl).symm
  | d + 1, j, h, k, hk => by
    obtain ⟨k, rfl⟩ : ∃ q, k = q + 1 := ⟨k - 1, by omega⟩
    have jl : j < fs.length := by omega
    have ih := may_fields T hT i hi x19 n fs h5 hf K R hR d (j + 1) (by omega) k (by omega)
    have e1 := field_eq T hT fs[j] (hf _ (List.getElem_mem jl))
    have e2 : schema_Field.f n fs (fs[j]).f0 = some (fieldIdx fs (fs[j]).f0) := by
      unfold schema_Field.f
      rw [if_pos (by omega)]
      rfl
    rw [schema_May.l1.eq_2, if_pos (by omega), if_pos (by omega), if_pos (by omega), rd40_at fs j jl, e1, obindS, List.drop_eq_getElem_cons jl]
    unfold fieldsB
    cases fieldB T fs[j] with
    | false => rfl
    | true =>
      rw [if_pos rfl, e2, obindS]
      by_cases c : fieldIdx fs (fs[j]).f0 = (j : Int)
      · rw [if_pos c, next_i j (by omega), ih, c, beq_self_eq_true]
        rfl
      · rw [if_neg c, beq_eq_false_iff_ne.2 c]
        rfl
theorem may_types (T : List S34) (hT : T.length ≤ 4) (hs : smallN T) : ∀ (d i : Nat), i + d = T.length → ∀ k, 20 * d + 1 ≤ k → schema_May.l0 k T (T.length : Int) (i : Int) T = some (typesB T (T.drop i) i)
  | 0, i, h, k, hk => by
    obtain ⟨k, rfl⟩ : ∃ q, k = q + 1 := ⟨k - 1, by omega⟩
    rw [schema_May.l0.eq_2, if_neg (by omega), List.drop_of_length_le (by omega)]
    rfl
  | d + 1, i, h, k, hk => by
    obtain ⟨k, rfl⟩ : ∃ q, k = q + 1 + 1 := ⟨k - 2, by omega⟩
    have il : i < T.length := by omega
    obtain ⟨s1, s2⟩ := hs T[i] (List.getElem_mem il)
    have e1 := may_name (T[i]).f0 s1
    have e2 : schema_Find.f T (T[i]).f0 = some (nameIdx T (T[i]).f0) := by
      unfold schema_Find.f
      rw [if_pos (by omega)]
      rfl
    rw [schema_May.l0.eq_2, if_pos (by omega), if_pos (by omega), if_pos (by omega), rd34_at T i il, e1, obindS, List.drop_eq_getElem_cons il]
    unfold typesB typeB
    cases nameB (T[i]).f0 with
    | false =>
      rw [if_neg (by decide), schema_May.j2.eq_2, if_pos rfl]
      rfl
    | true =>
      rw [if_pos rfl, e2, obindS]
      by_cases c : nameIdx T (T[i]).f0 = (i : Int)
      · rw [if_pos c, c, beq_self_eq_true, schema_May.j2.eq_2]
        by_cases c5 : (T[i]).f1.length ≤ 5
        · rw [decide_eq_false (by omega), if_neg (by decide), decide_eq_true c5]
          refine (may_fields T (by omega) i (by omega) (T.length : Int) (T[i]).f0 (T[i]).f1 c5 s2 (20 * d + 1) _ (fun k hk => may_types T hT hs d (i + 1) (by omega) k hk) (T[i]).f1.length 0 (by omega) k (by omega)).trans ?_
          rw [List.drop_zero]
          cases fieldsB T (T[i]).f1 (T[i]).f1 0 <;> rfl
        · rw [decide_eq_true (by omega), if_pos rfl, decide_eq_false c5]
          rfl
      · rw [if_neg c, beq_eq_false_iff_ne.2 c, schema_May.j2.eq_2, if_pos rfl]
        rfl
theorem may_eq (T : List S34) (hs : smallN T) (k : Nat) (hk : 100 ≤ k) : schema_May.f k T = some (mayB T) := by
  obtain ⟨k, rfl⟩ : ∃ q, k = q + 1 := ⟨k - 1, by omega⟩
  unfold schema_May.f mayB
  by_cases c : T.length = 0
  · rw [if_pos (by omega), schema_May.j0.eq_2, if_pos rfl, decide_eq_false (by omega)]
    rfl
  · rw [if_neg (by omega), decide_eq_true (show 1 ≤ T.length by omega), schema_May.j0.eq_2]
    by_cases c4 : T.length ≤ 4
    · rw [decide_eq_false (by omega), if_neg (by decide), decide_eq_true c4]
      have h := may_types T c4 hs T.length 0 (by omega) k (by omega)
      rw [List.drop_zero] at h
      exact h
    · rw [decide_eq_true (by omega), if_pos rfl, decide_eq_false c4]
      rfl
end Go.Proofs.Ytlcanmndeempfaa.MoSch
