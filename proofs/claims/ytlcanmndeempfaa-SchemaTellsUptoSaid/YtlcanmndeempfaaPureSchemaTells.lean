/- For every two schemas, every text and every name, of names of at most a million bytes each: the program and the document's own answer agree on whether the first schema may be, whether the two are the same, the first's text, what the text is read as, and where the name stands among its types, and among each type's fields. Of more than 10 types, or fields of a type, and of texts of more than 600 bytes nothing is asked. -/
import Derived.Test.YtlcanmndeempfaaSchRefAll
import Derived.Test.YtlcanmndeempfaaPAllx16
namespace Go.Proofs.Ytlcanmndeempfaa.Pure
open Go.RowKit Go.Proofs.Ytlcanmndeempfaa.PAll Go.Proofs.YtlcanmndeempfaaW.PrintWords Go.Proofs.YtlcanmndeempfaaW.PrintLast Go.Proofs.Ytlcanmndeempfaa.Sch
theorem tells_loop (n : ByteArray) (p1 p2 p3 p4 p5 : Bool) (a b : List S34) (la : a.length ≤ 10) (lf : ∀ t ∈ a, t.f1.length ≤ 10) (K : Nat) (hK : 100 ≤ K) (R : Option Bool) (hR : ∀ k, K ≤ k → foliatelaw06_SchemaTells.l0 k n p1 p2 p3 p4 p5 (a.length : Int) a b = R) : ∀ (d i : Nat), i + d = a.length → ∀ k, K + d ≤ k → foliatelaw06_SchemaTells.l0 k n p1 p2 p3 p4 p5 (i : Int) a b = R
  | 0, i, h, k, hk => by
    obtain rfl : i = a.length := by omega
    exact hR k (by omega)
  | d + 1, i, h, k, hk => by
    obtain ⟨k, rfl⟩ : ∃ q, k = q + 1 := ⟨k - 1, by omega⟩
    have il : i < a.length := by omega
    have hl := lf _ (List.getElem_mem il)
    have ih := tells_loop n p1 p2 p3 p4 p5 a b la lf K hK R hR d (i + 1) (by omega) k (by omega)
    have e1 : schema_Field.f (a[i]).f0 (a[i]).f1 n = some (fieldIdx (a[i]).f1 n) := by
      unfold schema_Field.f
      rw [if_pos (by omega)]
      rfl
    rw [foliatelaw06_SchemaTells.l0.eq_2, if_pos (by omega), if_pos (by omega), rd34_at a i il, e1, obindS, ref_field _ n _ (by omega) k (by omega), obindS, if_pos rfl, next_i i (by omega)]
    exact ih
theorem SchemaTells (a b : List S34) (s n : ByteArray) (sa : smallN a) (sb : smallN b) (la : a.length ≤ 9223372036854775807) (lb : b.length ≤ 9223372036854775807) (ma : ∀ t ∈ a, t.f0.size ≤ 1048576 ∧ ∀ f ∈ t.f1, f.f0.size ≤ 1048576) (_ : ∀ t ∈ b, t.f0.size ≤ 1048576 ∧ ∀ f ∈ t.f1, f.f0.size ≤ 1048576) : ∃ k, foliatelaw06_SchemaTells.f k a b s n = some true := by
  obtain ⟨m, aw⟩ := awake
  refine ⟨m + 8000000 + a.length + b.length + 1, ?_⟩
  obtain ⟨q, hq⟩ : ∃ q, q = m + 8000000 + a.length + b.length := ⟨_, rfl⟩
  rw [← hq]
  have triv : foliatelaw06_SchemaTells.j0 (q + 1) s n true true a b = some true := by rw [foliatelaw06_SchemaTells.j0.eq_2, if_pos rfl]
  unfold foliatelaw06_SchemaTells.f
  rw [aw _ (by omega), obindS, few_eq a la _ (by omega), obindS, few_eq b lb _ (by omega), obindS, if_pos rfl]
  cases fa : fewB a with
  | false => exact triv
  | true =>
  cases fb : fewB b with
  | false => exact triv
  | true =>
  rw [if_pos rfl, if_pos rfl]
  by_cases cs : (s.size : Int) > 600
  · rw [decide_eq_true cs]
    exact triv
  obtain ⟨a10, af⟩ := few_parts fa
  have za : sizeN 1048576 a := fun t ht => ⟨(ma t ht).1, by have := af t ht; omega, (ma t ht).2⟩
  have eR := read_eq s (by omega) q (by omega)
  have eR2 := ref_read s (by omega) q (by omega)
  have sm : ∃ M, M ≤ 1000 ∧ ∀ t ∈ (readQ s).1, t.f1.length < 1000000 ∧ t.f1.length < M := by
    refine ⟨6, by omega, fun t ht => ?_⟩
    cases hr : (readQ s).2 with
    | true =>
      obtain ⟨T, e1, hm, _⟩ := read_some hr
      rw [e1] at ht
      have ht : t ∈ T := ht
      obtain ⟨j, hj, rfl⟩ := List.getElem_of_mem ht
      have := ((may_parts hm).2.2 j hj).2.2.1
      omega
    | false =>
      rw [read_fail hr] at ht
      exact absurd ht (by simp)
  obtain ⟨M, hM, sm⟩ := sm
  have sl : (readQ s).1.length ≤ 4 := by
    cases hr : (readQ s).2 with
    | true =>
      obtain ⟨T, e1, hm, _⟩ := read_some hr
      rw [e1]
      exact (may_parts hm).2.1
    | false =>
      rw [read_fail hr]
      exact Nat.zero_le _
  have eS := ref_same (readQ s).1 (readQ s).1 (by omega) M sm q (by omega)
  rw [(eqTs_iff _ _).2 rfl] at eS
  have eM := ref_may a (by omega) 1048576 (by decide) za q (by omega)
  have eT := ref_same a b (by omega) 11 (fun t ht => by have := af t ht; omega) q (by omega)
  have fin : ∀ k, 7000000 ≤ k → foliatelaw06_SchemaTells.l0 k n (readQ s).2 (readQ s).2 true (mayB a) (eqTs a b) (a.length : Int) a b = some true := fun k hk => by
    obtain ⟨k, rfl⟩ : ∃ q, k = q + 1 := ⟨k - 1, by omega⟩
    have eF : schema_Find.f a n = some (nameIdx a n) := by
      unfold schema_Find.f
      rw [if_pos (by omega)]
      rfl
    rw [foliatelaw06_SchemaTells.l0.eq_2, if_neg (by omega), if_pos rfl, if_pos (beq_self_eq_true _), may_eq a sa k (by omega), obindS, if_pos (beq_self_eq_true _), same_few fa k (by omega), obindS, if_pos (beq_self_eq_true _), text_eq a sa k (by omega), obindS, ref_text a (by omega) 1048576 (by decide) za k (by omega), obindS, if_pos rfl, eF, obindS, ref_find n a (by omega) k (by omega), obindS, beq_self_eq_true]
  rw [decide_eq_false cs, foliatelaw06_SchemaTells.j0.eq_2, if_neg (by decide), eR, obindS, eR2, obindS, eS, obindS, eM, obindS, eT, obindS]
  exact tells_loop n _ _ _ _ _ a b a10 af 7000000 (by decide) _ fin a.length 0 (Nat.zero_add _) q (by omega)
end Go.Proofs.Ytlcanmndeempfaa.Pure
