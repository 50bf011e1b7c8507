/- For every two schemas and every text: the first schema's text is read just if the schema may be, and then as that schema; what a text is read as has that text, and may be; and of two schemas that may be the texts are one just if the schemas are. Of more than 10 types, or fields of a type, and of texts of more than 600 bytes nothing is asked. -/
import Derived.Test.YtlcanmndeempfaaSchMore
import Derived.Test.YtlcanmndeempfaaPAllx17
namespace Go.Proofs.Ytlcanmndeempfaa.Pure
open Go.RowKit Go.Proofs.Ytlcanmndeempfaa.PAll Go.Proofs.YtlcanmndeempfaaW.PrintWords Go.Proofs.YtlcanmndeempfaaW.PrintLast Go.Proofs.Ytlcanmndeempfaa.Sch
theorem SchemaBack (a b : List S34) (s : ByteArray) (sa : smallN a) (sb : smallN b) (la : a.length ≤ 9223372036854775807) (lb : b.length ≤ 9223372036854775807) : ∃ k, foliatelaw06_SchemaBack.f k a b s = some true := by
  obtain ⟨m, aw⟩ := awake
  refine ⟨m + 1000 + a.length + b.length + 1 + 1 + 1, ?_⟩
  obtain ⟨q, hq⟩ : ∃ q, q = m + 1000 + a.length + b.length := ⟨_, rfl⟩
  rw [← hq]
  have triv : ∀ x, foliatelaw06_SchemaBack.j0 (q + 1 + 1 + 1) x true true a b = some true := fun x => by rw [foliatelaw06_SchemaBack.j0.eq_2, if_pos rfl]
  unfold foliatelaw06_SchemaBack.f
  rw [aw _ (by omega), obindS, few_eq a la _ (by omega), obindS, few_eq b lb _ (by omega), obindS, if_pos rfl]
  cases fa : fewB a with
  | false => exact triv s
  | true =>
  cases fb : fewB b with
  | false => exact triv s
  | true =>
  rw [if_pos rfl, if_pos rfl]
  by_cases cs : (s.size : Int) > 600
  · rw [decide_eq_true cs]
    exact triv s
  have ta := text_eq a sa
  have tb := text_eq b sb
  have ya := may_eq a sa
  have yb := may_eq b sb
  have za := textQ_size a
  have j2 : foliatelaw06_SchemaBack.j2 (q + 1) false a b = some true := by
    rw [foliatelaw06_SchemaBack.j2.eq_2, if_neg (by decide), ya _ (by omega), obindS]
    cases ma : mayB a with
    | false => rfl
    | true =>
      rw [if_pos rfl, yb _ (by omega), obindS]
      cases mb : mayB b with
      | false => rfl
      | true =>
        rw [if_pos rfl, ta _ (by omega), obindS, tb _ (by omega), obindS, same_few fa _ (by omega), obindS, text_inj ma mb, beq_self_eq_true]
  have j1 : foliatelaw06_SchemaBack.j1 (q + 1 + 1) s false a b = some true := by
    rw [foliatelaw06_SchemaBack.j1.eq_2, if_neg (by decide), read_eq s (by omega) _ (by omega), obindS]
    cases hr : (readQ s).2 with
    | false => exact j2
    | true =>
      obtain ⟨T, e1, hm, hs, _⟩ := read_some hr
      have okN : smallN T := fun t ht => by
        have ho := may_okT hm t ht
        have h1 := name_size ho.1
        exact ⟨by omega, fun f hf => by have h2 := okF_size (ho.2 f hf); omega⟩
      rw [if_pos rfl, e1]
      dsimp only
      rw [text_eq T okN _ (by omega), obindS, if_pos (by rw [← hs]), may_eq T okN _ (by omega), hm, obindS]
      exact j2
  rw [decide_eq_false cs, foliatelaw06_SchemaBack.j0.eq_2, if_neg (by decide), ta _ (by omega), obindS, read_eq _ (by omega) _ (by omega), obindS, ya _ (by omega), obindS, read_own]
  cases ma : mayB a with
  | false =>
    rw [if_neg (show ¬ (false = true) by decide)]
    exact j1
  | true =>
    rw [if_pos rfl]
    dsimp only
    rw [if_neg (by decide), if_pos rfl, same_few fa _ (by omega), obindS, (eqTs_iff a a).2 rfl]
    exact j1
end Go.Proofs.Ytlcanmndeempfaa.Pure
