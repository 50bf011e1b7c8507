import Derived.Test.YtlcanmndeempfaaMoSchLaws
import Derived.Test.YtlcanmndeempfaaPMox8
namespace Go.Proofs.Ytlcanmndeempfaa.MoSch
open Go.RowKit Go.Proofs.Ytlcanmndeempfaa.PMo Go.Proofs.YtlcanmndeempfaaW.PrintWords Go.Proofs.YtlcanmndeempfaaW.PrintLast
open Go.Lib (encodeRune join)
/-! Two schemas are the same; the chapter's example. -/
def eqF (x y : S40) : Bool := (x.f0.toList == y.f0.toList) && ((x.f1 == y.f1) && (x.f2.toList == y.f2.toList))
def eqFs : List S40 → List S40 → Bool
  | [], [] => true
  | x :: a, y :: b => eqF x y && eqFs a b
  | _, _ => false
def eqT (x y : S34) : Bool := (x.f0.toList == y.f0.toList) && eqFs x.f1 y.f1
def eqTs : List S34 → List S34 → Bool
  | [], [] => true
  | x :: a, y :: b => eqT x y && eqTs a b
  | _, _ => false
theorem eqFs_cons (x y : S40) (a b : List S40) : eqFs (x :: a) (y :: b) = (eqF x y && eqFs a b) := rfl
theorem eqF_iff (x y : S40) : eqF x y = true ↔ x = y := by
  constructor
  · intro h
    unfold eqF at h
    rw [Bool.and_eq_true, Bool.and_eq_true] at h
    obtain ⟨a, b, c⟩ := x
    obtain ⟨a', b', c'⟩ := y
    obtain rfl : a = a' := toList_inj h.1
    obtain rfl : b = b' := eq_of_beq h.2.1
    obtain rfl : c = c' := toList_inj h.2.2
    rfl
  · rintro rfl
    unfold eqF
    rw [beq_self_eq_true, beq_self_eq_true, beq_self_eq_true]
    rfl
theorem eqFs_iff : ∀ a b, eqFs a b = true ↔ a = b
  | [], [] => ⟨fun _ => rfl, fun _ => rfl⟩
  | [], y :: b => ⟨fun h => absurd h (by simp [eqFs]), fun h => absurd h (by simp)⟩
  | x :: a, [] => ⟨fun h => absurd h (by simp [eqFs]), fun h => absurd h (by simp)⟩
  | x :: a, y :: b => by
    unfold eqFs
    rw [Bool.and_eq_true, eqF_iff, eqFs_iff a b, List.cons.injEq]
theorem eqT_iff (x y : S34) : eqT x y = true ↔ x = y := by
  unfold eqT
  rw [Bool.and_eq_true, eqFs_iff]
  constructor
  · rintro ⟨h1, h2⟩
    obtain ⟨a, b⟩ := x
    obtain ⟨a', b'⟩ := y
    obtain rfl : a = a' := toList_inj h1
    obtain rfl : b = b' := h2
    rfl
  · rintro rfl
    exact ⟨beq_self_eq_true _, rfl⟩
theorem eqTs_iff : ∀ a b, eqTs a b = true ↔ a = b
  | [], [] => ⟨fun _ => rfl, fun _ => rfl⟩
  | [], y :: b => ⟨fun h => absurd h (by simp [eqTs]), fun h => absurd h (by simp)⟩
  | x :: a, [] => ⟨fun h => absurd h (by simp [eqTs]), fun h => absurd h (by simp)⟩
  | x :: a, y :: b => by
    unfold eqTs
    rw [Bool.and_eq_true, eqT_iff, eqTs_iff a b, List.cons.injEq]
theorem eqFs_len : ∀ a b, a.length ≠ b.length → eqFs a b = false
  | [], [], h => absurd rfl h
  | [], _ :: _, _ => rfl
  | _ :: _, [], _ => rfl
  | x :: a, y :: b, h => by
    unfold eqFs
    rw [eqFs_len a b (fun e => h (by simp [e])), Bool.and_false]
theorem eqTs_len : ∀ a b, a.length ≠ b.length → eqTs a b = false
  | [], [], h => absurd rfl h
  | [], _ :: _, _ => rfl
  | _ :: _, [], _ => rfl
  | x :: a, y :: b, h => by
    unfold eqTs
    rw [eqTs_len a b (fun e => h (by simp [e])), Bool.and_false]
theorem fields_loop (a b : List S40) (hl : a.length = b.length) (hn : a.length < 1000000) : ∀ (d i : Nat), i + d = a.length → ∀ k, d < k → api_Field_35.l0 k a b (a.length : Int) (i : Int) = some (eqFs (a.drop i) (b.drop i))
  | 0, i, h, k, hk => by
    obtain ⟨k, rfl⟩ : ∃ q, k = q + 1 := ⟨k - 1, by omega⟩
    rw [api_Field_35.l0.eq_2, if_neg (by omega), List.drop_of_length_le (by omega), List.drop_of_length_le (by omega)]
    rfl
  | d + 1, i, h, k, hk => by
    obtain ⟨k, rfl⟩ : ∃ q, k = q + 1 := ⟨k - 1, by omega⟩
    have il : i < a.length := by omega
    have jl : i < b.length := by omega
    have ih := fields_loop a b hl hn d (i + 1) (by omega) k (by omega)
    rw [api_Field_35.l0.eq_2, if_pos (by omega), if_pos (by omega), if_pos (by omega), if_pos (by omega), rd40_at a i il, rd40_at b i jl, List.drop_eq_getElem_cons il, List.drop_eq_getElem_cons jl, next_i i (by omega), ih]
    have e : (!(((a[i]).f0).toList == ((b[i]).f0).toList) || (!((a[i]).f1 == (b[i]).f1) || (!(((a[i]).f2).toList == ((b[i]).f2).toList)))) = !(eqF a[i] b[i]) := by
      unfold eqF
      rw [Bool.not_and, Bool.not_and]
    rw [e, eqFs_cons]
    cases eqF a[i] b[i] <;> rfl
theorem fields_eq (a b : List S40) (hn : a.length < 1000000) (k : Nat) (hk : a.length < k) : api_Field_35.f k a b = some (eqFs a b) := by
  unfold api_Field_35.f
  by_cases c : a.length = b.length
  · rw [if_pos (by omega)]
    exact fields_loop a b c hn a.length 0 (by omega) k hk
  · rw [if_neg (by omega), eqFs_len a b c]
theorem types_loop (k : Nat) : ∀ (a b : List S34) (_ : a.length = b.length) (_ : ∀ t ∈ a, t.f1.length < 1000000 ∧ t.f1.length < k), eqTypes k (a.zip b) = some (eqTs a b)
  | [], [], _, _ => rfl
  | [], _ :: _, h, _ => absurd h (by simp)
  | _ :: _, [], h, _ => absurd h (by simp)
  | x :: a, y :: b, hl, h => by
    have ih := types_loop k a b (by simpa using hl) (fun t ht => h t (List.mem_cons_of_mem _ ht))
    have hx := h x (by simp)
    rw [List.zip_cons_cons]
    unfold eqTypes eqTs typeEq eqT
    dsimp only
    cases (x.f0.toList == y.f0.toList) with
    | false => rfl
    | true =>
      rw [if_pos rfl, fields_eq x.f1 y.f1 hx.1 k hx.2, obindS]
      cases eqFs x.f1 y.f1 with
      | false => rfl
      | true =>
        rw [if_pos rfl, ih]
        rfl
theorem same_eq (a b : List S34) (hn : a.length < 1000000) (k : Nat) (h : ∀ t ∈ a, t.f1.length < 1000000 ∧ t.f1.length < k) : schema_Same.f k a b = some (eqTs a b) := by
  unfold schema_Same.f equalTypes
  rw [if_pos (by omega)]
  by_cases c : a.length = b.length
  · rw [if_pos c]
    exact types_loop k a b c h
  · rw [if_neg c, eqTs_len a b c]
/-- the chapter's example -/
def oneL : List S34 := [⟨⟨#[97]⟩, [⟨⟨#[110]⟩, 2, ⟨#[]⟩⟩, ⟨⟨#[111]⟩, 5, ⟨#[97]⟩⟩]⟩]
theorem one_may : mayB oneL = true := by
  have n1 : nameB ⟨#[97]⟩ = true := by decide
  have n2 : nameB ⟨#[110]⟩ = true := by decide
  have n3 : nameB ⟨#[111]⟩ = true := by decide
  have i1 : nameIdx oneL ⟨#[97]⟩ = 0 := by
    unfold nameIdx
    simp only [ByteArray.toList_eq]
    rfl
  have f1 : fieldIdx [⟨⟨#[110]⟩, 2, ⟨#[]⟩⟩, ⟨⟨#[111]⟩, 5, ⟨#[97]⟩⟩] ⟨#[110]⟩ = 0 := by
    unfold fieldIdx
    simp only [ByteArray.toList_eq]
    rfl
  have f2 : fieldIdx [⟨⟨#[110]⟩, 2, ⟨#[]⟩⟩, ⟨⟨#[111]⟩, 5, ⟨#[97]⟩⟩] ⟨#[111]⟩ = 1 := by
    unfold fieldIdx
    simp only [ByteArray.toList_eq]
    rfl
  have e : (⟨#[]⟩ : ByteArray).toList.isEmpty = true := by rw [ByteArray.toList_eq]; rfl
  have b1 : fieldB oneL ⟨⟨#[110]⟩, 2, ⟨#[]⟩⟩ = true := by
    unfold fieldB
    dsimp only
    rw [n2, e]
    decide
  have b2 : fieldB oneL ⟨⟨#[111]⟩, 5, ⟨#[97]⟩⟩ = true := by
    unfold fieldB
    dsimp only
    rw [n3, i1]
    decide
  have t : typesB oneL oneL 0 = true := by
    unfold oneL
    simp only [typesB, typeB, fieldsB]
    rw [show ([⟨⟨#[97]⟩, [⟨⟨#[110]⟩, 2, ⟨#[]⟩⟩, ⟨⟨#[111]⟩, 5, ⟨#[97]⟩⟩]⟩] : List S34) = oneL from rfl, n1, i1, b1, b2, f1, f2]
    decide
  unfold mayB
  rw [t]
  decide
theorem one_text : textQ oneL = ⟨#[97, 123, 110, 58, 105, 51, 50, 44, 111, 58, 42, 97, 125]⟩ := by
  unfold textQ
  rw [if_pos one_may]
  exact ba_ext rfl
theorem awake : ∃ m, ∀ k, m ≤ k → foliatelaw06_awake.f k = some true := by
  refine ⟨1000, fun k hk => ?_⟩
  have hs : smallN oneL := fun t ht => by
    obtain rfl := List.mem_singleton.1 ht
    refine ⟨by decide, fun f hf => ?_⟩
    simp only [List.mem_cons, List.not_mem_nil, or_false] at hf
    rcases hf with rfl | rfl <;> decide
  have e0 : foliatelaw06_One.f = some oneL := rfl
  have e1 : schema_Read.f k (⟨#[97, 123, 110, 58, 105, 51, 50, 44, 111, 58, 42, 97, 125]⟩ : ByteArray) = some (oneL, true) := by
    rw [read_eq _ (by decide) k (by omega), ← one_text, read_text one_may]
  have e2 : schema_Same.f k oneL oneL = some true := by
    rw [same_eq oneL oneL (by decide) k (fun t ht => by obtain rfl := List.mem_singleton.1 ht; exact ⟨by decide, by show 2 < k; omega⟩), (eqTs_iff _ _).2 rfl]
  have e3 := text_eq oneL hs k (by omega)
  have e4 := may_eq oneL hs k (by omega)
  have t4 : (⟨#[97, 123, 110, 58, 105, 51, 50, 44, 111, 58, 42, 97, 125]⟩ : ByteArray).toList = ([97, 123, 110, 58, 105, 51, 50, 44, 111, 58, 42, 97, 125] : List UInt8) := by rw [ByteArray.toList_eq]
  have e5 : schema_Find.f oneL (⟨#[97]⟩ : ByteArray) = some 0 := by
    unfold schema_Find.f
    simp only [ByteArray.toList_eq]
    rfl
  have e6 : schema_Field.f ((rd_T34 oneL 0).f0) ((rd_T34 oneL 0).f1) (⟨#[111]⟩ : ByteArray) = some 1 := by
    unfold schema_Field.f
    simp only [ByteArray.toList_eq]
    rfl
  unfold foliatelaw06_awake.f
  rw [e1, obindS]
  dsimp only
  rw [if_pos rfl, e0, obindS, e2, obindS, if_pos rfl, obindS, e3, one_text, obindS, if_pos t4, obindS, e4, one_may, obindS, if_pos rfl, obindS, e5, obindS, if_pos rfl, obindS, if_pos (by decide), e6]
  rfl
end Go.Proofs.Ytlcanmndeempfaa.MoSch
