import Derived.Test.YtlcanmndeempfaaSchRefMay
import Derived.Test.YtlcanmndeempfaaPAllx13
namespace Go.Proofs.Ytlcanmndeempfaa.Sch
open Go.RowKit Go.Proofs.Ytlcanmndeempfaa.PAll Go.Proofs.YtlcanmndeempfaaW.PrintWords Go.Proofs.YtlcanmndeempfaaW.PrintLast
open Go.Lib (join)
/-! The document's own answer: a schema's text. -/
def fieldX (f : S40) (x : ByteArray) : ByteArray := (((x ++ f.f0) ++ (⟨#[58]⟩ : ByteArray)) ++ kindB f.f1) ++ f.f2
def tailB : List S40 → Bool → ByteArray → ByteArray
  | [], _, x => x ++ (⟨#[125]⟩ : ByteArray)
  | f :: fs, first, x => tailB fs false (fieldX f (if first = true then x else x ++ (⟨#[44]⟩ : ByteArray)))
def commaL (fs : List S40) : List UInt8 := fs.flatMap fun f => 44 :: (fieldT f).data.toList
theorem fieldX_data (f : S40) (x : ByteArray) : (fieldX f x).data.toList = x.data.toList ++ (fieldT f).data.toList := by
  unfold fieldX fieldT
  simp only [ba_app, List.append_assoc]
theorem tailB_false : ∀ (fs : List S40) (x : ByteArray), (tailB fs false x).data.toList = x.data.toList ++ commaL fs ++ [125]
  | [], x => by
    show (x ++ (⟨#[125]⟩ : ByteArray)).data.toList = _
    rw [ba_app]
    simp [commaL]
  | f :: fs, x => by
    show (tailB fs false (fieldX f (x ++ (⟨#[44]⟩ : ByteArray)))).data.toList = _
    rw [tailB_false fs, fieldX_data, ba_app]
    simp [commaL]
theorem join_comma : ∀ (f : S40) (fs : List S40), join (((f :: fs).map fieldT).map (·.data.toList)) [44] = (fieldT f).data.toList ++ commaL fs
  | f, [] => by simp [join, commaL]
  | f, g :: fs => by
    have ih := join_comma g fs
    have e : join (((f :: g :: fs).map fieldT).map (·.data.toList)) [44] = (fieldT f).data.toList ++ 44 :: join (((g :: fs).map fieldT).map (·.data.toList)) [44] := by simp [join]
    rw [e, ih]
    simp [commaL]
theorem tailB_true (fs : List S40) (x : ByteArray) : (tailB fs true x).data.toList = x.data.toList ++ join ((fs.map fieldT).map (·.data.toList)) [44] ++ [125] := by
  cases fs with
  | nil =>
    show (x ++ (⟨#[125]⟩ : ByteArray)).data.toList = _
    rw [ba_app]
    simp [join]
  | cons f fs =>
    show (tailB fs false (fieldX f x)).data.toList = _
    rw [tailB_false fs, fieldX_data, join_comma]
    simp
theorem fieldX_size {f : S40} (h : okF f) (x : ByteArray) : (fieldX f x).size ≤ x.size + 36 := by
  rw [← data_len, fieldX_data, List.length_append, data_len]
  have := field_size h
  omega
theorem sz1 (b : UInt8) : (⟨#[b]⟩ : ByteArray).size = 1 := rfl
theorem tailB_size : ∀ (fs : List S40) (_ : ∀ f ∈ fs, okF f) (z : Bool) (x : ByteArray), (tailB fs z x).size ≤ x.size + 37 * fs.length + 1
  | [], _, z, x => by
    show (x ++ (⟨#[125]⟩ : ByteArray)).size ≤ _
    rw [ByteArray.size_append, sz1]
    omega
  | f :: fs, h, z, x => by
    have ih := tailB_size fs (fun g hg => h g (List.mem_cons_of_mem _ hg)) false (fieldX f (if z = true then x else x ++ (⟨#[44]⟩ : ByteArray)))
    have hx := fieldX_size (h f (by simp)) (if z = true then x else x ++ (⟨#[44]⟩ : ByteArray))
    have hy : (if z = true then x else x ++ (⟨#[44]⟩ : ByteArray)).size ≤ x.size + 1 := by
      cases z with
      | true => exact Nat.le_succ _
      | false =>
        show (x ++ (⟨#[44]⟩ : ByteArray)).size ≤ _
        rw [ByteArray.size_append, sz1]
        exact Nat.le_refl _
    show (tailB fs false _).size ≤ _
    rw [List.length_cons]
    omega
theorem kind_at (k : Int) : rdOf ByteArray.empty kindsL k = kindB k := rfl
theorem rt_fields (T : List S34) (i : Nat) (il : i < T.length) (hi : i < 1000) (hf : ∀ f ∈ (T[i]).f1, okF f) (hl : (T[i]).f1.length ≤ 1000) : ∀ (d j : Nat), j + d = (T[i]).f1.length → ∀ x5 : ByteArray, x5.size + 100 * d + 100 ≤ 1000000000 → ∀ (K : Nat) (R : Option ByteArray), (∀ k, K ≤ k → foliateref06_Text.l0 k kindsL (tailB ((T[i]).f1.drop j) (decide (j = 0)) x5) ((i + 1 : Nat) : Int) T = R) → ∀ k, K + 1 + d ≤ k → foliateref06_Text.l1 k kindsL x5 (i : Int) (j : Int) T = R
  | 0, j, h, x5, hx, K, R, hR, k, hk => by
    obtain ⟨k, rfl⟩ : ∃ q, k = q + 1 := ⟨k - 1, by omega⟩
    have h2 := hR k (by omega)
    rw [List.drop_of_length_le (by omega)] at h2
    rw [foliateref06_Text.l1.eq_2, if_pos (by omega), if_pos (by omega), rd34_at T i il, if_neg (by omega), if_pos (by omega), next_i i (by omega)]
    exact h2
  | d + 1, j, h, x5, hx, K, R, hR, k, hk => by
    obtain ⟨k, rfl⟩ : ∃ q, k = q + 1 := ⟨k - 1, by omega⟩
    have jl : j < (T[i]).f1.length := by omega
    have ok := hf _ (List.getElem_mem jl)
    have hz := okF_size ok
    have hkz := kindB_size _ ok.2.1 ok.2.2.1
    have hk0 := ok.2.1
    have hk6 := ok.2.2.1
    have hxz := fieldX_size ok (if decide (j = 0) = true then x5 else x5 ++ (⟨#[44]⟩ : ByteArray))
    have hy : (if decide (j = 0) = true then x5 else x5 ++ (⟨#[44]⟩ : ByteArray)).size ≤ x5.size + 1 := by
      split
      · exact Nat.le_succ _
      · rw [ByteArray.size_append, sz1]
        exact Nat.le_refl _
    have ih := rt_fields T i il hi hf hl d (j + 1) (by omega) (fieldX (T[i]).f1[j] (if decide (j = 0) = true then x5 else x5 ++ (⟨#[44]⟩ : ByteArray))) (by omega) K R (fun k hk => by
      have h2 := hR k hk
      rw [List.drop_eq_getElem_cons jl] at h2
      rw [decide_eq_false (show ¬ j + 1 = 0 by omega)]
      exact h2) k (by omega)
    rw [← next_i j (by omega)] at ih
    have e6 : ((T[i]).f1[j]).f1 < (kindsL.length : Int) := hk6
    rw [foliateref06_Text.l1.eq_2, if_pos (by omega), if_pos (by omega), rd34_at T i il, if_pos (by omega), if_pos (by omega), rd40_at _ j jl]
    by_cases c : j = 0
    · rw [decide_eq_true c, if_pos rfl] at ih
      rw [if_neg (by omega), if_pos (by omega), if_pos (by rw [ByteArray.size_append]; omega), if_pos hk0, if_pos e6, kind_at, if_pos (by simp only [ByteArray.size_append, sz1]; omega), if_pos (by simp only [ByteArray.size_append, sz1]; omega)]
      exact ih
    · rw [decide_eq_false c, if_neg (by decide)] at ih
      rw [if_pos (by omega), if_pos (by omega), if_pos (by simp only [ByteArray.size_append, sz1]; omega), if_pos (by simp only [ByteArray.size_append, sz1]; omega), if_pos hk0, if_pos e6, kind_at, if_pos (by simp only [ByteArray.size_append, sz1]; omega), if_pos (by simp only [ByteArray.size_append, sz1]; omega)]
      exact ih
def typesX : List S34 → ByteArray → ByteArray
  | [], x => x
  | t :: L, x => typesX L (tailB t.f1 true ((x ++ t.f0) ++ (⟨#[123]⟩ : ByteArray)))
theorem typesX_data : ∀ (L : List S34) (x : ByteArray), (typesX L x).data.toList = x.data.toList ++ textL L
  | [], x => by
    show x.data.toList = _
    simp [textL]
  | t :: L, x => by
    have e : textL (t :: L) = (typeT t).data.toList ++ textL L := by unfold textL; rw [List.flatMap_cons]
    show (typesX L _).data.toList = _
    rw [typesX_data L, tailB_true, e]
    unfold typeT
    simp only [ba_app, List.append_assoc, List.toList_toArray]
theorem rt_types (T : List S34) (hT : T.length ≤ 10) (hs : ∀ t ∈ T, okT t ∧ t.f1.length ≤ 10) : ∀ (d i : Nat), i + d = T.length → ∀ x5 : ByteArray, x5.size + 1000 * d + 1000 ≤ 1000000000 → ∀ k, 20 * d + 1 ≤ k → foliateref06_Text.l0 k kindsL x5 (i : Int) T = some (typesX (T.drop i) x5)
  | 0, i, h, x5, hx, k, hk => by
    obtain ⟨k, rfl⟩ : ∃ q, k = q + 1 := ⟨k - 1, by omega⟩
    rw [foliateref06_Text.l0.eq_2, if_neg (by omega), List.drop_of_length_le (by omega)]
    rfl
  | d + 1, i, h, x5, hx, k, hk => by
    obtain ⟨k, rfl⟩ : ∃ q, k = q + 1 := ⟨k - 1, by omega⟩
    have il : i < T.length := by omega
    obtain ⟨ok, h5⟩ := hs T[i] (List.getElem_mem il)
    have hn := name_size ok.1
    have hsz := tailB_size (T[i]).f1 ok.2 true ((x5 ++ (T[i]).f0) ++ (⟨#[123]⟩ : ByteArray))
    have hs2 : ((x5 ++ (T[i]).f0) ++ (⟨#[123]⟩ : ByteArray)).size = x5.size + (T[i]).f0.size + 1 := by simp only [ByteArray.size_append, sz1]
    have ih := rt_types T hT hs d (i + 1) (by omega) (tailB (T[i]).f1 true ((x5 ++ (T[i]).f0) ++ (⟨#[123]⟩ : ByteArray))) (by omega)
    have hf := rt_fields T i il (by omega) ok.2 (by omega) (T[i]).f1.length 0 (Nat.zero_add _) ((x5 ++ (T[i]).f0) ++ (⟨#[123]⟩ : ByteArray)) (by omega) (20 * d + 1) _ (fun k hk => by
      rw [List.drop_zero]
      exact ih k hk) k (by omega)
    rw [foliateref06_Text.l0.eq_2, if_pos (by omega), if_pos (by omega), rd34_at T i il, if_pos (by omega), if_pos (by rw [ByteArray.size_append]; omega), List.drop_eq_getElem_cons il]
    exact hf
theorem ref_text (T : List S34) (hT : T.length ≤ 1000) (B : Nat) (hB : B ≤ 1000000000) (hs : sizeN B T) (k : Nat) (hk : B + 4000000 ≤ k) : foliateref06_Text.f k T = some (textQ T) := by
  unfold foliateref06_Text.f
  rw [ref_may T hT B hB hs k hk, obindS]
  cases h : mayB T with
  | false =>
    unfold textQ
    rw [h]
    rfl
  | true =>
    obtain ⟨_, h4, hp⟩ := may_parts h
    rw [if_pos rfl]
    have ht := rt_types T (by omega) (fun t ht => by
      have ho := may_okT h t ht
      obtain ⟨m, hm, rfl⟩ := List.getElem_of_mem ht
      exact ⟨ho, by have := (hp m hm).2.2.1; omega⟩) T.length 0 (Nat.zero_add _) (⟨#[]⟩ : ByteArray) (by show 0 + _ + _ ≤ _; omega) k (by omega)
    rw [List.drop_zero] at ht
    have e : typesX T (⟨#[]⟩ : ByteArray) = textQ T := ba_ext (by rw [typesX_data, textQ_data h]; rfl)
    rw [e] at ht
    exact ht
end Go.Proofs.Ytlcanmndeempfaa.Sch
