import Derived.Test.YtlcanmndeempfaaSchRefName
namespace Go.Proofs.Ytlcanmndeempfaa.Sch
open Go.RowKit Go.Proofs.Ytlcanmndeempfaa.PAll Go.Proofs.YtlcanmndeempfaaW.PrintWords Go.Proofs.YtlcanmndeempfaaW.PrintLast
open Go.Lib (decodeL decodeL_drop decodeL_width decodeL_le)
/-! The document's own answer: which schemas may be. -/
def signsF : Nat → List UInt8 → List Int
  | 0, _ => []
  | f + 1, l => if l = [] then [] else ((decodeL l).1 : Int) :: signsF f (l.drop (decodeL l).2)
theorem signsF_len : ∀ (f : Nat) (l : List UInt8), (signsF f l).length ≤ f
  | 0, _ => Nat.le_refl _
  | f + 1, l => by
    unfold signsF
    by_cases c : l = []
    · rw [if_pos c]
      exact Nat.zero_le _
    · rw [if_neg c, List.length_cons]
      have := signsF_len f (l.drop (decodeL l).2)
      omega
theorem decode_0 (s : ByteArray) : Utf8.decode s 0 = decodeL s.data.toList := by
  rw [← decodeL_drop, List.drop_zero]
theorem data_len (s : ByteArray) : s.data.toList.length = s.size := by rw [Array.length_toList]; rfl
theorem drop_data (s : ByteArray) (n : Nat) : (s.extract n s.size).data.toList = s.data.toList.drop n := by
  rw [ByteArray.data_extract, Array.toList_extract]
  show (s.data.toList.drop n).take (s.size - n) = _
  exact List.take_of_length_le (by rw [List.length_drop, data_len]; exact Nat.le_refl _)
theorem drop_size (s : ByteArray) (n : Nat) : (s.extract n s.size).size = s.size - n := by
  rw [← data_len, drop_data, List.length_drop, data_len]
theorem signs_loop : ∀ (f : Nat) (s : ByteArray) (acc : List Int), s.size ≤ f → acc.length + f < 17592186044416 → ∀ k, f + 21 ≤ k → foliateref05_Signs.l0 k s acc = some (acc ++ signsF f s.data.toList)
  | 0, s, acc, h, _, k, hk => by
    obtain ⟨k, rfl⟩ : ∃ q, k = q + 1 := ⟨k - 1, by omega⟩
    rw [foliateref05_Signs.l0.eq_2, if_neg (by omega)]
    unfold signsF
    rw [List.append_nil]
  | f + 1, s, acc, h, hl, k, hk => by
    obtain ⟨k, rfl⟩ : ∃ q, k = q + 1 := ⟨k - 1, by omega⟩
    rw [foliateref05_Signs.l0.eq_2]
    unfold signsF
    by_cases c : 0 < s.size
    · have hne : s.data.toList ≠ [] := fun e => by have := data_len s; rw [e] at this; exact absurd this (by simp; omega)
      have hw := decodeL_width s.data.toList
      have hle := decodeL_le s.data.toList hne
      rw [data_len] at hle
      have ih := signs_loop f (s.extract (decodeL s.data.toList).2 s.size) (acc ++ [((decodeL s.data.toList).1 : Int)]) (by rw [drop_size]; omega) (by rw [List.length_append]; simp; omega) k (by omega)
      rw [if_pos (by omega), sign_eq s c k (by omega), obindS, decode_0]
      dsimp only
      rw [if_pos (by omega), if_pos (by omega), if_pos (by omega), if_neg hne, Int.toNat_natCast, ih, drop_data, List.append_assoc]
      rfl
    · have he : s.data.toList = [] := List.eq_nil_of_length_eq_zero (by rw [data_len]; omega)
      rw [if_neg (by omega), if_pos he, List.append_nil]
/-- may these signs stand in a name, the first at its beginning (z) or not? -/
def okS : Bool → List Int → Bool
  | _, [] => true
  | z, c :: l => signB c z && okS false l
theorem len_signs (s : ByteArray) : ∀ (f pos n : Nat), s.size ≤ pos + f → lenFrom s f pos n = if okS (decide (pos = 0)) (signsF f (s.data.toList.drop pos)) = true then (if n + (signsF f (s.data.toList.drop pos)).length > 8 then 0 else ((n + (signsF f (s.data.toList.drop pos)).length : Nat) : Int)) else 0
  | 0, pos, n, h => by
    unfold lenFrom signsF
    rfl
  | f + 1, pos, n, h => by
    unfold lenFrom signsF
    have hz := data_len s
    by_cases c : pos < s.size
    · have hne : s.data.toList.drop pos ≠ [] := fun e => by have := List.drop_eq_nil_iff.1 e; omega
      have hw := decode_wide s pos c
      have ih := len_signs s f (pos + (Utf8.decode s pos).2) (n + 1) (by omega)
      rw [if_pos c, if_neg hne, decodeL_drop, List.drop_drop, ih, decide_eq_false (show ¬ pos + (Utf8.decode s pos).2 = 0 by omega)]
      unfold okS
      cases signB ((Utf8.decode s pos).1 : Int) (decide (pos = 0)) with
      | false => rfl
      | true =>
        rw [if_pos rfl, Bool.true_and, List.length_cons, show n + 1 + (signsF f (List.drop (pos + (Utf8.decode s pos).2) s.data.toList)).length = n + ((signsF f (List.drop (pos + (Utf8.decode s pos).2) s.data.toList)).length + 1) by omega]
        cases signsF f (List.drop (pos + (Utf8.decode s pos).2) s.data.toList) <;> rfl
    · have he : s.data.toList.drop pos = [] := List.drop_eq_nil_of_le (by omega)
      rw [if_neg c, if_pos he]
      rfl
theorem name_signs (s : ByteArray) : nameB s = (okS true (signsF s.size s.data.toList) && (decide (1 ≤ (signsF s.size s.data.toList).length) && decide ((signsF s.size s.data.toList).length ≤ 8))) := by
  have h := len_signs s s.size 0 0 (by omega)
  rw [List.drop_zero, Nat.zero_add] at h
  unfold nameB
  rw [h]
  show decide ((if okS true _ = true then _ else (0 : Int)) > 0) = _
  cases okS true (signsF s.size s.data.toList) with
  | false => rfl
  | true =>
    rw [if_pos rfl, Bool.true_and]
    by_cases c : (signsF s.size s.data.toList).length ≤ 8
    · rw [if_neg (by omega), decide_eq_true c, Bool.and_true]
      by_cases c1 : 1 ≤ (signsF s.size s.data.toList).length
      · rw [decide_eq_true c1, decide_eq_true (by omega)]
      · rw [decide_eq_false c1, decide_eq_false (by omega)]
    · rw [if_pos (by omega), decide_eq_false c, Bool.and_false]
      rfl
theorem letB_ref (c : Int) : foliateref05_letter.f c = some (letB c) := letB_eq c
theorem digB_ref (c : Int) : foliateref05_digit.f c = some (digB c) := digB_eq c
theorem rd_at (l : List Int) (i : Nat) (h : i < l.length) : rd l (i : Int) = l[i] := by
  unfold rd
  rw [Int.toNat_natCast, List.getD_eq_getElem?_getD, List.getElem?_eq_getElem h]
  rfl
theorem ref_name_loop (l : List Int) (hl : l.length ≤ 9223372036854775807) : ∀ (d i : Nat), i + d = l.length → ∀ k, d < k → foliateref05_May.l0 k l (i : Int) = some (okS (decide (i = 0)) (l.drop i) && (decide (1 ≤ l.length) && decide (l.length ≤ 8)))
  | 0, i, h, k, hk => by
    obtain ⟨k, rfl⟩ : ∃ q, k = q + 1 := ⟨k - 1, by omega⟩
    rw [foliateref05_May.l0.eq_2, if_neg (by omega), List.drop_of_length_le (by omega)]
    by_cases c : 1 ≤ l.length
    · rw [if_pos (by omega), decide_eq_true c]
      by_cases c8 : l.length ≤ 8
      · rw [decide_eq_true c8, decide_eq_true (by omega)]
        rfl
      · rw [decide_eq_false c8, decide_eq_false (by omega)]
        rfl
    · rw [if_neg (by omega), decide_eq_false c]
      rfl
  | d + 1, i, h, k, hk => by
    obtain ⟨k, rfl⟩ : ∃ q, k = q + 1 := ⟨k - 1, by omega⟩
    have il : i < l.length := by omega
    have ih := ref_name_loop l hl d (i + 1) (by omega) k (by omega)
    rw [decide_eq_false (show ¬ i + 1 = 0 by omega)] at ih
    rw [foliateref05_May.l0.eq_2, if_pos (by omega), if_pos (by omega), rd_at l i il, letB_ref, obindS, digB_ref, obindS, w64s ((i : Int) + 1) (by omega) (by omega), show ((i : Int) + 1) = ((i + 1 : Nat) : Int) from rfl, ih, List.drop_eq_getElem_cons il]
    unfold okS signB
    cases letB l[i] with
    | true =>
      rw [if_pos rfl, Bool.true_or, Bool.true_and]
      cases l.drop (i + 1) <;> rfl
    | false =>
      rw [if_neg (by decide), Bool.false_or]
      cases digB l[i] with
      | false => rw [if_neg (by decide), Bool.and_false, Bool.false_and, Bool.false_and]
      | true =>
        rw [if_pos rfl, Bool.and_true]
        by_cases c : i = 0
        · rw [if_pos (by omega), decide_eq_true c]
          rfl
        · rw [if_neg (by omega), decide_eq_false c]
          cases l.drop (i + 1) <;> rfl
theorem ref_name (s : ByteArray) (h : s.size ≤ 1000000000) (k : Nat) (hk : s.size + 30 ≤ k) : foliateref05_May.f k s = some (nameB s) := by
  have h1 := signs_loop s.size s [] (Nat.le_refl _) (by simp; omega) k (by omega)
  rw [List.nil_append] at h1
  have hlen := signsF_len s.size s.data.toList
  have h2 := ref_name_loop (signsF s.size s.data.toList) (by omega) (signsF s.size s.data.toList).length 0 (by omega) k (by omega)
  rw [List.drop_zero, decide_eq_true (rfl : (0 : Nat) = 0), ← name_signs] at h2
  unfold foliateref05_May.f foliateref05_Signs.f
  rw [h1, obindS]
  exact h2
theorem place_ge {α : Type} (p : α → Bool) : ∀ (L : List α) (i : Nat), placeOf p L i = -1 ∨ 0 ≤ placeOf p L i
  | [], _ => .inl rfl
  | x :: t, i => by
    rw [placeOf]
    by_cases c : p x = true
    · rw [if_pos c]
      exact .inr (by omega)
    · rw [if_neg c]
      exact place_ge p t (i + 1)
/-- names of at most so many bytes -/
def sizeN (B : Nat) (T : List S34) : Prop := ∀ t ∈ T, t.f0.size ≤ B ∧ t.f1.length ≤ 1000 ∧ ∀ f ∈ t.f1, f.f0.size ≤ B
theorem ref_may_fields (T : List S34) (hT : T.length ≤ 1000) (B : Nat) (hB : B ≤ 1000000000) (i : Nat) (hi : i < 1000000) (n : ByteArray) (fs : List S40) (h5 : fs.length ≤ 1000) (hf : ∀ f ∈ fs, f.f0.size ≤ B) (K : Nat) (hK : B + 2000 ≤ K) (R : Option Bool) (hR : ∀ k, K ≤ k → foliateref06_May.l0 k ((i + 1 : Nat) : Int) T = R) :
    ∀ (d j : Nat), j + d = fs.length → ∀ k, K + 1 + 2 * d ≤ k → foliateref06_May.l1 k (i : Int) (j : Int) T n fs = if fieldsB T fs (fs.drop j) j = true then R else some false
  | 0, j, h, k, hk => by
    obtain ⟨k, rfl⟩ : ∃ q, k = q + 1 := ⟨k - 1, by omega⟩
    rw [foliateref06_May.l1.eq_2, if_neg (by omega), next_i i hi, hR k (by omega), List.drop_of_length_le (by omega)]
    exact (if_pos rfl).symm
  | d + 1, j, h, k, hk => by
    obtain ⟨k, rfl⟩ : ∃ q, k = q + 1 + 1 := ⟨k - 2, by omega⟩
    have jl : j < fs.length := by omega
    have hj := hf _ (List.getElem_mem jl)
    have ih := ref_may_fields T hT B hB i hi n fs h5 hf K hK R hR d (j + 1) (by omega) k (by omega)
    rw [← next_i j (by omega)] at ih
    have e1 := ref_name (fs[j]).f0 (by omega) (k + 1) (by omega)
    have e2 := ref_field n (fs[j]).f0 fs (by omega) (k + 1) (by omega)
    have e3 := ref_find (fs[j]).f2 T (by omega) k (by omega)
    have bad : ∀ x y z, foliateref06_May.j3 (k + 1) (i : Int) (j : Int) true T n fs x y z = some false := fun x y z => by rw [foliateref06_May.j3.eq_2, if_pos rfl]
    rw [foliateref06_May.l1.eq_2, if_pos (by omega), if_pos (by omega), rd40_at fs j jl, e1, obindS, List.drop_eq_getElem_cons jl]
    unfold fieldsB fieldB
    cases nameB (fs[j]).f0 with
    | false =>
      rw [if_neg (by decide), bad, Bool.false_and, Bool.and_false, Bool.false_and, Bool.false_and]
      rfl
    | true =>
      rw [if_pos rfl, e2, obindS, Bool.true_and]
      by_cases c : fieldIdx fs (fs[j]).f0 = (j : Int)
      · rw [if_pos c, c, beq_self_eq_true, Bool.and_true]
        by_cases c0 : (fs[j]).f1 < 0
        · rw [if_pos c0, bad, decide_eq_false (show ¬ (fs[j]).f1 ≥ 0 by omega), Bool.false_and, Bool.and_false, Bool.false_and]
          rfl
        · rw [if_neg c0, decide_eq_true (show (fs[j]).f1 ≥ 0 by omega), Bool.true_and]
          by_cases c6 : (fs[j]).f1 < 6
          · rw [decide_eq_false (by omega), decide_eq_true c6, Bool.and_true, foliateref06_May.j3.eq_2, if_neg (by decide)]
            by_cases c5 : (fs[j]).f1 = 5
            · rw [if_pos c5, e3, obindS, if_pos c5, ih]
              rcases place_ge (fun y : S34 => y.f0.toList == (fs[j]).f2.toList) T 0 with hp | hp
              · have hp' : nameIdx T (fs[j]).f2 = -1 := hp
                rw [hp', if_pos (by decide)]
                rfl
              · have hp' : 0 ≤ nameIdx T (fs[j]).f2 := hp
                rw [if_neg (by omega), beq_eq_false_iff_ne.2 (by omega)]
                rfl
            · rw [if_neg c5, if_neg c5, ih]
              by_cases ce : (fs[j]).f2.toList = []
              · rw [if_pos ce, ce]
                rfl
              · rw [if_neg ce]
                cases h : (fs[j]).f2.toList with
                | nil => exact absurd h ce
                | cons a b => rfl
          · rw [decide_eq_true (by omega), bad, decide_eq_false c6, Bool.and_false, Bool.false_and]
            rfl
      · rw [if_neg c, bad, beq_eq_false_iff_ne.2 c, Bool.and_false, Bool.false_and]
        rfl
set_option maxRecDepth 100000 in
theorem ref_may_types (T : List S34) (hT : T.length ≤ 1000) (B : Nat) (hB : B ≤ 1000000000) (hs : sizeN B T) : ∀ (d i : Nat), i + d = T.length → ∀ k, B + 2000 + d * 3000 + 1 ≤ k → foliateref06_May.l0 k (i : Int) T = some (typesB T (T.drop i) i && (decide (1 ≤ T.length) && decide (T.length ≤ 4)))
  | 0, i, h, k, hk => by
    obtain ⟨k, rfl⟩ : ∃ q, k = q + 1 := ⟨k - 1, by omega⟩
    rw [foliateref06_May.l0.eq_2, if_neg (by omega), List.drop_of_length_le (by omega)]
    by_cases c : 1 ≤ T.length
    · rw [if_pos (by omega), decide_eq_true c]
      by_cases c8 : T.length ≤ 4
      · rw [decide_eq_true c8, decide_eq_true (by omega)]
        rfl
      · rw [decide_eq_false c8, decide_eq_false (by omega)]
        rfl
    · rw [if_neg (by omega), decide_eq_false c]
      rfl
  | d + 1, i, h, k, hk => by
    obtain ⟨k, rfl⟩ : ∃ q, k = q + 1 + 1 := ⟨k - 2, by omega⟩
    have il : i < T.length := by omega
    obtain ⟨s1, s3, s2⟩ := hs T[i] (List.getElem_mem il)
    have e1 := ref_name (T[i]).f0 (by omega) (k + 1) (by omega)
    have e2 := ref_find (T[i]).f0 T (by omega) (k + 1) (by omega)
    have bad : ∀ x y, foliateref06_May.j1 (k + 1) (i : Int) true T x y = some false := fun x y => by rw [foliateref06_May.j1.eq_2, if_pos rfl]
    rw [foliateref06_May.l0.eq_2, if_pos (by omega), if_pos (by omega), rd34_at T i il, e1, obindS, List.drop_eq_getElem_cons il]
    unfold typesB typeB
    cases nameB (T[i]).f0 with
    | false =>
      rw [if_neg (by decide), bad]
      rfl
    | true =>
      rw [if_pos rfl, e2, obindS]
      by_cases c : nameIdx T (T[i]).f0 = (i : Int)
      · rw [if_pos c, c, beq_self_eq_true, foliateref06_May.j1.eq_2]
        by_cases c5 : (T[i]).f1.length ≤ 5
        · rw [decide_eq_false (by omega), if_neg (by decide), decide_eq_true c5]
          have ih := ref_may_types T hT B hB hs d (i + 1) (by omega)
          obtain ⟨K, hK⟩ : ∃ K, K = B + 2000 + d * 3000 + 1 := ⟨_, rfl⟩
          have hK2 : B + 2000 ≤ K := by omega
          have hK3 : K + 1 + 2 * (T[i]).f1.length ≤ k := by omega
          rw [← hK] at ih
          have hf := ref_may_fields T hT B hB i (by omega) (T[i]).f0 (T[i]).f1 s3 s2 K hK2 _ ih (T[i]).f1.length 0 (Nat.zero_add _) k hK3
          rw [List.drop_zero] at hf
          refine hf.trans ?_
          cases fieldsB T (T[i]).f1 (T[i]).f1 0 <;> rfl
        · rw [decide_eq_true (by omega), if_pos rfl, decide_eq_false c5]
          rfl
      · rw [if_neg c, bad, beq_eq_false_iff_ne.2 c]
        rfl
theorem ref_may (T : List S34) (hT : T.length ≤ 1000) (B : Nat) (hB : B ≤ 1000000000) (hs : sizeN B T) (k : Nat) (hk : B + 4000000 ≤ k) : foliateref06_May.f k T = some (mayB T) := by
  have hk' : B + 2000 + T.length * 3000 + 1 ≤ k := by omega
  have h := ref_may_types T hT B hB hs T.length 0 (Nat.zero_add _) k hk'
  rw [List.drop_zero, Bool.and_comm] at h
  unfold foliateref06_May.f mayB
  exact h
end Go.Proofs.Ytlcanmndeempfaa.Sch
