import Derived.Test.YtlcanmndeempfaaSchRefText
import Derived.Test.YtlcanmndeempfaaPAllx14
namespace Go.Proofs.Ytlcanmndeempfaa.Sch
open Go.RowKit Go.Proofs.Ytlcanmndeempfaa.PAll Go.Proofs.YtlcanmndeempfaaW.PrintWords Go.Proofs.YtlcanmndeempfaaW.PrintLast
open Go.Lib (encodeRune join)
/-! The document's own answer: what a text is read as. -/
theorem bt_list (s : ByteArray) (i : Nat) (c : UInt8) (h : s.data.toList[i]? = some c) : bt s (i : Int) = (c.toNat : Int) := by
  obtain ⟨hl, he⟩ := List.getElem?_eq_some_iff.1 h
  have hz : i < s.size := by rw [← data_len]; exact hl
  unfold bt
  rw [Int.toNat_natCast, dif_pos hz]
  congr 2
theorem byte_eq (a b : UInt8) : ((a.toNat : Int) = (b.toNat : Int)) ↔ a = b :=
  ⟨fun h => UInt8.toNat_inj.1 (by omega), fun h => by rw [h]⟩
/-- is a byte none of some? -/
def notIn (x1 : ByteArray) (b : UInt8) : Bool := !(x1.data.toList.any fun c => c == b)
theorem upto_l1 (x0 x1 : ByteArray) (h1 : x1.size ≤ 10) (i : Nat) (hi : i < x0.size) (hb : x0.size ≤ 1000000000) (b : UInt8) (hbi : x0.data.toList[i]? = some b) : ∀ (d j : Nat), j + d = x1.size → ∀ (K : Nat) (R : Option (ByteArray × ByteArray)), (∀ k, K ≤ k → foliateref06_upto.l0 k x0 x1 ((i + 1 : Nat) : Int) = R) → ∀ k, K + 1 + d ≤ k → foliateref06_upto.l1 k x0 x1 (i : Int) (j : Int) = if (x1.data.toList.drop j).any (fun c => c == b) = true then some (x0.extract 0 i, x0.extract i x0.size) else R
  | 0, j, h, K, R, hR, k, hk => by
    obtain ⟨k, rfl⟩ : ∃ q, k = q + 1 := ⟨k - 1, by omega⟩
    have he : x1.data.toList.drop j = [] := List.drop_eq_nil_of_le (by rw [data_len]; omega)
    rw [foliateref06_upto.l1.eq_2, if_neg (by omega), w64s ((i : Int) + 1) (by omega) (by omega), he]
    exact hR k (by omega)
  | d + 1, j, h, K, R, hR, k, hk => by
    obtain ⟨k, rfl⟩ : ∃ q, k = q + 1 := ⟨k - 1, by omega⟩
    have jl : j < x1.data.toList.length := by rw [data_len]; omega
    have ih := upto_l1 x0 x1 h1 i hi hb b hbi d (j + 1) (by omega) K R hR k (by omega)
    have e0 := bt_list x0 i b hbi
    have e1 := bt_list x1 j x1.data.toList[j] (List.getElem?_eq_getElem jl)
    rw [foliateref06_upto.l1.eq_2, if_pos (by omega), if_pos (by omega), if_pos (by omega), if_pos (by omega), e0, e1, w64s ((j : Int) + 1) (by omega) (by omega), show ((j : Int) + 1) = ((j + 1 : Nat) : Int) from rfl, ih, List.drop_eq_getElem_cons jl, List.any_cons]
    by_cases c : b = x1.data.toList[j]
    · rw [if_pos ((byte_eq _ _).2 c), if_pos (by omega), ← c, beq_self_eq_true, Bool.true_or, if_pos rfl, Int.toNat_natCast]
    · rw [if_neg (fun h => c ((byte_eq _ _).1 h)), beq_eq_false_iff_ne.2 (fun h => c h.symm), Bool.false_or]
theorem upto_l0 (x0 x1 : ByteArray) (h1 : x1.size ≤ 10) (hb : x0.size ≤ 1000000000) : ∀ (d i m : Nat), i + d = x0.size → m = i + ((x0.data.toList.drop i).takeWhile (notIn x1)).length → ∀ k, 20 * d + 1 ≤ k → foliateref06_upto.l0 k x0 x1 (i : Int) = some (x0.extract 0 m, x0.extract m x0.size)
  | 0, i, m, h, hm, k, hk => by
    obtain ⟨k, rfl⟩ : ∃ q, k = q + 1 := ⟨k - 1, by omega⟩
    have he : x0.data.toList.drop i = [] := List.drop_eq_nil_of_le (by rw [data_len]; omega)
    rw [he] at hm
    obtain rfl : m = x0.size := by rw [hm]; show i + 0 = _; omega
    have e1 : x0.extract 0 x0.size = x0 := ba_ext (by rw [drop_data, List.drop_zero])
    have e2 : x0.extract x0.size x0.size = ⟨#[]⟩ := ba_ext (by rw [drop_data]; exact List.drop_eq_nil_of_le (by rw [data_len]; exact Nat.le_refl _))
    rw [foliateref06_upto.l0.eq_2, if_neg (by omega), e1, e2]
  | d + 1, i, m, h, hm, k, hk => by
    obtain ⟨k, rfl⟩ : ∃ q, k = q + 1 := ⟨k - 1, by omega⟩
    have il : i < x0.data.toList.length := by rw [data_len]; omega
    obtain ⟨m', hm'⟩ : ∃ m', m' = i + 1 + ((x0.data.toList.drop (i + 1)).takeWhile (notIn x1)).length := ⟨_, rfl⟩
    have ih := upto_l0 x0 x1 h1 hb d (i + 1) m' (by omega) hm'
    have hl := upto_l1 x0 x1 h1 i (by omega) hb _ (List.getElem?_eq_getElem il) x1.size 0 (Nat.zero_add _) (20 * d + 1) _ ih k (by omega)
    rw [List.drop_zero] at hl
    rw [foliateref06_upto.l0.eq_2, if_pos (by omega)]
    refine hl.trans ?_
    rw [List.drop_eq_getElem_cons il, List.takeWhile_cons] at hm
    by_cases c : (x1.data.toList.any fun c => c == x0.data.toList[i]) = true
    · have hn : notIn x1 x0.data.toList[i] = false := by unfold notIn; rw [c]; rfl
      rw [hn] at hm
      rw [if_pos c]
      obtain rfl : m = i := hm
      rfl
    · have hn : notIn x1 x0.data.toList[i] = true := by unfold notIn; rw [Bool.eq_false_iff.2 c]; rfl
      rw [hn, if_pos rfl, List.length_cons] at hm
      obtain rfl : m = m' := by omega
      rw [if_neg c]
def cutN (x0 x1 : ByteArray) : Nat := (x0.data.toList.takeWhile (notIn x1)).length
theorem upto_eq (x0 x1 : ByteArray) (h1 : x1.size ≤ 10) (hb : x0.size ≤ 1000000000) (k : Nat) (hk : 20 * x0.size + 1 ≤ k) : foliateref06_upto.f k x0 x1 = some (x0.extract 0 (cutN x0 x1), x0.extract (cutN x0 x1) x0.size) :=
  upto_l0 x0 x1 h1 hb x0.size 0 (cutN x0 x1) (Nat.zero_add _) (by unfold cutN; rw [List.drop_zero, Nat.zero_add]) k hk
theorem head_data (s : ByteArray) (n : Nat) (_ : n ≤ s.size) : (s.extract 0 n).data.toList = s.data.toList.take n := by
  rw [ByteArray.data_extract, Array.toList_extract]
  show (s.data.toList.drop 0).take (n - 0) = _
  rw [List.drop_zero, Nat.sub_zero]
theorem cutN_le (x0 x1 : ByteArray) : cutN x0 x1 ≤ x0.size := by
  unfold cutN
  rw [← data_len]
  have := (List.takeWhile_sublist (l := x0.data.toList) (notIn x1)).length_le
  exact this
theorem head_size (s : ByteArray) (n : Nat) (h : n ≤ s.size) : (s.extract 0 n).size = n := by
  rw [← data_len, head_data s n h, List.length_take, data_len]
  omega
/-- a text that is some bytes without a stop, and a stop ahead of all others -/
theorem cut_at (x0 x1 : ByteArray) (a : List UInt8) (c : UInt8) (t : List UInt8) (h : x0.data.toList = a ++ c :: t) (ha : ∀ b ∈ a, notIn x1 b = true) (hc : notIn x1 c = false) : (x0.extract 0 (cutN x0 x1)).data.toList = a ∧ (x0.extract (cutN x0 x1) x0.size).data.toList = c :: t := by
  have e : cutN x0 x1 = a.length := by
    unfold cutN
    rw [h, List.takeWhile_append_of_pos ha, List.takeWhile_cons, hc]
    simp
  have hl := cutN_le x0 x1
  refine ⟨?_, ?_⟩
  · rw [head_data _ _ hl, e, h]
    simp
  · rw [drop_data, e, h]
    simp
/-! a field, by its name and what stands behind the colon -/
theorem idx_star (w : ByteArray) (h : idxK w ≠ -1) : starB w = false := by
  obtain ⟨y, hy, he⟩ := place_some _ kinds5 0 h
  have e : w = y := toList_inj (by rw [of_decide_eq_true he]; exact beq_self_eq_true _)
  subst e
  unfold kinds5 at hy
  simp only [List.mem_cons, List.not_mem_nil, or_false] at hy
  rcases hy with rfl | rfl | rfl | rfl | rfl
  all_goals
    rw [star_data]
    decide
theorem take_one : ∀ (l : List UInt8) (h : 0 < l.length), l.take 1 = [l[0]]
  | [], h => absurd h (by simp)
  | a :: b, _ => by simp
theorem star_bt (w : ByteArray) (h : 0 < w.size) : starB w = decide (bt w 0 = 42) := by
  have hl : 0 < w.data.toList.length := by rw [data_len]; exact h
  have e := bt_list w 0 _ (List.getElem?_eq_getElem hl)
  have e2 : (w.extract 0 1).data.toList = [w.data.toList[0]] := by
    rw [head_data w 1 h]
    exact take_one _ hl
  rw [show ((0 : Nat) : Int) = 0 from rfl] at e
  rw [star_data, e2, e, decide_eq_true (show 1 ≤ w.size from h), Bool.true_and]
  by_cases c : w.data.toList[0] = 42
  · rw [c]
    decide
  · have hne : ¬ ((w.data.toList[0].toNat : Int) = 42) := fun h => c (UInt8.toNat_inj.1 (show _ = (42 : UInt8).toNat by show _ = 42; omega))
    rw [decide_eq_false hne, beq_eq_false_iff_ne.2 (fun h => c (List.cons.inj h).1)]
def predK (w y : ByteArray) : Bool := decide (w.toList = y.toList)
theorem field_l0 (nm w : ByteArray) : ∀ (d i : Nat), i + d = kinds5.length → ∀ k, d < k → foliateref06_field.l0 k nm w kinds5 (i : Int) = if placeOf (predK w) (kinds5.drop i) i = -1 then (if starB w = true then some (nm, 5, w.extract 1 w.size) else some (nm, -1, ⟨#[]⟩)) else some (nm, placeOf (predK w) (kinds5.drop i) i, ⟨#[]⟩)
  | 0, i, h, k, hk => by
    obtain ⟨k, rfl⟩ : ∃ q, k = q + 1 := ⟨k - 1, by omega⟩
    rw [foliateref06_field.l0.eq_2, if_neg (by omega), List.drop_of_length_le (by omega), if_pos (show placeOf _ ([] : List ByteArray) i = -1 from rfl)]
    by_cases c : 0 < w.size
    · rw [if_pos (by omega), if_pos (by omega), star_bt w c]
      by_cases c2 : bt w 0 = 42
      · rw [if_pos c2, if_pos (by omega), decide_eq_true c2, if_pos rfl]
      · rw [if_neg c2, decide_eq_false c2]
        rfl
    · have hs : starB w = false := by
        unfold starB
        rw [decide_eq_false (show ¬ 1 ≤ w.size from c)]
        rfl
      rw [if_neg (by omega), hs]
      rfl
  | d + 1, i, h, k, hk => by
    obtain ⟨k, rfl⟩ : ∃ q, k = q + 1 := ⟨k - 1, by omega⟩
    have il : i < kinds5.length := by omega
    have i5 : i < 5 := il
    have ih := field_l0 nm w d (i + 1) (by omega) k (by omega)
    have er : rdOf ByteArray.empty kinds5 (i : Int) = kinds5[i] := by
      unfold rdOf
      rw [Int.toNat_natCast, List.getD_eq_getElem?_getD, List.getElem?_eq_getElem il]
      rfl
    rw [foliateref06_field.l0.eq_2, if_pos (by omega), if_pos (by omega), er, next_i i (by omega), ih, List.drop_eq_getElem_cons il]
    by_cases c : w.toList = (kinds5[i]).toList
    · have e1 : placeOf (predK w) (kinds5[i] :: kinds5.drop (i + 1)) i = (i : Int) := if_pos (decide_eq_true c)
      rw [if_pos c.symm]
      erw [e1]
      rw [if_neg (by omega)]
    · have e1 : placeOf (predK w) (kinds5[i] :: kinds5.drop (i + 1)) i = placeOf (predK w) (kinds5.drop (i + 1)) (i + 1) := if_neg (fun h => c (of_decide_eq_true h))
      rw [if_neg (fun h => c h.symm)]
      erw [e1]
theorem field_ref (nm w : ByteArray) (k : Nat) (hk : 10 ≤ k) : foliateref06_field.f k nm w = some ((readField nm w).f0, (readField nm w).f1, (readField nm w).f2) := by
  have h := field_l0 nm w 5 0 rfl k (by omega)
  rw [List.drop_zero] at h
  refine h.trans ?_
  show (if idxK w = -1 then _ else some (nm, idxK w, _)) = _
  unfold readField
  by_cases c : idxK w = -1
  · rw [if_pos c, c]
    cases starB w <;> rfl
  · rw [if_neg c, idx_star w c]
    rfl
theorem read_back {f : S40} (h : okF f) : readField f.f0 (kindB f.f1 ++ f.f2) = f := by
  obtain ⟨_, k0, k6, _, ht⟩ := h
  obtain ⟨f0, f1, f2⟩ := f
  by_cases c : f1 = 5
  · subst c
    exact read_star f0 f2
  · obtain rfl : f2 = ⟨#[]⟩ := ht c
    have e2 : kindB f1 ++ (⟨#[]⟩ : ByteArray) = kindB f1 := ba_ext (by rw [ba_app]; simp)
    show readField f0 (kindB f1 ++ ⟨#[]⟩) = _
    rw [e2]
    exact read_kind f0 k0 (show f1 < 5 by have h6 : f1 < 6 := k6; omega)
/-- a byte that is none of the four signs -/
def plainB (b : UInt8) : Prop := b ≠ 123 ∧ b ≠ 58 ∧ b ≠ 44 ∧ b ≠ 125
theorem enc_plain (r : Int) (h : isW r) : ∀ b ∈ encodeRune r, plainB b := by
  intro b hb
  rcases h with h | h
  · rw [enc_low r h.1 h.2.1, List.mem_singleton] at hb
    have e := toU8 r.toNat (by omega)
    subst hb
    refine ⟨fun h => ?_, fun h => ?_, fun h => ?_, fun h => ?_⟩ <;> rw [h] at e
    · have e : 123 = r.toNat := e; omega
    · have e : 58 = r.toNat := e; omega
    · have e : 44 = r.toNat := e; omega
    · have e : 125 = r.toNat := e; omega
  · rw [enc_two r (by omega) h.2, List.mem_cons, List.mem_singleton] at hb
    rcases hb with rfl | hb
    · exact ⟨by decide, by decide, by decide, by decide⟩
    · have e := toU8 (r - 64).toNat (by omega)
      subst hb
      refine ⟨fun h => ?_, fun h => ?_, fun h => ?_, fun h => ?_⟩ <;> rw [h] at e
      · have e : 123 = (r - 64).toNat := e; omega
      · have e : 58 = (r - 64).toNat := e; omega
      · have e : 44 = (r - 64).toNat := e; omega
      · have e : 125 = (r - 64).toNat := e; omega
theorem name_plain {s : ByteArray} {rs : List Int} (h : isName s rs) : ∀ b ∈ s.data.toList, plainB b := by
  obtain ⟨_, h2, h3, _⟩ := h
  intro b hb
  rw [h2] at hb
  obtain ⟨r, hr, hb⟩ := List.mem_flatMap.1 hb
  exact enc_plain r (h3 r hr) b hb
theorem kind_plain {k : Int} (h0 : 0 ≤ k) (h6 : k < 6) : ∀ b ∈ (kindB k).data.toList, plainB b := by
  rw [← kind_data h0 h6]
  intro b hb
  obtain ⟨r, hr, hb⟩ := List.mem_flatMap.1 hb
  exact enc_plain r (kind_w h0 h6 r hr) b hb
theorem notIn_plain1 {b : UInt8} (h : plainB b) : notIn (⟨#[123]⟩ : ByteArray) b = true ∧ notIn (⟨#[58]⟩ : ByteArray) b = true ∧ notIn (⟨#[44, 125]⟩ : ByteArray) b = true := by
  obtain ⟨h1, h2, h3, h4⟩ := h
  refine ⟨?_, ?_, ?_⟩
  · show (!((123 == b) || false)) = true
    rw [beq_eq_false_iff_ne.2 h1.symm]
    rfl
  · show (!((58 == b) || false)) = true
    rw [beq_eq_false_iff_ne.2 h2.symm]
    rfl
  · show (!((44 == b) || ((125 == b) || false))) = true
    rw [beq_eq_false_iff_ne.2 h3.symm, beq_eq_false_iff_ne.2 h4.symm]
    rfl
end Go.Proofs.Ytlcanmndeempfaa.Sch
