import Derived.Test.YtlcanmndeempfaaSchRefRead
namespace Go.Proofs.Ytlcanmndeempfaa.Sch
open Go.RowKit Go.Proofs.Ytlcanmndeempfaa.PAll Go.Proofs.YtlcanmndeempfaaW.PrintWords Go.Proofs.YtlcanmndeempfaaW.PrintLast
open Go.Lib (encodeRune join)
/-! The document's own answer: a text is read just as the program reads it. -/
def finR (s : ByteArray) (T : List S34) : List S34 × Bool := if mayB T = true then (if (textQ T).toList = s.toList then (T, true) else ([], false)) else ([], false)
theorem rd_tail (s x5 : ByteArray) (T : List S34) (hT : T.length ≤ 1000) (B : Nat) (hB : B ≤ 1000000000) (hs : sizeN B T) (k : Nat) (hk : B + 4000001 ≤ k) : foliateref06_Read.j1 k s x5 false T = some (finR s T) := by
  obtain ⟨k, rfl⟩ : ∃ q, k = q + 1 := ⟨k - 1, by omega⟩
  rw [foliateref06_Read.j1.eq_2, if_neg (by decide), ref_may T hT B hB hs k (by omega), obindS]
  unfold finR
  cases mayB T with
  | false => rfl
  | true =>
    rw [if_pos rfl, ref_text T hT B hB hs k (by omega), obindS, if_pos rfl]
    by_cases c : (textQ T).toList = s.toList
    · rw [if_pos c, if_pos c]
    · rw [if_neg c, if_neg c]
theorem rd_l0_end (s x5 : ByteArray) (T : List S34) (hT : T.length ≤ 1000) (B : Nat) (hB : B ≤ 1000000000) (hs : sizeN B T) (he : x5.size = 0 ∨ 4 < T.length) (k : Nat) (hk : B + 4000002 ≤ k) : foliateref06_Read.l0 k s x5 T = some (finR s T) := by
  obtain ⟨k, rfl⟩ : ∃ q, k = q + 1 := ⟨k - 1, by omega⟩
  rw [foliateref06_Read.l0.eq_2]
  by_cases c : (x5.size : Int) > 0
  · rw [if_pos c, decide_eq_false (by omega), rd_tail s x5 T hT B hB hs k (by omega)]
  · rw [if_neg c, rd_tail s x5 T hT B hB hs k (by omega)]
theorem rd_l0_go (s x5 : ByteArray) (T : List S34) (h0 : 0 < x5.size) (hb : x5.size ≤ 1000000000) (hT : T.length ≤ 4) (k : Nat) (hk : 20 * x5.size + 1 ≤ k) : foliateref06_Read.l0 (k + 1 + 1) s x5 T = foliateref06_Read.l1 k s (x5.extract (cutN x5 (⟨#[123]⟩ : ByteArray)) x5.size) T (x5.extract 0 (cutN x5 (⟨#[123]⟩ : ByteArray))) [] := by
  rw [foliateref06_Read.l0.eq_2, if_pos (by omega), decide_eq_true (by omega), foliateref06_Read.j1.eq_2, if_pos rfl, upto_eq x5 _ (by decide) hb k hk, obindS]
theorem ext_nil (x : ByteArray) (h : x.size = 0) : x.extract 1 x.size = x := ba_ext (by
  have e : x.data.toList = [] := List.eq_nil_of_length_eq_zero (by rw [data_len]; exact h)
  rw [drop_data, e]
  rfl)
theorem rd_j3_end (s x5 : ByteArray) (T : List S34) (nm : ByteArray) (fs : List S40) (hT : T.length ≤ 1000) (k : Nat) : foliateref06_Read.j3 (k + 1) s x5 false T nm fs = foliateref06_Read.l0 k s (x5.extract 1 x5.size) (T ++ [⟨nm, fs⟩]) := by
  rw [foliateref06_Read.j3.eq_2, if_neg (by decide)]
  by_cases c : (x5.size : Int) > 0
  · rw [if_pos c, if_pos (by omega), if_pos (by omega)]
  · rw [if_neg c, if_pos (by omega), ext_nil x5 (by omega)]
theorem rd_l1_end (s x5 : ByteArray) (T : List S34) (nm : ByteArray) (fs : List S40) (hT : T.length ≤ 1000) (he : x5.size ≤ 1 ∨ bt x5 0 = 125 ∨ 5 < fs.length) (k : Nat) : foliateref06_Read.l1 (k + 1 + 1) s x5 T nm fs = foliateref06_Read.l0 k s (x5.extract 1 x5.size) (T ++ [⟨nm, fs⟩]) := by
  rw [foliateref06_Read.l1.eq_2]
  by_cases c : (x5.size : Int) > 1
  · rw [if_pos c, if_pos (by omega)]
    by_cases c2 : bt x5 0 = 125
    · rw [if_pos c2, rd_j3_end _ _ _ _ _ hT]
    · rw [if_neg c2, decide_eq_false (by omega), rd_j3_end _ _ _ _ _ hT]
  · rw [if_neg c, rd_j3_end _ _ _ _ _ hT]
theorem rd_l1_skip (s x5 : ByteArray) (T : List S34) (nm : ByteArray) (fs : List S40) (h1 : 1 < x5.size) (h2 : bt x5 0 = 123) (h3 : bt x5 1 = 125) (h5 : fs.length ≤ 5) (k : Nat) : foliateref06_Read.l1 (k + 1 + 1 + 1) s x5 T nm fs = foliateref06_Read.l1 k s (x5.extract 1 x5.size) T nm fs := by
  rw [foliateref06_Read.l1.eq_2, if_pos (by omega), if_pos (by omega), if_neg (by omega), decide_eq_true (by omega), foliateref06_Read.j3.eq_2, if_pos rfl, if_pos (by omega), if_pos h3, if_pos (by omega), foliateref06_Read.j4.eq_2, if_pos (by rw [h2]; rfl), if_pos (by omega)]
def partF (x5 : ByteArray) : ByteArray := (x5.extract 1 x5.size).extract 0 (cutN (x5.extract 1 x5.size) (⟨#[58]⟩ : ByteArray))
def partB (x5 : ByteArray) : ByteArray := (x5.extract 1 x5.size).extract (cutN (x5.extract 1 x5.size) (⟨#[58]⟩ : ByteArray)) (x5.extract 1 x5.size).size
def partK (x5 : ByteArray) : ByteArray := (partB x5).extract 0 (cutN (partB x5) (⟨#[44, 125]⟩ : ByteArray))
def partR (x5 : ByteArray) : ByteArray := (partB x5).extract (cutN (partB x5) (⟨#[44, 125]⟩ : ByteArray)) (partB x5).size
theorem partF_size (x5 : ByteArray) : (partF x5).size ≤ x5.size - 1 := by
  unfold partF
  rw [head_size _ _ (cutN_le _ _)]
  have := cutN_le (x5.extract 1 x5.size) (⟨#[58]⟩ : ByteArray)
  rw [drop_size] at this
  exact this
theorem partB_size (x5 : ByteArray) : (partB x5).size ≤ x5.size - 1 := by
  unfold partB
  rw [drop_size, drop_size]
  omega
theorem partR_size (x5 : ByteArray) : (partR x5).size ≤ x5.size - 1 := by
  have := partB_size x5
  unfold partR
  rw [drop_size]
  omega
theorem rd_l1_go (s x5 : ByteArray) (T : List S34) (nm : ByteArray) (fs : List S40) (h1 : 1 < x5.size) (h2 : ¬ bt x5 0 = 125) (h3 : ¬ (bt x5 0 = 123 ∧ bt x5 1 = 125)) (h5 : fs.length ≤ 5) (hb : x5.size ≤ 1000000000) (k : Nat) (hk : 20 * x5.size + 20 ≤ k) : foliateref06_Read.l1 (k + 1 + 1 + 1) s x5 T nm fs = foliateref06_Read.l1 k s (partR x5) T nm (fs ++ [readField (partF x5) ((partK x5).extract 1 (partK x5).size)]) := by
  have hu := drop_size x5 1
  have e1 : foliateref06_upto.f k (x5.extract 1 x5.size) (⟨#[58]⟩ : ByteArray) = some (partF x5, partB x5) := upto_eq _ _ (by decide) (by omega) k (by omega)
  have hB := partB_size x5
  have e2 : foliateref06_upto.f k (partB x5) (⟨#[44, 125]⟩ : ByteArray) = some (partK x5, partR x5) := upto_eq _ _ (by decide) (by omega) k (by omega)
  have j4 : foliateref06_Read.j4 (k + 1) s x5 false T nm fs = foliateref06_Read.l1 k s (partR x5) T nm (fs ++ [readField (partF x5) ((partK x5).extract 1 (partK x5).size)]) := by
    rw [foliateref06_Read.j4.eq_2, if_neg (by decide), if_pos (by omega), e1, obindS]
    dsimp only
    rw [e2, obindS]
    dsimp only
    by_cases c : ((partK x5).size : Int) > 0
    · rw [if_pos c, if_pos (by omega), field_ref _ _ k (by omega), obindS, if_pos (by omega)]
    · rw [if_neg c, field_ref _ _ k (by omega), obindS, if_pos (by omega), ext_nil (partK x5) (by omega)]
  rw [foliateref06_Read.l1.eq_2, if_pos (by omega), if_pos (by omega), if_neg h2, decide_eq_true (by omega), foliateref06_Read.j3.eq_2, if_pos rfl, if_pos (by omega)]
  by_cases c : bt x5 1 = 125
  · have hne : (bt x5 0 == 123) = false := beq_eq_false_iff_ne.2 (fun h => h3 ⟨h, c⟩)
    rw [if_pos c, if_pos (by omega), hne, j4]
  · rw [if_neg c, j4]
theorem sizeN_app {B : Nat} {T : List S34} {nm : ByteArray} {fs : List S40} (h : sizeN B T) (h1 : nm.size ≤ B) (h2 : fs.length ≤ 1000) (h3 : ∀ f ∈ fs, f.f0.size ≤ B) : sizeN B (T ++ [⟨nm, fs⟩]) := fun t ht => by
  rcases List.mem_append.1 ht with hm | hm
  · exact h t hm
  · rw [List.mem_singleton.1 hm]
    exact ⟨h1, h2, h3⟩
/-- some reading comes to its end, whatever stands there -/
theorem rd_total (s : ByteArray) (B : Nat) (hB : B ≤ 1000000000) (C : Nat) (hC : B + 4000010 ≤ C) (hC2 : 20 * B + 100 ≤ C) : ∀ n : Nat, (∀ (x5 : ByteArray), x5.size ≤ n → x5.size ≤ B → ∀ (T : List S34) (nm : ByteArray) (fs : List S40), T.length ≤ 4 → sizeN B T → nm.size ≤ B → fs.length ≤ 6 → (∀ f ∈ fs, f.f0.size ≤ B) → ∃ out, out.length ≤ 5 ∧ sizeN B out ∧ ∀ k, C + 10 * n + 5 ≤ k → foliateref06_Read.l1 k s x5 T nm fs = some (finR s out)) ∧ (∀ (x5 : ByteArray), x5.size ≤ n → x5.size ≤ B → ∀ (T : List S34), T.length ≤ 5 → sizeN B T → ∃ out, out.length ≤ 5 ∧ sizeN B out ∧ ∀ k, C + 10 * n + 8 ≤ k → foliateref06_Read.l0 k s x5 T = some (finR s out)) := by
  intro n
  induction n with
  | zero =>
    have H1 : ∀ (x5 : ByteArray), x5.size ≤ 0 → x5.size ≤ B → ∀ (T : List S34) (nm : ByteArray) (fs : List S40), T.length ≤ 4 → sizeN B T → nm.size ≤ B → fs.length ≤ 6 → (∀ f ∈ fs, f.f0.size ≤ B) → ∃ out, out.length ≤ 5 ∧ sizeN B out ∧ ∀ k, C + 10 * 0 + 5 ≤ k → foliateref06_Read.l1 k s x5 T nm fs = some (finR s out) := fun x5 h0 hb T nm fs hT hs hn hf hg => by
      have hs2 := sizeN_app hs hn (by omega) hg
      have hl2 : (T ++ [(⟨nm, fs⟩ : S34)]).length = T.length + 1 := by simp
      refine ⟨T ++ [⟨nm, fs⟩], by omega, hs2, fun k hk => ?_⟩
      obtain ⟨k, rfl⟩ : ∃ q, k = q + 1 + 1 := ⟨k - 2, by omega⟩
      rw [rd_l1_end s x5 T nm fs (by omega) (by omega) k, rd_l0_end s _ _ (by omega) B hB hs2 (.inl (by rw [drop_size]; omega)) k (by omega)]
    refine ⟨H1, fun x5 h0 hb T hT hs => ⟨T, hT, hs, fun k hk => ?_⟩⟩
    exact rd_l0_end s x5 T (by omega) B hB hs (.inl (by omega)) k (by omega)
  | succ n ih =>
    have H1 : ∀ (x5 : ByteArray), x5.size ≤ n + 1 → x5.size ≤ B → ∀ (T : List S34) (nm : ByteArray) (fs : List S40), T.length ≤ 4 → sizeN B T → nm.size ≤ B → fs.length ≤ 6 → (∀ f ∈ fs, f.f0.size ≤ B) → ∃ out, out.length ≤ 5 ∧ sizeN B out ∧ ∀ k, C + 10 * (n + 1) + 5 ≤ k → foliateref06_Read.l1 k s x5 T nm fs = some (finR s out) := fun x5 h0 hb T nm fs hT hs hn hf hg => by
      have hl2 : (T ++ [(⟨nm, fs⟩ : S34)]).length = T.length + 1 := by simp
      by_cases c : x5.size ≤ 1 ∨ bt x5 0 = 125 ∨ 5 < fs.length
      · obtain ⟨out, h1, h2, h3⟩ := ih.2 (x5.extract 1 x5.size) (by rw [drop_size]; omega) (by rw [drop_size]; omega) (T ++ [⟨nm, fs⟩]) (by omega) (sizeN_app hs hn (by omega) hg)
        refine ⟨out, h1, h2, fun k hk => ?_⟩
        obtain ⟨k, rfl⟩ : ∃ q, k = q + 1 + 1 := ⟨k - 2, by omega⟩
        rw [rd_l1_end s x5 T nm fs (by omega) c k]
        exact h3 k (by omega)
      · have c1 : 1 < x5.size := by omega
        have c2 : ¬ bt x5 0 = 125 := fun h => c (.inr (.inl h))
        have c3 : fs.length ≤ 5 := by omega
        clear c
        by_cases c4 : bt x5 0 = 123 ∧ bt x5 1 = 125
        · obtain ⟨out, h1, h2, h3⟩ := ih.1 (x5.extract 1 x5.size) (by rw [drop_size]; omega) (by rw [drop_size]; omega) T nm fs hT hs hn hf hg
          refine ⟨out, h1, h2, fun k hk => ?_⟩
          obtain ⟨k, rfl⟩ : ∃ q, k = q + 1 + 1 + 1 := ⟨k - 3, by omega⟩
          rw [rd_l1_skip s x5 T nm fs c1 c4.1 c4.2 c3 k]
          exact h3 k (by omega)
        · have hr := partR_size x5
          have hp := partF_size x5
          have hl3 : (fs ++ [readField (partF x5) ((partK x5).extract 1 (partK x5).size)]).length = fs.length + 1 := by simp
          obtain ⟨out, h1, h2, h3⟩ := ih.1 (partR x5) (by omega) (by omega) T nm (fs ++ [readField (partF x5) ((partK x5).extract 1 (partK x5).size)]) hT hs hn (by omega) (fun f hm => by
            rcases List.mem_append.1 hm with hm | hm
            · exact hg f hm
            · rw [List.mem_singleton.1 hm, readField_f0]
              omega)
          refine ⟨out, h1, h2, fun k hk => ?_⟩
          obtain ⟨k, rfl⟩ : ∃ q, k = q + 1 + 1 + 1 := ⟨k - 3, by omega⟩
          rw [rd_l1_go s x5 T nm fs c1 c2 c4 c3 (by omega) k (by omega)]
          exact h3 k (by omega)
    refine ⟨H1, fun x5 h0 hb T hT hs => ?_⟩
    by_cases c : x5.size = 0 ∨ 4 < T.length
    · exact ⟨T, hT, hs, fun k hk => rd_l0_end s x5 T (by omega) B hB hs c k (by omega)⟩
    · have hc := cutN_le x5 (⟨#[123]⟩ : ByteArray)
      obtain ⟨out, h1, h2, h3⟩ := H1 (x5.extract (cutN x5 (⟨#[123]⟩ : ByteArray)) x5.size) (by rw [drop_size]; omega) (by rw [drop_size]; omega) T (x5.extract 0 (cutN x5 (⟨#[123]⟩ : ByteArray))) [] (by omega) hs (by rw [head_size _ _ hc]; omega) (Nat.zero_le _) (fun f hf => absurd hf (by simp))
      refine ⟨out, h1, h2, fun k hk => ?_⟩
      obtain ⟨k, rfl⟩ : ∃ q, k = q + 1 + 1 := ⟨k - 2, by omega⟩
      rw [rd_l0_go s x5 T (by omega) (by omega) (by omega) k (by omega)]
      exact h3 k (by omega)
/-! the text of a schema -/
theorem bt_head {x : ByteArray} {c : UInt8} {t : List UInt8} (h : x.data.toList = c :: t) : bt x 0 = (c.toNat : Int) := bt_list x 0 c (by rw [h]; rfl)
theorem bt_next {x : ByteArray} {c d : UInt8} {t : List UInt8} (h : x.data.toList = c :: d :: t) : bt x 1 = (d.toNat : Int) := bt_list x 1 d (by rw [h]; rfl)
theorem data_size {x : ByteArray} {l : List UInt8} (h : x.data.toList = l) : x.size = l.length := by rw [← h, data_len]
theorem enc_ne (r : Int) (h : isW r) : encodeRune r ≠ [] := by
  rcases h with h | h
  · rw [enc_low r h.1 h.2.1]
    simp
  · rw [enc_two r (by omega) h.2]
    simp
theorem name_cons {s : ByteArray} {rs : List Int} (h : isName s rs) : ∃ b t, s.data.toList = b :: t := by
  obtain ⟨_, h2, h3, h4, _⟩ := h
  cases hd : s.data.toList with
  | cons b t => exact ⟨b, t, rfl⟩
  | nil =>
    rw [hd] at h2
    cases rs with
    | nil => exact absurd h4 (by simp)
    | cons r rs =>
      rw [List.flatMap_cons] at h2
      exact absurd (List.append_eq_nil_iff.1 h2.symm).1 (enc_ne r (h3 r (by simp)))
/-- a field's own text, with a sign ahead, and a comma or a brace behind -/
theorem parts_field {f : S40} (ok : okF f) (x : ByteArray) (c e : UInt8) (t : List UInt8) (h : x.data.toList = c :: ((fieldT f).data.toList ++ e :: t)) (he : e = 44 ∨ e = 125) : partF x = f.f0 ∧ (partR x).data.toList = e :: t ∧ readField (partF x) ((partK x).extract 1 (partK x).size) = f ∧ (∃ b r, x.data.toList = c :: b :: r ∧ b ≠ 125) := by
  have ok0 := ok
  obtain ⟨⟨rs, hn⟩, k0, k6, hr, ht⟩ := ok0
  have pn := name_plain hn
  have pk := kind_plain k0 k6
  have pt : ∀ b ∈ f.f2.data.toList, plainB b := by
    by_cases c5 : f.f1 = 5
    · obtain ⟨ts, ht⟩ := hr c5
      exact name_plain ht
    · rw [ht c5]
      intro b hb
      exact absurd hb (by simp)
  have ef : (fieldT f).data.toList = f.f0.data.toList ++ 58 :: ((kindB f.f1).data.toList ++ f.f2.data.toList) := by
    unfold fieldT
    simp only [ba_app]
    simp
  have hu : (x.extract 1 x.size).data.toList = f.f0.data.toList ++ 58 :: (((kindB f.f1).data.toList ++ f.f2.data.toList) ++ e :: t) := by
    rw [drop_data, h, ef]
    simp
  obtain ⟨a1, a2⟩ := cut_at (x.extract 1 x.size) (⟨#[58]⟩ : ByteArray) _ 58 _ hu (fun b hb => (notIn_plain1 (pn b hb)).2.1) (by decide)
  have b2 : (partB x).data.toList = (58 :: ((kindB f.f1).data.toList ++ f.f2.data.toList)) ++ e :: t := a2
  obtain ⟨d1, d2⟩ := cut_at (partB x) (⟨#[44, 125]⟩ : ByteArray) _ e t b2 (fun b hb => by
    rcases List.mem_cons.1 hb with rfl | hb
    · decide
    · rcases List.mem_append.1 hb with hb | hb
      · exact (notIn_plain1 (pk b hb)).2.2
      · exact (notIn_plain1 (pt b hb)).2.2) (by rcases he with rfl | rfl <;> decide)
  have eF : partF x = f.f0 := ba_ext a1
  have eK : (partK x).extract 1 (partK x).size = kindB f.f1 ++ f.f2 := ba_ext (by
    rw [drop_data, ba_app]
    show ((partB x).extract 0 (cutN (partB x) (⟨#[44, 125]⟩ : ByteArray))).data.toList.drop 1 = _
    rw [d1]
    rfl)
  refine ⟨eF, d2, by rw [eF, eK, read_back ok], ?_⟩
  obtain ⟨b, r, hbr⟩ := name_cons hn
  refine ⟨b, _, by rw [h, ef, hbr]; rfl, (pn b (by rw [hbr]; simp)).2.2.2⟩
theorem rp_fields (s : ByteArray) (T : List S34) (nm : ByteArray) (more : List UInt8) (M : Nat) (hM : M ≤ 1000000000) (K : Nat) (hK : 20 * M + 100 ≤ K) (R : Option (List S34 × Bool)) : ∀ (fs : List S40) (_ : ∀ g ∈ fs, okF g) (f : S40) (_ : okF f) (gs : List S40) (_ : gs.length + fs.length ≤ 5) (c : UInt8) (_ : c ≠ 125) (x : ByteArray) (_ : x.size ≤ M) (_ : x.data.toList = c :: ((fieldT f).data.toList ++ (commaL fs ++ 125 :: more))) (_ : ∀ y : ByteArray, y.data.toList = 125 :: more → ∀ k, K ≤ k → foliateref06_Read.l1 k s y T nm (gs ++ f :: fs) = R), ∀ k, K + 3 * fs.length + 3 ≤ k → foliateref06_Read.l1 k s x T nm gs = R
  | [], _, f, ok, gs, hg, c, hc, x, hx, h, hR, k, hk => by
    obtain ⟨k, rfl⟩ : ∃ q, k = q + 1 + 1 + 1 := ⟨k - 3, by omega⟩
    have h' : x.data.toList = c :: ((fieldT f).data.toList ++ 125 :: more) := h
    obtain ⟨e1, e2, e3, b, r, e4, e5⟩ := parts_field ok x c 125 more h' (.inr rfl)
    have hz := data_size e4
    rw [List.length_cons, List.length_cons] at hz
    have t0 := bt_head e4
    have t1 := bt_next e4
    rw [rd_l1_go s x T nm gs (by omega) (fun q => hc ((byte_eq c 125).1 (t0 ▸ q))) (fun q => e5 ((byte_eq b 125).1 (t1 ▸ q.2))) (by omega) (by omega) k (by omega), e3]
    exact hR _ e2 k (by omega)
  | g :: fs, hf, f, ok, gs, hg, c, hc, x, hx, h, hR, k, hk => by
    rw [List.length_cons] at hk hg
    obtain ⟨k, rfl⟩ : ∃ q, k = q + 1 + 1 + 1 := ⟨k - 3, by omega⟩
    have h' : x.data.toList = c :: ((fieldT f).data.toList ++ 44 :: ((fieldT g).data.toList ++ (commaL fs ++ 125 :: more))) := by
      rw [h]
      simp [commaL]
    obtain ⟨e1, e2, e3, b, r, e4, e5⟩ := parts_field ok x c 44 _ h' (.inl rfl)
    have hz := data_size e4
    rw [List.length_cons, List.length_cons] at hz
    have t0 := bt_head e4
    have t1 := bt_next e4
    have hr := partR_size x
    have hl3 : (gs ++ [f]).length = gs.length + 1 := by simp
    rw [rd_l1_go s x T nm gs (by omega) (fun q => hc ((byte_eq c 125).1 (t0 ▸ q))) (fun q => e5 ((byte_eq b 125).1 (t1 ▸ q.2))) (by omega) (by omega) k (by omega), e3]
    refine rp_fields s T nm more M hM K hK R fs (fun y hy => hf y (List.mem_cons_of_mem _ hy)) g (hf g (by simp)) (gs ++ [f]) (by omega) 44 (by decide) (partR x) (by omega) e2 (fun y hy k hk => ?_) k (by omega)
    rw [List.append_assoc]
    exact hR y hy k hk
theorem rp_types (s : ByteArray) (B : Nat) (hB : B ≤ 1000000000) (C : Nat) (hC : B + 4000010 ≤ C) (M : Nat) (hM : M ≤ 1000000000) (hC2 : 20 * M + 200 ≤ C) : ∀ (L : List S34) (_ : ∀ t ∈ L, okT t ∧ t.f1.length ≤ 5) (T : List S34) (_ : T.length + L.length ≤ 4) (_ : sizeN B (T ++ L)) (x : ByteArray) (_ : x.size ≤ M) (_ : x.data.toList = textL L), ∀ k, C + 50 * L.length ≤ k → foliateref06_Read.l0 k s x T = some (finR s (T ++ L))
  | [], _, T, hT, hs, x, hx, h, k, hk => by
    have hz := data_size h
    have hz : x.size = 0 := hz
    rw [List.append_nil] at hs ⊢
    have hT : T.length ≤ 4 := hT
    exact rd_l0_end s x T (by omega) B hB hs (.inl hz) k (by omega)
  | ⟨n, fs⟩ :: L, hL, T, hT, hs, x, hx, h, k, hk => by
    rw [List.length_cons] at hT hk
    obtain ⟨k, rfl⟩ : ∃ q, k = q + 1 + 1 := ⟨k - 2, by omega⟩
    obtain ⟨⟨⟨rs, hn⟩, hok⟩, h5⟩ := hL ⟨n, fs⟩ (by simp)
    have hn : isName n rs := hn
    have hok : ∀ f ∈ fs, okF f := hok
    have h5 : fs.length ≤ 5 := h5
    have pn := name_plain hn
    have e : x.data.toList = n.data.toList ++ 123 :: (join ((fs.map fieldT).map (·.data.toList)) [44] ++ 125 :: textL L) := by
      rw [h]
      unfold textL
      rw [List.flatMap_cons]
      unfold typeT
      simp only [ba_app]
      simp
    obtain ⟨a1, a2⟩ := cut_at x (⟨#[123]⟩ : ByteArray) _ 123 _ e (fun b hb => (notIn_plain1 (pn b hb)).1) (by decide)
    have hz := data_size e
    rw [List.length_append, List.length_cons] at hz
    have eN : x.extract 0 (cutN x (⟨#[123]⟩ : ByteArray)) = n := ba_ext a1
    have hy : (x.extract (cutN x (⟨#[123]⟩ : ByteArray)) x.size).size ≤ M := by rw [drop_size]; omega
    rw [rd_l0_go s x T (by omega) (by omega) (by omega) k (by omega), eN]
    have ih := rp_types s B hB C hC M hM hC2 L (fun t ht => hL t (List.mem_cons_of_mem _ ht)) (T ++ [⟨n, fs⟩]) (by simp; omega) (by rw [List.append_assoc]; exact hs)
    have last : ∀ y : ByteArray, y.size ≤ M + 10 → y.data.toList = 125 :: textL L → ∀ k, C + 50 * L.length + 2 ≤ k → foliateref06_Read.l1 k s y T n fs = some (finR s (T ++ (⟨n, fs⟩ :: L))) := fun y hy e k hk => by
      obtain ⟨k, rfl⟩ : ∃ q, k = q + 1 + 1 := ⟨k - 2, by omega⟩
      have hyz := data_size e
      rw [List.length_cons] at hyz
      have eD : (y.extract 1 y.size).data.toList = textL L := by rw [drop_data, e]; rfl
      have hdz := data_size eD
      have hxz := data_size h
      have hxl : (textL L).length ≤ x.size := by
        rw [hxz]
        unfold textL
        rw [List.flatMap_cons, List.length_append]
        omega
      rw [rd_l1_end s y T n fs (by omega) (.inr (.inl (bt_head e))) k, ih (y.extract 1 y.size) (by omega) eD k (by omega), List.append_assoc]
      rfl
    cases fs with
    | nil =>
      have a3 : (x.extract (cutN x (⟨#[123]⟩ : ByteArray)) x.size).data.toList = 123 :: 125 :: textL L := a2
      obtain ⟨k, rfl⟩ : ∃ q, k = q + 1 + 1 + 1 := ⟨k - 3, by omega⟩
      have hz3 := data_size a3
      rw [List.length_cons, List.length_cons] at hz3
      rw [rd_l1_skip s _ T n [] (by omega) (bt_head a3) (bt_next a3) (Nat.zero_le _) k]
      exact last _ (by rw [drop_size]; omega) (by rw [drop_data, a3]; rfl) k (by omega)
    | cons f fs =>
      rw [join_comma, List.append_assoc] at a2
      have hlen : fs.length + 1 ≤ 5 := h5
      refine rp_fields s T n (textL L) M hM (C + 50 * L.length + 2) (by omega) _ fs (fun g hg => hok g (List.mem_cons_of_mem _ hg)) f (hok f (by simp)) [] (by show 0 + fs.length ≤ 5; omega) 123 (by decide) _ hy a2 (fun y hy k hk => ?_) k (by omega)
      have hyz := data_size hy
      rw [List.length_cons] at hyz
      have hxz := data_size h
      have hxl : (textL L).length ≤ x.size := by
        rw [hxz]
        unfold textL
        rw [List.flatMap_cons, List.length_append]
        omega
      exact last y (by omega) hy k hk
theorem read_fail {s : ByteArray} (hr : (readQ s).2 = false) : readQ s = ([], false) := by
  have this := hr
  unfold readQ at this ⊢
  cases e : parse s.data.toList start0 with
  | none => rfl
  | some st =>
    rw [e] at this
    have this : (if ((textQ st.T).toList != s.toList || s.toList.isEmpty) = true then (([], false) : List S34 × Bool) else (st.T, true)).2 = false := this
    show (if ((textQ st.T).toList != s.toList || s.toList.isEmpty) = true then (([], false) : List S34 × Bool) else (st.T, true)) = _
    split at this
    · rw [if_pos (by assumption)]
    · exact absurd this (by simp)
/-- the document's own answer on a text is the program's -/
theorem ref_read (s : ByteArray) (h : s.size ≤ 600) (k : Nat) (hk : 6000000 ≤ k) : foliateref06_Read.f k s = some (readQ s) := by
  obtain ⟨C, hC⟩ : ∃ C, C = 5000000 := ⟨_, rfl⟩
  obtain ⟨B, hB⟩ : ∃ B, B = 600 := ⟨_, rfl⟩
  obtain ⟨out, h1, h2, h3⟩ := (rd_total s B (by omega) C (by omega) (by omega) s.size).2 s (Nat.le_refl _) (by omega) [] (Nat.zero_le _) (fun t ht => absurd ht (by simp))
  have h4 := h3 k (by omega)
  show foliateref06_Read.l0 k s s [] = _
  rw [h4]
  congr 1
  cases hr : (readQ s).2 with
  | true =>
    obtain ⟨T, e1, hm, hs, _⟩ := read_some hr
    obtain ⟨g1, g4, hp⟩ := may_parts hm
    have hok := may_okT hm
    have hL : ∀ t ∈ T, okT t ∧ t.f1.length ≤ 5 := fun t ht => by
      refine ⟨hok t ht, ?_⟩
      obtain ⟨m, hl, rfl⟩ := List.getElem_of_mem ht
      exact (hp m hl).2.2.1
    have h5 := rp_types s B (by omega) C (by omega) 600 (by decide) (by omega) T hL [] (by simpa using g4) (fun t ht => by
      have ho := hL t ht
      have hn := name_size ho.1.1
      exact ⟨by omega, by omega, fun f hf => by have := okF_size (ho.1.2 f hf); omega⟩) s h (by rw [hs, textQ_data hm]) k (by omega)
    rw [h4, List.nil_append] at h5
    rw [e1, Option.some.inj h5]
    unfold finR
    rw [if_pos hm, if_pos (by rw [← hs])]
  | false =>
    have hq := read_fail hr
    rw [hq]
    unfold finR
    by_cases hm : mayB out = true
    · rw [if_pos hm]
      by_cases ht : (textQ out).toList = s.toList
      · have es : textQ out = s := toList_inj (by rw [ht]; exact beq_self_eq_true _)
        rw [← es, read_text hm] at hr
        exact absurd hr (by simp)
      · rw [if_neg ht]
    · rw [if_neg hm]
end Go.Proofs.Ytlcanmndeempfaa.Sch
