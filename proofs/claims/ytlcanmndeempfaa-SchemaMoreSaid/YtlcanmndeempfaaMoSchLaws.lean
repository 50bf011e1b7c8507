import Derived.Test.YtlcanmndeempfaaMoSchMay
namespace Go.Proofs.Ytlcanmndeempfaa.MoSch
open Go.RowKit Go.Proofs.Ytlcanmndeempfaa.PMo Go.Proofs.YtlcanmndeempfaaW.PrintWords Go.Proofs.YtlcanmndeempfaaW.PrintLast
open Go.Lib (encodeRune join)
theorem toList_inj {a b : ByteArray} (h : (a.toList == b.toList) = true) : a = b := by
  rw [ByteArray.toList_eq, ByteArray.toList_eq] at h
  exact ba_ext (eq_of_beq h)
theorem place_some {α : Type} (p : α → Bool) : ∀ (L : List α) (i : Nat), placeOf p L i ≠ -1 → ∃ x ∈ L, p x = true
  | [], _, h => absurd rfl h
  | x :: t, i, h => by
    by_cases c : p x = true
    · exact ⟨x, by simp, c⟩
    · obtain ⟨y, hy, hp⟩ := place_some p t (i + 1) (by rw [placeOf, if_neg c] at h; exact h)
      exact ⟨y, List.mem_cons_of_mem _ hy, hp⟩
theorem place_first {α : Type} (p : α → Bool) : ∀ (L : List α) (i j : Nat) (h : j < L.length), p L[j] = true → placeOf p L i ≤ ((i + j : Nat) : Int)
  | [], _, _, h, _ => absurd h (by simp)
  | x :: t, i, j, h, hp => by
    rw [placeOf]
    by_cases c : p x = true
    · rw [if_pos c]
      omega
    · rw [if_neg c]
      cases j with
      | zero => exact absurd hp c
      | succ j =>
        have := place_first p t (i + 1) j (by simpa using h) hp
        omega
theorem fieldsB_mem (T : List S34) (all : List S40) : ∀ (fs : List S40) (j : Nat), fieldsB T all fs j = true → ∀ f ∈ fs, fieldB T f = true
  | [], _, _, f, hf => absurd hf (by simp)
  | g :: fs, j, h, f, hf => by
    unfold fieldsB at h
    rw [Bool.and_eq_true, Bool.and_eq_true] at h
    rcases List.mem_cons.1 hf with rfl | hm
    · exact h.1.1
    · exact fieldsB_mem T all fs (j + 1) h.2 f hm
theorem fieldsB_at (T : List S34) (all : List S40) : ∀ (fs : List S40) (j : Nat), fieldsB T all fs j = true → ∀ (m : Nat) (hm : m < fs.length), fieldIdx all (fs[m]).f0 = ((j + m : Nat) : Int)
  | [], _, _, m, hm => absurd hm (by simp)
  | g :: fs, j, h, m, hm => by
    unfold fieldsB at h
    rw [Bool.and_eq_true, Bool.and_eq_true] at h
    cases m with
    | zero => exact eq_of_beq h.1.2
    | succ m =>
      have := fieldsB_at T all fs (j + 1) h.2 m (by simpa using hm)
      rw [show j + 1 + m = j + (m + 1) by omega] at this
      exact this
theorem typesB_at (T : List S34) : ∀ (L : List S34) (i : Nat), typesB T L i = true → ∀ (m : Nat) (hm : m < L.length), typeB T L[m] (i + m) = true
  | [], _, _, m, hm => absurd hm (by simp)
  | t :: L, i, h, m, hm => by
    unfold typesB at h
    rw [Bool.and_eq_true] at h
    cases m with
    | zero => exact h.1
    | succ m =>
      have := typesB_at T L (i + 1) h.2 m (by simpa using hm)
      rw [show i + 1 + m = i + (m + 1) by omega] at this
      exact this
theorem may_parts {T : List S34} (h : mayB T = true) : 1 ≤ T.length ∧ T.length ≤ 4 ∧ ∀ (m : Nat) (hm : m < T.length), nameB (T[m]).f0 = true ∧ nameIdx T (T[m]).f0 = (m : Int) ∧ (T[m]).f1.length ≤ 5 ∧ fieldsB T (T[m]).f1 (T[m]).f1 0 = true := by
  unfold mayB at h
  rw [Bool.and_eq_true, Bool.and_eq_true] at h
  refine ⟨of_decide_eq_true h.1.1, of_decide_eq_true h.1.2, fun m hm => ?_⟩
  have ht := typesB_at T T 0 h.2 m hm
  rw [Nat.zero_add] at ht
  unfold typeB at ht
  rw [Bool.and_eq_true, Bool.and_eq_true, Bool.and_eq_true] at ht
  exact ⟨ht.1.1.1, eq_of_beq ht.1.1.2, of_decide_eq_true ht.1.2, ht.2⟩
theorem may_okT {T : List S34} (h : mayB T = true) : ∀ t ∈ T, okT t := by
  obtain ⟨_, _, hp⟩ := may_parts h
  have hn : ∀ t ∈ T, ∃ rs, isName t.f0 rs := fun t ht => by
    obtain ⟨m, hm, rfl⟩ := List.getElem_of_mem ht
    exact name_is (hp m hm).1
  intro t ht
  obtain ⟨m, hm, rfl⟩ := List.getElem_of_mem ht
  refine ⟨hn _ ht, fun f hf => ?_⟩
  have hb := fieldsB_mem T _ _ 0 (hp m hm).2.2.2 f hf
  unfold fieldB at hb
  rw [Bool.and_eq_true, Bool.and_eq_true, Bool.and_eq_true] at hb
  obtain ⟨h1, h2, h3, h4⟩ := hb
  refine ⟨name_is h2, of_decide_eq_true h3, of_decide_eq_true h4, fun c => ?_, fun c => ?_⟩
  · rw [if_pos c] at h1
    have hne : nameIdx T f.f2 ≠ -1 := fun e => by rw [e] at h1; exact absurd h1 (by decide)
    obtain ⟨x, hx, he⟩ := place_some _ T 0 hne
    rw [← toList_inj he]
    exact hn x hx
  · rw [if_neg c, List.isEmpty_iff, ByteArray.toList_eq] at h1
    exact ba_ext h1
theorem enc_len (r : Int) (h : isW r) : (encodeRune r).length ≤ 2 := by
  rcases h with h | h
  · rw [enc_low r h.1 h.2.1]
    exact Nat.le_succ 1
  · rw [enc_two r (by omega) h.2]
    exact Nat.le_refl 2
theorem flat_len : ∀ (rs : List Int) (_ : ∀ r ∈ rs, isW r), (rs.flatMap encodeRune).length ≤ 2 * rs.length
  | [], _ => Nat.le_refl _
  | r :: rs, h => by
    have h1 := enc_len r (h r (by simp))
    have h2 := flat_len rs (fun x hx => h x (List.mem_cons_of_mem _ hx))
    rw [List.flatMap_cons, List.length_append, List.length_cons]
    omega
theorem name_size {s : ByteArray} (h : ∃ rs, isName s rs) : s.size ≤ 16 := by
  obtain ⟨rs, h1, h2, h3, h4, h5⟩ := h
  have hz : s.data.toList.length = s.size := by rw [Array.length_toList]; rfl
  have := flat_len rs h3
  rw [← h2] at this
  omega
theorem okF_size {f : S40} (h : okF f) : f.f0.size ≤ 16 ∧ f.f2.size ≤ 16 := by
  refine ⟨name_size h.1, ?_⟩
  by_cases c : f.f1 = 5
  · exact name_size (h.2.2.2.1 c)
  · rw [h.2.2.2.2 c]
    decide
theorem may_small {T : List S34} (h : mayB T = true) : smallS T = true := by
  obtain ⟨h1, h4, hp⟩ := may_parts h
  have hok := may_okT h
  unfold smallS
  rw [Bool.and_eq_true, List.all_eq_true]
  refine ⟨decide_eq_true (by omega), fun t ht => ?_⟩
  have ho := hok t ht
  obtain ⟨m, hm, rfl⟩ := List.getElem_of_mem ht
  have h5 := (hp m hm).2.2.1
  have hz := name_size ho.1
  unfold smallT
  rw [Bool.and_eq_true, Bool.and_eq_true, List.all_eq_true]
  refine ⟨⟨decide_eq_true (by omega), decide_eq_true (by omega)⟩, fun f hf => ?_⟩
  have hof := ho.2 f hf
  have := okF_size hof
  unfold smallF
  rw [Bool.and_eq_true, Bool.and_eq_true, Bool.and_eq_true]
  exact ⟨⟨decide_eq_true (by omega), decide_eq_true (by omega)⟩, decide_eq_true hof.2.1, decide_eq_true hof.2.2.1⟩
/-- a schema's text -/
def textQ (T : List S34) : ByteArray := if mayB T = true then textT T else ⟨#[]⟩
theorem text_eq (T : List S34) (hs : smallN T) (k : Nat) (hk : 100 ≤ k) : schema_Text.f k T = some (textQ T) := by
  unfold schema_Text.f textQ
  rw [may_eq T hs k hk, obindS]
  cases h : mayB T with
  | false => rfl
  | true =>
    rw [if_pos rfl, if_pos rfl, if_pos (may_small h)]
/-- names no longer than what was read -/
def okN (n : Nat) (s : RdS) : Prop := s.wd.length ≤ n ∧ s.nm.size ≤ 4 * n ∧ ∀ t ∈ s.T, t.f0.size ≤ 4 * n ∧ ∀ f ∈ t.f1, f.f0.size ≤ 4 * n
theorem okN_up {n : Nat} {T : List S34} (h : ∀ t ∈ T, t.f0.size ≤ 4 * n ∧ ∀ f ∈ t.f1, f.f0.size ≤ 4 * n) : ∀ t ∈ T, t.f0.size ≤ 4 * (n + 1) ∧ ∀ f ∈ t.f1, f.f0.size ≤ 4 * (n + 1) :=
  fun t ht => ⟨by have := (h t ht).1; omega, fun f hf => by have := (h t ht).2 f hf; omega⟩
theorem readField_f0 (nm w : ByteArray) : (readField nm w).f0 = nm := by
  unfold readField
  split <;> rfl
theorem okN_end {n : Nat} {s s' : RdS} (h : okN n s) (hs : endP s = some s') : okN (n + 1) s' := by
  obtain ⟨h1, h2, h3⟩ := h
  unfold endP at hs
  split at hs
  · split at hs
    · obtain rfl := Option.some.inj hs
      refine ⟨Nat.zero_le _, by show s.nm.size ≤ _; omega, fun t ht => ?_⟩
      rcases List.mem_or_eq_of_mem_set ht with hm | rfl
      · exact okN_up h3 t hm
      · have hl : ∀ i, (s.T.getD i z34).f0.size ≤ 4 * n ∧ ∀ f ∈ (s.T.getD i z34).f1, f.f0.size ≤ 4 * n := fun i => by
          by_cases c : i < s.T.length
          · rw [List.getD_eq_getElem?_getD, List.getElem?_eq_getElem c]
            exact h3 _ (List.getElem_mem c)
          · rw [List.getD_eq_getElem?_getD, List.getElem?_eq_none (by omega)]
            exact ⟨Nat.zero_le _, fun f hf => absurd hf (by simp [z34])⟩
        have hl := hl (s.T.length - 1)
        refine ⟨by show (s.T.getD (s.T.length - 1) z34).f0.size ≤ _; omega, fun f hf => ?_⟩
        rcases List.mem_append.1 hf with hm | hm
        · have := hl.2 f hm
          omega
        · rw [List.mem_singleton.1 hm, readField_f0]
          omega
    · exact absurd hs (by simp)
  · split at hs
    · obtain rfl := Option.some.inj hs
      exact ⟨Nat.zero_le _, by show s.nm.size ≤ _; omega, okN_up h3⟩
    · exact absurd hs (by simp)
theorem okN_sign {n : Nat} {s s' : RdS} {c : Int} (h : okN n s) (hs : signP s c = some s') : okN (n + 1) s' := by
  have h0 := h
  obtain ⟨h1, h2, h3⟩ := h0
  have hw := runesBytes_size_le s.wd
  unfold signP at hs
  split at hs
  · split at hs
    · exact absurd hs (by simp)
    · obtain rfl := Option.some.inj hs
      refine ⟨Nat.zero_le _, by show s.nm.size ≤ _; omega, fun t ht => ?_⟩
      rcases List.mem_append.1 ht with hm | hm
      · exact okN_up h3 t hm
      · rw [List.mem_singleton.1 hm]
        exact ⟨by show (runesBytes s.wd).size ≤ _; omega, fun f hf => absurd hf (by simp)⟩
  · split at hs
    · split at hs
      · split at hs
        · exact absurd hs (by simp)
        · obtain rfl := Option.some.inj hs
          exact ⟨Nat.zero_le _, by show (runesBytes s.wd).size ≤ _; omega, okN_up h3⟩
      · exact absurd hs (by simp)
    · split at hs
      · split at hs
        · split at hs
          · exact okN_end h hs
          · exact absurd hs (by simp)
        · exact absurd hs (by simp)
      · split at hs
        · split at hs
          · exact okN_end (s := ⟨s.T, s.wd, s.nm, false, s.fld⟩) h hs
          · exact absurd hs (by simp)
        · obtain rfl := Option.some.inj hs
          exact ⟨by simp only [List.length_append, List.length_cons, List.length_nil]; omega, by show s.nm.size ≤ _; omega, okN_up h3⟩
theorem okN_read (a : ByteArray) : ∀ (f pos n : Nat) (s s' : RdS), okN n s → readF a f pos s = some s' → ∃ m, m ≤ n + f ∧ okN m s'
  | 0, _, n, s, s', h, hs => by
    obtain rfl := Option.some.inj hs
    exact ⟨n, Nat.le_refl _, h⟩
  | f + 1, pos, n, s, s', h, hs => by
    unfold readF at hs
    split at hs
    · obtain ⟨s1, h1, h2⟩ := Option.bind_eq_some_iff.mp hs
      obtain ⟨m, hm, ho⟩ := okN_read a f _ (n + 1) s1 s' (okN_sign h h1) h2
      exact ⟨m, by omega, ho⟩
    · obtain rfl := Option.some.inj hs
      exact ⟨n, by omega, h⟩
/-- what a text is read as -/
def readQ (a : ByteArray) : List S34 × Bool := (parse a.data.toList start0).elim ([], false) fun s => if ((textQ s.T).toList != a.toList || a.toList.isEmpty) = true then ([], false) else (s.T, true)
theorem start_okN : okN 0 start0 := ⟨Nat.le_refl _, Nat.le_refl _, fun t ht => absurd ht (by simp [start0])⟩
theorem read_parse (a : ByteArray) (s : RdS) : readF a a.size 0 s = parse a.data.toList s := by
  have hz : a.data.toList.length = a.size := by rw [Array.length_toList]; rfl
  rw [pl_readF, List.drop_zero]
  unfold parse
  rw [hz]
theorem read_eq (a : ByteArray) (h : a.size ≤ 100000) (k : Nat) (hk : 100 ≤ k) : schema_Read.f k a = some (readQ a) := by
  unfold schema_Read.f readQ
  rw [if_pos h, ← read_parse]
  cases e : readF a a.size 0 start0 with
  | none => rfl
  | some s =>
    obtain ⟨m, hm, ho⟩ := okN_read a a.size 0 0 start0 s start_okN e
    have hs : smallN s.T := fun t ht => ⟨by have := (ho.2.2 t ht).1; omega, fun f hf => by have := (ho.2.2 t ht).2 f hf; omega⟩
    show (schema_Text.f k s.T).bind _ = some _
    rw [text_eq s.T hs k hk]
    rfl
theorem textQ_data {T : List S34} (h : mayB T = true) : (textQ T).data.toList = textL T := by
  unfold textQ
  rw [if_pos h]
  rfl
theorem text_ne {T : List S34} (h : mayB T = true) : textL T ≠ [] := by
  obtain ⟨h1, _⟩ := may_parts h
  cases T with
  | nil => exact absurd h1 (by simp)
  | cons t L =>
    intro he
    have : (typeT t).data.toList = [] := (List.append_eq_nil_iff.1 (by rw [← he]; unfold textL; rw [List.flatMap_cons])).1
    unfold typeT at this
    rw [ba_app] at this
    exact absurd (List.append_eq_nil_iff.1 this).2 (by simp)
/-- what is read has the text -/
theorem read_some {a : ByteArray} (h : (readQ a).2 = true) : ∃ T, readQ a = (T, true) ∧ mayB T = true ∧ a = textQ T ∧ ∃ nm, parse a.data.toList start0 = some ⟨T, [], nm, false, false⟩ := by
  unfold readQ at h ⊢
  cases e : parse a.data.toList start0 with
  | none =>
    rw [e] at h
    exact absurd (show false = true from h) (by decide)
  | some s =>
    rw [e] at h
    have h' : (if ((textQ s.T).toList != a.toList || a.toList.isEmpty) = true then (([], false) : List S34 × Bool) else (s.T, true)).2 = true := h
    by_cases c : ((textQ s.T).toList != a.toList || a.toList.isEmpty) = true
    · rw [if_pos c] at h'
      exact absurd h' (by decide)
    · have c' := Bool.eq_false_iff.2 c
      rw [Bool.or_eq_false_iff] at c'
      have hta : textQ s.T = a := toList_inj (by
        have := c'.1
        unfold bne at this
        simpa using this)
      have hm : mayB s.T = true := by
        cases hm : mayB s.T with
        | true => rfl
        | false =>
          have : a = ⟨#[]⟩ := by rw [← hta]; unfold textQ; rw [hm]; rfl
          have h2 := c'.2
          rw [this, ByteArray.toList_eq] at h2
          exact absurd h2 (by decide)
      refine ⟨s.T, by show (if _ then _ else _) = _; rw [if_neg c], hm, hta.symm, ?_⟩
      obtain ⟨nm, hp⟩ := parse_types s.T (may_okT hm) [] ⟨#[]⟩
      have hp := hp []
      rw [List.append_nil, List.nil_append, parse_nil, ← textQ_data hm, hta] at hp
      exact ⟨nm, by rw [← e]; exact hp⟩
/-- a schema's text is read as the schema -/
theorem read_text {T : List S34} (h : mayB T = true) : readQ (textQ T) = (T, true) := by
  obtain ⟨nm, hp⟩ := parse_types T (may_okT h) [] ⟨#[]⟩
  have hp := hp []
  rw [List.append_nil, List.nil_append, parse_nil, ← textQ_data h] at hp
  unfold readQ
  have e : parse (textQ T).data.toList start0 = some ⟨T, [], nm, false, false⟩ := hp
  rw [e]
  show (if ((textQ T).toList != (textQ T).toList || (textQ T).toList.isEmpty) = true then _ else _) = _
  rw [if_neg]
  rw [bne_self_eq_false, Bool.false_or, List.isEmpty_iff, ByteArray.toList_eq, textQ_data h]
  exact text_ne h
end Go.Proofs.Ytlcanmndeempfaa.MoSch
