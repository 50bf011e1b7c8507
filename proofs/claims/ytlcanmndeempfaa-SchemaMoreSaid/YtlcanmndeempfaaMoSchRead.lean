import Derived.Test.YtlcanmndeempfaaMoSchName
namespace Go.Proofs.Ytlcanmndeempfaa.MoSch
open Go.RowKit Go.Proofs.Ytlcanmndeempfaa.PMo Go.Proofs.YtlcanmndeempfaaW.PrintWords Go.Proofs.YtlcanmndeempfaaW.PrintLast
open Go.Lib (encodeRune join)
/-! A schema's text is read as the schema. -/
theorem ba_ext {a b : ByteArray} (h : a.data.toList = b.data.toList) : a = b := by
  cases a; cases b
  congr 1
  exact Array.toList_inj.1 h
theorem ba_app (a b : ByteArray) : (a ++ b).data.toList = a.data.toList ++ b.data.toList := by
  rw [ByteArray.data_append, Array.toList_append]
theorem encode_w (r : Int) (h : isW r) : (Utf8.encode r).data.toList = encodeRune r := by
  have hv : Utf8.valid r = true := by
    unfold Utf8.valid
    have h1 : decide (0 ≤ r) = true := decide_eq_true (by rcases h with h | h <;> omega)
    have h2 : decide (r < 0xD800) = true := decide_eq_true (by rcases h with h | h <;> omega)
    rw [h1, h2]
    rfl
  unfold Utf8.encode
  rw [if_pos hv]
  rcases h with h | h
  · rw [enc_low r h.1 h.2.1]
    dsimp only
    rw [if_pos (by omega)]
  · rw [enc_two r (by omega) h.2]
    dsimp only
    have e1 : 0xC0 + r.toNat / 64 = 195 := by omega
    have e2 : 0x80 + r.toNat % 64 = (r - 64).toNat := by omega
    rw [if_neg (by omega), if_pos (by omega), e1, e2]
    rfl
theorem runes_fold : ∀ (rs : List Int) (_ : ∀ r ∈ rs, isW r) (s : ByteArray), (rs.foldl (fun r n => r ++ Utf8.encode n) s).data.toList = s.data.toList ++ rs.flatMap encodeRune
  | [], _, s => by simp
  | r :: rs, h, s => by
    rw [List.foldl_cons, runes_fold rs (fun x hx => h x (List.mem_cons_of_mem _ hx)), ba_app, encode_w r (h r (by simp)), List.flatMap_cons, List.append_assoc]
theorem runes_data (rs : List Int) (h : ∀ r ∈ rs, isW r) : (runesBytes rs).data.toList = rs.flatMap encodeRune := by
  unfold runesBytes
  rw [runes_fold rs h]
  rfl
/-- a name, by its signs -/
def isName (s : ByteArray) (rs : List Int) : Prop := s = runesBytes rs ∧ s.data.toList = rs.flatMap encodeRune ∧ (∀ r ∈ rs, isW r) ∧ 1 ≤ rs.length ∧ rs.length ≤ 8
theorem name_is {s : ByteArray} (h : nameB s = true) : ∃ rs, isName s rs := by
  obtain ⟨rs, h1, h2, h3, h4⟩ := name_runes h
  have hw : ∀ r ∈ rs, isW r := fun r hr => (h2 r hr).w
  exact ⟨rs, ba_ext (by rw [runes_data rs hw, h1]), h1, hw, h3, h4⟩
/-- the kind's signs -/
def kindR (k : Int) : List Int := (kindB k).data.toList.map fun b => (b.toNat : Int)
theorem kind_cases {k : Int} (h0 : 0 ≤ k) (h6 : k < 6) : k = 0 ∨ k = 1 ∨ k = 2 ∨ k = 3 ∨ k = 4 ∨ k = 5 := by omega
theorem kind_w {k : Int} (h0 : 0 ≤ k) (h6 : k < 6) : ∀ r ∈ kindR k, isW r := by
  intro r hr
  rcases kind_cases h0 h6 with rfl | rfl | rfl | rfl | rfl | rfl
  all_goals
    first
    | have hr' : r ∈ [105, 56] := hr
    | have hr' : r ∈ [105, 49, 54] := hr
    | have hr' : r ∈ [105, 51, 50] := hr
    | have hr' : r ∈ [105, 54, 52] := hr
    | have hr' : r ∈ [116] := hr
    | have hr' : r ∈ [42] := hr
    simp only [List.mem_cons, List.not_mem_nil, or_false] at hr'
    exact .inl (by omega)
theorem kind_data {k : Int} (h0 : 0 ≤ k) (h6 : k < 6) : (kindR k).flatMap encodeRune = (kindB k).data.toList := by
  rcases kind_cases h0 h6 with rfl | rfl | rfl | rfl | rfl | rfl <;> rfl
/-- a field that may stand in a text -/
def okF (f : S40) : Prop := (∃ rs, isName f.f0 rs) ∧ 0 ≤ f.f1 ∧ f.f1 < 6 ∧ (f.f1 = 5 → ∃ rs, isName f.f2 rs) ∧ (f.f1 ≠ 5 → f.f2 = ⟨#[]⟩)
theorem star_data (w : ByteArray) : starB w = (decide (1 ≤ w.size) && ((w.extract 0 1).data.toList == [42])) := by
  unfold starB
  rw [ByteArray.toList_eq]
theorem idx_data (w : ByteArray) : idxK w = placeOf (fun y : ByteArray => decide (w.data.toList = y.data.toList)) kinds5 0 := by
  unfold idxK
  simp only [ByteArray.toList_eq]
theorem read_kind (nm : ByteArray) {k : Int} (h0 : 0 ≤ k) (h5 : k < 5) : readField nm (kindB k) = ⟨nm, k, ⟨#[]⟩⟩ := by
  have h : k = 0 ∨ k = 1 ∨ k = 2 ∨ k = 3 ∨ k = 4 := by omega
  unfold readField
  rcases h with rfl | rfl | rfl | rfl | rfl
  all_goals
    rw [if_neg (by rw [star_data]; decide), idx_data]
    rfl
theorem read_star (nm tt : ByteArray) : readField nm ((⟨#[42]⟩ : ByteArray) ++ tt) = ⟨nm, 5, tt⟩ := by
  have hz : ((⟨#[42]⟩ : ByteArray) ++ tt).size = tt.size + 1 := by
    rw [ByteArray.size_append]
    show 1 + tt.size = _
    omega
  have h1 : ((⟨#[42]⟩ : ByteArray) ++ tt).extract 0 1 = ⟨#[42]⟩ := ba_ext (by
    rw [ByteArray.data_extract, ByteArray.data_append]
    simp)
  have h2 : ((⟨#[42]⟩ : ByteArray) ++ tt).extract 1 (tt.size + 1) = tt := ba_ext (by
    rw [ByteArray.data_extract, ByteArray.data_append, Array.toList_extract, Array.toList_append]
    show (tt.data.toList).take (tt.size + 1 - 1) = _
    exact List.take_of_length_le (by rw [Array.length_toList]; exact Nat.le_refl _))
  unfold readField starB
  rw [hz, h1, h2, decide_eq_true (by omega), ByteArray.toList_eq]
  rfl
theorem parse_head {f : S40} (h : okF f) : ∃ W : List Int, readField f.f0 (runesBytes W) = f ∧ ∀ (T : List S34) (nm : ByteArray) (t : List UInt8), parse ((fieldT f).data.toList ++ t) ⟨T, [], nm, true, false⟩ = parse t ⟨T, W, f.f0, true, true⟩ := by
  obtain ⟨⟨rs, n1, n2, n3, _, _⟩, k0, k6, hr, ht⟩ := h
  have kw := kind_w k0 k6
  have hto : ∃ ts : List Int, (∀ r ∈ ts, isW r) ∧ f.f2.data.toList = ts.flatMap encodeRune := by
    by_cases c : f.f1 = 5
    · obtain ⟨ts, t1, t2, t3, _⟩ := hr c
      exact ⟨ts, t3, t2⟩
    · exact ⟨[], by simp, by rw [ht c]; rfl⟩
  obtain ⟨ts, t3, t2⟩ := hto
  have hw : ∀ r ∈ kindR f.f1 ++ ts, isW r := fun r hr => (List.mem_append.1 hr).elim (kw r) (t3 r)
  refine ⟨kindR f.f1 ++ ts, ?_, ?_⟩
  · have e : runesBytes (kindR f.f1 ++ ts) = kindB f.f1 ++ f.f2 := ba_ext (by rw [runes_data _ hw, List.flatMap_append, kind_data k0 k6, ba_app, t2])
    rw [e]
    obtain ⟨f0, f1, f2⟩ := f
    by_cases c : f1 = 5
    · subst c
      exact read_star f0 f2
    · obtain rfl : f2 = ⟨#[]⟩ := ht c
      have e2 : kindB f1 ++ (⟨#[]⟩ : ByteArray) = kindB f1 := ba_ext (by rw [ba_app]; simp)
      show readField f0 (kindB f1 ++ ⟨#[]⟩) = _
      rw [e2]
      exact read_kind f0 k0 (show f1 < 5 by have h6 : f1 < 6 := k6; omega)
  · intro T nm t
    have e : (fieldT f).data.toList = rs.flatMap encodeRune ++ 58 :: ((kindR f.f1 ++ ts).flatMap encodeRune) := by
      unfold fieldT
      rw [ba_app, ba_app, ba_app, n2, t2, List.flatMap_append, kind_data k0 k6]
      simp
    rw [e, List.append_assoc, parse_word rs n3, List.cons_append, parse_ascii 58 _ (by decide)]
    have e58 : signP ⟨T, [] ++ rs, nm, true, false⟩ ((58 : UInt8).toNat : Int) = some ⟨T, [], runesBytes rs, true, true⟩ := rfl
    rw [e58, Option.bind_some, parse_word _ hw, ← n1]
    rfl
theorem addLast_snoc (T : List S34) (n : ByteArray) (gs : List S40) (f : S40) : addLast (T ++ [⟨n, gs⟩]) f = T ++ [⟨n, gs ++ [f]⟩] := by
  unfold addLast
  have e : (T ++ [(⟨n, gs⟩ : S34)]).length - 1 = T.length := by simp
  have e2 : (T ++ [(⟨n, gs⟩ : S34)]).getD T.length z34 = ⟨n, gs⟩ := by
    rw [List.getD_eq_getElem?_getD, List.getElem?_append_right (Nat.le_refl _), Nat.sub_self]
    rfl
  rw [e, e2, List.set_append_right _ _ (Nat.le_refl _), Nat.sub_self]
  rfl
theorem kind_not {f : S40} (h : okF f) : (f.f1 != -1) = true := by
  have := h.2.1
  simp
  omega
theorem parse_fields (T : List S34) (n : ByteArray) : ∀ (fs : List S40) (_ : ∀ f ∈ fs, okF f) (_ : fs ≠ []) (gs : List S40) (nm : ByteArray), ∃ nm', ∀ t : List UInt8, parse (join ((fs.map fieldT).map (·.data.toList)) [44] ++ 125 :: t) ⟨T ++ [⟨n, gs⟩], [], nm, true, false⟩ = parse t ⟨T ++ [⟨n, gs ++ fs⟩], [], nm', false, false⟩
  | [], _, h, _, _ => absurd rfl h
  | [f], hf, _, gs, nm => by
    have ok := hf f (by simp)
    obtain ⟨W, h1, h2⟩ := parse_head ok
    refine ⟨f.f0, fun t => ?_⟩
    have e : join (([f].map fieldT).map (·.data.toList)) [44] = (fieldT f).data.toList := by simp [join]
    rw [e, h2, parse_ascii 125 _ (by decide)]
    have e2 : signP ⟨T ++ [⟨n, gs⟩], W, f.f0, true, true⟩ ((125 : UInt8).toNat : Int) = endP ⟨T ++ [⟨n, gs⟩], W, f.f0, false, true⟩ := rfl
    rw [e2, endP_on, h1, if_pos (kind_not ok), addLast_snoc]
    rfl
  | f :: g :: fs, hf, _, gs, nm => by
    have ok := hf f (by simp)
    obtain ⟨W, h1, h2⟩ := parse_head ok
    obtain ⟨nm', ih⟩ := parse_fields T n (g :: fs) (fun x hx => hf x (List.mem_cons_of_mem _ hx)) (by simp) (gs ++ [f]) f.f0
    refine ⟨nm', fun t => ?_⟩
    have e : join (((f :: g :: fs).map fieldT).map (·.data.toList)) [44] = (fieldT f).data.toList ++ 44 :: join (((g :: fs).map fieldT).map (·.data.toList)) [44] := by simp [join]
    rw [e, List.append_assoc, h2, List.cons_append, parse_ascii 44 _ (by decide)]
    have e2 : signP ⟨T ++ [⟨n, gs⟩], W, f.f0, true, true⟩ ((44 : UInt8).toNat : Int) = endP ⟨T ++ [⟨n, gs⟩], W, f.f0, true, true⟩ := rfl
    rw [e2, endP_on, h1, if_pos (kind_not ok), addLast_snoc, Option.bind_some, ih, List.append_assoc]
    rfl
/-- a type that may stand in a text -/
def okT (t : S34) : Prop := (∃ rs, isName t.f0 rs) ∧ ∀ f ∈ t.f1, okF f
theorem parse_type {x : S34} (h : okT x) (T : List S34) (nm : ByteArray) : ∃ nm', ∀ t : List UInt8, parse ((typeT x).data.toList ++ t) ⟨T, [], nm, false, false⟩ = parse t ⟨T ++ [x], [], nm', false, false⟩ := by
  obtain ⟨n, fs⟩ := x
  obtain ⟨⟨rs, n1, n2, n3, _, _⟩, hf⟩ := h
  have hf' : ∀ f ∈ fs, okF f := hf
  have n1' : n = runesBytes rs := n1
  have n2' : n.data.toList = rs.flatMap encodeRune := n2
  have e : (typeT ⟨n, fs⟩).data.toList = rs.flatMap encodeRune ++ 123 :: (join ((fs.map fieldT).map (·.data.toList)) [44] ++ [125]) := by
    unfold typeT
    rw [ba_app, ba_app, ba_app]
    show n.data.toList ++ [123] ++ (join ((fs.map fieldT).map (·.data.toList)) [44]).toArray.toList ++ [125] = _
    rw [n2']
    simp
  have e1 : signP ⟨T, [] ++ rs, nm, false, false⟩ ((123 : UInt8).toNat : Int) = some ⟨T ++ [⟨runesBytes rs, []⟩], [], nm, true, false⟩ := rfl
  by_cases c : fs = []
  · subst c
    refine ⟨nm, fun t => ?_⟩
    have e2 : signP ⟨T ++ [⟨n, []⟩], [], nm, true, false⟩ ((125 : UInt8).toNat : Int) = endP ⟨T ++ [⟨n, []⟩], [], nm, false, false⟩ := rfl
    have e3 : (runesBytes []).toList.isEmpty = true := by rw [ByteArray.toList_eq]; rfl
    rw [e, List.append_assoc, parse_word rs n3, List.cons_append, parse_ascii 123 _ (by decide), e1, Option.bind_some, ← n1']
    show parse (125 :: t) _ = _
    rw [parse_ascii 125 _ (by decide), e2, endP_off, if_pos e3]
    rfl
  · obtain ⟨nm', h⟩ := parse_fields T n fs hf' c [] nm
    refine ⟨nm', fun t => ?_⟩
    rw [e, List.append_assoc, parse_word rs n3, List.cons_append, parse_ascii 123 _ (by decide), e1, Option.bind_some, ← n1', List.append_assoc, List.singleton_append, h]
    rfl
theorem parse_types : ∀ (L : List S34) (_ : ∀ x ∈ L, okT x) (T : List S34) (nm : ByteArray), ∃ nm', ∀ t : List UInt8, parse (textL L ++ t) ⟨T, [], nm, false, false⟩ = parse t ⟨T ++ L, [], nm', false, false⟩
  | [], _, T, nm => ⟨nm, fun t => by rw [List.append_nil]; rfl⟩
  | x :: L, h, T, nm => by
    obtain ⟨n1, h1⟩ := parse_type (h x (by simp)) T nm
    obtain ⟨n2, h2⟩ := parse_types L (fun y hy => h y (List.mem_cons_of_mem _ hy)) (T ++ [x]) n1
    refine ⟨n2, fun t => ?_⟩
    have e : textL (x :: L) = (typeT x).data.toList ++ textL L := by unfold textL; rw [List.flatMap_cons]
    rw [e, List.append_assoc, h1, h2, List.append_assoc]
    rfl
end Go.Proofs.Ytlcanmndeempfaa.MoSch
