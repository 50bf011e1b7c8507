/- For every schema that may be and every place of a type: with one type more, of a name that no type bears, the schema may be just if it has fewer than four; with one text field more of such a name, just if the type has fewer than five; and without the type, just if another one is there, and no field of the others leads to it. Of more than 10 types, or fields of a type, nothing is asked. -/
import Derived.Test.YtlcanmndeempfaaMoSchList
import Derived.Test.YtlcanmndeempfaaPMoxh
namespace Go.Proofs.Ytlcanmndeempfaa.Pure
open Go.RowKit Go.Proofs.Ytlcanmndeempfaa.PMo Go.Proofs.YtlcanmndeempfaaW.PrintWords Go.Proofs.YtlcanmndeempfaaW.PrintLast Go.Proofs.Ytlcanmndeempfaa.MoSch
/-- zzzz9999 -/
def zz : ByteArray := ⟨#[122, 122, 122, 122, 57, 57, 57, 57]⟩
theorem zz_name : nameB zz = true := by
  have e : ∀ n : Nat, Utf8.decode zz n = Go.Lib.decodeN (zz.size - n) (zz.get! n).toNat (zz.get! (n + 1)).toNat (zz.get! (n + 2)).toNat (zz.get! (n + 3)).toNat := fun n => Go.Lib.decode_at zz n
  unfold nameB
  decide
theorem fieldP_mono {N N' : List (List UInt8)} (h : ∀ n ∈ N, n ∈ N') {f : S40} (hf : fieldP N f) : fieldP N' f := ⟨hf.1, hf.2.1, hf.2.2.1, fun c => h _ (hf.2.2.2.1 c), hf.2.2.2.2⟩
theorem typeP_mono {N N' : List (List UInt8)} (h : ∀ n ∈ N, n ∈ N') {t : S34} (ht : typeP N t) : typeP N' t := ⟨ht.1, ht.2.1, fun f hf => fieldP_mono h (ht.2.2.1 f hf), ht.2.2.2⟩
theorem more_may {T : List S34} (h : mayB T = true) (hz : nameIdx T zz = -1) : mayB (T ++ [⟨zz, []⟩]) = decide (T.length < 4) := by
  obtain ⟨h1, h2, h3, h4⟩ := (mayB_iff T).1 h
  have hn : zz.toList ∉ T.map tn := fun hm => (idx_mem T zz).2 hm hz
  rw [Bool.eq_iff_iff, mayB_iff, decide_eq_true_iff, List.length_append, List.map_append]
  constructor
  · rintro ⟨_, g, _⟩
    exact g
  · intro g
    refine ⟨by omega, g, ?_, fun t ht => ?_⟩
    · rw [List.nodup_append]
      refine ⟨h3, by simp, fun a ha b hb => ?_⟩
      obtain rfl : b = zz.toList := by simpa [tn] using hb
      exact fun e => hn (e ▸ ha)
    · rcases List.mem_append.1 ht with hm | hm
      · exact typeP_mono (fun n hn => List.mem_append_left _ hn) (h4 t hm)
      · rw [List.mem_singleton.1 hm]
        exact ⟨zz_name, Nat.zero_le _, fun f hf => absurd hf (by simp), List.nodup_nil⟩
theorem wide_may {T : List S34} (h : mayB T = true) (i : Nat) (hi : i < T.length) (hz : fieldIdx (T[i]).f1 zz = -1) : mayB (T.set i ⟨(T[i]).f0, (T[i]).f1 ++ [⟨zz, 4, ⟨#[]⟩⟩]⟩) = decide ((T[i]).f1.length < 5) := by
  obtain ⟨h1, h2, h3, h4⟩ := (mayB_iff T).1 h
  have hm : (T.set i ⟨(T[i]).f0, (T[i]).f1 ++ [⟨zz, 4, ⟨#[]⟩⟩]⟩).map tn = T.map tn := by
    rw [List.map_set]
    refine List.ext_getElem (by simp) fun k g1 g2 => ?_
    rw [List.getElem_set]
    split
    · rename_i e
      subst e
      rw [List.getElem_map]
      rfl
    · rfl
  have hn : zz.toList ∉ (T[i]).f1.map fn := fun hm => by
    obtain ⟨x, hx, he⟩ := List.mem_map.1 hm
    have := (place_none _ _ _).1 hz x hx
    exact beq_eq_false_iff_ne.1 this he
  obtain ⟨t1, t2, t3, t4⟩ := h4 T[i] (List.getElem_mem hi)
  rw [Bool.eq_iff_iff, mayB_iff, decide_eq_true_iff, List.length_set, hm]
  constructor
  · rintro ⟨_, _, _, g⟩
    have := (g ⟨(T[i]).f0, (T[i]).f1 ++ [⟨zz, 4, ⟨#[]⟩⟩]⟩ (List.mem_set hi _)).2.1
    rw [List.length_append] at this
    exact this
  · intro g
    refine ⟨h1, h2, h3, fun t ht => ?_⟩
    rcases List.mem_or_eq_of_mem_set ht with hm | rfl
    · exact h4 t hm
    · refine ⟨t1, by rw [List.length_append]; exact g, fun f hf => ?_, ?_⟩
      · rcases List.mem_append.1 hf with hm | hm
        · exact t3 f hm
        · rw [List.mem_singleton.1 hm]
          exact ⟨zz_name, by decide, by decide, fun c => absurd c (by decide), fun _ => by rw [ByteArray.toList_eq]⟩
      · rw [List.map_append, List.nodup_append]
        refine ⟨t4, by simp, fun a ha b hb => ?_⟩
        obtain rfl : b = zz.toList := by simpa [fn] using hb
        exact fun e => hn (e ▸ ha)
/-- does a field of one lead to a name? -/
def leadF (n : ByteArray) (f : S40) : Bool := decide (f.f1 = 5) && (f.f2.toList == n.toList)
def leadT (n : ByteArray) (t : S34) : Bool := t.f1.any (leadF n)
theorem less_may {T : List S34} (h : mayB T = true) (i : Nat) (hi : i < T.length) : mayB (T.take i ++ T.drop (i + 1)) = (decide (0 < (T.take i ++ T.drop (i + 1)).length) && !((T.take i ++ T.drop (i + 1)).any (leadT (T[i]).f0))) := by
  obtain ⟨h1, h2, h3, h4⟩ := (mayB_iff T).1 h
  have eT : T = T.take i ++ T[i] :: T.drop (i + 1) := by
    rw [← List.drop_eq_getElem_cons hi, List.take_append_drop]
  obtain ⟨L, hL⟩ : ∃ L, L = T.take i ++ T.drop (i + 1) := ⟨_, rfl⟩
  have hsub : ∀ t ∈ L, t ∈ T := fun t ht => by
    rw [hL] at ht
    rcases List.mem_append.1 ht with hm | hm
    · exact List.mem_of_mem_take hm
    · exact List.mem_of_mem_drop hm
  have hlen : L.length + 1 = T.length := by
    rw [hL, List.length_append, List.length_take, List.length_drop]
    omega
  have hmap : T.map tn = (T.take i).map tn ++ tn T[i] :: (T.drop (i + 1)).map tn := by
    rw [← List.map_cons, ← List.map_append, ← eT]
  have hnd := h3
  rw [hmap, List.nodup_append, List.nodup_cons] at hnd
  obtain ⟨n1, ⟨n2, n3⟩, n4⟩ := hnd
  have hLm : L.map tn = (T.take i).map tn ++ (T.drop (i + 1)).map tn := by rw [hL, List.map_append]
  have hndL : (L.map tn).Nodup := by
    rw [hLm, List.nodup_append]
    exact ⟨n1, n3, fun a ha b hb => n4 a ha b (List.mem_cons_of_mem _ hb)⟩
  have hmem : ∀ n, n ∈ L.map tn ↔ n ∈ T.map tn ∧ n ≠ tn T[i] := fun n => by
    rw [hLm, hmap, List.mem_append, List.mem_append, List.mem_cons]
    constructor
    · rintro (g | g)
      · exact ⟨.inl g, n4 n g _ (by simp)⟩
      · exact ⟨.inr (.inr g), fun e => n2 (e ▸ g)⟩
    · rintro ⟨g | g | g, ne⟩
      · exact .inl g
      · exact absurd g ne
      · exact .inr g
  rw [← hL, Bool.eq_iff_iff, mayB_iff, Bool.and_eq_true, decide_eq_true_iff, Bool.not_eq_true', List.any_eq_false]
  constructor
  · rintro ⟨g1, _, _, g4⟩
    refine ⟨g1, fun t ht hl => ?_⟩
    obtain ⟨f, hf, hl⟩ := List.any_eq_true.1 hl
    unfold leadF at hl
    rw [Bool.and_eq_true, decide_eq_true_iff, beq_iff_eq] at hl
    have := ((g4 t ht).2.2.1 f hf).2.2.2.1 hl.1
    exact ((hmem _).1 this).2 hl.2
  · rintro ⟨g1, g2⟩
    refine ⟨g1, by omega, hndL, fun t ht => ?_⟩
    obtain ⟨t1, t2, t3, t4⟩ := h4 t (hsub t ht)
    refine ⟨t1, t2, fun f hf => ?_, t4⟩
    obtain ⟨p1, p2, p3, p4, p5⟩ := t3 f hf
    refine ⟨p1, p2, p3, fun c => (hmem _).2 ⟨p4 c, fun e => g2 t ht (List.any_eq_true.2 ⟨f, hf, ?_⟩)⟩, p5⟩
    unfold leadF
    rw [decide_eq_true c, Bool.true_and, beq_iff_eq]
    exact e
theorem place_spec2 {α : Type} (p : α → Bool) : ∀ (L : List α) (i : Nat), placeOf p L i = -1 ∨ 0 ≤ placeOf p L i
  | [], _ => .inl rfl
  | x :: t, i => by
    rw [placeOf]
    by_cases c : p x = true
    · rw [if_pos c]
      exact .inr (by omega)
    · rw [if_neg c]
      exact place_spec2 p t (i + 1)
theorem small_app {T U : List S34} (h : smallN T) (h2 : smallN U) : smallN (T ++ U) := fun t ht => (List.mem_append.1 ht).elim (h t) (h2 t)
theorem lead_l1 (J : Int) (T M W L : List S34) (I : Nat) (hJ : J = (I : Int)) (hI : I < T.length) (m : Nat) (hm : m < L.length) (hL : L.length ≤ 1000) (h5 : (L[m]).f1.length ≤ 5) (K : Nat) (R : Option Bool) : ∀ (d j : Nat), j + d = (L[m]).f1.length → ∀ b : Bool, (∀ k, K ≤ k → foliatelaw06_SchemaMore.l0 k J (b || ((L[m]).f1.drop j).any (leadF (T[I]).f0)) ((m + 1 : Nat) : Int) T M W L = R) → ∀ k, K + 1 + d ≤ k → foliatelaw06_SchemaMore.l1 k J b (m : Int) (j : Int) T M W L = R
  | 0, j, h, b, hR, k, hk => by
    obtain ⟨k, rfl⟩ : ∃ q, k = q + 1 := ⟨k - 1, by omega⟩
    have h2 := hR k (by omega)
    rw [List.drop_of_length_le (by omega), List.any_nil, Bool.or_false] at h2
    rw [foliatelaw06_SchemaMore.l1.eq_2, if_pos (by omega), if_pos (by omega), rd34_at L m hm, if_neg (by omega), next_i m (by omega)]
    exact h2
  | d + 1, j, h, b, hR, k, hk => by
    obtain ⟨k, rfl⟩ : ∃ q, k = q + 1 := ⟨k - 1, by omega⟩
    have jl : j < (L[m]).f1.length := by omega
    have ih := fun b' => lead_l1 J T M W L I hJ hI m hm hL h5 K R d (j + 1) (by omega) b'
    rw [foliatelaw06_SchemaMore.l1.eq_2, if_pos (by omega), if_pos (by omega), rd34_at L m hm, if_pos (by omega), next_i j (by omega)]
    cases b with
    | true =>
      rw [if_pos rfl]
      refine ih true (fun k hk => ?_) k (by omega)
      have h2 := hR k hk
      rw [Bool.true_or] at h2 ⊢
      exact h2
    | false =>
      rw [if_neg (by decide), if_pos (by omega), rd40_at _ j jl]
      rw [List.drop_eq_getElem_cons jl, List.any_cons, Bool.false_or] at hR
      by_cases c : ((L[m]).f1[j]).f1 = 5
      · have ert : rd_T34 T J = T[I] := by rw [hJ]; exact rd34_at T I hI
        rw [if_pos c, if_pos (by omega), if_pos (by omega), ert]
        refine ih _ (fun k hk => ?_) k (by omega)
        have h2 := hR k hk
        have e : leadF (T[I]).f0 (L[m]).f1[j] = (((L[m]).f1[j]).f2.toList == (T[I]).f0.toList) := by
          unfold leadF
          rw [decide_eq_true c, Bool.true_and]
        rw [e] at h2
        exact h2
      · rw [if_neg c]
        refine ih _ (fun k hk => ?_) k (by omega)
        have h2 := hR k hk
        have e : leadF (T[I]).f0 (L[m]).f1[j] = false := by
          unfold leadF
          rw [decide_eq_false c, Bool.false_and]
        rw [e] at h2
        exact h2
theorem lead_l0 (J : Int) (T M W L : List S34) (I : Nat) (hJ : J = (I : Int)) (hI : I < T.length) (hL : L.length ≤ 1000) (h5 : ∀ t ∈ L, t.f1.length ≤ 5) (K : Nat) (R : Option Bool) : ∀ (d m : Nat), m + d = L.length → ∀ b : Bool, (∀ k, K ≤ k → foliatelaw06_SchemaMore.l0 k J (b || (L.drop m).any (leadT (T[I]).f0)) (L.length : Int) T M W L = R) → ∀ k, K + 20 * d ≤ k → foliatelaw06_SchemaMore.l0 k J b (m : Int) T M W L = R
  | 0, m, h, b, hR, k, hk => by
    obtain rfl : m = L.length := by omega
    have h2 := hR k (by omega)
    rw [List.drop_of_length_le (Nat.le_refl _), List.any_nil, Bool.or_false] at h2
    exact h2
  | d + 1, m, h, b, hR, k, hk => by
    obtain ⟨k, rfl⟩ : ∃ q, k = q + 1 := ⟨k - 1, by omega⟩
    have ml : m < L.length := by omega
    have hf := h5 _ (List.getElem_mem ml)
    rw [foliatelaw06_SchemaMore.l0.eq_2, if_pos (by omega)]
    refine lead_l1 J T M W L I hJ hI m ml hL hf (K + 20 * d) R (L[m]).f1.length 0 (Nat.zero_add _) b (fun k hk => ?_) k (by omega)
    refine lead_l0 J T M W L I hJ hI hL h5 K R d (m + 1) (by omega) _ (fun k hk => ?_) k hk
    have h2 := hR k hk
    rw [List.drop_eq_getElem_cons ml, List.any_cons] at h2
    rw [List.drop_zero, Bool.or_assoc]
    exact h2
theorem SchemaMore (a : List S34) (j : Int) (sa : smallN a) (la : a.length ≤ 9223372036854775807) : ∃ k, foliatelaw06_SchemaMore.f k a j = some true := by
  obtain ⟨m, aw⟩ := awake
  refine ⟨m + 1000 + a.length + 1 + 1, ?_⟩
  obtain ⟨q, hq⟩ : ∃ q, q = m + 1000 + a.length := ⟨_, rfl⟩
  rw [← hq]
  have triv : foliatelaw06_SchemaMore.j0 (q + 1 + 1) j true true a = some true := by rw [foliatelaw06_SchemaMore.j0.eq_2, if_pos rfl]
  have triv1 : foliatelaw06_SchemaMore.j1 (q + 1) j zz true a = some true := by rw [foliatelaw06_SchemaMore.j1.eq_2, if_pos rfl]
  unfold foliatelaw06_SchemaMore.f
  rw [aw _ (by omega), obindS, few_eq a la _ (by omega), obindS, if_pos rfl]
  cases fa : fewB a with
  | false => exact triv
  | true =>
  rw [if_pos rfl, may_eq a sa _ (by omega), obindS]
  cases ma : mayB a with
  | false => exact triv
  | true =>
  rw [if_pos rfl]
  by_cases c0 : j < 0
  · rw [if_pos c0]
    exact triv
  rw [if_neg c0]
  by_cases c1 : j ≥ (a.length : Int)
  · rw [decide_eq_true c1]
    exact triv
  rw [decide_eq_false c1]
  obtain ⟨I, hJ⟩ := Int.eq_ofNat_of_zero_le (show 0 ≤ j by omega)
  have hI : I < a.length := by omega
  obtain ⟨g1, g4, hp⟩ := may_parts ma
  have f5 : ∀ t ∈ a, t.f1.length ≤ 5 := fun t ht => by
    obtain ⟨x, hx, rfl⟩ := List.getElem_of_mem ht
    exact (hp x hx).2.2.1
  have hF5 := f5 _ (List.getElem_mem hI)
  have eF : schema_Find.f a zz = some (nameIdx a zz) := by
    unfold schema_Find.f
    rw [if_pos (by omega)]
    rfl
  have eG : schema_Field.f (a[I]).f0 (a[I]).f1 zz = some (fieldIdx (a[I]).f1 zz) := by
    unfold schema_Field.f
    rw [if_pos (by omega)]
    rfl
  have er : rd_T34 a j = a[I] := by rw [hJ]; exact rd34_at a I hI
  rw [foliatelaw06_SchemaMore.j0.eq_2, if_neg (by decide)]
  show (schema_Find.f a zz).bind _ = _
  rw [eF, obindS]
  by_cases c2 : nameIdx a zz ≥ 0
  · rw [if_pos c2]
    exact triv1
  rw [if_neg c2, if_pos (by omega), if_pos (by omega), er]
  show (schema_Field.f (a[I]).f0 (a[I]).f1 zz).bind _ = _
  rw [eG, obindS]
  by_cases c3 : fieldIdx (a[I]).f1 zz ≥ 0
  · rw [decide_eq_true c3]
    exact triv1
  rw [decide_eq_false c3]
  have hz : nameIdx a zz = -1 := (place_spec2 (fun y : S34 => y.f0.toList == zz.toList) a 0).elim id (fun g => absurd g c2)
  have hzf : fieldIdx (a[I]).f1 zz = -1 := (place_spec2 (fun y : S40 => y.f0.toList == zz.toList) (a[I]).f1 0).elim id (fun g => absurd g c3)
  have em := more_may ma hz
  have ew := wide_may ma I hI hzf
  have el := less_may ma I hI
  have hx1 : wrap64 (j + 1) = ((I + 1 : Nat) : Int) := by rw [hJ]; exact next_i I (by omega)
  have hsz : (zz.size : Nat) = 8 := rfl
  have sm : smallN (a ++ [(⟨zz, []⟩ : S34)]) := small_app sa (fun t ht => by
    rw [List.mem_singleton.1 ht]
    exact ⟨by show zz.size ≤ _; omega, fun f hf => absurd hf (by simp)⟩)
  have sw : smallN (a.set I ⟨(a[I]).f0, (a[I]).f1 ++ [⟨zz, 4, ⟨#[]⟩⟩]⟩) := fun t ht => by
    rcases List.mem_or_eq_of_mem_set ht with hm | rfl
    · exact sa t hm
    · have h0 := sa _ (List.getElem_mem hI)
      refine ⟨h0.1, fun f hf => ?_⟩
      rcases List.mem_append.1 hf with hm | hm
      · exact h0.2 f hm
      · rw [List.mem_singleton.1 hm]
        show zz.size ≤ _
        omega
  have sub : ∀ t ∈ a.take I ++ a.drop (I + 1), t ∈ a := fun t ht => (List.mem_append.1 ht).elim List.mem_of_mem_take List.mem_of_mem_drop
  have sl : smallN (a.take I ++ a.drop (I + 1)) := fun t ht => sa t (sub t ht)
  have hll : (a.take I ++ a.drop (I + 1)).length ≤ 1000 := by
    rw [List.length_append, List.length_take, List.length_drop]
    omega
  have body : foliatelaw06_SchemaMore.l0 q j false 0 a (a ++ [⟨zz, []⟩]) (a.set I ⟨(a[I]).f0, (a[I]).f1 ++ [⟨zz, 4, ⟨#[]⟩⟩]⟩) (a.take I ++ a.drop (I + 1)) = some true := by
    have h20 : (a.take I ++ a.drop (I + 1)).length ≤ 4 := by
      rw [List.length_append, List.length_take, List.length_drop]
      omega
    refine lead_l0 j a _ _ (a.take I ++ a.drop (I + 1)) I hJ hI hll (fun t ht => f5 t (sub t ht)) 200 _ (a.take I ++ a.drop (I + 1)).length 0 (Nat.zero_add _) false (fun k hk => ?_) q (by omega)
    obtain ⟨k, rfl⟩ : ∃ q, k = q + 1 := ⟨k - 1, by omega⟩
    have d4 : decide ((a.length : Int) < 4) = decide (a.length < 4) := by
      by_cases c : a.length < 4
      · rw [decide_eq_true c, decide_eq_true (by omega)]
      · rw [decide_eq_false c, decide_eq_false (by omega)]
    have d5 : decide (((a[I]).f1.length : Int) < 5) = decide ((a[I]).f1.length < 5) := by
      by_cases c : (a[I]).f1.length < 5
      · rw [decide_eq_true c, decide_eq_true (by omega)]
      · rw [decide_eq_false c, decide_eq_false (by omega)]
    rw [foliatelaw06_SchemaMore.l0.eq_2, if_neg (by omega), may_eq _ sm k (by omega), obindS, em, d4, if_pos (beq_self_eq_true _), may_eq _ sw k (by omega), obindS, if_pos (by omega), if_pos (by omega), er, ew, d5, if_pos (beq_self_eq_true _), may_eq _ sl k (by omega), obindS, el, List.drop_zero, Bool.false_or]
    by_cases c : 0 < (a.take I ++ a.drop (I + 1)).length
    · rw [if_pos (by omega), decide_eq_true c, Bool.true_and, beq_self_eq_true]
    · rw [if_neg (by omega), decide_eq_false c, Bool.false_and]
      rfl
  show foliatelaw06_SchemaMore.j1 (q + 1) j zz false a = some true
  rw [foliatelaw06_SchemaMore.j1.eq_2, if_neg (by decide)]
  simp only [List.nil_append, List.length_nil, List.length_cons, Nat.zero_add, obindS, er, hx1]
  have ht : (j : Int).toNat = I := by rw [hJ]; rfl
  have ht1 : (((I + 1 : Nat) : Int)).toNat = I + 1 := rfl
  rw [if_pos (by omega), if_pos (by omega), if_pos (by omega), if_pos (by omega), if_pos (by omega), if_pos (by omega), if_pos (by omega), if_pos (by omega), ht, if_pos (by rw [List.length_take]; omega), if_pos (by omega), if_pos (by omega), ht1, if_pos (by rw [List.length_take, List.length_drop]; omega)]
  exact body
end Go.Proofs.Ytlcanmndeempfaa.Pure
