import Derived.Test.YtlcanmndeempfaaMoSchAwake
namespace Go.Proofs.Ytlcanmndeempfaa.MoSch
open Go.RowKit Go.Proofs.Ytlcanmndeempfaa.PMo Go.Proofs.YtlcanmndeempfaaW.PrintWords Go.Proofs.YtlcanmndeempfaaW.PrintLast
open Go.Lib (encodeRune join)
/-! A text's length; few types; two texts. -/
theorem field_size {f : S40} (h : okF f) : (fieldT f).data.toList.length ≤ 36 := by
  have hs := okF_size h
  have hk := kindB_size f.f1 h.2.1 h.2.2.1
  have z : ∀ b : ByteArray, b.data.toList.length = b.size := fun b => by rw [Array.length_toList]; rfl
  unfold fieldT
  rw [ba_app, ba_app, ba_app, List.length_append, List.length_append, List.length_append, z, z, z, z]
  show f.f0.size + 1 + (kindB f.f1).size + f.f2.size ≤ 36
  omega
theorem type_size {t : S34} (h : okT t) (h5 : t.f1.length ≤ 5) : (typeT t).data.toList.length ≤ 203 := by
  have hs := name_size h.1
  have z : ∀ b : ByteArray, b.data.toList.length = b.size := fun b => by rw [Array.length_toList]; rfl
  have hj := join_len ((t.f1.map fieldT).map (·.data.toList)) 36 (fun x hx => by
    obtain ⟨y, hy, rfl⟩ := List.mem_map.1 hx
    obtain ⟨f, hf, rfl⟩ := List.mem_map.1 hy
    exact field_size (h.2 f hf))
  have hl : ((t.f1.map fieldT).map (·.data.toList)).length ≤ 5 := by simpa using h5
  have hm : ((t.f1.map fieldT).map (·.data.toList)).length * (36 + 1) ≤ 5 * (36 + 1) := Nat.mul_le_mul_right _ hl
  unfold typeT
  rw [ba_app, ba_app, ba_app, List.length_append, List.length_append, List.length_append, z]
  show t.f0.size + 1 + (join ((t.f1.map fieldT).map (·.data.toList)) [44]).toArray.toList.length + 1 ≤ 203
  rw [List.toList_toArray]
  omega
theorem textL_size : ∀ (L : List S34) (_ : ∀ t ∈ L, (typeT t).data.toList.length ≤ 203), (textL L).length ≤ 203 * L.length
  | [], _ => Nat.le_refl _
  | t :: L, h => by
    have h1 := h t (by simp)
    have h2 := textL_size L (fun x hx => h x (List.mem_cons_of_mem _ hx))
    have e : textL (t :: L) = (typeT t).data.toList ++ textL L := by unfold textL; rw [List.flatMap_cons]
    rw [e, List.length_append, List.length_cons]
    omega
theorem textQ_size (T : List S34) : (textQ T).size ≤ 1000 := by
  cases hm : mayB T with
  | false =>
    unfold textQ
    rw [hm]
    exact Nat.zero_le _
  | true =>
    obtain ⟨_, h4, hp⟩ := may_parts hm
    have hz : (textQ T).data.toList.length = (textQ T).size := by rw [Array.length_toList]; rfl
    have := textL_size T (fun t ht => by
      have ho := may_okT hm t ht
      obtain ⟨m, hl, rfl⟩ := List.getElem_of_mem ht
      exact type_size ho (hp m hl).2.2.1)
    rw [textQ_data hm] at hz
    omega
theorem read_none : readQ ⟨#[]⟩ = ([], false) := by
  unfold readQ
  have e : parse (⟨#[]⟩ : ByteArray).data.toList start0 = some start0 := rfl
  rw [e]
  show (if _ then _ else _) = _
  have e2 : (⟨#[]⟩ : ByteArray).toList.isEmpty = true := by rw [ByteArray.toList_eq]; rfl
  rw [e2, Bool.or_true, if_pos rfl]
/-- a schema's own text is read, just if it may be -/
theorem read_own (T : List S34) : readQ (textQ T) = if mayB T = true then (T, true) else ([], false) := by
  cases hm : mayB T with
  | true => exact read_text hm
  | false =>
    have e : textQ T = ⟨#[]⟩ := by
      unfold textQ
      rw [hm]
      rfl
    rw [e]
    exact read_none
theorem text_inj {a b : List S34} (ha : mayB a = true) (hb : mayB b = true) : ((textQ a).toList == (textQ b).toList) = eqTs a b := by
  cases h : eqTs a b with
  | true =>
    obtain rfl := (eqTs_iff a b).1 h
    exact beq_self_eq_true _
  | false =>
    refine beq_eq_false_iff_ne.2 fun e => ?_
    have e2 : textQ a = textQ b := toList_inj (by rw [e]; exact beq_self_eq_true _)
    have e3 := read_text ha
    rw [e2, read_text hb] at e3
    rw [(eqTs_iff a b).2 (Prod.mk.inj e3).1.symm] at h
    exact absurd h (by decide)
/-- few types, few fields of each -/
def fewB (T : List S34) : Bool := (T.all fun t => decide (t.f1.length ≤ 10)) && decide (T.length ≤ 10)
theorem few_loop (T : List S34) (hT : T.length ≤ 9223372036854775807) : ∀ (d i : Nat), i + d = T.length → ∀ k, d < k → foliatelaw06_Few.l0 k 10 (i : Int) T = some (((T.drop i).all fun t => decide (t.f1.length ≤ 10)) && decide (T.length ≤ 10))
  | 0, i, h, k, hk => by
    obtain ⟨k, rfl⟩ : ∃ q, k = q + 1 := ⟨k - 1, by omega⟩
    rw [foliatelaw06_Few.l0.eq_2, if_neg (by omega), List.drop_of_length_le (by omega)]
    have e : decide ((T.length : Int) ≤ 10) = decide (T.length ≤ 10) := by
      by_cases c : T.length ≤ 10
      · rw [decide_eq_true c, decide_eq_true (by omega)]
      · rw [decide_eq_false c, decide_eq_false (by omega)]
    rw [e]
    rfl
  | d + 1, i, h, k, hk => by
    obtain ⟨k, rfl⟩ : ∃ q, k = q + 1 := ⟨k - 1, by omega⟩
    have il : i < T.length := by omega
    have ih := few_loop T hT d (i + 1) (by omega) k (by omega)
    have ew : wrap64 ((i : Int) + 1) = ((i + 1 : Nat) : Int) := by unfold wrap64; omega
    rw [foliatelaw06_Few.l0.eq_2, if_pos (by omega), if_pos (by omega), rd34_at T i il, ew, ih, List.drop_eq_getElem_cons il, List.all_cons]
    by_cases c : (T[i]).f1.length ≤ 10
    · rw [if_neg (by omega), decide_eq_true c, Bool.true_and]
    · rw [if_pos (by omega), decide_eq_false c, Bool.false_and, Bool.false_and]
theorem few_eq (T : List S34) (hT : T.length ≤ 9223372036854775807) (k : Nat) (hk : T.length < k) : foliatelaw06_Few.f k T 10 = some (fewB T) := by
  have := few_loop T hT T.length 0 (by omega) k hk
  rw [List.drop_zero] at this
  exact this
theorem few_parts {T : List S34} (h : fewB T = true) : T.length ≤ 10 ∧ ∀ t ∈ T, t.f1.length ≤ 10 := by
  unfold fewB at h
  rw [Bool.and_eq_true, List.all_eq_true] at h
  exact ⟨of_decide_eq_true h.2, fun t ht => of_decide_eq_true (h.1 t ht)⟩
theorem same_few {a b : List S34} (h : fewB a = true) (k : Nat) (hk : 100 ≤ k) : schema_Same.f k a b = some (eqTs a b) := by
  obtain ⟨h1, h2⟩ := few_parts h
  exact same_eq a b (by omega) k (fun t ht => by have := h2 t ht; omega)
end Go.Proofs.Ytlcanmndeempfaa.MoSch
