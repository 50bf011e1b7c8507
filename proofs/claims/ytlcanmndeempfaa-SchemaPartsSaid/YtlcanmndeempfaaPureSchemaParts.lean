/- For every schema that may be and every place: the schema's text is those of its types, one behind the other, if each could stand alone; it begins by the first type's name, and has at least two bytes more; and the type of the place is found by its name there. Of more than 10 types, or fields of a type, nothing is asked. -/
import Derived.Test.YtlcanmndeempfaaPtSchMore
import Derived.Test.YtlcanmndeempfaaPPtx9
namespace Go.Proofs.Ytlcanmndeempfaa.Pure
open Go.RowKit Go.Proofs.Ytlcanmndeempfaa.PPt Go.Proofs.YtlcanmndeempfaaW.PrintWords Go.Proofs.YtlcanmndeempfaaW.PrintLast Go.Proofs.Ytlcanmndeempfaa.PtSch
def accB : List S34 → ByteArray → ByteArray
  | [], x => x
  | t :: L, x => accB L (x ++ textQ [t])
theorem acc_data : ∀ (L : List S34) (x : ByteArray), (L.all fun t => mayB [t]) = true → (accB L x).data.toList = x.data.toList ++ textL L
  | [], x, _ => by
    show x.data.toList = _
    simp [textL]
  | t :: L, x, h => by
    rw [List.all_cons, Bool.and_eq_true] at h
    have e : textL (t :: L) = (typeT t).data.toList ++ textL L := by unfold textL; rw [List.flatMap_cons]
    have e1 : textL [t] = (typeT t).data.toList := by unfold textL; simp
    show (accB L (x ++ textQ [t])).data.toList = _
    rw [acc_data L _ h.2, ba_app, textQ_data h.1, e1, e, List.append_assoc]
theorem small_one {T : List S34} (h : smallN T) {t : S34} (ht : t ∈ T) : smallN [t] := fun x hx => by
  rw [List.mem_singleton.1 hx]
  exact h t ht
theorem parts_loop (T : List S34) (h4 : T.length ≤ 4) (hs : smallN T) (j : Int) (K : Nat) (hK : 200 ≤ K) (R : Option Bool) : ∀ (d i : Nat), i + d = T.length → ∀ (x : ByteArray) (b : Bool), x.size ≤ 1000 * i → (∀ k, K ≤ k → foliatelaw06_SchemaParts.l0 k j (accB (T.drop i) x) (b && (T.drop i).all fun t => mayB [t]) (T.length : Int) T = R) → ∀ k, K + d ≤ k → foliatelaw06_SchemaParts.l0 k j x b (i : Int) T = R
  | 0, i, h, x, b, hx, hR, k, hk => by
    obtain rfl : i = T.length := by omega
    have h2 := hR k (by omega)
    rw [List.drop_of_length_le (Nat.le_refl _)] at h2
    have e : (b && ([] : List S34).all fun t => mayB [t]) = b := Bool.and_true b
    rw [e] at h2
    exact h2
  | d + 1, i, h, x, b, hx, hR, k, hk => by
    obtain ⟨k, rfl⟩ : ∃ q, k = q + 1 := ⟨k - 1, by omega⟩
    have il : i < T.length := by omega
    have hs1 := small_one hs (List.getElem_mem il)
    have hz := textQ_size [T[i]]
    have hz2 : (x ++ textQ [T[i]]).size ≤ 1000 * (i + 1) := by rw [ByteArray.size_append]; omega
    have ih := parts_loop T h4 hs j K hK R d (i + 1) (by omega) (x ++ textQ [T[i]]) (b && mayB [T[i]]) hz2 (fun k hk => by
      have h2 := hR k hk
      rw [List.drop_eq_getElem_cons il, List.all_cons, ← Bool.and_assoc] at h2
      exact h2) k (by omega)
    rw [foliatelaw06_SchemaParts.l0.eq_2, if_pos (by omega), if_pos (by omega), rd34_at T i il, may_eq _ hs1 k (by omega), text_eq _ hs1 k (by omega), obindS, obindS, obindS, next_i i (by omega)]
    cases b with
    | true =>
      rw [if_pos rfl, if_pos (by omega)]
      exact ih
    | false =>
      rw [if_neg (show ¬ (false = true) by decide), if_pos (by omega)]
      exact ih
theorem SchemaParts (a : List S34) (j : Int) (sa : smallN a) (la : a.length ≤ 9223372036854775807) : ∃ k, foliatelaw06_SchemaParts.f k a j = some true := by
  obtain ⟨m, aw⟩ := awake
  refine ⟨m + 1000 + a.length + 1, ?_⟩
  obtain ⟨q, hq⟩ : ∃ q, q = m + 1000 + a.length := ⟨_, rfl⟩
  rw [← hq]
  have triv : foliatelaw06_SchemaParts.j0 (q + 1) j true true a = some true := by rw [foliatelaw06_SchemaParts.j0.eq_2, if_pos rfl]
  unfold foliatelaw06_SchemaParts.f
  rw [aw _ (by omega), obindS, few_eq a la _ (by omega), obindS, if_pos rfl]
  cases fa : fewB a with
  | false => exact triv
  | true =>
  rw [if_pos rfl, may_eq a sa _ (by omega), obindS]
  cases ma : mayB a with
  | false => exact triv
  | true =>
  show foliatelaw06_SchemaParts.j0 (q + 1) j true false a = some true
  rw [foliatelaw06_SchemaParts.j0.eq_2, if_neg (by decide)]
  obtain ⟨g1, g4, hp⟩ := may_parts ma
  have g0 : 0 < a.length := by omega
  have ok := may_okT ma
  have nz := name_size (ok _ (List.getElem_mem g0)).1
  have et := textQ_data ma
  obtain ⟨t0, L, rfl⟩ : ∃ t0 L, a = t0 :: L := by
    cases a with
    | nil => exact absurd g0 (by simp)
    | cons t0 L => exact ⟨t0, L, rfl⟩
  have e0 : textL (t0 :: L) = t0.f0.data.toList ++ (123 :: (Lib.join ((t0.f1.map fieldT).map (·.data.toList)) [44] ++ 125 :: textL L)) := by
    unfold textL
    rw [List.flatMap_cons]
    unfold typeT
    simp only [ba_app]
    simp
  have z : ∀ b : ByteArray, b.data.toList.length = b.size := fun b => by rw [Array.length_toList]; rfl
  have hz : (textQ (t0 :: L)).size ≥ t0.f0.size + 2 := by
    rw [← z, et, e0, List.length_append, List.length_cons, List.length_append, List.length_cons, z]
    omega
  have hzn : t0.f0.size ≤ 16 := nz
  have hcut : ((textQ (t0 :: L)).extract 0 t0.f0.size).toList = t0.f0.toList := by
    rw [ByteArray.toList_eq, ByteArray.toList_eq, ByteArray.data_extract, Array.toList_extract]
    show (List.drop 0 (textQ (t0 :: L)).data.toList).take (t0.f0.size - 0) = _
    rw [List.drop_zero, Nat.sub_zero, et, e0, ← z, List.take_left]
  have er0 : rd_T34 (t0 :: L) 0 = t0 := rd34_at (t0 :: L) 0 g0
  have ew : wrap64 ((t0.f0.size : Int) + 2) = ((t0.f0.size + 2 : Nat) : Int) := by unfold wrap64; omega
  have tail : (if j < 0 then (some true) else (if j ≥ ((t0 :: L).length : Int) then (some true) else (if 0 ≤ j then (if j < ((t0 :: L).length : Int) then ((schema_Find.f (t0 :: L) ((rd_T34 (t0 :: L) j).f0)).bind fun t172 => (some (t172 == j))) else (none)) else (none)))) = some true := by
    by_cases d0 : j < 0
    · rw [if_pos d0]
    · by_cases d1 : j ≥ ((t0 :: L).length : Int)
      · rw [if_neg d0, if_pos d1]
      · obtain ⟨J, rfl⟩ := Int.eq_ofNat_of_zero_le (show 0 ≤ j by omega)
        have hJ : J < (t0 :: L).length := by omega
        have hi := (hp J hJ).2.1
        have eF : schema_Find.f (t0 :: L) ((t0 :: L)[J]).f0 = some (nameIdx (t0 :: L) ((t0 :: L)[J]).f0) := by
          unfold schema_Find.f
          rw [if_pos (by omega)]
          rfl
        rw [if_neg d0, if_neg d1, if_pos (by omega), if_pos (by omega), rd34_at (t0 :: L) J hJ, eF, obindS, hi, beq_self_eq_true]
  refine parts_loop (t0 :: L) g4 sa j 300 (by decide) _ (t0 :: L).length 0 (Nat.zero_add _) (⟨#[]⟩ : ByteArray) true (Nat.zero_le _) (fun k hk => ?_) q (by omega)
  obtain ⟨k, rfl⟩ : ∃ q, k = q + 1 := ⟨k - 1, by omega⟩
  rw [List.drop_zero, Bool.true_and, foliatelaw06_SchemaParts.l0.eq_2, if_neg (by omega), text_eq _ sa k (by omega), obindS]
  have fin : (if 0 < ((t0 :: L).length : Int) then (if ((textQ (t0 :: L)).size : Int) < (wrap64 ((((rd_T34 (t0 :: L) 0).f0).size : Int) + 2)) then (none) else (if 0 ≤ (((rd_T34 (t0 :: L) 0).f0).size : Int) then (if (((rd_T34 (t0 :: L) 0).f0).size : Int) ≤ ((textQ (t0 :: L)).size : Int) then (if ((textQ (t0 :: L)).extract 0 ((((rd_T34 (t0 :: L) 0).f0).size : Int) : Int).toNat).toList = ((rd_T34 (t0 :: L) 0).f0).toList then (if j < 0 then (some true) else (if j ≥ ((t0 :: L).length : Int) then (some true) else (if 0 ≤ j then (if j < ((t0 :: L).length : Int) then ((schema_Find.f (t0 :: L) ((rd_T34 (t0 :: L) j).f0)).bind fun t172 => (some (t172 == j))) else (none)) else (none)))) else (none)) else (none)) else (none))) else (none)) = some true := by
    rw [tail, er0, ew, Int.toNat_natCast, if_pos (by omega), if_neg (by omega), if_pos (by omega), if_pos (by omega), if_pos hcut]
  cases hb : ((t0 :: L).all fun t => mayB [t]) with
  | true =>
    have eX : accB (t0 :: L) (⟨#[]⟩ : ByteArray) = textQ (t0 :: L) := ba_ext (by rw [acc_data _ _ hb, et]; rfl)
    rw [if_pos rfl, eX, if_pos rfl]
    exact fin
  | false =>
    rw [if_neg (by decide)]
    exact fin
end Go.Proofs.Ytlcanmndeempfaa.Pure
