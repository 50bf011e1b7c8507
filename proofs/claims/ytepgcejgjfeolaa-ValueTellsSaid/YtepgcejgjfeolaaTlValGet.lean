import Derived.Test.YtepgcejgjfeolaaTlVal
import Derived.Test.YtepgcejgjfeolaaPTlx5
import Derived.Test.YtepgcejgjfeolaaPTlx3
import Derived.Test.YtepgcejgjfeolaaPTlx5
namespace Go.Proofs.Ytepgcejgjfeolaa.TlVal
open Go.RowKit Go.Proofs.Ytepgcejgjfeolaa.PTl Go.Proofs.YtepgcejgjfeolaaW.PrintWords Go.Proofs.YtepgcejgjfeolaaW.PrintLast Go.Proofs.YtepgcejgjfeolaaW.PrintMore Go.Proofs.Ytepgcejgjfeolaa.TlVari
/-! What is read of a field's bytes, plainly. -/
theorem bytes_str (S : ByteArray) : Bytes (bytesOf S) := fun x hx => by
  unfold bytesOf at hx
  obtain ⟨b, _, rfl⟩ := List.mem_map.1 hx
  have := b.toNat_lt
  omega
theorem str_bytes (S : ByteArray) : strOfNums (bytesOf S) = S := by
  unfold strOfNums bytesOf
  cases S with
  | mk d =>
    congr 1
    simp only [List.map_map]
    have : ((fun x : Int => UInt8.ofNat x.toNat) ∘ fun b : UInt8 => (b.toNat : Int)) = id := by
      funext b
      simp
    first
      | (rw [this]; simp)
      | (simp [Function.comp_def])
theorem bytes_strOf {l : List Int} (hl : Bytes l) : bytesOf (strOfNums l) = l := by
  unfold strOfNums bytesOf
  simp only [List.map_map]
  conv => rhs; rw [← List.map_id l]
  refine List.map_congr_left fun x hx => ?_
  have := hl x hx
  simp only [Function.comp_apply, UInt8.toNat_ofNat', id]
  omega
theorem str_size {l : List Int} : (strOfNums l).size = l.length := by
  unfold strOfNums
  simp [ByteArray.size]
theorem get_zero {K : Nat} {a c : ByteArray} {k : Int} {l : List Int} (hb : Bytes l) (hl : l.length < 1000) (hK : 3000 ≤ K) (h : g 0 0 l = (0, 0)) : value_Get.f K a k c l = some (0, (⟨#[]⟩ : ByteArray), 0, 0, false) := by
  unfold value_Get.f
  rw [get_eq l K hb (by omega) (by omega), h]
  simp
theorem val_of_text {N R : Int} {S : ByteArray} (h : fitsV 4 N S R = true) : S.size ≤ 12 ∧ N = 0 ∧ R = 0 := by
  rw [fits_text] at h
  by_cases c : N = 0 ∧ R = 0
  · rw [if_pos c] at h; have := of_decide_eq_true h; exact ⟨by omega, c.1, c.2⟩
  · rw [if_neg c] at h; exact absurd h (by simp)
theorem val_of_ref {N R : Int} {S : ByteArray} (h : fitsV 5 N S R = true) : (-1 ≤ R ∧ R ≤ 1073741824) ∧ N = 0 ∧ S.toList = [] := by
  rw [fitsv_ref] at h
  by_cases c : N = 0 ∧ S.toList = []
  · rw [if_pos c] at h; exact ⟨by simpa using h, c.1, c.2⟩
  · rw [if_neg c] at h; exact absurd h (by simp)
theorem val_of_num {k N R : Int} {S : ByteArray} (h : fitsV k N S R = true) (h4 : ¬ k = 4) (h5 : ¬ k = 5) : (0 ≤ k ∧ k ≤ 3) ∧ S.toList = [] ∧ R = 0 := by
  by_cases hk : 0 ≤ k ∧ k ≤ 5
  case neg => rw [fits_out hk] at h; exact absurd h (by simp)
  have hk3 : 0 ≤ k ∧ k ≤ 3 := by omega
  rw [fits_num hk3] at h
  by_cases c : S.toList = [] ∧ R = 0
  · exact ⟨hk3, c⟩
  · rw [if_neg c] at h; exact absurd h (by simp)
theorem empty_of {S : ByteArray} (h : S.toList = []) : S = (⟨#[]⟩ : ByteArray) := by
  rw [ByteArray.toList_eq] at h
  cases S with
  | mk d => simp at h; rw [h]
theorem val_bytes {k N R : Int} {S : ByteArray} (hN : -9223372036854775808 ≤ N ∧ N ≤ 9223372036854775807) (h : fitsV k N S R = true) : Bytes (V k N S R) ∧ (V k N S R).length ≤ 30 := by
  unfold V
  by_cases h4 : k = 4
  · subst h4
    rw [if_pos rfl]
    have h1 := (val_of_text h).1
    have hp := pb_len S.size
    have hl := bytesOf_length S
    exact ⟨(pb_bytes (Nat.lt_of_le_of_lt h1 (by decide))).append (bytes_str S), by rw [List.length_append]; omega⟩
  · rw [if_neg h4]
    by_cases h5 : k = 5
    · subst h5
      rw [if_pos rfl]
      have h1 := (val_of_ref h).1
      have hp := pb_len (R + 1).toNat
      exact ⟨pb_bytes (by omega), by omega⟩
    · rw [if_neg h5]
      have hz := Z_range N hN.1 hN.2
      have hp := pb_len (Z N).toNat
      exact ⟨pb_bytes (by omega), by omega⟩
theorem fits_eq (a c : ByteArray) (k N : Int) (S : ByteArray) (R : Int) : value_Fits.f a k c N S R = some (fitsV k N S R) := rfl
theorem u64_nat (n : Nat) (h : n < 1000) : IntKind.u64.wrap (n : Int) = (n : Int) := by rw [wrap_u64]; omega
/-- what is put is read, whatever stands behind -/
theorem val_get_put {k N R : Int} {S : ByteArray} (a c : ByteArray) (K : Nat) (hK : 3000 ≤ K) (t : List Int) (ht : Bytes t) (htl : t.length < 900) (hN : -9223372036854775808 ≤ N ∧ N ≤ 9223372036854775807) (h : fitsV k N S R = true) :
    value_Get.f K a k c (V k N S R ++ t) = some (N, S, R, ((V k N S R).length : Int), true) := by
  obtain ⟨hb, hl⟩ := val_bytes hN h
  have hbt := hb.append ht
  have hlt : (V k N S R ++ t).length < 1000 := by rw [List.length_append]; omega
  unfold value_Get.f
  rw [get_eq _ K hbt (by omega) (by omega)]
  by_cases h4 : k = 4
  · subst h4
    obtain ⟨hs, rfl, rfl⟩ := val_of_text h
    have hbl := bytesOf_length S
    have hV : V 4 0 S 0 = pb S.size ++ bytesOf S := by unfold V; rw [if_pos rfl]
    have hp := pb_len S.size
    rw [hV] at hl hlt hbt ⊢
    rw [List.append_assoc, g_pb S.size _ (Nat.lt_of_le_of_lt hs (by decide))]
    simp only [obind]
    rw [List.length_append] at hl
    have e0 : (pb S.size ++ (bytesOf S ++ t)).length = (pb S.size).length + S.size + t.length := by rw [List.length_append, List.length_append]; omega
    have e1 : wrap64 (((pb S.size ++ (bytesOf S ++ t)).length : Int) - ((pb S.size).length : Int)) = ((S.size + t.length : Nat) : Int) := by rw [e0]; unfold wrap64; omega
    have e3 : wrap64 (((pb S.size).length : Int) + wrap64 (S.size : Int)) = (((pb S.size).length + S.size : Nat) : Int) := by
      rw [wrap_nat _ (by omega)]; unfold wrap64; omega
    have e4 : ((pb S.size ++ (bytesOf S ++ t)).take ((pb S.size).length + S.size)).drop (pb S.size).length = bytesOf S := by
      rw [List.take_append, List.take_of_length_le (by omega), List.drop_left, Nat.add_sub_cancel_left, ← hbl, List.take_left]
    rw [e1, u64_nat _ (by omega), e3, Int.toNat_natCast, Int.toNat_natCast, e4]
    have p1 : ¬ ((pb S.size).length : Int) = 0 := by omega
    have p2 : ¬ (S.size : Int) > ((S.size + t.length : Nat) : Int) := by omega
    have p3 : (0 : Int) ≤ ((pb S.size).length : Int) := by omega
    have p4 : ((pb S.size).length : Int) ≤ (((pb S.size).length + S.size : Nat) : Int) := by omega
    have p5 : (((pb S.size).length + S.size : Nat) : Int) ≤ ((pb S.size ++ (bytesOf S ++ t)).length : Int) := by rw [e0]; omega
    rw [if_neg p1, if_pos trivial, if_neg p2, if_pos p3, if_pos p4, if_pos p5]
    unfold slices_Clone_byte_byte.f
    rw [if_pos (by omega), obind, fits_eq, obind, str_bytes, h, if_pos rfl, List.length_append, hbl]
  · by_cases h5 : k = 5
    · subst h5
      obtain ⟨hs, rfl, hS⟩ := val_of_ref h
      have hV : V 5 0 S R = pb (R + 1).toNat := by unfold V; rw [if_neg (by decide), if_pos rfl]
      have hp := pb_len (R + 1).toNat
      rw [hV, g_pb (R + 1).toNat t (by omega)]
      simp only [obind]
      have e1 : wrap64 (wrap64 (mn (((R + 1).toNat : Nat) : Int) 1073741826) - 1) = R := by
        have : mn (((R + 1).toNat : Nat) : Int) 1073741826 = R + 1 := by unfold mn; split <;> omega
        rw [this]; unfold wrap64; omega
      have p1 : ¬ ((pb (R + 1).toNat).length : Int) = 0 := by omega
      have p4 : ¬ (5 : Int) = 4 := by decide
      rw [if_neg p1, if_neg p4, if_pos trivial, e1, fits_eq, obind]
      rw [empty_of hS] at h ⊢
      rw [h, if_pos rfl]
    · obtain ⟨hk, hS, rfl⟩ := val_of_num h h4 h5
      have hz := Z_range N hN.1 hN.2
      have hV : V k N S 0 = pb (Z N).toNat := by unfold V; rw [if_neg h4, if_neg h5]
      have hp := pb_len (Z N).toNat
      rw [hV, g_pb (Z N).toNat t (by omega)]
      simp only [obind]
      have p1 : ¬ ((pb (Z N).toNat).length : Int) = 0 := by omega
      have e : (((Z N).toNat : Nat) : Int) = Z N := by omega
      rw [if_neg p1, if_neg h4, if_neg h5, e, zag_eq _ hz.1 hz.2, obind, Zb_Z, fits_eq, obind]
      rw [empty_of hS] at h ⊢
      rw [h, if_pos rfl]
theorem ref_sum (n : Nat) (h : (n : Int) ≤ 1073741826) : wrap64 (wrap64 (n : Int) - 1) = (n : Int) - 1 := by unfold wrap64; omega
theorem ref_min (n : Nat) : mn (n : Int) 1073741826 = (if (n : Int) ≤ 1073741826 then (n : Int) else 1073741826) := by unfold mn; split <;> split <;> omega
/-- what is read fits, and is put as the same bytes -/
theorem val_get_inv {k : Int} (a c : ByteArray) (K : Nat) (hK : 3000 ≤ K) (l : List Int) (hb : Bytes l) (hl : l.length < 1000) :
    value_Get.f K a k c l = some (0, (⟨#[]⟩ : ByteArray), 0, 0, false) ∨
    ∃ (N : Int) (S : ByteArray) (R : Int) (t : List Int), fitsV k N S R = true ∧ (-9223372036854775808 ≤ N ∧ N ≤ 9223372036854775807) ∧ l = V k N S R ++ t ∧ value_Get.f K a k c l = some (N, S, R, ((V k N S R).length : Int), true) := by
  rcases g_cases l 0 0 with h0 | h0
  · exact .inl (get_zero hb hl hK h0)
  obtain ⟨n, t, h1, h2, h3⟩ := g_read l hb h0
  have hp := pb_len n
  have hL : l.length = (pb n).length + t.length := by rw [h2, List.length_append]
  have htb : Bytes t := fun x hx => hb x (by rw [h2]; exact List.mem_append_right _ hx)
  have p1 : ¬ ((pb n).length : Int) = 0 := by omega
  have unf : value_Get.f K a k c l = (if k = 4 then (if (n : Int) > (IntKind.u64.wrap (wrap64 ((l.length : Int) - ((pb n).length : Int)))) then (some (0, (⟨#[]⟩ : ByteArray), 0, 0, false)) else (if (0 : Int) ≤ ((pb n).length : Int) then (if ((pb n).length : Int) ≤ (wrap64 (((pb n).length : Int) + (wrap64 (n : Int)))) then (if (wrap64 (((pb n).length : Int) + (wrap64 (n : Int)))) ≤ (l.length : Int) then ((slices_Clone_byte_byte.f ((l.take ((wrap64 (((pb n).length : Int) + (wrap64 (n : Int)))) : Int).toNat).drop (((pb n).length : Nat) : Int).toNat)).bind fun t114 => ((value_Fits.f a k c 0 (strOfNums t114) 0).bind fun t117 => (if t117 = true then (some (0, strOfNums t114, 0, wrap64 (((pb n).length : Int) + (wrap64 (n : Int))), true)) else (some (0, (⟨#[]⟩ : ByteArray), 0, 0, false))))) else (none)) else (none)) else (none))) else (if k = 5 then ((value_Fits.f a k c 0 (⟨#[]⟩ : ByteArray) (wrap64 ((wrap64 (mn (n : Int) 1073741826)) - 1))).bind fun t118 => (if t118 = true then (some (0, (⟨#[]⟩ : ByteArray), wrap64 ((wrap64 (mn (n : Int) 1073741826)) - 1), ((pb n).length : Int), true)) else (some (0, (⟨#[]⟩ : ByteArray), 0, 0, false)))) else ((vari_Zag.f (n : Int)).bind fun t119 => ((value_Fits.f a k c t119 (⟨#[]⟩ : ByteArray) 0).bind fun t120 => (if t120 = true then (some (t119, (⟨#[]⟩ : ByteArray), 0, ((pb n).length : Int), true)) else (some (0, (⟨#[]⟩ : ByteArray), 0, 0, false))))))) := by
    unfold value_Get.f
    rw [get_eq l K hb (by omega) (by omega), h3]
    simp only [obind]
    rw [if_neg p1]
  rw [unf]
  by_cases h4 : k = 4
  · subst h4
    have e1 : wrap64 ((l.length : Int) - ((pb n).length : Int)) = ((t.length : Nat) : Int) := by rw [hL]; unfold wrap64; omega
    rw [if_pos rfl, e1, u64_nat _ (by omega)]
    by_cases c1 : (n : Int) > ((t.length : Nat) : Int)
    · rw [if_pos c1]; exact .inl rfl
    rw [if_neg c1]
    have e3 : wrap64 (((pb n).length : Int) + wrap64 (n : Int)) = (((pb n).length + n : Nat) : Int) := by
      rw [wrap_nat _ (by omega)]; unfold wrap64; omega
    have e4 : (l.take ((pb n).length + n)).drop (pb n).length = t.take n := by
      rw [h2, List.take_append, List.take_of_length_le (by omega), List.drop_left, Nat.add_sub_cancel_left]
    rw [e3, Int.toNat_natCast, Int.toNat_natCast, e4]
    have p3 : (0 : Int) ≤ ((pb n).length : Int) := by omega
    have p4 : ((pb n).length : Int) ≤ (((pb n).length + n : Nat) : Int) := by omega
    have p5 : (((pb n).length + n : Nat) : Int) ≤ (l.length : Int) := by rw [hL]; omega
    have hsl : (t.take n).length = n := by rw [List.length_take]; omega
    have hsz : (strOfNums (t.take n)).size = n := by rw [str_size, hsl]
    rw [if_pos p3, if_pos p4, if_pos p5]
    unfold slices_Clone_byte_byte.f
    rw [if_pos (by omega), obind, fits_eq, obind]
    cases hf : fitsV 4 0 (strOfNums (t.take n)) 0 with
    | false => rw [if_neg (by decide)]; exact .inl rfl
    | true =>
      rw [if_pos rfl]
      have hV : V 4 0 (strOfNums (t.take n)) 0 = pb n ++ t.take n := by unfold V; rw [if_pos rfl, hsz, bytes_strOf (htb.take n)]
      refine .inr ⟨0, _, 0, t.drop n, hf, by omega, ?_, ?_⟩
      · rw [hV, List.append_assoc, List.take_append_drop]; exact h2
      · rw [hV, List.length_append, hsl]
  · rw [if_neg h4]
    by_cases h5 : k = 5
    · subst h5
      rw [if_pos rfl, fits_eq, obind]
      cases hf : fitsV 5 0 (⟨#[]⟩ : ByteArray) (wrap64 (wrap64 (mn (n : Int) 1073741826) - 1)) with
      | false => rw [if_neg (by decide)]; exact .inl rfl
      | true =>
        rw [if_pos rfl]
        obtain ⟨hs, _, _⟩ := val_of_ref hf
        rw [ref_min] at hs hf ⊢
        by_cases c2 : (n : Int) ≤ 1073741826
        · rw [if_pos c2] at hs hf ⊢
          rw [ref_sum n c2] at hs hf ⊢
          have hV : V 5 0 (⟨#[]⟩ : ByteArray) ((n : Int) - 1) = pb n := by
            unfold V; rw [if_neg (by decide), if_pos rfl]; congr 1; omega
          exact .inr ⟨0, _, _, t, hf, by omega, by rw [hV]; exact h2, by rw [hV]⟩
        · rw [if_neg c2] at hs
          have e1 : wrap64 (wrap64 (1073741826 : Int) - 1) = 1073741825 := ref_sum 1073741826 (by decide)
          rw [e1] at hs
          omega
    · rw [if_neg h5, zag_eq (n : Int) (by omega) (by omega), obind, fits_eq, obind]
      cases hf : fitsV k (Zb (n : Int)) (⟨#[]⟩ : ByteArray) 0 with
      | false => rw [if_neg (by decide)]; exact .inl rfl
      | true =>
        rw [if_pos rfl]
        have hV : V k (Zb (n : Int)) (⟨#[]⟩ : ByteArray) 0 = pb n := by
          unfold V; rw [if_neg h4, if_neg h5, Z_Zb _ (by omega)]; rfl
        have hr := Zb_range (n : Int) (by omega) (by omega)
        exact .inr ⟨_, _, _, t, hf, hr, by rw [hV]; exact h2, by rw [hV]⟩
end Go.Proofs.Ytepgcejgjfeolaa.TlVal
