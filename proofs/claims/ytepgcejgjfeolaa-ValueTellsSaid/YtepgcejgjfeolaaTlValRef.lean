import Derived.Test.YtepgcejgjfeolaaTlValGet
import Derived.Test.YtepgcejgjfeolaaTlVariRefGet
import Derived.Test.YtepgcejgjfeolaaPTlx9
import Derived.Test.YtepgcejgjfeolaaPTlx12
import Derived.Test.YtepgcejgjfeolaaPTlx7
import Derived.Test.YtepgcejgjfeolaaPTlx13
import Derived.Test.YtepgcejgjfeolaaPTlx6
namespace Go.Proofs.Ytepgcejgjfeolaa.TlVal
open Go.RowKit Go.Proofs.Ytepgcejgjfeolaa.PTl Go.Proofs.YtepgcejgjfeolaaW.PrintWords Go.Proofs.YtepgcejgjfeolaaW.PrintLast Go.Proofs.YtepgcejgjfeolaaW.PrintMore Go.Proofs.Ytepgcejgjfeolaa.TlVari
/-! The document's values, as they are printed, are the same. -/
theorem range_dec (N a b : Int) : (if N ≥ a then some (decide (N ≤ b)) else some false) = some (decide (a ≤ N ∧ N ≤ b)) := by
  by_cases h : N ≥ a
  · rw [if_pos h]; congr 1
    rw [Bool.eq_iff_iff, decide_eq_true_iff, decide_eq_true_iff]
    exact ⟨fun h2 => ⟨h, h2⟩, fun h2 => h2.2⟩
  · rw [if_neg h, decide_eq_false (fun h2 => h h2.1)]
theorem rfits_num (K : Nat) (hK : 1 ≤ K) (a c : ByteArray) (k N : Int) (S : ByteArray) (R : Int) (hk : 0 ≤ k ∧ k ≤ 3) (hN : -9223372036854775808 ≤ N ∧ N ≤ 9223372036854775807) : foliateref07_Fits.f K a k c N S R = some (fitsV k N S R) := by
  obtain ⟨K, rfl⟩ : ∃ q, K = q + 1 := ⟨K - 1, by omega⟩
  unfold foliateref07_Fits.f
  rw [fits_num hk]
  have key : ∀ x : Bool, foliateref07_Fits.j0 (K + 1) x a k c N S R = some (if x = true then inBits (bitsOf k) N else false) := by
    intro x
    have hk4 : k = 0 ∨ k = 1 ∨ k = 2 ∨ k = 3 := by omega
    rcases hk4 with rfl | rfl | rfl | rfl
    · simp only [foliateref07_Fits.j0]
      rw [if_pos trivial, range_dec]
      have e : inBits (bitsOf 0) N = decide (-128 ≤ N ∧ N ≤ 127) := by
        rw [bits_eq]
        rw [Bool.eq_iff_iff, decide_eq_true_iff, decide_eq_true_iff, show bitsOf 0 = 7 from rfl]
        constructor <;> intro h <;> omega
      rw [e]; cases x <;> rfl
    · simp only [foliateref07_Fits.j0]
      rw [if_neg (by decide), if_pos trivial, range_dec]
      have e : inBits (bitsOf 1) N = decide (-32768 ≤ N ∧ N ≤ 32767) := by
        rw [bits_eq]
        rw [Bool.eq_iff_iff, decide_eq_true_iff, decide_eq_true_iff, show bitsOf 1 = 15 from rfl]
        constructor <;> intro h <;> omega
      rw [e]; cases x <;> rfl
    · simp only [foliateref07_Fits.j0]
      rw [if_neg (by decide), if_neg (by decide), if_pos trivial, range_dec]
      have e : inBits (bitsOf 2) N = decide (-2147483648 ≤ N ∧ N ≤ 2147483647) := by
        rw [bits_eq]
        rw [Bool.eq_iff_iff, decide_eq_true_iff, decide_eq_true_iff, show bitsOf 2 = 31 from rfl]
        constructor <;> intro h <;> omega
      rw [e]; cases x <;> rfl
    · simp only [foliateref07_Fits.j0]
      rw [if_neg (by decide), if_neg (by decide), if_neg (by decide), if_pos trivial]
      have e : inBits (bitsOf 3) N = true := by
        rw [bits_eq]
        rw [decide_eq_true_iff, show bitsOf 3 = 63 from rfl]
        omega
      rw [e]; cases x <;> rfl
  by_cases hS : S.toList = []
  · rw [if_pos hS, key]
    by_cases hR : R = 0
    · subst hR; simp [hS]
    · have e : (R == 0) = false := beq_eq_false_iff_ne.mpr hR
      rw [e]; simp [hR]
  · rw [if_neg hS, key]; simp [hS]
theorem rfits_eq (K : Nat) (hK : 1 ≤ K) (a c : ByteArray) (k N : Int) (S : ByteArray) (R : Int) (hN : -9223372036854775808 ≤ N ∧ N ≤ 9223372036854775807) : foliateref07_Fits.f K a k c N S R = some (fitsV k N S R) := by
  by_cases h3 : 0 ≤ k ∧ k ≤ 3
  · exact rfits_num K hK a c k N S R h3 hN
  obtain ⟨K, rfl⟩ : ∃ q, K = q + 1 := ⟨K - 1, by omega⟩
  have n0 : ¬ k = 0 := by omega
  have n1 : ¬ k = 1 := by omega
  have n2 : ¬ k = 2 := by omega
  have n3 : ¬ k = 3 := by omega
  have key : ∀ x : Bool, foliateref07_Fits.j0 (K + 1) x a k c N S R = some (fitsV k N S R) := by
    intro x
    simp only [foliateref07_Fits.j0]
    rw [if_neg n0, if_neg n1, if_neg n2, if_neg n3]
    by_cases h4 : k = 4
    · subst h4
      rw [if_pos rfl, fits_text]
      by_cases hs : (S.size : Int) ≤ 12
      · rw [if_pos hs, decide_eq_true hs]
        by_cases hn : N = 0
        · rw [if_pos hn]
          by_cases hr : R = 0
          · rw [if_pos ⟨hn, hr⟩, hr]; rfl
          · rw [if_neg (fun h => hr h.2)]
            have : (R == 0) = false := beq_eq_false_iff_ne.mpr hr
            rw [this]
        · rw [if_neg hn, if_neg (fun h => hn h.1)]
      · rw [if_neg hs, decide_eq_false hs]
        split <;> rfl
    · rw [if_neg h4]
      by_cases h5 : k = 5
      · subst h5
        rw [if_pos rfl, fitsv_ref]
        by_cases hr0 : R ≥ -1
        · rw [if_pos hr0, decide_eq_true (show -1 ≤ R from hr0)]
          by_cases hr1 : R ≤ 1073741824
          · rw [if_pos hr1, decide_eq_true hr1]
            by_cases hn : N = 0
            · rw [if_pos hn]
              by_cases hS : S.toList = []
              · rw [if_pos ⟨hn, hS⟩, hS]; rfl
              · rw [if_neg (fun h => hS h.2)]
                have : (S.toList == ([] : List UInt8)) = false := beq_eq_false_iff_ne.mpr hS
                rw [this]
            · rw [if_neg hn, if_neg (fun h => hn h.1)]
          · rw [if_neg hr1, decide_eq_false hr1]
            split <;> rfl
        · rw [if_neg hr0, decide_eq_false (show ¬ -1 ≤ R from hr0)]
          split <;> rfl
      · rw [if_neg h5, fits_out (by omega)]
  unfold foliateref07_Fits.f
  split <;> exact key _
theorem nat_next (i : Nat) (h : i < 1000) : wrap64 ((i : Int) + 1) = ((i + 1 : Nat) : Int) := by unfold wrap64; omega
theorem ref_wrap (R : Int) (h0 : -1 ≤ R) (h1 : R ≤ 1073741824) : IntKind.u64.wrap (wrap64 (R + 1)) = ((R + 1).toNat : Int) := by
  rw [show wrap64 (R + 1) = R + 1 by unfold wrap64; omega, wrap_u64]; omega
theorem rput_str (a : Int) (S : ByteArray) (R : Int) (hs : S.size ≤ 12) (d : Nat) : ∀ (k i : Nat) (acc : List Int), i + d = S.size → d < k → acc.length ≤ 100 + i → foliateref07_Put.l0 k acc (i : Int) a S R = some (acc ++ (bytesOf S).drop i, true) := by
  have hbl := bytesOf_length S
  induction d with
  | zero =>
    intro k i acc hi hk ha
    obtain ⟨k, rfl⟩ : ∃ q, k = q + 1 := ⟨k - 1, by omega⟩
    have t0 : ¬ (i : Int) < (S.size : Int) := by omega
    rw [foliateref07_Put.l0.eq_2, if_neg t0, List.drop_of_length_le (by omega), List.append_nil]
  | succ d ih =>
    intro k i acc hi hk ha
    obtain ⟨k, rfl⟩ : ∃ q, k = q + 1 := ⟨k - 1, by omega⟩
    have t0 : (i : Int) < (S.size : Int) := by omega
    have t1 : (0 : Int) ≤ (i : Int) := by omega
    have t2 : acc.length < 140737488355328 := by omega
    have il : i < (bytesOf S).length := by omega
    have r := ih k (i + 1) (acc ++ [bt S (i : Int)]) (by omega) (by omega) (by rw [List.length_append, List.length_singleton]; omega)
    have e1 : bt S (i : Int) = (bytesOf S)[i] := by
      rw [← rd_bytesOf]; unfold rd; rw [Int.toNat_natCast, List.getD_eq_getElem?_getD, List.getElem?_eq_getElem il]; rfl
    rw [foliateref07_Put.l0.eq_2, if_pos t0, if_pos t1, if_pos t2, nat_next i (by omega), r, e1, List.drop_eq_getElem_cons il, List.append_assoc]
    rfl
theorem rval_put (a c : ByteArray) (K : Nat) (hK : 3000 ≤ K) (k N : Int) (S : ByteArray) (R : Int) (hN : -9223372036854775808 ≤ N ∧ N ≤ 9223372036854775807) :
    foliateref07_Put.f K a k c N S R = value_Put.f K a k c N S R := by
  unfold foliateref07_Put.f
  rw [rfits_eq K (by omega) a c k N S R hN, obind]
  cases hf : fitsV k N S R with
  | false => rw [put_no a c K hf]; rfl
  | true =>
    rw [put_yes a c K (by omega) hN hf, if_pos rfl]
    unfold V
    by_cases h4 : k = 4
    · subst h4
      obtain ⟨hs, rfl, rfl⟩ := val_of_text hf
      have hp := pb_len S.size
      have r := rput_str 0 S 0 hs S.size K 0 (pb S.size) (by omega) (by omega) (by omega)
      rw [show ((0 : Nat) : Int) = 0 from rfl, List.drop_zero] at r
      rw [if_pos rfl, if_pos rfl, u64_nat _ (by omega), rput_eq S.size K (Nat.lt_of_le_of_lt hs (by decide)) (by omega), obind, r]
    · rw [if_neg h4, if_neg h4]
      by_cases h5 : k = 5
      · subst h5
        obtain ⟨hs, rfl, hS⟩ := val_of_ref hf
        have e : IntKind.u64.wrap (wrap64 (R + 1)) = ((R + 1).toNat : Int) := ref_wrap R hs.1 hs.2
        rw [if_pos rfl, if_pos rfl, e, rput_eq (R + 1).toNat K (by omega) (by omega), obind]
      · have hz := Z_range N hN.1 hN.2
        have e : Z N = ((Z N).toNat : Int) := by omega
        rw [if_neg h5, if_neg h5, rzig_eq N hN.1 hN.2, obind, e, rput_eq (Z N).toNat K (by omega) (by omega), obind, ← e]
/-- what is read, plainly -/
def getV (k : Int) (l : List Int) : Int × ByteArray × Int × Int × Bool :=
  if (g 0 0 l).2 = 0 then (0, (⟨#[]⟩ : ByteArray), 0, 0, false)
  else if k = 4 then (if (g 0 0 l).1 ≤ 12 ∧ (g 0 0 l).2 + (g 0 0 l).1 ≤ (l.length : Int) then (0, strOfNums ((l.drop (g 0 0 l).2.toNat).take (g 0 0 l).1.toNat), 0, (g 0 0 l).2 + (g 0 0 l).1, true) else (0, (⟨#[]⟩ : ByteArray), 0, 0, false))
  else if k = 5 then (if (g 0 0 l).1 ≤ 1073741825 then (0, (⟨#[]⟩ : ByteArray), (g 0 0 l).1 - 1, (g 0 0 l).2, true) else (0, (⟨#[]⟩ : ByteArray), 0, 0, false))
  else if fitsV k (Zb (g 0 0 l).1) (⟨#[]⟩ : ByteArray) 0 = true then (Zb (g 0 0 l).1, (⟨#[]⟩ : ByteArray), 0, (g 0 0 l).2, true) else (0, (⟨#[]⟩ : ByteArray), 0, 0, false)
theorem sum_nm (n m : Nat) (h : m + n ≤ 1000) : wrap64 ((m : Int) + wrap64 (n : Int)) = ((m + n : Nat) : Int) := by
  rw [wrap_nat _ (by omega)]; unfold wrap64; omega
theorem dif_nm (n m : Nat) (h : m + n ≤ 1000) : wrap64 (((m + n : Nat) : Int) - wrap64 (n : Int)) = (m : Int) := by
  rw [wrap_nat _ (by omega)]; unfold wrap64; omega
theorem dif_len (n m : Nat) (h : m ≤ n) (h2 : n < 1000) : IntKind.u64.wrap (wrap64 ((n : Int) - (m : Int))) = ((n - m : Nat) : Int) := by
  rw [show wrap64 ((n : Int) - (m : Int)) = ((n - m : Nat) : Int) by unfold wrap64; omega, u64_nat _ (by omega)]
theorem fits_small {l : List Int} (h : l.length ≤ 12) : fitsV 4 0 (strOfNums l) 0 = true := by
  rw [fits_text, if_pos ⟨rfl, rfl⟩, str_size]; exact decide_eq_true (by omega)
theorem fits_long {l : List Int} (h : ¬ l.length ≤ 12) : fitsV 4 0 (strOfNums l) 0 = false := by
  rw [fits_text, if_pos ⟨rfl, rfl⟩, str_size]; exact decide_eq_false (by omega)
theorem fits_refs {R : Int} : fitsV 5 0 (⟨#[]⟩ : ByteArray) R = (decide (-1 ≤ R) && decide (R ≤ 1073741824)) := by
  rw [fitsv_ref, if_pos ⟨rfl, none_bytes⟩]
theorem val_get_eq {k : Int} (a c : ByteArray) (K : Nat) (hK : 3000 ≤ K) (l : List Int) (hb : Bytes l) (hl : l.length < 900) : value_Get.f K a k c l = some (getV k l) := by
  unfold value_Get.f getV
  rw [get_eq l K hb (by omega) (by omega), obind]
  rcases g_cases l 0 0 with h0 | h0
  · rw [h0, if_pos rfl, if_pos rfl]
  obtain ⟨n, t, h1, h2, h3⟩ := g_read l hb h0
  have hp := pb_len n
  have hL : l.length = (pb n).length + t.length := by rw [h2, List.length_append]
  rw [h3]
  generalize (pb n).length = m at hp hL ⊢
  dsimp only
  have p1 : ¬ (m : Int) = 0 := by omega
  rw [if_neg p1, if_neg p1]
  by_cases h4 : k = 4
  · subst h4
    rw [if_pos rfl, if_pos rfl, dif_len l.length m (by omega) (by omega)]
    by_cases c1 : (n : Int) > ((l.length - m : Nat) : Int)
    · have c2 : ¬ ((n : Int) ≤ 12 ∧ (m : Int) + (n : Int) ≤ (l.length : Int)) := by omega
      rw [if_pos c1, if_neg c2]
    have hn : m + n ≤ 1000 := by omega
    have p3 : (0 : Int) ≤ (m : Int) := by omega
    have p4 : (m : Int) ≤ ((m + n : Nat) : Int) := by omega
    have p5 : ((m + n : Nat) : Int) ≤ (l.length : Int) := by omega
    have e4 : (l.take (m + n)).drop m = (l.drop m).take n := by rw [List.drop_take, Nat.add_sub_cancel_left]
    have hsl : ((l.drop m).take n).length = n := by rw [List.length_take, List.length_drop]; omega
    have e5 : ((m + n : Nat) : Int) = (m : Int) + (n : Int) := by omega
    rw [if_neg c1, sum_nm n m hn, if_pos p3, if_pos p4, if_pos p5, Int.toNat_natCast, Int.toNat_natCast, e4]
    unfold slices_Clone_byte_byte.f
    rw [if_pos (by omega), obind, fits_eq, obind, Int.toNat_natCast]
    by_cases c3 : n ≤ 12
    · have c2 : (n : Int) ≤ 12 ∧ (m : Int) + (n : Int) ≤ (l.length : Int) := by omega
      rw [if_pos c2, fits_small (by omega), if_pos rfl, e5]
    · have c2 : ¬ ((n : Int) ≤ 12 ∧ (m : Int) + (n : Int) ≤ (l.length : Int)) := by omega
      rw [if_neg c2, fits_long (by omega), if_neg (by decide)]
  · rw [if_neg h4, if_neg h4]
    by_cases h5 : k = 5
    · subst h5
      rw [if_pos rfl, if_pos rfl, ref_min]
      by_cases c2 : (n : Int) ≤ 1073741826
      · rw [if_pos c2, ref_sum n c2, fits_eq, obind, fits_refs, decide_eq_true (show -1 ≤ (n : Int) - 1 by omega), Bool.true_and]
        by_cases c3 : (n : Int) ≤ 1073741825
        · rw [if_pos c3, decide_eq_true (show (n : Int) - 1 ≤ 1073741824 by omega), if_pos rfl]
        · rw [if_neg c3, decide_eq_false (show ¬ (n : Int) - 1 ≤ 1073741824 by omega), if_neg (by decide)]
      · have c3 : ¬ (n : Int) ≤ 1073741825 := by omega
        rw [if_neg c2, if_neg c3, show wrap64 (wrap64 (1073741826 : Int) - 1) = 1073741825 from ref_sum 1073741826 (by decide), fits_eq, obind, fits_refs]
        rfl
    · rw [if_neg h5, if_neg h5, zag_eq (n : Int) (by omega) (by omega), obind, fits_eq, obind]
      split <;> rfl
theorem rval_get_eq {k : Int} (a c : ByteArray) (K : Nat) (hK : 3000 ≤ K) (l : List Int) (hb : Bytes l) (hl : l.length < 900) : foliateref07_Get.f K a k c l = some (getV k l) := by
  unfold foliateref07_Get.f getV
  rw [rget_eq l K hb (by omega) (by omega), obind]
  rcases g_cases l 0 0 with h0 | h0
  · rw [h0, if_pos rfl, if_pos rfl]
  obtain ⟨n, t, h1, h2, h3⟩ := g_read l hb h0
  have hp := pb_len n
  have hL : l.length = (pb n).length + t.length := by rw [h2, List.length_append]
  rw [h3]
  generalize (pb n).length = m at hp hL ⊢
  dsimp only
  have p1 : ¬ (m : Int) = 0 := by omega
  have hz := Zb_range (n : Int) (by omega) (by omega)
  rw [if_neg p1, if_neg p1, rzag_eq (n : Int) (by omega) (by omega), obind]
  obtain ⟨K', hK'⟩ : ∃ q, K = q + 1 := ⟨K - 1, by omega⟩
  by_cases h4 : k = 4
  · subst h4
    rw [if_pos rfl, if_pos rfl]
    by_cases c0 : (n : Int) > 12
    · have c2 : ¬ ((n : Int) ≤ 12 ∧ (m : Int) + (n : Int) ≤ (l.length : Int)) := by omega
      rw [if_pos c0, if_neg c2]
    have hn : m + n ≤ 1000 := by omega
    rw [if_neg c0, sum_nm n m hn]
    by_cases c1 : ((m + n : Nat) : Int) > (l.length : Int)
    · have c2 : ¬ ((n : Int) ≤ 12 ∧ (m : Int) + (n : Int) ≤ (l.length : Int)) := by omega
      rw [if_pos c1, if_neg c2]
    have c2 : (n : Int) ≤ 12 ∧ (m : Int) + (n : Int) ≤ (l.length : Int) := by omega
    have p3 : (0 : Int) ≤ (m : Int) := by omega
    have p4 : (m : Int) ≤ ((m + n : Nat) : Int) := by omega
    have p5 : ((m + n : Nat) : Int) ≤ (l.length : Int) := by omega
    have e4 : (l.take (m + n)).drop m = (l.drop m).take n := by rw [List.drop_take, Nat.add_sub_cancel_left]
    have hsl : ((l.drop m).take n).length = n := by rw [List.length_take, List.length_drop]; omega
    have e5 : ((m + n : Nat) : Int) = (m : Int) + (n : Int) := by omega
    rw [if_neg c1, dif_nm n m hn, if_pos p3, if_pos p4, if_pos p5, Int.toNat_natCast, Int.toNat_natCast, e4, if_pos c2, Int.toNat_natCast]
    rw [hK']
    simp only [foliateref07_Get.j0]
    rw [if_neg (by decide), rfits_eq K' (by omega) a c 4 0 _ 0 (by omega), obind, fits_small (by omega), if_pos rfl, e5]
  · rw [if_neg h4, if_neg h4]
    by_cases h5 : k = 5
    · subst h5
      rw [if_pos rfl, hK']
      simp only [foliateref07_Get.j0]
      rw [if_pos trivial]
      by_cases c3 : (n : Int) ≤ 1073741825
      · have c4 : ¬ (n : Int) > 1073741825 := by omega
        rw [if_neg c4, if_pos c3, ref_sum n (by omega), rfits_eq K' (by omega) a c 5 0 _ _ (by omega), obind, fits_refs, decide_eq_true (show -1 ≤ (n : Int) - 1 by omega), decide_eq_true (show (n : Int) - 1 ≤ 1073741824 by omega)]
        rfl
      · have c4 : (n : Int) > 1073741825 := by omega
        rw [if_pos c4, if_neg c3]
    · rw [if_neg h5, hK']
      simp only [foliateref07_Get.j0]
      rw [if_neg h5, rfits_eq K' (by omega) a c k _ _ 0 hz, obind]
      split <;> rfl
end Go.Proofs.Ytepgcejgjfeolaa.TlVal
