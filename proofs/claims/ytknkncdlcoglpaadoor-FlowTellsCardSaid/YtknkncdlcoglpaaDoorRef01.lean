import Derived.Test.YtknkncdlcoglpaaDoorRefStr
import Derived.Test.YtknkncdlcoglpaaDoorPAllx10
import Derived.Test.YtknkncdlcoglpaaDoorPAllx7
namespace Go.Proofs.YtknkncdlcoglpaaDoor.Vari
open Go.RowKit Go.Proofs.YtknkncdlcoglpaaDoor.PAll Go.Proofs.YtknkncdlcoglpaaDoorW.PrintWords Go.Proofs.YtknkncdlcoglpaaDoorW.PrintLast Go.Proofs.YtknkncdlcoglpaaDoorW.PrintMore
theorem rput_loop : ∀ (m n k : Nat) (acc : List Int), n < 2 ^ (7 * (m + 1)) → n < 2 ^ 64 → m + 1 ≤ k → acc.length + m < 140737488355328 → foliateref01_Put.l0 k (n : Int) acc = some (acc ++ P m n)
  | m, n, 0, _, _, _, h, _ => by omega
  | m, n, k + 1, acc, hn, h64, hk, hl => by
    rw [foliateref01_Put.l0]
    by_cases hs : n < 128
    · rw [if_neg (by omega), if_pos (by omega), P_small _ _ hs]
      have : (n : Int) % 256 = n := by omega
      rw [this]
    · rw [if_pos (by omega), if_pos (by omega)]
      cases m with
      | zero => exact absurd hn (by simpa using hs)
      | succ m =>
        have hd : n / 128 < 2 ^ (7 * (m + 1)) := by
          have e : 7 * (m + 1 + 1) = 7 * (m + 1) + 7 := by omega
          rw [e, Nat.pow_add] at hn
          exact Nat.div_lt_of_lt_mul (by rw [Nat.mul_comm]; exact hn)
        have e1 : IntKind.u64.wrap (Int.tdiv (n : Int) 128) = ((n / 128 : Nat) : Int) := by
          rw [Int.tdiv_eq_ediv_of_nonneg (by omega), wrap_u64]; omega
        have e2 : (IntKind.u64.wrap ((Int.tmod (n : Int) 128) + 128)) % 256 = ((n % 128 + 128 : Nat) : Int) := by
          rw [Int.tmod_eq_emod_of_nonneg (by omega), wrap_u64]; omega
        rw [e1, e2, rput_loop m (n / 128) k _ hd (by omega) (by omega) (by simp; omega), P_big _ _ hs]
        simp
theorem rput_eq (n k : Nat) (h : n < 2 ^ 64) (hk : 10 ≤ k) : foliateref01_Put.f k (n : Int) = some (pb n) := by
  unfold foliateref01_Put.f
  rw [rput_loop 9 n k [] (pow70 h) h hk (by simp)]
  simp
/-- what the document's Get may answer: nothing, or the number whose bytes the row begins by -/
def Ok (l : List Int) (r : Int × Int) : Prop := r = (0, 0) ∨ ∃ (n j : Nat), n < 2 ^ 64 ∧ l.take j = pb n ∧ r = ((n : Int), (j : Int)) ∧ j ≤ l.length
theorem wrap_lt (x : Int) : ∃ n : Nat, IntKind.u64.wrap x = n ∧ n < 2 ^ 64 := ⟨(IntKind.u64.wrap x).toNat, by rw [wrap_u64]; omega, by rw [wrap_u64]; omega⟩
theorem rget_ok : ∀ (d i k : Nat) (l : List Int) (acc by_ : Int), Bytes l → l.length < 1000 → i + d = l.length → 2 * d + 20 ≤ k → ∃ r, foliateref01_Get.l0 k l acc by_ (i : Int) = some r ∧ Ok l r
  | 0, i, k, l, acc, by_, hb, hl, hi, hk => by
    obtain ⟨k, rfl⟩ : ∃ k', k = k' + 2 := ⟨k - 2, by omega⟩
    refine ⟨(0, 0), ?_, .inl rfl⟩
    rw [foliateref01_Get.l0, if_neg (by omega), foliateref01_Get.j1, if_neg (by simp)]
  | d + 1, i, k, l, acc, by_, hb, hl, hi, hk => by
    obtain ⟨k, rfl⟩ : ∃ k', k = k' + 2 := ⟨k - 2, by omega⟩
    rw [foliateref01_Get.l0, if_pos (by omega), foliateref01_Get.j1]
    by_cases h10 : (i : Int) < 10
    · have hw : wrap64 ((i : Int) + 1) = ((i + 1 : Nat) : Int) := by unfold wrap64; omega
      rw [decide_eq_true h10, if_pos rfl, if_pos (by omega), if_pos (by omega)]
      obtain ⟨n, hn, hn64⟩ := wrap_lt (acc + (IntKind.u64.wrap ((IntKind.u64.wrap (Int.tmod (rd l (i : Int)) 128)) * by_)))
      rw [hn, hw]
      by_cases h : rd l (i : Int) < 128
      · rw [if_pos h, rput_eq n k hn64 (by omega)]
        simp only [obind]
        rw [if_pos (by omega), if_pos (by omega)]
        have ht : ((i + 1 : Nat) : Int).toNat = i + 1 := by omega
        rw [ht]
        by_cases he : (strOfNums (pb n)).toList = (strOfNums (l.take (i + 1))).toList
        · rw [if_pos he]
          exact ⟨_, rfl, .inr ⟨n, i + 1, hn64, (str_inj0 (pb_bytes hn64) (hb.take _) he).symm, rfl, by omega⟩⟩
        · rw [if_neg he]
          exact ⟨_, rfl, .inl rfl⟩
      · rw [if_neg h]
        exact rget_ok d (i + 1) k l _ _ hb hl (by omega) (by omega)
    · rw [decide_eq_false h10, if_neg (by simp)]
      exact ⟨_, rfl, .inl rfl⟩
theorem by_step (i : Nat) (h : i ≤ 8) : IntKind.u64.wrap (((2 ^ (7 * i) : Nat) : Int) * 128) = ((2 ^ (7 * (i + 1)) : Nat) : Int) := by
  have h1 : 2 ^ (7 * (i + 1)) < 2 ^ 64 := Nat.pow_lt_pow_right (by decide) (by omega)
  rw [pow_step] at h1 ⊢
  rw [wrap_u64]
  omega
theorem acc_step (acc d z : Nat) (h : acc + d * z < 18446744073709551616) : IntKind.u64.wrap ((acc : Int) + IntKind.u64.wrap ((d : Int) * (z : Int))) = ((acc + d * z : Nat) : Int) := by
  rw [← Int.natCast_mul]
  generalize d * z = y at h ⊢
  rw [wrap_u64, wrap_u64]
  omega
theorem acc_bound {acc n z : Nat} (h : acc + n * z < 2 ^ 64) : acc + (n % 128) * z < 18446744073709551616 :=
  Nat.lt_of_le_of_lt (Nat.add_le_add_left (Nat.mul_le_mul_right _ (Nat.mod_le n 128)) acc) h
theorem dig_wrap (n : Nat) : IntKind.u64.wrap (Int.tmod ((n % 128 + 128 : Nat) : Int) 128) = ((n % 128 : Nat) : Int) := by
  rw [Int.tmod_eq_emod_of_nonneg (by omega), wrap_u64]; omega
theorem dig_wrap0 (n : Nat) (h : n < 128) : IntKind.u64.wrap (Int.tmod (n : Int) 128) = (n : Int) := by
  rw [Int.tmod_eq_emod_of_nonneg (by omega), wrap_u64]; omega
theorem rget_last (n i acc k : Nat) (l rest : List Int) (hb : Bytes l) (hl : l.length < 1000) (hd : l.drop i = [(n : Int)] ++ rest) (hlen : i + [(n : Int)].length + rest.length = l.length) (h128 : n < 128) (hi : i ≤ 9) (hq : acc + n * 2 ^ (7 * i) < 2 ^ 64) (ht : l.take (i + [(n : Int)].length) = pb (acc + n * 2 ^ (7 * i))) (hk : 20 ≤ k) :
    foliateref01_Get.l0 k l (acc : Int) ((2 ^ (7 * i) : Nat) : Int) (i : Int) = some (((acc + n * 2 ^ (7 * i) : Nat) : Int), ((i + [(n : Int)].length : Nat) : Int)) := by
  simp only [List.length_cons, List.length_nil, Nat.zero_add] at hlen ht ⊢
  obtain ⟨k, rfl⟩ : ∃ k', k = k' + 2 := ⟨k - 2, by omega⟩
  have hw : wrap64 ((i : Int) + 1) = ((i + 1 : Nat) : Int) := by unfold wrap64; omega
  have hr : rd l (i : Int) = (n : Int) := rd_drop hd
  have hstep : IntKind.u64.wrap ((acc : Int) + IntKind.u64.wrap (IntKind.u64.wrap (Int.tmod (rd l (i : Int)) 128) * ((2 ^ (7 * i) : Nat) : Int))) = ((acc + n * 2 ^ (7 * i) : Nat) : Int) := by
    rw [hr, dig_wrap0 n h128, acc_step acc n (2 ^ (7 * i)) hq]
  have HS := Aside0.mk hstep
  clear hstep
  rw [foliateref01_Get.l0, if_pos (by omega), foliateref01_Get.j1, decide_eq_true (by omega), if_pos rfl, if_pos (by omega), if_pos (by omega), HS.out, hw, if_pos (by rw [hr]; omega), rput_eq _ k hq (by omega)]
  simp only [obind]
  rw [if_pos (by omega), if_pos (by omega), show ((i + 1 : Nat) : Int).toNat = i + 1 by omega, ht, if_pos rfl]
/-- on a number's bytes it comes to the number -/
theorem rget_put : ∀ (m n i acc k : Nat) (l rest : List Int), Bytes l → l.length < 1000 → l.drop i = P m n ++ rest → i + (P m n).length + rest.length = l.length → n < 2 ^ (7 * (m + 1)) → m + i ≤ 9 → acc + n * 2 ^ (7 * i) < 2 ^ 64 → l.take (i + (P m n).length) = pb (acc + n * 2 ^ (7 * i)) → 2 * m + 20 ≤ k → foliateref01_Get.l0 k l (acc : Int) ((2 ^ (7 * i) : Nat) : Int) (i : Int) = some (((acc + n * 2 ^ (7 * i) : Nat) : Int), ((i + (P m n).length : Nat) : Int)) := by
  intro m
  induction m with
  | zero =>
    intro n i acc k l rest hb hl hd hlen hn hm hq ht hk
    have h128 : n < 128 := hn
    rw [P_small _ _ h128] at hd hlen ht ⊢
    exact rget_last n i acc k l rest hb hl hd hlen h128 (by omega) hq ht (by omega)
  | succ m ih =>
    intro n i acc k l rest hb hl hd hlen hn hm hq ht hk
    by_cases h128 : n < 128
    · rw [P_small _ _ h128] at hd hlen ht ⊢
      exact rget_last n i acc k l rest hb hl hd hlen h128 (by omega) hq ht (by omega)
    · rw [P_big _ _ h128] at hd hlen ht ⊢
      simp only [List.length_cons] at hlen ht ⊢
      have hi8 : i ≤ 8 := by clear ht hq hn; omega
      have h10 : decide ((i : Int) < 10) = true := decide_eq_true (by clear ht hq hn hlen; omega)
      have hlt : (i : Int) < (l.length : Int) := by clear ht hq hn; omega
      have h0i : 0 ≤ (i : Int) := by clear ht hq hn; omega
      have hge : ¬ ((n % 128 + 128 : Nat) : Int) < 128 := by clear ht hq hn hlen; omega
      have a1 : i + 1 + (P m (n / 128)).length + rest.length = l.length := by clear ht hq hn; omega
      have a2 : m + (i + 1) ≤ 9 := by clear ht hq hn hlen; omega
      have a4 : i + 1 + (P m (n / 128)).length = i + ((P m (n / 128)).length + 1) := by clear ht hq hn hlen; omega
      have hk2 : 2 * m + 20 ≤ k - 2 := by clear ht hq hn hlen; omega
      obtain ⟨k, rfl⟩ : ∃ k', k = k' + 2 := ⟨k - 2, by clear ht hq hn hlen; omega⟩
      rw [Nat.add_sub_cancel] at hk2
      have hsum : (n % 128) * 2 ^ (7 * i) + (n / 128) * 2 ^ (7 * (i + 1)) = n * 2 ^ (7 * i) := by
        rw [pow_step]
        have h1 := congrArg (fun z => z * 2 ^ (7 * i)) (Nat.div_add_mod n 128)
        simp only [Nat.add_mul] at h1
        have h2 : (n / 128) * (2 ^ (7 * i) * 128) = 128 * (n / 128) * 2 ^ (7 * i) := by
          rw [Nat.mul_comm (2 ^ (7 * i)) 128, ← Nat.mul_assoc, Nat.mul_comm (n / 128) 128]
        rw [h2]; omega
      have hdd : n / 128 < 2 ^ (7 * (m + 1)) := by
        have e : 7 * (m + 1 + 1) = 7 * (m + 1) + 7 := by omega
        rw [e, Nat.pow_add] at hn
        exact Nat.div_lt_of_lt_mul (by rw [Nat.mul_comm]; exact hn)
      have hw : wrap64 ((i : Int) + 1) = ((i + 1 : Nat) : Int) := by unfold wrap64; omega
      have hr : rd l (i : Int) = ((n % 128 + 128 : Nat) : Int) := rd_drop hd
      have hstep : IntKind.u64.wrap ((acc : Int) + IntKind.u64.wrap (IntKind.u64.wrap (Int.tmod (rd l (i : Int)) 128) * ((2 ^ (7 * i) : Nat) : Int))) = ((acc + (n % 128) * 2 ^ (7 * i) : Nat) : Int) := by
        rw [hr, dig_wrap, acc_step acc (n % 128) (2 ^ (7 * i)) (acc_bound hq)]
      have HY := Aside0.mk (by_step i hi8)
      have HS := Aside0.mk hstep
      clear hstep
      have hd' : l.drop (i + 1) = P m (n / 128) ++ rest := by rw [← List.drop_drop, hd]; rfl
      have a3 : acc + (n % 128) * 2 ^ (7 * i) + (n / 128) * 2 ^ (7 * (i + 1)) = acc + n * 2 ^ (7 * i) := by rw [Nat.add_assoc, hsum]
      rw [foliateref01_Get.l0, if_pos hlt, foliateref01_Get.j1, h10, if_pos rfl, if_pos h0i, if_pos hlt, HS.out, HY.out, hw, if_neg (by rw [hr]; exact hge)]
      have := ih (n / 128) (i + 1) (acc + (n % 128) * 2 ^ (7 * i)) k l rest hb hl hd' a1 hdd a2 (by rw [a3]; exact hq) (by rw [a4, ht, a3]) hk2
      rw [this, a3, a4]
theorem rget_eq (l : List Int) (k : Nat) (hb : Bytes l) (hl : l.length < 1000) (hk : 2 * l.length + 40 ≤ k) : foliateref01_Get.f k l = some (g 0 0 l) := by
  unfold foliateref01_Get.f
  rcases g_cases l 0 0 with h0 | h0
  · obtain ⟨r, hr, hok⟩ := rget_ok l.length 0 k l 0 1 hb hl (by omega) (by omega)
    rw [h0]
    refine hr.trans ?_
    rcases hok with rfl | ⟨n, j, hn, ht, rfl, hj⟩
    · rfl
    · have e : l = pb n ++ l.drop j := by rw [← ht, List.take_append_drop]
      have h1 := g_pb n (l.drop j) hn
      rw [← e, h0] at h1
      have hp := pb_len n
      simp only [Prod.mk.injEq] at h1
      omega
  · obtain ⟨n, rest, hn, h2, h3⟩ := g_read l hb h0
    have hp := pb_len n
    have := rget_put 9 n 0 0 k l rest hb hl (by simpa using h2) (by rw [h2]; simp) (pow70 hn) (by omega) (by simpa using hn) (by rw [h2]; simp) (by omega)
    rw [h3]
    simpa using this
end Go.Proofs.YtknkncdlcoglpaaDoor.Vari
