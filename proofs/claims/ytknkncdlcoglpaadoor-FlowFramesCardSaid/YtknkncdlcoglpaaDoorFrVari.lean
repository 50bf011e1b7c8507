import Derived.Laws.BitsLemmas
import Derived.KernelRfl
import Derived.Test.YtknkncdlcoglpaaDoorPFrx4
import Derived.Test.YtknkncdlcoglpaaDoorPFrx1
namespace Go.Proofs.YtknkncdlcoglpaaDoor.FrVari
open Go.RowKit Go.Proofs.YtknkncdlcoglpaaDoor.PFr Go.Proofs.YtknkncdlcoglpaaDoorW.PrintWords Go.Proofs.YtknkncdlcoglpaaDoorW.PrintLast Go.Proofs.YtknkncdlcoglpaaDoorW.PrintMore
/-! Numbers as bytes: plain mathematics, and the printed functions told by it. -/
theorem obind {α β : Type} (a : α) (f : α → Option β) : (some a).bind f = f a := by
  cases h : (some a : Option α) with
  | none => cases h
  | some b => cases h; rfl
def Bytes (l : List Int) : Prop := ∀ x ∈ l, 0 ≤ x ∧ x ≤ 255
theorem bytes_of {l : List Int} (h : ∀ x ∈ l, (Lit.int .u8 x).wf = true) : Bytes l := fun x hx => by
  have := h x hx
  simpa [Lit.wf, IntKind.min, IntKind.max, IntKind.signed, IntKind.bits] using this
theorem Bytes.take {l : List Int} (h : Bytes l) (n : Nat) : Bytes (l.take n) := fun x hx => h x (List.mem_of_mem_take hx)
theorem Bytes.drop {l : List Int} (h : Bytes l) (n : Nat) : Bytes (l.drop n) := fun x hx => h x (List.mem_of_mem_drop hx)
theorem Bytes.append {l m : List Int} (h : Bytes l) (k : Bytes m) : Bytes (l ++ m) := fun x hx => by
  rcases List.mem_append.1 hx with h1 | h1
  · exact h x h1
  · exact k x h1
/-! ### the bytes of a number -/
def P : Nat → Nat → List Int
  | 0, n => [(n : Int)]
  | m + 1, n => if n < 128 then [(n : Int)] else ((n % 128 + 128 : Nat) : Int) :: P m (n / 128)
theorem P_small : ∀ (m n : Nat), n < 128 → P m n = [(n : Int)]
  | 0, _, _ => rfl
  | m + 1, n, h => by rw [P, if_pos h]
theorem P_big (m n : Nat) (h : ¬ n < 128) : P (m + 1) n = ((n % 128 + 128 : Nat) : Int) :: P m (n / 128) := by rw [P, if_neg h]
theorem P_len : ∀ (m n : Nat), 1 ≤ (P m n).length ∧ (P m n).length ≤ m + 1
  | 0, _ => by simp [P]
  | m + 1, n => by
    by_cases h : n < 128
    · rw [P_small _ _ h]; simp
    · rw [P_big _ _ h]
      have := P_len m (n / 128)
      simp only [List.length_cons]
      omega
theorem P_bytes : ∀ (m n : Nat), n < 2 ^ (7 * (m + 1)) → Bytes (P m n)
  | 0, n, h => fun x hx => by
    simp only [P, List.mem_singleton] at hx
    have h2 : n < 128 := h
    omega
  | m + 1, n, h => by
    by_cases hs : n < 128
    · rw [P_small _ _ hs]
      intro x hx
      simp only [List.mem_singleton] at hx
      omega
    · rw [P_big _ _ hs]
      have hd : n / 128 < 2 ^ (7 * (m + 1)) := by
        have e : 7 * (m + 1 + 1) = 7 * (m + 1) + 7 := by omega
        rw [e, Nat.pow_add] at h
        exact Nat.div_lt_of_lt_mul (by rw [Nat.mul_comm]; exact h)
      intro x hx
      rcases List.mem_cons.1 hx with rfl | hx
      · omega
      · exact P_bytes m _ hd x hx
abbrev pb (n : Nat) : List Int := P 9 n
theorem pb_len (n : Nat) : 1 ≤ (pb n).length ∧ (pb n).length ≤ 10 := P_len 9 n
theorem pow70 {n : Nat} (h : n < 2 ^ 64) : n < 2 ^ (7 * (9 + 1)) := Nat.lt_trans h (by decide)
theorem pb_bytes {n : Nat} (h : n < 2 ^ 64) : Bytes (pb n) := P_bytes 9 n (pow70 h)
theorem or128 (a : Nat) (h : a < 256) : Go.bits .or .u8 (a : Int) 128 = ((a % 128 + 128 : Nat) : Int) := by
  have e : ∀ a : Fin 256, a.val ||| 128 = a.val % 128 + 128 := by decide +kernel
  have := (bits_nat .u8 8 (by decide) wraps_u8 a 128 h (by decide)).2
  rw [show ((128 : Nat) : Int) = 128 from rfl] at this
  rw [this, e ⟨a, h⟩]
theorem put_loop : ∀ (m n k : Nat) (acc : List Int), n < 2 ^ (7 * (m + 1)) → m + 1 ≤ k → acc.length + m < 140737488355328 → vari_Put.l0 k (n : Int) acc = some (acc ++ P m n)
  | m, n, 0, _, _, h, _ => by omega
  | m, n, k + 1, acc, hn, hk, hl => by
    have hm : ((n : Int)) % 256 = ((n % 256 : Nat) : Int) := by omega
    rw [vari_Put.l0]
    by_cases hs : n < 128
    · rw [if_neg (by omega), if_pos (by omega), P_small _ _ hs]
      have : (n : Int) % 256 = n := by omega
      rw [this]
    · rw [if_pos (by omega), if_pos (by omega)]
      cases m with
      | zero => exact absurd hn (by simpa using hs)
      | succ m =>
        have hd : n / 128 < 2 ^ (7 * (m + 1)) := by
          have e : 7 * (m + 1 + 1) = 7 * (m + 1) + 7 := by omega
          rw [e, Nat.pow_add] at hn
          exact Nat.div_lt_of_lt_mul (by rw [Nat.mul_comm]; exact hn)
        have hdi : (n : Int) / 128 = ((n / 128 : Nat) : Int) := by omega
        have hx : n % 256 % 128 + 128 = n % 128 + 128 := by omega
        rw [hm, or128 _ (by omega), hdi, put_loop m (n / 128) k _ hd (by omega) (by simp; omega), P_big _ _ hs, hx]
        simp
theorem put_eq (n k : Nat) (h : n < 2 ^ 64) (hk : 10 ≤ k) : vari_Put.f k (n : Int) = some (pb n) := by
  unfold vari_Put.f
  rw [put_loop 9 n k [] (pow70 h) hk (by simp)]
  simp

/-! ### the number of bytes -/
def g (i acc : Nat) : List Int → Int × Int
  | [] => (0, 0)
  | c :: t => if 10 ≤ i then (0, 0) else if 2 ^ 64 ≤ (c.toNat % 128) * 2 ^ (7 * i) then (0, 0) else
      if c < 128 then (if c = 0 ∧ 0 < i then (0, 0) else (((acc + (c.toNat % 128) * 2 ^ (7 * i) : Nat) : Int), ((i + 1 : Nat) : Int))) else g (i + 1) (acc + (c.toNat % 128) * 2 ^ (7 * i)) t
theorem pow_step (i : Nat) : 2 ^ (7 * (i + 1)) = 2 ^ (7 * i) * 128 := by
  have e : 7 * (i + 1) = 7 * i + 7 := by omega
  rw [e, Nat.pow_add]
theorem g_put : ∀ (m n i acc : Nat) (t : List Int), n < 2 ^ (7 * (m + 1)) → m + i ≤ 9 → n * 2 ^ (7 * i) < 2 ^ 64 → (0 < i → 0 < n) → g i acc (P m n ++ t) = (((acc + n * 2 ^ (7 * i) : Nat) : Int), ((i + (P m n).length : Nat) : Int)) := by
  intro m
  induction m with
  | zero =>
    intro n i acc t hn hm hq hp
    have h128 : n < 128 := hn
    rw [P_small _ _ h128]
    have e : (n : Int).toNat % 128 = n := by omega
    simp only [List.cons_append, List.nil_append, g, e]
    rw [if_neg (by omega), if_neg (by omega), if_pos (by omega), if_neg (by omega)]
    rfl
  | succ m ih =>
    intro n i acc t hn hm hq hp
    by_cases h128 : n < 128
    · rw [P_small _ _ h128]
      have e : (n : Int).toNat % 128 = n := by omega
      simp only [List.cons_append, List.nil_append, g, e]
      rw [if_neg (by omega), if_neg (by omega), if_pos (by omega), if_neg (by omega)]
      rfl
    · rw [P_big _ _ h128]
      have e : (((n % 128 + 128 : Nat) : Int)).toNat % 128 = n % 128 := by omega
      have hd : n / 128 < 2 ^ (7 * (m + 1)) := by
        have e : 7 * (m + 1 + 1) = 7 * (m + 1) + 7 := by omega
        rw [e, Nat.pow_add] at hn
        exact Nat.div_lt_of_lt_mul (by rw [Nat.mul_comm]; exact hn)
      have hsum : (n % 128) * 2 ^ (7 * i) + (n / 128) * 2 ^ (7 * (i + 1)) = n * 2 ^ (7 * i) := by
        rw [pow_step]
        have h1 := congrArg (fun z => z * 2 ^ (7 * i)) (Nat.div_add_mod n 128)
        simp only [Nat.add_mul] at h1
        have h2 : (n / 128) * (2 ^ (7 * i) * 128) = 128 * (n / 128) * 2 ^ (7 * i) := by
          rw [Nat.mul_comm (2 ^ (7 * i)) 128, ← Nat.mul_assoc, Nat.mul_comm (n / 128) 128]
        rw [h2]; omega
      simp only [List.cons_append, g, e]
      rw [if_neg (by omega), if_neg (by omega), if_neg (by omega), ih (n / 128) (i + 1) _ t hd (by omega) (by omega) (fun _ => by omega)]
      simp only [List.length_cons]
      congr 2
      · omega
      · omega
theorem g_pb (n : Nat) (t : List Int) (h : n < 2 ^ 64) : g 0 0 (pb n ++ t) = ((n : Int), ((pb n).length : Int)) := by
  rw [g_put 9 n 0 0 t (pow70 h) (by omega) (by simpa using h) (by omega)]
  simp
theorem g_cases : ∀ (t : List Int) (i acc : Nat), g i acc t = (0, 0) ∨ 0 < (g i acc t).2
  | [], _, _ => .inl rfl
  | c :: t, i, acc => by
    rw [g]
    split
    · exact .inl rfl
    split
    · exact .inl rfl
    split
    · split
      · exact .inl rfl
      · exact .inr (by simp only; omega)
    · exact g_cases t _ _
theorem g_inv : ∀ (t : List Int) (i acc : Nat), Bytes t → 0 < (g i acc t).2 → ∃ (n : Nat) (rest : List Int), i ≤ 9 ∧ t = P (9 - i) n ++ rest ∧ n * 2 ^ (7 * i) < 2 ^ 64 ∧ (0 < i → 0 < n) ∧ g i acc t = (((acc + n * 2 ^ (7 * i) : Nat) : Int), ((i + (P (9 - i) n).length : Nat) : Int))
  | [], _, _, _, h => by simp [g] at h
  | c :: t, i, acc, hb, h => by
    have hc := hb c List.mem_cons_self
    rw [g] at h ⊢
    by_cases h1 : 10 ≤ i
    · rw [if_pos h1] at h; simp at h
    rw [if_neg h1] at h ⊢
    by_cases h2 : 2 ^ 64 ≤ (c.toNat % 128) * 2 ^ (7 * i)
    · rw [if_pos h2] at h; simp at h
    rw [if_neg h2] at h ⊢
    by_cases h3 : c < 128
    · rw [if_pos h3] at h ⊢
      by_cases h4 : c = 0 ∧ 0 < i
      · rw [if_pos h4] at h; simp at h
      rw [if_neg h4]
      have e : c.toNat % 128 = c.toNat := by omega
      rw [e] at h2 ⊢
      refine ⟨c.toNat, t, by omega, ?_, by omega, by omega, ?_⟩
      · rw [P_small _ _ (by omega)]
        simp only [List.cons_append, List.nil_append]
        congr 1
        omega
      · rw [P_small _ _ (by omega)]; rfl
    · rw [if_neg h3] at h ⊢
      obtain ⟨n, rest, hi, ht, hq, hp, hg⟩ := g_inv t (i + 1) _ (fun x hx => hb x (List.mem_cons_of_mem _ hx)) h
      have hn := hp (by omega)
      have hm : 9 - i = (9 - (i + 1)) + 1 := by omega
      have hdd : (c.toNat % 128 + 128 * n) % 128 = c.toNat % 128 := by omega
      have hdv : (c.toNat % 128 + 128 * n) / 128 = n := by omega
      have hmul : (c.toNat % 128 + 128 * n) * 2 ^ (7 * i) = (c.toNat % 128) * 2 ^ (7 * i) + n * 2 ^ (7 * (i + 1)) := by
        rw [pow_step, Nat.add_mul, Nat.mul_comm 128 n, Nat.mul_assoc, Nat.mul_comm 128 (2 ^ (7 * i))]
      have hlt : (c.toNat % 128) * 2 ^ (7 * i) < 2 ^ (7 * (i + 1)) := by
        rw [pow_step, Nat.mul_comm (2 ^ (7 * i))]
        exact Nat.mul_lt_mul_of_pos_right (by omega) (Nat.two_pow_pos _)
      refine ⟨c.toNat % 128 + 128 * n, rest, by omega, ?_, ?_, fun _ => by omega, ?_⟩
      · rw [hm, P_big _ _ (by omega), hdd, hdv, List.cons_append, ← ht]
        congr 1
        omega
      · rw [hmul]
        have hE : (2 : Nat) ^ 64 = 2 ^ (7 * (i + 1)) * 2 ^ (64 - 7 * (i + 1)) := by rw [← Nat.pow_add]; congr 1; omega
        have hnR : n < 2 ^ (64 - 7 * (i + 1)) := by
          rw [hE, Nat.mul_comm n] at hq
          exact Nat.lt_of_mul_lt_mul_left hq
        have h5 : (n + 1) * 2 ^ (7 * (i + 1)) ≤ 2 ^ 64 := by
          rw [hE, Nat.mul_comm]
          exact Nat.mul_le_mul_left _ hnR
        rw [Nat.add_mul] at h5
        omega
      · rw [hg, hm, P_big _ _ (by omega), hdd, hdv]
        simp only [List.length_cons]
        rw [hmul]
        congr 2 <;> omega
/-- What is read at the front is put. -/
theorem g_read (l : List Int) (hb : Bytes l) (h : 0 < (g 0 0 l).2) : ∃ (n : Nat) (rest : List Int), n < 2 ^ 64 ∧ l = pb n ++ rest ∧ g 0 0 l = ((n : Int), ((pb n).length : Int)) := by
  obtain ⟨n, rest, _, ht, hq, _, hg⟩ := g_inv l 0 0 hb h
  refine ⟨n, rest, by simpa using hq, ht, ?_⟩
  rw [hg]; simp
theorem g_le (l : List Int) (hb : Bytes l) : (g 0 0 l).2 ≤ l.length ∧ 0 ≤ (g 0 0 l).2 ∧ 0 ≤ (g 0 0 l).1 ∧ (g 0 0 l).1 < 2 ^ 64 := by
  rcases g_cases l 0 0 with h0 | h0
  · rw [h0]; simp
  · obtain ⟨n, rest, h1, h2, h3⟩ := g_read _ hb h0
    rw [h3, h2]
    simp only [List.length_append]
    omega
/-! ### Get, as it is printed -/
theorem andNot128 (a : Nat) (h : a < 256) : Go.bits .andNot .u8 (a : Int) 128 = ((a % 128 : Nat) : Int) := by
  have e : ∀ a : Fin 256, Go.bits .andNot .u8 (a.val : Int) 128 = ((a.val % 128 : Nat) : Int) := by decide +kernel
  exact e ⟨a, h⟩
theorem wrap_u64 (n : Int) : IntKind.u64.wrap n = n % 18446744073709551616 := by simp [IntKind.wrap, IntKind.bits, IntKind.signed]
theorem wraps_u64 (n : Int) (h₀ : 0 ≤ n) (h₁ : n < 2 ^ 64) : IntKind.u64.wrap n = n := by rw [wrap_u64]; omega
theorem or_join (i a d : Nat) (ha : a < 2 ^ i) (hd : d * 2 ^ i < 2 ^ 64) (hi : i ≤ 63) : Go.bits .or .u64 (a : Int) ((d * 2 ^ i : Nat) : Int) = ((a + d * 2 ^ i : Nat) : Int) := by
  have h1 : a < 2 ^ 64 := Nat.lt_of_lt_of_le ha (Nat.pow_le_pow_right (by decide) (by omega))
  rw [(bits_nat .u64 64 (by decide) wraps_u64 a (d * 2 ^ i) h1 hd).2, Nat.or_comm, Nat.mul_comm d, ← Nat.two_pow_add_eq_or_of_lt ha, Nat.add_comm]
theorem shl_eq (d i : Nat) (hi : i ≤ 63) : shl .u64 (d : Int) (i : Int) = ((d * 2 ^ i % 2 ^ 64 : Nat) : Int) := by
  unfold shl
  rw [show min (i : Int).toNat IntKind.u64.bits = i from by simp [IntKind.bits]; omega, wrap_u64, show (18446744073709551616 : Int) = ((2 ^ 64 : Nat) : Int) from rfl, Int.natCast_emod, Int.natCast_mul, Int.natCast_pow]
  rfl
theorem shr_eq (d i : Nat) (hi : i ≤ 63) : shr .u64 (d : Int) (i : Int) = ((d / 2 ^ i : Nat) : Int) := by
  unfold shr
  rw [show min (i : Int).toNat IntKind.u64.bits = i from by simp [IntKind.bits]; omega, Int.natCast_ediv, Int.natCast_pow]
  rfl
theorem back (d i : Nat) : (d * 2 ^ i % 2 ^ 64 / 2 ^ i = d) ↔ d * 2 ^ i < 2 ^ 64 := by
  constructor
  · intro h
    have h1 : d * 2 ^ i % 2 ^ 64 < 2 ^ 64 := Nat.mod_lt _ (by decide)
    have h2 : d * 2 ^ i ≤ d * 2 ^ i % 2 ^ 64 := by
      have := Nat.div_mul_le_self (d * 2 ^ i % 2 ^ 64) (2 ^ i)
      rwa [h] at this
    omega
  · intro h
    rw [Nat.mod_eq_of_lt h, Nat.mul_div_cancel _ (Nat.two_pow_pos i)]
theorem rd_drop {l t : List Int} {c : Int} {i : Nat} (h : l.drop i = c :: t) : rd l (i : Int) = c := by
  have : l[i]? = some c := by
    have := congrArg (fun z => z[0]?) h
    simpa using this
  simp [rd, List.getD_eq_getElem?_getD, this]
theorem get_loop : ∀ (t : List Int) (i acc k : Nat) (l : List Int), Bytes l → l.drop i = t → i + t.length = l.length → l.length < 140737488355328 → acc < 2 ^ (7 * i) → 2 * t.length + 2 ≤ k → vari_Get.l0 k (acc : Int) l (l.length : Int) (i : Int) = some (g i acc t)
  | [], i, acc, k, l, hb, hd, hl, hm, ha, hk => by
    obtain ⟨k, rfl⟩ : ∃ k', k = k' + 1 := ⟨k - 1, by omega⟩
    rw [vari_Get.l0, if_neg (by simp at hl; omega)]
    rfl
  | c :: t, i, acc, k, l, hb, hd, hl, hm, ha, hk => by
    simp only [List.length_cons] at hl hk
    obtain ⟨k, rfl⟩ : ∃ k', k = k' + 2 := ⟨k - 2, by omega⟩
    have hc := hb c (by have : c ∈ l.drop i := by rw [hd]; exact List.mem_cons_self
                        exact List.mem_of_mem_drop this)
    have hd' : l.drop (i + 1) = t := by rw [← List.drop_drop, hd]; rfl
    have hci : (c.toNat : Int) = c := by omega
    have hw7 : wrap64 (7 * (i : Int)) = ((7 * i : Nat) : Int) := by unfold wrap64; omega
    have hw1 : wrap64 ((i : Int) + 1) = ((i + 1 : Nat) : Int) := by unfold wrap64; omega
    have hdig : IntKind.u64.wrap (Go.bits .andNot .u8 c 128) = ((c.toNat % 128 : Nat) : Int) := by
      have := andNot128 c.toNat (by omega)
      rw [hci] at this
      rw [this, wrap_u64]; omega
    rw [vari_Get.l0, if_pos (by omega), if_pos (by omega), if_pos (by omega), rd_drop hd, hw7, hdig, g]
    by_cases h1 : 10 ≤ i
    · rw [if_pos (by omega), if_pos h1, vari_Get.j1, if_pos rfl]
    rw [if_neg (by omega), if_pos (by omega), if_neg h1]
    have hs := shl_eq (c.toNat % 128) (7 * i) (by omega)
    rw [hs, shr_eq _ _ (by omega), vari_Get.j1]
    by_cases h2 : 2 ^ 64 ≤ (c.toNat % 128) * 2 ^ (7 * i)
    · rw [if_pos h2, if_pos]
      exact bne_iff_ne.mpr (fun h => by
        have := (back (c.toNat % 128) (7 * i)).mp (by exact_mod_cast h)
        omega)
    · have h2' : (c.toNat % 128) * 2 ^ (7 * i) < 2 ^ 64 := by omega
      have hbk := (back (c.toNat % 128) (7 * i)).mpr h2'
      rw [if_neg h2, hbk, if_neg (by simp), if_pos (by omega), hs, Nat.mod_eq_of_lt h2', or_join _ _ _ ha h2' (by omega)]
      by_cases h3 : c < 128
      · rw [if_pos h3, if_pos h3]
        by_cases h4 : c = 0
        · rw [if_pos h4]
          by_cases h5 : (i : Int) > 0
          · rw [if_pos h5, if_pos ⟨h4, by omega⟩]
          · rw [if_neg h5, if_neg (by omega), hw1]
        · rw [if_neg h4, if_neg (by omega), hw1]
      · rw [if_neg h3, if_neg h3, hw1]
        refine get_loop t (i + 1) _ k l hb hd' (by omega) hm ?_ (by omega)
        rw [pow_step]
        have : (c.toNat % 128) * 2 ^ (7 * i) ≤ 127 * 2 ^ (7 * i) := Nat.mul_le_mul_right _ (by omega)
        omega
theorem get_eq (l : List Int) (k : Nat) (hb : Bytes l) (hl : l.length < 140737488355328) (hk : 2 * l.length + 2 ≤ k) : vari_Get.f k l = some (g 0 0 l) := by
  unfold vari_Get.f
  exact get_loop l 0 0 k l hb rfl (by simp) hl (by decide) hk
end Go.Proofs.YtknkncdlcoglpaaDoor.FrVari
