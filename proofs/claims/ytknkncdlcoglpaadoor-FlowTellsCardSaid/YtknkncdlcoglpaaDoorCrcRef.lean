import Derived.Test.YtknkncdlcoglpaaDoorCrc
import Derived.Test.YtknkncdlcoglpaaDoorPAllx9
import Derived.Test.YtknkncdlcoglpaaDoorPAllx8
namespace Go.Proofs.YtknkncdlcoglpaaDoor.Crc
open Go.RowKit Go.Proofs.YtknkncdlcoglpaaDoor.PAll Go.Proofs.YtknkncdlcoglpaaDoorW.PrintWords Go.Proofs.YtknkncdlcoglpaaDoorW.PrintLast Go.Proofs.YtknkncdlcoglpaaDoor.Bits32
/-! The document's sums, as they are printed, are the same. -/
def turnI (n b : Int) : Int := if n % 2 = b then n / 2 else Go.bits .xor .u32 (n / 2) 3988292384
theorem turn_eq (n b : Int) (h0 : 0 ≤ n) (h : n < 4294967296) : foliateref02_turn.f n b = some (turnI n b) := by
  unfold foliateref02_turn.f turnI
  rw [Int.tmod_eq_emod_of_nonneg h0, Int.tdiv_eq_ediv_of_nonneg h0]
  have e : n / 2 % 4294967296 = n / 2 := by omega
  rw [e]
  by_cases c : n % 2 = b
  · rw [if_pos c, if_pos c]
  · rw [if_neg c, if_neg c]
theorem turnI_spec (n b : Int) (h0 : 0 ≤ n) (h : n < 4294967296) (hb : b = 0 ∨ b = 1) : 0 ≤ turnI n b ∧ turnI n b < 4294967296 ∧ V (turnI n b) = T (V n ^^^ V b) := by
  have h2 : V 3988292384 = Pol := by decide
  have h3 := V_half n h0 h 1
  have e2 : n / 2 ^ 1 = n / 2 := by simp
  rw [e2] at h3
  have ht : T (V n ^^^ V b) = if (V n ^^^ V b).getLsbD 0 then (V n >>> 1) ^^^ Pol else V n >>> 1 := by
    unfold T
    have hs : (V n ^^^ V b) >>> 1 = V n >>> 1 := by
      rw [BitVec.ushiftRight_xor_distrib]
      have : V b >>> 1 = 0#32 := by rcases hb with rfl | rfl <;> decide
      rw [this, BitVec.xor_zero]
    rw [hs]
  have hl : (V n).getLsbD 0 = decide (n % 2 = 1) := by
    obtain ⟨m, rfl⟩ := Int.eq_ofNat_of_zero_le h0
    unfold V
    rw [BitVec.ofInt_natCast, BitVec.getLsbD_ofNat, Nat.testBit_zero]
    have : ((m : Int) % 2 = 1) ↔ m % 2 = 1 := by omega
    simp [this]
  unfold turnI
  rw [ht, BitVec.getLsbD_xor, hl]
  have hm : n % 2 = 0 ∨ n % 2 = 1 := by omega
  have hx := Go.Proofs.YtknkncdlcoglpaaDoor.Bits32.xor32_range (n / 2) 3988292384
  have hv := V_xor (n / 2) 3988292384
  rw [h3, h2] at hv
  have b0 : (V 0).getLsbD 0 = false := by decide
  have b1 : (V 1).getLsbD 0 = true := by decide
  rcases hb with rfl | rfl
  · rw [b0]
    rcases hm with e | e
    · rw [if_pos e, e]; simp only [show decide ((0 : Int) = 1) = false from rfl]; exact ⟨by omega, by omega, by simpa using h3⟩
    · rw [if_neg (by omega), e]; exact ⟨hx.1, hx.2, by simpa using hv⟩
  · rw [b1]
    rcases hm with e | e
    · rw [if_neg (by omega), e]; exact ⟨hx.1, hx.2, by simpa using hv⟩
    · rw [if_pos e, e]; exact ⟨by omega, by omega, by simpa using h3⟩
theorem half_c (c : Int) (h0 : 0 ≤ c) (h : c ≤ 255) : (Int.tdiv c 2) % 256 = c / 2 ∧ (Int.tmod c 2) % 4294967296 = c % 2 := by
  rw [Int.tdiv_eq_ediv_of_nonneg h0, Int.tmod_eq_emod_of_nonneg h0]; omega
theorem next_j (i : Nat) (h : i ≤ 1000) : wrap64 ((i : Int) + 1) = ((i + 1 : Nat) : Int) := by unfold wrap64; omega
/-- The eight turns of a byte. -/
theorem byte_loop (l : List Int) (p : Nat) (hp : p ≤ 300) (d : Nat) : ∀ (z : Wd) (i k : Nat) (n c : Int), i + d = 8 → 0 ≤ n → n < 4294967296 → 0 ≤ c → c < 2 ^ d → V n = z ^^^ V c →
    ∃ m, 0 ≤ m ∧ m < 4294967296 ∧ V m = Tn d z ∧ foliateref02_With.l1 (k + d + 1) l n (p : Int) c (i : Int) = foliateref02_With.l0 k l m ((p + 1 : Nat) : Int) := by
  induction d with
  | zero =>
    intro z i k n c hi h0 h1 hc0 hc1 hv
    have hc : c = 0 := by simp at hc1; omega
    subst hc
    refine ⟨n, h0, h1, ?_, ?_⟩
    · have : V 0 = 0#32 := rfl
      rw [hv, this, BitVec.xor_zero]; rfl
    · have hn : ¬ ((i : Int) < 8) := by omega
      rw [← next_j p (by omega)]
      simp only [foliateref02_With.l1]
      rw [if_neg hn]
  | succ d ih =>
    intro z i k n c hi h0 h1 hc0 hc1 hv
    have h256 : c ≤ 255 := by
      have h8 : d = 0 ∨ d = 1 ∨ d = 2 ∨ d = 3 ∨ d = 4 ∨ d = 5 ∨ d = 6 ∨ d = 7 := by omega
      rcases h8 with rfl | rfl | rfl | rfl | rfl | rfl | rfl | rfl <;> simp at hc1 <;> omega
    have hc2 : c / 2 < 2 ^ d := by
      have e : (2 : Int) ^ (d + 1) = 2 * 2 ^ d := by rw [Int.pow_succ, Int.mul_comm]
      rw [e] at hc1
      generalize (2 : Int) ^ d = q at hc1 ⊢
      omega
    have hb : c % 2 = 0 ∨ c % 2 = 1 := by omega
    obtain ⟨a, b, e⟩ := turnI_spec n (c % 2) h0 h1 hb
    rw [hv, turn_bit z c hc0 (by omega)] at e
    have hi8 : (i : Int) < 8 := by omega
    obtain ⟨m, m0, m1, mv, hm⟩ := ih (T z) (i + 1) k (turnI n (c % 2)) (c / 2) (by omega) a b (by omega) hc2 e
    refine ⟨m, m0, m1, mv, ?_⟩
    have hcc := half_c c hc0 h256
    have ek : k + (d + 1) + 1 = (k + d + 1) + 1 := by omega
    rw [ek, ← hm, ← next_j i (by omega)]
    conv => lhs; rw [foliateref02_With.l1]
    rw [if_pos hi8, hcc.2, turn_eq n _ h0 h1]
    rw [obind, hcc.1]
theorem rd_range {l : List Int} (hb : Bytes l) (i : Nat) (h : i < l.length) : 0 ≤ rd l (i : Int) ∧ rd l (i : Int) ≤ 255 := by
  have : rd l (i : Int) = l[i] := by simp [rd, List.getD_eq_getElem?_getD, h]
  rw [this]
  exact hb _ (List.getElem_mem h)
theorem ref_loop (l : List Int) (hb : Bytes l) (hl : l.length ≤ 300) (d : Nat) : ∀ (i k : Nat) (n : Int), i + d = l.length → 10 * d + 1 ≤ k → 0 ≤ n → n < 4294967296 →
    ∃ m, 0 ≤ m ∧ m < 4294967296 ∧ V m = G (V n) (l.drop i) ∧ foliateref02_With.l0 k l n (i : Int) = some (Go.bits .xor .u32 m 4294967295) := by
  induction d with
  | zero =>
    intro i k n hi hk h0 h1
    obtain ⟨k, rfl⟩ : ∃ m, k = m + 1 := ⟨k - 1, by omega⟩
    refine ⟨n, h0, h1, ?_, ?_⟩
    · rw [List.drop_of_length_le (by omega)]; rfl
    · have hn : ¬ ((i : Int) < (l.length : Int)) := by omega
      simp only [foliateref02_With.l0]
      rw [if_neg hn]
  | succ d ih =>
    intro i k n hi hk h0 h1
    obtain ⟨k, rfl⟩ : ∃ m, k = (m + 8 + 1) + 1 := ⟨k - 10, by omega⟩
    have hil : i < l.length := by omega
    obtain ⟨c0, c1⟩ := rd_range hb i hil
    obtain ⟨m, m0, m1, mv, hm⟩ := byte_loop l i (by omega) 8 (V n ^^^ V (rd l i)) 0 k n (rd l i) rfl h0 h1 c0 (by omega) (by rw [xor_cancel])
    obtain ⟨m', a, b, cv, hf⟩ := ih (i + 1) k m (by omega) (by omega) m0 m1
    refine ⟨m', a, b, ?_, ?_⟩
    · have er : rd l (i : Int) = l[i] := by simp [rd, List.getD_eq_getElem?_getD, hil]
      rw [cv, mv, List.drop_eq_getElem_cons hil, G_cons, er]
      rw [er] at c0 c1
      unfold Go.Proofs.YtknkncdlcoglpaaDoor.Bits32.step
      rw [B_small _ c0 c1]
    · have hp : (i : Int) < (l.length : Int) := by omega
      have hp0 : (0 : Int) ≤ (i : Int) := by omega
      simp only [foliateref02_With.l0]
      rw [if_pos hp, if_pos hp0]
      exact hm.trans hf
theorem ref_with (l : List Int) (hb : Bytes l) (hl : l.length ≤ 300) (s : Int) (k : Nat) (hk : 3001 ≤ k) : foliateref02_With.f k s l = some (withC s l) := by
  obtain ⟨a, b⟩ := Go.Proofs.YtknkncdlcoglpaaDoor.Bits32.xor32_range s 4294967295
  obtain ⟨m, m0, m1, mv, h⟩ := ref_loop l hb hl l.length 0 k (Go.bits .xor .u32 s 4294967295) (by omega) (by omega) a b
  unfold foliateref02_With.f
  refine h.trans ?_
  obtain ⟨p, q, r⟩ := foldC_spec l _ a b
  unfold withC
  rw [V_inj p q m0 m1 (by rw [r, mv]; rfl)]
theorem ref_sum (l : List Int) (hb : Bytes l) (hl : l.length ≤ 300) (k : Nat) (hk : 3001 ≤ k) : foliateref02_Sum.f k l = some (withC 0 l) := by
  unfold foliateref02_Sum.f
  rw [ref_with l hb hl 0 k hk, obind]
theorem seal_digits (n : Int) (h0 : 0 ≤ n) : [(Int.tmod n 256) % 256, ((Int.tdiv n 256) % 4294967296) % 256, ((Int.tdiv n 65536) % 4294967296) % 256, ((Int.tdiv n 16777216) % 4294967296) % 256] = seal4 n := by
  rw [Int.tmod_eq_emod_of_nonneg h0, Int.tdiv_eq_ediv_of_nonneg h0, Int.tdiv_eq_ediv_of_nonneg h0, Int.tdiv_eq_ediv_of_nonneg h0]
  unfold seal4
  simp only [List.cons.injEq, and_true]
  omega
theorem ref_seal (l : List Int) (hb : Bytes l) (hl : l.length ≤ 300) (k : Nat) (hk : 3001 ≤ k) : foliateref02_Seal.f k l = some (sealed l) := by
  obtain ⟨a, b⟩ := withC_range 0 l
  unfold foliateref02_Seal.f
  rw [ref_sum l hb hl k hk, obind, seal_digits _ a]
  have e1 : ([] : List Int).length + l.length < 140737488355328 := by simp; omega
  have e2 : l.length + (seal4 (withC 0 l)).length < 140737488355328 := by simp [seal4]; omega
  rw [if_pos e1, obind, obind, List.nil_append, if_pos e2]
  rfl
theorem nums_inj {a b : List Int} (ha : Bytes a) (hb : Bytes b) : (strOfNums a).toList = (strOfNums b).toList ↔ a = b := by
  have key : ∀ {l : List Int}, Bytes l → (strOfNums l).toList.map (fun u : UInt8 => (u.toNat : Int)) = l := by
    intro l hl
    rw [ByteArray.toList_eq]
    unfold strOfNums
    simp only [List.map_map]
    conv => rhs; rw [← List.map_id l]
    apply List.map_congr_left
    intro x hx
    obtain ⟨h0, h1⟩ := hl x hx
    simp only [Function.comp, id_eq]
    simp
    omega
  constructor
  · intro h
    rw [← key ha, ← key hb, h]
  · intro h; rw [h]
theorem ref_good (l : List Int) (hb : Bytes l) (hl : l.length ≤ 300) (k : Nat) (hk : 3001 ≤ k) : foliateref02_Good.f k l = some (goodB l) := by
  unfold foliateref02_Good.f
  by_cases h4 : 4 ≤ l.length
  · have n4 : ¬ ((l.length : Int) < 4) := by omega
    have e : ((l.length : Int) - 4).toNat = l.length - 4 := by omega
    have p1 : (0 : Int) ≤ (l.length : Int) - 4 := by omega
    have p2 : (l.length : Int) - 4 ≤ (l.length : Int) := by omega
    rw [if_neg n4, wrap_sub4 _ (by omega), if_pos p1, if_pos p2, e, ref_seal _ (hb.take _) (by rw [List.length_take]; omega) k hk, obind]
    congr 1
    rw [Bool.eq_iff_iff, beq_iff_eq, nums_inj (sealed_bytes (hb.take _)) hb]
    constructor
    · intro h
      unfold goodB
      rw [decide_eq_true_iff]
      refine ⟨h4, ?_⟩
      have h2 : sealed (l.take (l.length - 4)) = l.take (l.length - 4) ++ l.drop (l.length - 4) := by rw [h, List.take_append_drop]
      unfold sealed at h2
      exact List.append_cancel_left h2
    · intro h; exact (good_sealed h).2
  · have n4 : (l.length : Int) < 4 := by omega
    rw [if_pos n4]
    unfold goodB
    simp [h4]
end Go.Proofs.YtknkncdlcoglpaaDoor.Crc
