import Derived.Test.YtknkncdlcoglpaaDoorFlowMore
import Derived.Test.YtknkncdlcoglpaaDoorPAllx14
namespace Go.Proofs.YtknkncdlcoglpaaDoor.Flip
open Go.RowKit Go.Proofs.YtknkncdlcoglpaaDoor.PAll Go.Proofs.YtknkncdlcoglpaaDoorW.PrintWords Go.Proofs.YtknkncdlcoglpaaDoorW.PrintLast Go.Proofs.YtknkncdlcoglpaaDoor.Bits32 Go.Proofs.YtknkncdlcoglpaaDoor.Crc Go.Proofs.YtknkncdlcoglpaaDoor.Frame
theorem two_pow_byte : ∀ (d : Nat) (k : Nat) (x1 x2 : Int) (x : List Int) (i : Int) (r : Nat) (t : Int), t = (r : Int) + d → r + d < 8 → t = Int.tmod (wrap64 (x2 + i)) 8 → d < k →
    foliatelaw03_Flip.l1 k x1 x2 x i (2 ^ r) (r : Int) = foliatelaw03_Flip.l1 (k - d) x1 x2 x i (2 ^ (r + d)) t
  | 0, k, x1, x2, x, i, r, t, ht, _, _, _ => by rw [ht]; simp
  | d + 1, k, x1, x2, x, i, r, t, ht, h8, hm, hk => by
    obtain ⟨k, rfl⟩ : ∃ m, k = m + 1 := ⟨k - 1, by omega⟩
    have ew : wrap64 ((r : Int) + 1) = ((r + 1 : Nat) : Int) := by unfold wrap64; omega
    have ep : (2 * (2 : Int) ^ r) % 256 = 2 ^ (r + 1) := by
      have h7 : r = 0 ∨ r = 1 ∨ r = 2 ∨ r = 3 ∨ r = 4 ∨ r = 5 ∨ r = 6 := by omega
      rcases h7 with rfl | rfl | rfl | rfl | rfl | rfl | rfl <;> rfl
    have e1 : k + 1 - (d + 1) = k - d := by omega
    have e2 : r + (d + 1) = (r + 1) + d := by omega
    conv => lhs; simp only [foliatelaw03_Flip.l1]
    rw [if_pos (by omega), ep, ew, e1, e2]
    exact two_pow_byte d k x1 x2 x i (r + 1) t (by omega) (by omega) hm (by omega)
theorem up_one (r : Nat) (h : r < 8) : B (2 ^ r) = (1#32 : Wd) <<< r := by
  have h7 : r = 0 ∨ r = 1 ∨ r = 2 ∨ r = 3 ∨ r = 4 ∨ r = 5 ∨ r = 6 ∨ r = 7 := by omega
  rcases h7 with rfl | rfl | rfl | rfl | rfl | rfl | rfl | rfl <;> decide
theorem flip_one (l : List Int) (p : Nat) (h : p / 8 < l.length) (s : Wd) :
    G s (l.set (p / 8) (Go.bits .xor .u8 (l.getD (p / 8) 0) (2 ^ (p % 8)))) = G s l ^^^ Tn (8 * l.length - p) 1#32 := by
  have hp : p % 8 < 8 := Nat.mod_lt _ (by decide)
  have e : 8 * (l.length - p / 8) = p % 8 + (8 * l.length - p) := by omega
  have h1 : (1#32 : Wd).toNat * 2 ^ (p % 8) < 2 ^ 32 := by
    have : 2 ^ (p % 8) ≤ 2 ^ 7 := Nat.pow_le_pow_right (by decide) (by omega)
    have e1 : (1#32 : Wd).toNat = 1 := rfl
    rw [e1]; omega
  rw [G_set _ l _ s h, up_one _ hp, e, Tn_add, Tn_up _ _ h1]
theorem bytes_flip {l : List Int} (h : Bytes l) (i : Nat) (a b : Int) : Bytes (l.set i (Go.bits .xor .u8 a b)) := fun x hx => by
  rcases List.mem_or_eq_of_mem_set hx with h1 | h1
  · exact h x h1
  · have := PAll.xor8_range a b
    omega
theorem half_m (m : Int) (h0 : 0 ≤ m) (h : m < 4294967296) : (Int.tdiv m 2) % 4294967296 = m / 2 := by
  rw [Int.tdiv_eq_ediv_of_nonneg h0]; omega
theorem next_i (i : Nat) (h : i ≤ 100) : wrap64 ((i : Int) + 1) = ((i + 1 : Nat) : Int) := by unfold wrap64; omega
theorem place (n i : Nat) (h : n + i ≤ 10000) : wrap64 ((n : Int) + i) = ((n + i : Nat) : Int) := by unfold wrap64; omega
theorem place8 (p : Nat) (h : p ≤ 10000) : wrap64 (Int.tdiv ((p : Nat) : Int) 8) = ((p / 8 : Nat) : Int) := by
  rw [Int.tdiv_eq_ediv_of_nonneg (by omega)]
  unfold wrap64; omega
theorem rest8 (n i : Nat) (h : n + i ≤ 10000) : Int.tmod (wrap64 ((n : Int) + i)) 8 = (((n + i) % 8 : Nat) : Int) := by
  rw [place n i h, Int.tmod_eq_emod_of_nonneg (by omega)]; omega
theorem pow_le32 (d : Nat) (h : d ≤ 32) : (2 : Int) ^ d ≤ 4294967296 := by
  have h2 : (2 : Nat) ^ d ≤ 2 ^ 32 := Nat.pow_le_pow_right (by decide) h
  have h3 : ((2 ^ d : Nat) : Int) ≤ ((2 ^ 32 : Nat) : Int) := Int.ofNat_le.mpr h2
  simpa using h3
theorem mod_half (m : Int) (q : Int) (hq : 0 < q) : (m % (2 * q)) / 2 = (m / 2) % q ∧ (m % (2 * q)) % 2 = m % 2 := by
  have h1 := Int.emod_nonneg (m / 2) (Int.ne_of_gt hq)
  have h2 := Int.emod_lt_of_pos (m / 2) hq
  have h3 := Int.mul_ediv_add_emod (m / 2) q
  have h4 : m = 2 * (m / 2) + m % 2 := by omega
  have h5 : 0 ≤ m % 2 ∧ m % 2 < 2 := by omega
  have h6 : m = (2 * ((m / 2) % q) + m % 2) + (2 * q) * ((m / 2) / q) := by
    have : (2 * q) * ((m / 2) / q) = 2 * (q * ((m / 2) / q)) := Int.mul_assoc _ _ _
    omega
  have h7 : m % (2 * q) = 2 * ((m / 2) % q) + m % 2 := by
    conv => lhs; rw [h6]
    rw [Int.add_mul_emod_self_left, Int.emod_eq_of_lt (by omega) (by omega)]
  rw [h7]
  generalize (m / 2) % q = z at *
  omega
theorem mod_le_self (m : Int) (n : Nat) (h0 : 0 ≤ m) : m % 2 ^ n ≤ m := by
  have hq : (0 : Int) < 2 ^ n := Int.pow_pos (by decide)
  generalize (2 : Int) ^ n = q at hq ⊢
  have h1 := Int.mul_ediv_add_emod m q
  have h2 : 0 ≤ q * (m / q) := Int.mul_nonneg (Int.le_of_lt hq) (Int.ediv_nonneg h0 (Int.le_of_lt hq))
  generalize q * (m / q) = z at *
  omega
theorem pow_pos' (n : Nat) : (0 : Int) < 2 ^ n := Int.pow_pos (by decide)
/-- what a mask's bits ahead of a cut come to -/
theorem mask_step (m : Int) (h0 : 0 ≤ m) (h : m < 4294967296) (N : Nat) :
    Tn (N + 1) (V (m % 2 ^ (N + 1))) = Tn N (V ((m / 2) % 2 ^ N)) ^^^ Tn (N + 1) (V (m % 2)) := by
  have e : (2 : Int) ^ (N + 1) = 2 * 2 ^ N := by rw [Int.pow_succ, Int.mul_comm]
  obtain ⟨g1, g2⟩ := mod_half m (2 ^ N) (pow_pos' N)
  rw [← e] at g1 g2
  have g3 : 0 ≤ m % 2 ^ (N + 1) := Int.emod_nonneg _ (Int.ne_of_gt (pow_pos' _))
  have g4 : m % 2 ^ (N + 1) < 4294967296 := Int.lt_of_le_of_lt (mod_le_self m _ h0) h
  have h1 := V_bit (m % 2 ^ (N + 1)) g3 g4
  rw [g1, g2] at h1
  simp only [Tn]
  rw [h1, Tn_xor]
theorem mask_zero (m : Int) (N : Nat) (hm : m % 2 ^ (N + 1) = 0) : m % 2 = 0 ∧ (m / 2) % 2 ^ N = 0 := by
  have e : (2 : Int) ^ (N + 1) = 2 * 2 ^ N := by rw [Int.pow_succ, Int.mul_comm]
  obtain ⟨g1, g2⟩ := mod_half m (2 ^ N) (pow_pos' N)
  rw [← e, hm] at g1 g2
  exact ⟨g2.symm, g1.symm⟩
theorem mod_one_pow (m : Int) : m % 2 ^ 0 = 0 := by rw [Int.pow_zero]; exact Int.emod_one m
theorem flip_loop (at_ : Nat) (d : Nat) : ∀ (k i : Nat) (m : Int) (x : List Int), i + d = 32 → 0 ≤ m → m < 2 ^ d → 12 * d + 10 ≤ k → Bytes x → at_ + 32 ≤ 8 * x.length → x.length ≤ 304 → 6 ≤ x.length →
    ∃ x', x'.length = x.length ∧ Bytes x' ∧ G All1 x' = G All1 x ^^^ Tn (8 * x.length - at_ - i) (V m) ∧
      (G All1 (x'.take 6) = G All1 (x.take 6) ^^^ Tn (48 - (at_ + i)) (V (m % 2 ^ (48 - (at_ + i)))) ∧ (m % 2 ^ (48 - (at_ + i)) = 0 → x'.take 6 = x.take 6)) ∧ foliatelaw03_Flip.l0 k m (at_ : Int) x (i : Int) = some x' := by
  have V0 : V 0 = 0#32 := rfl
  induction d with
  | zero =>
    intro k i m x hi h0 h1 hk hb hx hx2 hx6
    obtain ⟨k, rfl⟩ : ∃ n, k = n + 1 := ⟨k - 1, by omega⟩
    have hm : m = 0 := by simp at h1; omega
    subst hm
    refine ⟨x, rfl, hb, ?_, ⟨?_, fun _ => rfl⟩, ?_⟩
    · rw [V0, Tn_zero, BitVec.xor_zero]
    · rw [Int.zero_emod, V0, Tn_zero, BitVec.xor_zero]
    · simp only [foliatelaw03_Flip.l0]
      rw [if_neg (by omega)]
  | succ d ih =>
    intro k i m x hi h0 h1 hk hb hx hx2 hx6
    have hd : (2 : Int) ^ (d + 1) = 2 * 2 ^ d := by rw [Int.pow_succ, Int.mul_comm]
    have hm32 : m < 4294967296 := Int.lt_of_lt_of_le h1 (pow_le32 (d + 1) (by omega))
    have hm2 : m / 2 < 2 ^ d := by
      generalize (2 : Int) ^ d = q at hd ⊢
      rw [hd] at h1
      omega
    clear hd h1
    have hT : Tn (8 * x.length - at_ - i) (V m) = Tn (8 * x.length - at_ - (i + 1)) (V (m / 2)) ^^^ Tn (8 * x.length - (at_ + i)) (V (m % 2)) := by
      have e1 : 8 * x.length - at_ - i = (8 * x.length - at_ - (i + 1)) + 1 := by omega
      have e2 : 8 * x.length - (at_ + i) = (8 * x.length - at_ - (i + 1)) + 1 := by omega
      rw [e1, e2]
      simp only [Tn]
      rw [V_bit m h0 hm32, Tn_xor]
    obtain ⟨k, rfl⟩ : ∃ n, k = n + 1 := ⟨k - 1, by omega⟩
    have hm0 : 0 ≤ m / 2 := by omega
    by_cases c : m % 2 = 1
    · have hp : (at_ + i) / 8 < x.length := by omega
      have hai : at_ + i ≤ 10000 := by omega
      have hi100 : i ≤ 100 := by omega
      have hi32 : (i : Int) < 32 := by omega
      have hr : (at_ + i) % 8 < 8 := Nat.mod_lt _ (by decide)
      have hrr : ¬ (((at_ + i) % 8 : Nat) : Int) < (((at_ + i) % 8 : Nat) : Int) := by omega
      have hq0 : (0 : Int) ≤ (((at_ + i) / 8 : Nat) : Int) := by omega
      have hq1 : (((at_ + i) / 8 : Nat) : Int) < (x.length : Int) := by omega
      have hkr : (at_ + i) % 8 < k := by omega
      obtain ⟨k2, hk2⟩ : ∃ n, k - (at_ + i) % 8 = n + 1 := ⟨k - (at_ + i) % 8 - 1, by omega⟩
      obtain ⟨x', g1, g2, g3, ⟨g5, g6⟩, g4⟩ := ih k2 (i + 1) (m / 2) (x.set ((at_ + i) / 8) (Go.bits .xor .u8 (x.getD ((at_ + i) / 8) 0) (2 ^ ((at_ + i) % 8)))) (by omega) hm0 hm2 (by omega) (bytes_flip hb _ _ _) (by simpa using hx) (by simpa using hx2) (by simpa using hx6)
      have hz : ((0 : Nat) : Int) + (((at_ + i) % 8 : Nat) : Int) = (((at_ + i) % 8 : Nat) : Int) := by omega
      have hl := two_pow_byte ((at_ + i) % 8) k m (at_ : Int) x (i : Int) 0 (((at_ + i) % 8 : Nat) : Int) hz.symm (by omega) (rest8 at_ i hai).symm hkr
      have e1 : V 1 = 1#32 := by decide
      refine ⟨x', by simpa using g1, g2, ?_, ?_, ?_⟩
      · rw [g3, hT, c, e1, flip_one x (at_ + i) hp, List.length_set, BitVec.xor_assoc, BitVec.xor_comm (Tn (8 * x.length - (at_ + i)) 1#32)]
      · by_cases hc : 48 ≤ at_ + i
        · have z1 : 48 - (at_ + i) = 0 := by omega
          have z2 : 48 - (at_ + (i + 1)) = 0 := by omega
          rw [z2, mod_one_pow] at g5 g6
          rw [z1, mod_one_pow]
          have et : (x.set ((at_ + i) / 8) (Go.bits .xor .u8 (x.getD ((at_ + i) / 8) 0) (2 ^ ((at_ + i) % 8)))).take 6 = x.take 6 := by
            rw [List.take_set, List.set_eq_of_length_le (by rw [List.length_take]; omega)]
          have e6 := g6 rfl
          rw [et] at e6 g5
          exact ⟨g5, fun _ => e6⟩
        · have z1 : 48 - (at_ + i) = (48 - (at_ + (i + 1))) + 1 := by omega
          have z3 : 8 * (x.take 6).length - (at_ + i) = 48 - (at_ + i) := by rw [List.length_take]; omega
          have et : (x.set ((at_ + i) / 8) (Go.bits .xor .u8 (x.getD ((at_ + i) / 8) 0) (2 ^ ((at_ + i) % 8)))).take 6 = (x.take 6).set ((at_ + i) / 8) (Go.bits .xor .u8 ((x.take 6).getD ((at_ + i) / 8) 0) (2 ^ ((at_ + i) % 8))) := by
            have eg : x.getD ((at_ + i) / 8) 0 = (x.take 6).getD ((at_ + i) / 8) 0 := by
              rw [List.getD_eq_getElem?_getD, List.getD_eq_getElem?_getD, List.getElem?_take_of_lt (by omega)]
            rw [List.take_set, eg]
          have fo := flip_one (x.take 6) (at_ + i) (by rw [List.length_take]; omega) All1
          rw [z3] at fo
          refine ⟨?_, fun hz => ?_⟩
          · rw [g5, et, fo, z1, mask_step m h0 hm32, c, e1, ← z1, BitVec.xor_assoc, BitVec.xor_comm (Tn (48 - (at_ + i)) 1#32)]
          · rw [z1] at hz
            have := (mask_zero m _ hz).1
            omega
      · have em : Int.tmod m 2 = m % 2 := Int.tmod_eq_emod_of_nonneg h0
        have ed := half_m m h0 hm32
        have ew := next_i i hi100
        have e8 := place at_ i hai
        have eq := place8 (at_ + i) hai
        have er := rest8 at_ i hai
        simp only [foliatelaw03_Flip.l0]
        rw [if_pos hi32, em, if_pos c]
        have hl' : foliatelaw03_Flip.l1 k m (at_ : Int) x (i : Int) 1 0 = foliatelaw03_Flip.l1 (k - (at_ + i) % 8) m (at_ : Int) x (i : Int) (2 ^ ((at_ + i) % 8)) (((at_ + i) % 8 : Nat) : Int) := by
          rw [Nat.zero_add] at hl
          exact hl
        rw [hl', hk2]
        simp only [foliatelaw03_Flip.l1]
        rw [er, if_neg hrr, e8, eq, if_pos hq0, if_pos hq1, ed, ew, Int.toNat_natCast]
        have erd : rd x (((at_ + i) / 8 : Nat) : Int) = x.getD ((at_ + i) / 8) 0 := by unfold rd; rw [Int.toNat_natCast]
        rw [erd]
        exact g4
    · have c0 : m % 2 = 0 := by omega
      have hi100 : i ≤ 100 := by omega
      have hi32 : (i : Int) < 32 := by omega
      obtain ⟨x', g1, g2, g3, ⟨g5, g6⟩, g4⟩ := ih k (i + 1) (m / 2) x (by omega) hm0 hm2 (by omega) hb hx hx2 hx6
      refine ⟨x', g1, g2, ?_, ?_, ?_⟩
      · rw [g3, hT, c0, V0, Tn_zero, BitVec.xor_zero]
      · by_cases hc : 48 ≤ at_ + i
        · have z1 : 48 - (at_ + i) = 0 := by omega
          have z2 : 48 - (at_ + (i + 1)) = 0 := by omega
          rw [z2, mod_one_pow] at g5 g6
          rw [z1, mod_one_pow]
          exact ⟨g5, g6⟩
        · have z1 : 48 - (at_ + i) = (48 - (at_ + (i + 1))) + 1 := by omega
          refine ⟨?_, fun hz => ?_⟩
          · rw [g5, z1, mask_step m h0 hm32, c0, V0, Tn_zero, BitVec.xor_zero]
          · rw [z1] at hz
            exact g6 (mask_zero m _ hz).2
      · have em : Int.tmod m 2 = m % 2 := Int.tmod_eq_emod_of_nonneg h0
        have ed := half_m m h0 hm32
        have ew := next_i i hi100
        simp only [foliatelaw03_Flip.l0]
        rw [if_pos hi32, em, if_neg c, ed, ew]
        exact g4
theorem xor_same {a e : Wd} (h : a = a ^^^ e) : e = 0#32 := by
  have := congrArg (fun z => a ^^^ z) h
  simp only [← BitVec.xor_assoc, BitVec.xor_self, BitVec.zero_xor] at this
  exact this.symm
theorem V_zero {m : Int} (h0 : 0 ≤ m) (h : m < 4294967296) (hv : V m = 0#32) : m = 0 := by
  have := V_nat m h0 h
  rw [hv] at this
  simp at this
  omega
/-- bytes that differ from a frame's by a mask within 32 bits are no frame's, whatever stands behind -/
theorem burst_bad {a : Int} {b r x' : List Int} (h0 : 0 ≤ a) (h1 : a ≤ 255) (h2 : b.length ≤ 255) (hb : Bytes b) (m : Int) (m0 : 0 ≤ m) (m1 : m < 4294967296) (hm : m ≠ 0) (at_ N : Nat) (g1 : x'.length = (frameB a b).length) (g2 : Bytes x')
    (g3 : G All1 x' = G All1 (frameB a b) ^^^ Tn N (V m)) (g5 : G All1 (x'.take 6) = G All1 ((frameB a b).take 6) ^^^ Tn (48 - at_) (V (m % 2 ^ (48 - at_)))) (g6 : m % 2 ^ (48 - at_) = 0 → x'.take 6 = (frameB a b).take 6) :
    getP (x' ++ r) = (0, [], 0, 3) := by
  have hl := frameB_length a b
  have hs6 : (sealed [a, (b.length : Int)]).length = 6 := by rw [sealed_length]; rfl
  have hsl := sealed_length b
  have et : (frameB a b).take 6 = sealed [a, (b.length : Int)] := by
    unfold frameB; rw [List.take_append_of_le_length (by omega), List.take_of_length_le (by omega)]
  have hhead : Bytes (sealed [a, (b.length : Int)]) := sealed_bytes (fun x hx => by
    simp only [List.mem_cons, List.not_mem_nil, or_false] at hx
    rcases hx with rfl | rfl <;> omega)
  have gh := ((good_iff hhead).1 (sealed_good _)).2
  have gs := ((good_iff (sealed_bytes hb)).1 (sealed_good _)).2
  have ex : (x' ++ r).take 6 = x'.take 6 := List.take_append_of_le_length (by omega)
  by_cases c : goodB (x'.take 6) = true
  · have c2 := ((good_iff (g2.take 6)).1 c).2
    rw [et, gh, c2] at g5
    have z := xor_same g5
    have z2 : V (m % 2 ^ (48 - at_)) = 0#32 := Tn_inj _ (z.trans (Tn_zero _).symm)
    have z3 := V_zero (Int.emod_nonneg _ (Int.ne_of_gt (pow_pos' _))) (Int.lt_of_le_of_lt (mod_le_self m _ m0) m1) z2
    have z4 := g6 z3
    rw [et] at z4
    have hx : x' = sealed [a, (b.length : Int)] ++ x'.drop 6 := by rw [← z4, List.take_append_drop]
    have hsd : (x'.drop 6).length = b.length + 4 := by rw [List.length_drop]; omega
    have e1 : (x' ++ r).getD 1 0 = (b.length : Int) := by rw [hx]; rfl
    have ed : (x' ++ r).drop 6 = x'.drop 6 ++ r := List.drop_append_of_le_length (by omega)
    have ep : partP (x' ++ r) 2 = 0 := by
      unfold partP
      rw [if_neg (by rw [List.length_append]; omega), ex, c]; rfl
    have nb : goodB (x'.drop 6) = false := by
      cases hgx : goodB (x'.drop 6) with
      | false => rfl
      | true =>
        exfalso
        have q1 := ((good_iff (g2.drop 6)).1 hgx).2
        have ef : frameB a b = sealed [a, (b.length : Int)] ++ sealed b := rfl
        have s1 : Residue = All1 ^^^ (All1 ^^^ Residue) := by rw [← BitVec.xor_assoc, BitVec.xor_self, BitVec.zero_xor]
        have q2 : G All1 x' = Residue ^^^ Tn (8 * (b.length + 4)) (All1 ^^^ Residue) := by
          rw [hx, G_append, gh]
          conv => lhs; rw [s1]
          rw [G_state, q1, hsd]
        have q3 : G All1 (frameB a b) = Residue ^^^ Tn (8 * (b.length + 4)) (All1 ^^^ Residue) := by
          rw [ef, G_append, gh]
          conv => lhs; rw [s1]
          rw [G_state, gs, hsl]
        rw [q2, q3] at g3
        have q4 := xor_same g3
        have q5 : V m = 0#32 := Tn_inj _ (q4.trans (Tn_zero _).symm)
        exact hm (V_zero m0 m1 q5)
    have ep2 : partP (x'.drop 6 ++ r) b.length = 3 := by
      unfold partP
      rw [if_neg (by rw [List.length_append]; omega), List.take_append_of_le_length (by omega), List.take_of_length_le (by omega), nb]; rfl
    unfold getP
    rw [if_pos ep, e1, ed, Int.toNat_natCast, ep2, if_neg (by decide)]
  · have ep : partP (x' ++ r) 2 = 3 := by
      unfold partP
      rw [if_neg (by rw [List.length_append]; omega), ex, if_neg c]
    unfold getP
    rw [ep, if_neg (by decide)]
/-! a mask laid over a part of what is longer -/
def flipQ : Nat → Int → Nat → List Int → Nat → List Int
  | 0, _, _, x, _ => x
  | d + 1, m, at_, x, i => flipQ d (m / 2) at_ (if m % 2 = 1 then x.set ((at_ + i) / 8) (Go.bits .xor .u8 (x.getD ((at_ + i) / 8) 0) (2 ^ ((at_ + i) % 8))) else x) (i + 1)
theorem set_mid (A x B : List Int) (q : Nat) (v : Int) (h : q < x.length) : (A ++ x ++ B).set (A.length + q) v = A ++ x.set q v ++ B := by
  rw [List.append_assoc, List.set_append_right _ _ (by omega), Nat.add_sub_cancel_left, List.set_append_left _ _ h, List.append_assoc]
theorem get_mid (A x B : List Int) (q : Nat) (h : q < x.length) : (A ++ x ++ B).getD (A.length + q) 0 = x.getD q 0 := by
  rw [List.getD_eq_getElem?_getD, List.getD_eq_getElem?_getD, List.append_assoc, List.getElem?_append_right (by omega), Nat.add_sub_cancel_left, List.getElem?_append_left h]
theorem flipQ_mid (A B : List Int) : ∀ (d : Nat) (m : Int) (at_ : Nat) (x : List Int) (i : Nat), at_ + i + d ≤ 8 * x.length → flipQ d m (8 * A.length + at_) (A ++ x ++ B) i = A ++ flipQ d m at_ x i ++ B
  | 0, _, _, _, _, _ => rfl
  | d + 1, m, at_, x, i, h => by
    unfold flipQ
    have e1 : (8 * A.length + at_ + i) / 8 = A.length + (at_ + i) / 8 := by omega
    have e2 : (8 * A.length + at_ + i) % 8 = (at_ + i) % 8 := by omega
    have hq : (at_ + i) / 8 < x.length := by omega
    rw [e1, e2, get_mid A x B _ hq, set_mid A x B _ _ hq]
    by_cases c : m % 2 = 1
    · rw [if_pos c, if_pos c]
      exact flipQ_mid A B d (m / 2) at_ _ (i + 1) (by rw [List.length_set]; omega)
    · rw [if_neg c, if_neg c]
      exact flipQ_mid A B d (m / 2) at_ _ (i + 1) (by omega)
theorem place' (n i : Nat) (h : n + i ≤ 1000000) : wrap64 ((n : Int) + i) = ((n + i : Nat) : Int) := by unfold wrap64; omega
theorem place8' (p : Nat) (h : p ≤ 1000000) : wrap64 (Int.tdiv ((p : Nat) : Int) 8) = ((p / 8 : Nat) : Int) := by
  rw [Int.tdiv_eq_ediv_of_nonneg (by omega)]
  unfold wrap64; omega
theorem rest8' (n i : Nat) (h : n + i ≤ 1000000) : Int.tmod (wrap64 ((n : Int) + i)) 8 = (((n + i) % 8 : Nat) : Int) := by
  rw [place' n i h, Int.tmod_eq_emod_of_nonneg (by omega)]; omega
theorem flip_run (d : Nat) : ∀ (k : Nat) (m : Int) (at_ : Nat) (x : List Int) (i : Nat), i + d = 32 → 0 ≤ m → m < 4294967296 → 12 * d + 10 ≤ k → at_ + 32 ≤ 8 * x.length → x.length ≤ 20000 →
    foliatelaw03_Flip.l0 k m (at_ : Int) x (i : Int) = some (flipQ d m at_ x i) := by
  induction d with
  | zero =>
    intro k m at_ x i hi _ _ hk _ _
    obtain ⟨k, rfl⟩ : ∃ n, k = n + 1 := ⟨k - 1, by omega⟩
    have h32 : ¬ (i : Int) < 32 := by omega
    simp only [foliatelaw03_Flip.l0]
    rw [if_neg h32]
    rfl
  | succ d ih =>
    intro k m at_ x i hi m0 m1 hk hx hx2
    obtain ⟨k, rfl⟩ : ∃ n, k = n + 1 := ⟨k - 1, by omega⟩
    have hai : at_ + i ≤ 1000000 := by omega
    have hi100 : i ≤ 100 := by omega
    have hm0 : 0 ≤ m / 2 := by omega
    have hm1 : m / 2 < 4294967296 := by omega
    have hi32 : (i : Int) < 32 := by omega
    have hrr : ¬ (((at_ + i) % 8 : Nat) : Int) < (((at_ + i) % 8 : Nat) : Int) := Int.lt_irrefl _
    have hq0 : (0 : Int) ≤ (((at_ + i) / 8 : Nat) : Int) := Int.natCast_nonneg _
    have hq1 : (((at_ + i) / 8 : Nat) : Int) < (x.length : Int) := by omega
    have hr : (at_ + i) % 8 < 8 := Nat.mod_lt _ (by decide)
    have hkr : (at_ + i) % 8 < k := by omega
    have hi2 : i + 1 + d = 32 := by omega
    have hk1 : 12 * d + 10 ≤ k := by omega
    have hz : ((0 : Nat) : Int) + (((at_ + i) % 8 : Nat) : Int) = (((at_ + i) % 8 : Nat) : Int) := by omega
    have hr0 : 0 + (at_ + i) % 8 < 8 := by omega
    obtain ⟨k2, hk2⟩ : ∃ n, k - (at_ + i) % 8 = n + 1 := ⟨k - (at_ + i) % 8 - 1, by omega⟩
    have hk3 : 12 * d + 10 ≤ k2 := by omega
    have em : Int.tmod m 2 = m % 2 := Int.tmod_eq_emod_of_nonneg m0
    have ed := half_m m m0 m1
    have ew := next_i i hi100
    have e8 := place' at_ i hai
    have eq := place8' (at_ + i) hai
    have er := rest8' at_ i hai
    have step : flipQ (d + 1) m at_ x i = flipQ d (m / 2) at_ (if m % 2 = 1 then x.set ((at_ + i) / 8) (Go.bits .xor .u8 (x.getD ((at_ + i) / 8) 0) (2 ^ ((at_ + i) % 8))) else x) (i + 1) := rfl
    rw [step]
    by_cases c : m % 2 = 1
    · have hl := two_pow_byte ((at_ + i) % 8) k m (at_ : Int) x (i : Int) 0 (((at_ + i) % 8 : Nat) : Int) hz.symm hr0 er.symm hkr
      have hl' : foliatelaw03_Flip.l1 k m (at_ : Int) x (i : Int) 1 0 = foliatelaw03_Flip.l1 (k - (at_ + i) % 8) m (at_ : Int) x (i : Int) (2 ^ ((at_ + i) % 8)) (((at_ + i) % 8 : Nat) : Int) := by
        rw [Nat.zero_add] at hl
        exact hl
      have erd : rd x (((at_ + i) / 8 : Nat) : Int) = x.getD ((at_ + i) / 8) 0 := by unfold rd; rw [Int.toNat_natCast]
      have ih2 := ih k2 (m / 2) at_ (x.set ((at_ + i) / 8) (Go.bits .xor .u8 (x.getD ((at_ + i) / 8) 0) (2 ^ ((at_ + i) % 8)))) (i + 1) hi2 hm0 hm1 hk3 (by rw [List.length_set]; exact hx) (by rw [List.length_set]; exact hx2)
      rw [if_pos c, ← ih2]
      clear ih ih2 step
      simp only [foliatelaw03_Flip.l0]
      rw [if_pos hi32, em, if_pos c, hl', hk2]
      simp only [foliatelaw03_Flip.l1]
      rw [er, if_neg hrr, e8, eq, if_pos hq0, if_pos hq1, ed, ew, Int.toNat_natCast, erd]
    · have ih2 := ih k (m / 2) at_ x (i + 1) hi2 hm0 hm1 hk1 hx hx2
      rw [if_neg c, ← ih2]
      clear ih ih2 step
      simp only [foliatelaw03_Flip.l0]
      rw [if_pos hi32, em, if_neg c, ed, ew]
/-- One frame's bytes, of which some of 32 bits are others, among other bytes: no frame is read there. -/
theorem burst_mid {a : Int} {b A r : List Int} (h0 : 0 ≤ a) (h1 : a ≤ 255) (h2 : b.length ≤ 255) (hb : Bytes b) (m : Int) (m0 : 0 ≤ m) (m1 : m < 4294967296) (hm : m ≠ 0) (at_ : Nat) (hat : at_ + 32 ≤ 8 * (frameB a b).length) (hl : (A ++ frameB a b ++ r).length ≤ 20000) (k : Nat) (hk : 1000 ≤ k) :
    ∃ x', x'.length = (frameB a b).length ∧ Bytes x' ∧ getP (x' ++ r) = (0, [], 0, 3) ∧ foliatelaw03_Flip.f k (A ++ frameB a b ++ r) m ((8 * A.length + at_ : Nat) : Int) = some (A ++ x' ++ r) := by
  have hfl := frameB_length a b
  obtain ⟨x', g1, g2, g3, ⟨g5, g6⟩, g4⟩ := flip_loop at_ 32 k 0 m (frameB a b) (by omega) m0 (by simpa using m1) (by omega) (frame_bytes h0 h1 h2 hb) hat (by omega) (by omega)
  have e1 := flip_run 32 k m at_ (frameB a b) 0 (by omega) m0 m1 (by omega) hat (by omega)
  rw [e1] at g4
  have e2 := flip_run 32 k m (8 * A.length + at_) (A ++ frameB a b ++ r) 0 (by omega) m0 m1 (by omega) (by rw [List.length_append, List.length_append]; omega) hl
  rw [flipQ_mid A r 32 m at_ (frameB a b) 0 (by omega), Option.some.inj g4] at e2
  refine ⟨x', g1, g2, burst_bad h0 h1 h2 hb m m0 m1 hm at_ _ g1 g2 g3 (by simpa using g5) (by simpa using g6), ?_⟩
  unfold foliatelaw03_Flip.f
  rw [if_pos (by rw [List.length_nil]; omega), List.nil_append]
  exact e2
end Go.Proofs.YtknkncdlcoglpaaDoor.Flip
