/- For every row of bytes, every mask of 32 bits that is not 0 and every place from which 32 bits lie in the sealed row: the sealed row is good, and with the mask laid over it from that place on, bit by bit, it is not. Rows of more than 300 bytes, the mask 0 and places beyond are answered as the law itself says. -/
import Derived.Test.YtkcleflejkkabaaCrcAwake
import Derived.Test.YtkcleflejkkabaaPAllx5
namespace Go.Proofs.Ytkcleflejkkabaa.Pure
open Go.RowKit Go.Proofs.Ytkcleflejkkabaa.PAll Go.Proofs.YtkcleflejkkabaaW.PrintWords Go.Proofs.YtkcleflejkkabaaW.PrintLast Go.Proofs.Ytkcleflejkkabaa.Bits32 Go.Proofs.Ytkcleflejkkabaa.Crc
theorem two_pow_byte : ∀ (d : Nat) (k : Nat) (x1 x2 : Int) (x : List Int) (i : Int) (r : Nat) (t : Int), t = (r : Int) + d → r + d < 8 → t = Int.tmod (wrap64 (x2 + i)) 8 → d < k →
    foliatelaw02_CrcBurst.l1 k x1 x2 x i (2 ^ r) (r : Int) = foliatelaw02_CrcBurst.l1 (k - d) x1 x2 x i (2 ^ (r + d)) t
  | 0, k, x1, x2, x, i, r, t, ht, _, _, _ => by rw [ht]; simp
  | d + 1, k, x1, x2, x, i, r, t, ht, h8, hm, hk => by
    obtain ⟨k, rfl⟩ : ∃ m, k = m + 1 := ⟨k - 1, by omega⟩
    have ew : wrap64 ((r : Int) + 1) = ((r + 1 : Nat) : Int) := by unfold wrap64; omega
    have ep : (2 * (2 : Int) ^ r) % 256 = 2 ^ (r + 1) := by
      have h7 : r = 0 ∨ r = 1 ∨ r = 2 ∨ r = 3 ∨ r = 4 ∨ r = 5 ∨ r = 6 := by omega
      rcases h7 with rfl | rfl | rfl | rfl | rfl | rfl | rfl <;> rfl
    have e1 : k + 1 - (d + 1) = k - d := by omega
    have e2 : r + (d + 1) = (r + 1) + d := by omega
    conv => lhs; simp only [foliatelaw02_CrcBurst.l1]
    rw [if_pos (by omega), ep, ew, e1, e2]
    exact two_pow_byte d k x1 x2 x i (r + 1) t (by omega) (by omega) hm (by omega)
theorem up_one (r : Nat) (h : r < 8) : B (2 ^ r) = (1#32 : Wd) <<< r := by
  have h7 : r = 0 ∨ r = 1 ∨ r = 2 ∨ r = 3 ∨ r = 4 ∨ r = 5 ∨ r = 6 ∨ r = 7 := by omega
  rcases h7 with rfl | rfl | rfl | rfl | rfl | rfl | rfl | rfl <;> decide
theorem flip_one (l : List Int) (p : Nat) (h : p / 8 < l.length) (s : Wd) :
    G s (l.set (p / 8) (Go.bits .xor .u8 (l.getD (p / 8) 0) (2 ^ (p % 8)))) = G s l ^^^ Tn (8 * l.length - p) 1#32 := by
  have hp : p % 8 < 8 := Nat.mod_lt _ (by decide)
  have e : 8 * (l.length - p / 8) = p % 8 + (8 * l.length - p) := by omega
  have h1 : (1#32 : Wd).toNat * 2 ^ (p % 8) < 2 ^ 32 := by
    have : 2 ^ (p % 8) ≤ 2 ^ 7 := Nat.pow_le_pow_right (by decide) (by omega)
    have e1 : (1#32 : Wd).toNat = 1 := rfl
    rw [e1]; omega
  rw [G_set _ l _ s h, up_one _ hp, e, Tn_add, Tn_up _ _ h1]
theorem bytes_flip {l : List Int} (h : Bytes l) (i : Nat) (a b : Int) : Bytes (l.set i (Go.bits .xor .u8 a b)) := fun x hx => by
  rcases List.mem_or_eq_of_mem_set hx with h1 | h1
  · exact h x h1
  · have := PAll.xor8_range a b
    omega
theorem half_m (m : Int) (h0 : 0 ≤ m) (h : m < 4294967296) : (Int.tdiv m 2) % 4294967296 = m / 2 := by
  rw [Int.tdiv_eq_ediv_of_nonneg h0]; omega
theorem next_i (i : Nat) (h : i ≤ 100) : wrap64 ((i : Int) + 1) = ((i + 1 : Nat) : Int) := by unfold wrap64; omega
theorem place (n i : Nat) (h : n + i ≤ 10000) : wrap64 ((n : Int) + i) = ((n + i : Nat) : Int) := by unfold wrap64; omega
theorem place8 (p : Nat) (h : p ≤ 10000) : wrap64 (Int.tdiv ((p : Nat) : Int) 8) = ((p / 8 : Nat) : Int) := by
  rw [Int.tdiv_eq_ediv_of_nonneg (by omega)]
  unfold wrap64; omega
theorem rest8 (n i : Nat) (h : n + i ≤ 10000) : Int.tmod (wrap64 ((n : Int) + i)) 8 = (((n + i) % 8 : Nat) : Int) := by
  rw [place n i h, Int.tmod_eq_emod_of_nonneg (by omega)]; omega
theorem pow_le32 (d : Nat) (h : d ≤ 32) : (2 : Int) ^ d ≤ 4294967296 := by
  have h2 : (2 : Nat) ^ d ≤ 2 ^ 32 := Nat.pow_le_pow_right (by decide) h
  have h3 : ((2 ^ d : Nat) : Int) ≤ ((2 ^ 32 : Nat) : Int) := Int.ofNat_le.mpr h2
  simpa using h3
theorem burst_loop (at_ : Nat) (d : Nat) : ∀ (k i : Nat) (m : Int) (x : List Int), i + d = 32 → 0 ≤ m → m < 2 ^ d → 12 * d + 10 ≤ k → Bytes x → at_ + 32 ≤ 8 * x.length → x.length ≤ 304 →
    ∃ x', x'.length = x.length ∧ Bytes x' ∧ G All1 x' = G All1 x ^^^ Tn (8 * x.length - at_ - i) (V m) ∧ foliatelaw02_CrcBurst.l0 k m (at_ : Int) x (i : Int) = some (!goodB x') := by
  induction d with
  | zero =>
    intro k i m x hi h0 h1 hk hb hx hx2
    obtain ⟨k, rfl⟩ : ∃ n, k = n + 1 := ⟨k - 1, by omega⟩
    have hm : m = 0 := by simp at h1; omega
    subst hm
    refine ⟨x, rfl, hb, ?_, ?_⟩
    · have : V 0 = 0#32 := rfl
      rw [this, Tn_zero, BitVec.xor_zero]
    · simp only [foliatelaw02_CrcBurst.l0]
      rw [if_neg (by omega), good_eq _ k (by omega) (by omega)]
      rfl
  | succ d ih =>
    intro k i m x hi h0 h1 hk hb hx hx2
    have hd : (2 : Int) ^ (d + 1) = 2 * 2 ^ d := by rw [Int.pow_succ, Int.mul_comm]
    have hm32 : m < 4294967296 := Int.lt_of_lt_of_le h1 (pow_le32 (d + 1) (by omega))
    have hm2 : m / 2 < 2 ^ d := by
      generalize (2 : Int) ^ d = q at hd ⊢
      rw [hd] at h1
      omega
    clear hd h1
    have hT : Tn (8 * x.length - at_ - i) (V m) = Tn (8 * x.length - at_ - (i + 1)) (V (m / 2)) ^^^ Tn (8 * x.length - (at_ + i)) (V (m % 2)) := by
      have e1 : 8 * x.length - at_ - i = (8 * x.length - at_ - (i + 1)) + 1 := by omega
      have e2 : 8 * x.length - (at_ + i) = (8 * x.length - at_ - (i + 1)) + 1 := by omega
      rw [e1, e2]
      simp only [Tn]
      rw [V_bit m h0 hm32, Tn_xor]
    obtain ⟨k, rfl⟩ : ∃ n, k = n + 1 := ⟨k - 1, by omega⟩
    have hm0 : 0 ≤ m / 2 := by omega
    by_cases c : m % 2 = 1
    · have hp : (at_ + i) / 8 < x.length := by omega
      have hai : at_ + i ≤ 10000 := by omega
      have hi100 : i ≤ 100 := by omega
      have hi32 : (i : Int) < 32 := by omega
      have hr : (at_ + i) % 8 < 8 := Nat.mod_lt _ (by decide)
      have hrr : ¬ (((at_ + i) % 8 : Nat) : Int) < (((at_ + i) % 8 : Nat) : Int) := by omega
      have hq0 : (0 : Int) ≤ (((at_ + i) / 8 : Nat) : Int) := by omega
      have hq1 : (((at_ + i) / 8 : Nat) : Int) < (x.length : Int) := by omega
      have hkr : (at_ + i) % 8 < k := by omega
      obtain ⟨k2, hk2⟩ : ∃ n, k - (at_ + i) % 8 = n + 1 := ⟨k - (at_ + i) % 8 - 1, by omega⟩
      obtain ⟨x', g1, g2, g3, g4⟩ := ih k2 (i + 1) (m / 2) (x.set ((at_ + i) / 8) (Go.bits .xor .u8 (x.getD ((at_ + i) / 8) 0) (2 ^ ((at_ + i) % 8)))) (by omega) hm0 hm2 (by omega) (bytes_flip hb _ _ _) (by simpa using hx) (by simpa using hx2)
      have hz : ((0 : Nat) : Int) + (((at_ + i) % 8 : Nat) : Int) = (((at_ + i) % 8 : Nat) : Int) := by omega
      have hl := two_pow_byte ((at_ + i) % 8) k m (at_ : Int) x (i : Int) 0 (((at_ + i) % 8 : Nat) : Int) hz.symm (by omega) (rest8 at_ i hai).symm hkr
      refine ⟨x', by simpa using g1, g2, ?_, ?_⟩
      · have e1 : V 1 = 1#32 := by decide
        rw [g3, hT, c, e1, flip_one x (at_ + i) hp, List.length_set, BitVec.xor_assoc, BitVec.xor_comm (Tn (8 * x.length - (at_ + i)) 1#32)]
      · have em : Int.tmod m 2 = m % 2 := Int.tmod_eq_emod_of_nonneg h0
        have ed := half_m m h0 hm32
        have ew := next_i i hi100
        have e8 := place at_ i hai
        have eq := place8 (at_ + i) hai
        have er := rest8 at_ i hai
        simp only [foliatelaw02_CrcBurst.l0]
        rw [if_pos hi32, em, if_pos c]
        have hl' : foliatelaw02_CrcBurst.l1 k m (at_ : Int) x (i : Int) 1 0 = foliatelaw02_CrcBurst.l1 (k - (at_ + i) % 8) m (at_ : Int) x (i : Int) (2 ^ ((at_ + i) % 8)) (((at_ + i) % 8 : Nat) : Int) := by
          rw [Nat.zero_add] at hl
          exact hl
        rw [hl', hk2]
        simp only [foliatelaw02_CrcBurst.l1]
        rw [er, if_neg hrr, e8, eq, if_pos hq0, if_pos hq1, ed, ew, Int.toNat_natCast]
        have erd : rd x (((at_ + i) / 8 : Nat) : Int) = x.getD ((at_ + i) / 8) 0 := by unfold rd; rw [Int.toNat_natCast]
        rw [erd]
        exact g4
    · have c0 : m % 2 = 0 := by omega
      have hi100 : i ≤ 100 := by omega
      have hi32 : (i : Int) < 32 := by omega
      obtain ⟨x', g1, g2, g3, g4⟩ := ih k (i + 1) (m / 2) x (by omega) hm0 hm2 (by omega) hb hx hx2
      refine ⟨x', g1, g2, ?_, ?_⟩
      · have : V 0 = 0#32 := rfl
        rw [g3, hT, c0, this, Tn_zero, BitVec.xor_zero]
      · have em : Int.tmod m 2 = m % 2 := Int.tmod_eq_emod_of_nonneg h0
        have ed := half_m m h0 hm32
        have ew := next_i i hi100
        simp only [foliatelaw02_CrcBurst.l0]
        rw [if_pos hi32, em, if_neg c, ed, ew]
        exact g4
theorem CrcBurst : foliatelaw02_CrcBurst.Pure := by
  intro l0 a1 a2 _ _ hw w1 w2
  obtain ⟨p0, p1⟩ := u32_of w1
  have hb := bytes_of hw
  refine ⟨600, ?_⟩
  unfold foliatelaw02_CrcBurst.f
  rw [awake 600 (by omega)]
  simp only [obind, if_true]
  by_cases c0 : (l0.length : Int) > 300
  · rw [if_pos c0]; simp [foliatelaw02_CrcBurst.j0]
  rw [if_neg c0]
  by_cases c1 : a1 = 0
  · simp [foliatelaw02_CrcBurst.j0, c1]
  have e1 : (a1 == 0) = false := by simpa using c1
  have hl := sealed_length l0
  have hg := sealed_good l0
  have hsb := sealed_bytes hb
  have e2 : wrap64 (wrap64 (8 * ((sealed l0).length : Int)) - 32) = 8 * ((sealed l0).length : Int) - 32 := by unfold wrap64; omega
  have fin : ∀ x1 x2, foliatelaw02_CrcBurst.j1 599 x1 x2 (sealed l0) true = some true := by
    intro x1 x2
    simp only [foliatelaw02_CrcBurst.j1, if_true]
    rw [good_eq _ 598 (by omega) (by omega), hg]; rfl
  simp only [foliatelaw02_CrcBurst.j0, e1, Bool.false_eq_true, if_false]
  rw [seal_eq _ (by omega)]
  simp only [obind]
  rw [good_eq _ 599 (by omega) (by omega), hg]
  simp only [obind, if_true]
  by_cases c2 : a2 < 0
  · rw [if_pos c2]; exact fin _ _
  rw [if_neg c2, e2]
  by_cases c3 : a2 > 8 * ((sealed l0).length : Int) - 32
  · rw [decide_eq_true c3]; exact fin _ _
  · rw [decide_eq_false c3]
    simp only [foliatelaw02_CrcBurst.j1, Bool.false_eq_true, if_false, List.nil_append, List.length_nil, Nat.zero_add]
    rw [if_pos (by omega)]
    obtain ⟨n, rfl⟩ := Int.eq_ofNat_of_zero_le (show 0 ≤ a2 by omega)
    obtain ⟨x', g1, g2, g3, g4⟩ := burst_loop n 32 598 0 a1 (sealed l0) (by omega) p0 (by simpa using p1) (by omega) hsb (by omega) (by omega)
    have g4' : foliatelaw02_CrcBurst.l0 598 a1 (n : Int) (sealed l0) 0 = some (!goodB x') := g4
    rw [g4']
    have hbad : goodB x' = false := by
      cases hgx : goodB x' with
      | false => rfl
      | true =>
        have r1 := ((good_iff g2).1 hgx).2
        have r2 := ((good_iff hsb).1 hg).2
        rw [r1, r2] at g3
        have := congrArg (fun z => Residue ^^^ z) g3
        simp only [← BitVec.xor_assoc, BitVec.xor_self, BitVec.zero_xor] at this
        have hz := Tn_inj _ ((Tn_zero _).trans this)
        have := V_nat a1 p0 p1
        rw [← hz] at this
        simp at this
        omega
    rw [hbad]; rfl
end Go.Proofs.Ytkcleflejkkabaa.Pure
