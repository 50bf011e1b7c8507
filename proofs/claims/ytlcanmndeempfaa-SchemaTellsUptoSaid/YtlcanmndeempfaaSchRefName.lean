import Derived.Test.YtlcanmndeempfaaSchRef
import Derived.Test.YtlcanmndeempfaaPAllx12
import Derived.Lib.DecodeN
namespace Go.Proofs.Ytlcanmndeempfaa.Sch
open Go.RowKit Go.Proofs.Ytlcanmndeempfaa.PAll Go.Proofs.YtlcanmndeempfaaW.PrintWords Go.Proofs.YtlcanmndeempfaaW.PrintLast
open Go.Lib (decodeN decode_at)
/-! The document's own answer: a text's signs, and which texts are names. -/
theorem w64s (x : Int) (h0 : -9223372036854775808 ≤ x) (h1 : x < 9223372036854775808) : wrap64 x = x := by unfold wrap64; omega
theorem bt_get (s : ByteArray) (i : Nat) (h : i < s.size) : bt s (i : Int) = ((s.get! i).toNat : Int) := by
  unfold bt
  rw [Int.toNat_natCast, dif_pos h]
  congr 2
  show s.data[i] = s.data[i]!
  exact (getElem!_pos s.data i h).symm
theorem sg_step (k : Nat) (s : ByteArray) (n low c b : Int) (i : Nat) (hb : bt s (i : Int) = b) (hi : (i : Int) < n) (hs : i < s.size) (h0 : 128 ≤ b) (h1 : b ≤ 191) (c0 : 0 ≤ c) (c1 : c < 1000000000) (hi9 : i < 10) :
    foliateref05_sign.l0 (k + 1) s n low c (i : Int) = foliateref05_sign.l0 k s n low (64 * c + b - 128) ((i + 1 : Nat) : Int) := by
  rw [foliateref05_sign.l0.eq_2, if_pos hi, if_pos (by omega), if_pos (by omega), hb, if_neg (by omega), if_neg (by omega), w64s (64 * c) (by omega) (by omega), w64s b (by omega) (by omega), w64s (64 * c + b) (by omega) (by omega), w64s _ (by omega) (by omega), w64s ((i : Int) + 1) (by omega) (by omega)]
  rfl
theorem sg_bad (k : Nat) (s : ByteArray) (n low c b : Int) (i : Nat) (hb : bt s (i : Int) = b) (hi : (i : Int) < n) (hs : i < s.size) (h : b < 128 ∨ 191 < b) : foliateref05_sign.l0 (k + 1) s n low c (i : Int) = some (65533, 1) := by
  rw [foliateref05_sign.l0.eq_2, if_pos hi, if_pos (by omega), if_pos (by omega), hb]
  by_cases h0 : b < 128
  · rw [if_pos h0]
  · rw [if_neg h0, if_pos (by omega)]
theorem sg_end (k : Nat) (s : ByteArray) (n low c i : Int) (hi : ¬ i < n) : foliateref05_sign.l0 (k + 1) s n low c i = if c < low ∨ 1114111 < c ∨ (55296 ≤ c ∧ c ≤ 57343) then some (65533, 1) else some (c, n) := by
  rw [foliateref05_sign.l0.eq_2, if_neg hi]
  by_cases h0 : c < low
  · rw [if_pos h0, if_pos (.inl h0)]
  · rw [if_neg h0]
    by_cases h1 : c > 1114111
    · rw [if_pos h1, if_pos (.inr (.inl h1))]
    · rw [if_neg h1]
      by_cases h2 : c ≥ 55296
      · rw [if_pos h2]
        by_cases h3 : c ≤ 57343
        · rw [if_pos h3, if_pos (.inr (.inr ⟨h2, h3⟩))]
        · rw [if_neg h3, if_neg (by omega)]
      · rw [if_neg h2, if_neg (by omega)]
theorem sg_open (k : Nat) (s : ByteArray) (n low c : Int) : foliateref05_sign.j5 (k + 1 + 1) s n low c = if n = 0 ∨ (s.size : Int) < n then some (65533, 1) else foliateref05_sign.l0 k s n low c 1 := by
  rw [foliateref05_sign.j5.eq_2]
  by_cases h0 : n = 0
  · rw [if_pos h0, foliateref05_sign.j6.eq_2, if_pos rfl, if_pos (.inl h0)]
  · rw [if_neg h0, foliateref05_sign.j6.eq_2]
    by_cases h1 : (s.size : Int) < n
    · rw [decide_eq_true h1, if_pos rfl, if_pos (.inr h1)]
    · rw [decide_eq_false h1, if_neg (by decide), if_neg (by omega)]
/-- what the first byte says -/
theorem sg_head (k : Nat) (s : ByteArray) (b : Int) (h0 : 0 < s.size) (hb : bt s 0 = b) (hlo : 0 ≤ b) (hhi : b < 256) : foliateref05_sign.f (k + 1 + 1 + 1 + 1 + 1) s =
    if b < 128 then some (b, 1) else if 194 ≤ b ∧ b < 224 then foliateref05_sign.j5 k s 2 128 (b - 192) else if 224 ≤ b ∧ b < 240 then foliateref05_sign.j5 k s 3 2048 (b - 224) else if 240 ≤ b ∧ b < 245 then foliateref05_sign.j5 k s 4 65536 (b - 240) else foliateref05_sign.j5 k s 0 0 0 := by
  have j4 : ∀ (k : Nat) (x5 x6 x7 : Int) (q : Bool), foliateref05_sign.j4 (k + 1) s b x5 x6 x7 q = if q = true then foliateref05_sign.j5 k s 4 65536 (b - 240) else foliateref05_sign.j5 k s x5 x6 x7 := fun k x5 x6 x7 q => by
    rw [foliateref05_sign.j4.eq_2, w64s (b - 240) (by omega) (by omega)]
  have j3 : ∀ (k : Nat) (x5 x6 x7 : Int), foliateref05_sign.j3 (k + 1 + 1) s b x5 x6 x7 = if 240 ≤ b ∧ b < 245 then foliateref05_sign.j5 k s 4 65536 (b - 240) else foliateref05_sign.j5 k s x5 x6 x7 := fun k x5 x6 x7 => by
    rw [foliateref05_sign.j3.eq_2]
    by_cases h1 : b ≥ 240
    · rw [if_pos h1, j4]
      by_cases h2 : b < 245
      · rw [decide_eq_true h2, if_pos rfl, if_pos ⟨h1, h2⟩]
      · rw [decide_eq_false h2, if_neg (by decide), if_neg (by omega)]
    · rw [if_neg h1, j4, if_neg (by decide), if_neg (by omega)]
  have j2 : ∀ (k : Nat) (x5 x6 x7 : Int) (q : Bool), foliateref05_sign.j2 (k + 1 + 1 + 1) s b x5 x6 x7 q = if q = true then foliateref05_sign.j3 (k + 1 + 1) s b 3 2048 (b - 224) else foliateref05_sign.j3 (k + 1 + 1) s b x5 x6 x7 := fun k x5 x6 x7 q => by
    rw [foliateref05_sign.j2.eq_2, w64s (b - 224) (by omega) (by omega)]
  have j1 : ∀ (k : Nat) (x5 x6 x7 : Int), foliateref05_sign.j1 (k + 1 + 1 + 1 + 1) s b x5 x6 x7 = if 224 ≤ b ∧ b < 240 then foliateref05_sign.j3 (k + 1 + 1) s b 3 2048 (b - 224) else foliateref05_sign.j3 (k + 1 + 1) s b x5 x6 x7 := fun k x5 x6 x7 => by
    rw [foliateref05_sign.j1.eq_2]
    by_cases h1 : b ≥ 224
    · rw [if_pos h1, j2]
      by_cases h2 : b < 240
      · rw [decide_eq_true h2, if_pos rfl, if_pos ⟨h1, h2⟩]
      · rw [decide_eq_false h2, if_neg (by decide), if_neg (by omega)]
    · rw [if_neg h1, j2, if_neg (by decide), if_neg (by omega)]
  have j0 : ∀ (k : Nat) (q : Bool), foliateref05_sign.j0 (k + 1 + 1 + 1 + 1 + 1) s b 0 0 0 q = if q = true then foliateref05_sign.j1 (k + 1 + 1 + 1 + 1) s b 2 128 (b - 192) else foliateref05_sign.j1 (k + 1 + 1 + 1 + 1) s b 0 0 0 := fun k q => by
    rw [foliateref05_sign.j0.eq_2, w64s (b - 192) (by omega) (by omega)]
  unfold foliateref05_sign.f
  rw [if_pos (by omega), hb, w64s b (by omega) (by omega)]
  by_cases c0 : b < 128
  · rw [if_pos c0, if_pos c0]
  rw [if_neg c0, if_neg c0]
  by_cases c1 : b ≥ 194
  · rw [if_pos c1, j0]
    by_cases c2 : b < 224
    · rw [decide_eq_true c2, if_pos rfl, if_pos ⟨c1, c2⟩, j1, if_neg (by omega), j3, if_neg (by omega)]
    · rw [decide_eq_false c2, if_neg (by decide), if_neg (by omega), j1]
      by_cases c3 : b < 240
      · rw [if_pos (by omega), if_pos (by omega), j3, if_neg (by omega)]
      · rw [if_neg (by omega), if_neg (by omega), j3]
  · rw [if_neg c1, j0, if_neg (by decide), if_neg (by omega), j1, if_neg (by omega), if_neg (by omega), j3]
/-- the sign that a text begins by, as it is decoded -/
theorem sign_eq (s : ByteArray) (h0 : 0 < s.size) (k : Nat) (hk : 20 ≤ k) : foliateref05_sign.f k s = some (((Utf8.decode s 0).1 : Int), ((Utf8.decode s 0).2 : Int)) := by
  obtain ⟨k, rfl⟩ : ∃ q, k = q + 1 + 1 + 1 + 1 + 1 + 1 + 1 + 1 + 1 + 1 + 1 + 1 := ⟨k - 12, by omega⟩
  obtain ⟨b0, e0⟩ : ∃ b, b = (s.get! 0).toNat := ⟨_, rfl⟩
  obtain ⟨b1, e1⟩ : ∃ b, b = (s.get! 1).toNat := ⟨_, rfl⟩
  obtain ⟨b2, e2⟩ : ∃ b, b = (s.get! 2).toNat := ⟨_, rfl⟩
  obtain ⟨b3, e3⟩ : ∃ b, b = (s.get! 3).toNat := ⟨_, rfl⟩
  have l0 : b0 < 256 := by rw [e0]; exact UInt8.toNat_lt _
  have l1 : b1 < 256 := by rw [e1]; exact UInt8.toNat_lt _
  have l2 : b2 < 256 := by rw [e2]; exact UInt8.toNat_lt _
  have l3 : b3 < 256 := by rw [e3]; exact UInt8.toNat_lt _
  have g0 : bt s 0 = (b0 : Int) := by rw [e0]; exact bt_get s 0 h0
  have g1 : 1 < s.size → bt s ((1 : Nat) : Int) = (b1 : Int) := fun h => by rw [e1]; exact bt_get s 1 h
  have g2 : 2 < s.size → bt s ((2 : Nat) : Int) = (b2 : Int) := fun h => by rw [e2]; exact bt_get s 2 h
  have g3 : 3 < s.size → bt s ((3 : Nat) : Int) = (b3 : Int) := fun h => by rw [e3]; exact bt_get s 3 h
  have ed : Utf8.decode s 0 = decodeN s.size b0 b1 b2 b3 := by rw [decode_at, e0, e1, e2, e3, Nat.sub_zero]
  rw [ed, sg_head _ s b0 h0 g0 (by omega) (by omega)]
  clear e0 e1 e2 e3 ed g0
  obtain ⟨n, hn⟩ : ∃ n, n = s.size := ⟨_, rfl⟩
  by_cases c0 : (b0 : Int) < 128
  · rw [if_pos c0]
    have : decodeN s.size b0 b1 b2 b3 = (b0, 1) := by unfold decodeN; rw [if_pos (by omega)]
    rw [this]
    rfl
  rw [if_neg c0]
  by_cases c1 : 194 ≤ (b0 : Int) ∧ (b0 : Int) < 224
  · rw [if_pos c1, sg_open]
    by_cases z : (s.size : Int) < 2
    · rw [if_pos (.inr z)]
      have : decodeN s.size b0 b1 b2 b3 = (65533, 1) := by
        unfold decodeN
        rw [if_neg (by omega), if_neg (by omega), if_neg (by omega), if_neg (by omega)]
      rw [this]
      rfl
    · rw [if_neg (by omega)]
      by_cases c2 : (b1 : Int) < 128 ∨ 191 < (b1 : Int)
      · have := sg_bad (k + 1 + 1 + 1 + 1) s 2 128 (b0 - 192) b1 1 (g1 (by omega)) (by omega) (by omega) c2
        rw [show ((1 : Nat) : Int) = 1 from rfl] at this
        rw [this]
        have : decodeN s.size b0 b1 b2 b3 = (65533, 1) := by
          unfold decodeN
          rw [if_neg (by omega), if_neg (by omega), if_neg (by omega), if_neg (by omega)]
        rw [this]
        rfl
      · have := sg_step (k + 1 + 1 + 1 + 1) s 2 128 (b0 - 192) b1 1 (g1 (by omega)) (by omega) (by omega) (by omega) (by omega) (by omega) (by omega) (by omega)
        rw [show ((1 : Nat) : Int) = 1 from rfl] at this
        rw [this, sg_end _ s 2 128 _ _ (by omega), if_neg (by omega)]
        have : decodeN s.size b0 b1 b2 b3 = (b0 % 32 * 64 + b1 % 64, 2) := by
          unfold decodeN
          rw [if_neg (by omega), if_pos (by omega), if_pos (by omega)]
        rw [this]
        congr 2
        show 64 * ((b0 : Int) - 192) + (b1 : Int) - 128 = ((b0 % 32 * 64 + b1 % 64 : Nat) : Int)
        omega
  rw [if_neg c1]
  by_cases c3 : 224 ≤ (b0 : Int) ∧ (b0 : Int) < 240
  · rw [if_pos c3, sg_open]
    by_cases z : (s.size : Int) < 3
    · rw [if_pos (.inr z)]
      have : decodeN s.size b0 b1 b2 b3 = (65533, 1) := by
        unfold decodeN
        rw [if_neg (by omega), if_neg (by omega), if_neg (by omega), if_neg (by omega)]
      rw [this]
      rfl
    · rw [if_neg (by omega)]
      by_cases c2 : (b1 : Int) < 128 ∨ 191 < (b1 : Int)
      · have := sg_bad (k + 1 + 1 + 1 + 1) s 3 2048 (b0 - 224) b1 1 (g1 (by omega)) (by omega) (by omega) c2
        rw [show ((1 : Nat) : Int) = 1 from rfl] at this
        rw [this]
        have : decodeN s.size b0 b1 b2 b3 = (65533, 1) := by
          unfold decodeN
          rw [if_neg (by omega), if_neg (by omega), if_neg (by omega), if_neg (by omega)]
        rw [this]
        rfl
      · have := sg_step (k + 1 + 1 + 1 + 1) s 3 2048 (b0 - 224) b1 1 (g1 (by omega)) (by omega) (by omega) (by omega) (by omega) (by omega) (by omega) (by omega)
        rw [show ((1 : Nat) : Int) = 1 from rfl] at this
        rw [this]
        by_cases c4 : (b2 : Int) < 128 ∨ 191 < (b2 : Int)
        · rw [show (1 + 1 : Nat) = 2 from rfl, sg_bad _ s 3 2048 _ b2 2 (g2 (by omega)) (by omega) (by omega) c4]
          have : decodeN s.size b0 b1 b2 b3 = (65533, 1) := by
            unfold decodeN
            rw [if_neg (by omega), if_neg (by omega), if_neg (by omega), if_neg (by omega)]
          rw [this]
          rfl
        · rw [show (1 + 1 : Nat) = 2 from rfl, sg_step _ s 3 2048 _ b2 2 (g2 (by omega)) (by omega) (by omega) (by omega) (by omega) (by omega) (by omega) (by omega), sg_end _ s 3 2048 _ _ (by omega)]
          obtain ⟨v, hv⟩ : ∃ v : Nat, v = b0 % 16 * 4096 + b1 % 64 * 64 + b2 % 64 := ⟨_, rfl⟩
          have ev : 64 * (64 * ((b0 : Int) - 224) + (b1 : Int) - 128) + (b2 : Int) - 128 = (v : Int) := by omega
          have hd : decodeN s.size b0 b1 b2 b3 = if v ≥ 2048 ∧ (v < 55296 ∨ (57344 ≤ v ∧ v ≤ 1114111)) then (v, 3) else (65533, 1) := by
            unfold decodeN
            rw [if_neg (by omega), if_neg (by omega), if_pos (by omega), ← hv]
          rw [hd, ev]
          by_cases cv : v ≥ 2048 ∧ (v < 55296 ∨ (57344 ≤ v ∧ v ≤ 1114111))
          · rw [if_pos cv, if_neg (by omega)]
            rfl
          · rw [if_neg cv, if_pos (by omega)]
            rfl
  rw [if_neg c3]
  by_cases c5 : 240 ≤ (b0 : Int) ∧ (b0 : Int) < 245
  · rw [if_pos c5, sg_open]
    by_cases z : (s.size : Int) < 4
    · rw [if_pos (.inr z)]
      have : decodeN s.size b0 b1 b2 b3 = (65533, 1) := by
        unfold decodeN
        rw [if_neg (by omega), if_neg (by omega), if_neg (by omega), if_neg (by omega)]
      rw [this]
      rfl
    · rw [if_neg (by omega)]
      by_cases c2 : (b1 : Int) < 128 ∨ 191 < (b1 : Int)
      · have := sg_bad (k + 1 + 1 + 1 + 1) s 4 65536 (b0 - 240) b1 1 (g1 (by omega)) (by omega) (by omega) c2
        rw [show ((1 : Nat) : Int) = 1 from rfl] at this
        rw [this]
        have : decodeN s.size b0 b1 b2 b3 = (65533, 1) := by
          unfold decodeN
          rw [if_neg (by omega), if_neg (by omega), if_neg (by omega), if_neg (by omega)]
        rw [this]
        rfl
      · have := sg_step (k + 1 + 1 + 1 + 1) s 4 65536 (b0 - 240) b1 1 (g1 (by omega)) (by omega) (by omega) (by omega) (by omega) (by omega) (by omega) (by omega)
        rw [show ((1 : Nat) : Int) = 1 from rfl] at this
        rw [this]
        by_cases c4 : (b2 : Int) < 128 ∨ 191 < (b2 : Int)
        · rw [show (1 + 1 : Nat) = 2 from rfl, sg_bad _ s 4 65536 _ b2 2 (g2 (by omega)) (by omega) (by omega) c4]
          have : decodeN s.size b0 b1 b2 b3 = (65533, 1) := by
            unfold decodeN
            rw [if_neg (by omega), if_neg (by omega), if_neg (by omega), if_neg (by omega)]
          rw [this]
          rfl
        · rw [show (1 + 1 : Nat) = 2 from rfl, sg_step _ s 4 65536 _ b2 2 (g2 (by omega)) (by omega) (by omega) (by omega) (by omega) (by omega) (by omega) (by omega)]
          by_cases c6 : (b3 : Int) < 128 ∨ 191 < (b3 : Int)
          · rw [show (2 + 1 : Nat) = 3 from rfl, sg_bad _ s 4 65536 _ b3 3 (g3 (by omega)) (by omega) (by omega) c6]
            have : decodeN s.size b0 b1 b2 b3 = (65533, 1) := by
              unfold decodeN
              rw [if_neg (by omega), if_neg (by omega), if_neg (by omega), if_neg (by omega)]
            rw [this]
            rfl
          · rw [show (2 + 1 : Nat) = 3 from rfl, sg_step _ s 4 65536 _ b3 3 (g3 (by omega)) (by omega) (by omega) (by omega) (by omega) (by omega) (by omega) (by omega), sg_end _ s 4 65536 _ _ (by omega)]
            obtain ⟨v, hv⟩ : ∃ v : Nat, v = b0 % 8 * 262144 + b1 % 64 * 4096 + b2 % 64 * 64 + b3 % 64 := ⟨_, rfl⟩
            have ev : 64 * (64 * (64 * ((b0 : Int) - 240) + (b1 : Int) - 128) + (b2 : Int) - 128) + (b3 : Int) - 128 = (v : Int) := by omega
            have hd : decodeN s.size b0 b1 b2 b3 = if v ≥ 65536 ∧ (v < 55296 ∨ (57344 ≤ v ∧ v ≤ 1114111)) then (v, 4) else (65533, 1) := by
              unfold decodeN
              rw [if_neg (by omega), if_neg (by omega), if_neg (by omega), if_pos (by omega), ← hv]
            rw [hd, ev]
            by_cases cv : v ≥ 65536 ∧ (v < 55296 ∨ (57344 ≤ v ∧ v ≤ 1114111))
            · rw [if_pos cv, if_neg (by omega)]
              rfl
            · rw [if_neg cv, if_pos (by omega)]
              rfl
  rw [if_neg c5, sg_open, if_pos (.inl rfl)]
  have : decodeN s.size b0 b1 b2 b3 = (65533, 1) := by
    unfold decodeN
    by_cases d1 : b0 / 32 = 6 ∧ (1 < s.size ∧ b1 / 64 = 2)
    · rw [if_neg (by omega), if_pos d1, if_neg (by omega)]
    · rw [if_neg (by omega), if_neg d1, if_neg (by omega)]
      by_cases d2 : b0 / 8 = 30 ∧ (1 < s.size ∧ b1 / 64 = 2) ∧ (2 < s.size ∧ b2 / 64 = 2) ∧ (3 < s.size ∧ b3 / 64 = 2)
      · rw [if_pos d2, if_neg (by omega)]
      · rw [if_neg d2]
  rw [this]
  rfl
end Go.Proofs.Ytlcanmndeempfaa.Sch
