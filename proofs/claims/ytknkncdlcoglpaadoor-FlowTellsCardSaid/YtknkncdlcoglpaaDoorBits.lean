import Derived.Laws.BitsLemmas
namespace Go.Proofs.YtknkncdlcoglpaaDoor.Bits32
/-! The shift register of the sum, on words of 32 bits. Plain mathematics: no program. -/
abbrev Wd := BitVec 32
def Pol : Wd := 0xedb88320#32
def T (x : Wd) : Wd := if x.getLsbD 0 then (x >>> 1) ^^^ Pol else x >>> 1
def Tn : Nat → Wd → Wd
  | 0, x => x
  | n + 1, x => Tn n (T x)

theorem xor_cross (a b c d : Wd) : (a ^^^ b) ^^^ (c ^^^ d) = (a ^^^ c) ^^^ (b ^^^ d) := by
  rw [BitVec.xor_assoc, BitVec.xor_assoc, ← BitVec.xor_assoc b, ← BitVec.xor_assoc c, BitVec.xor_comm b c]
theorem T_xor (x y : Wd) : T (x ^^^ y) = T x ^^^ T y := by
  unfold T
  rw [BitVec.getLsbD_xor, BitVec.ushiftRight_xor_distrib]
  cases x.getLsbD 0 <;> cases y.getLsbD 0 <;> simp
  · rw [BitVec.xor_assoc]
  · rw [BitVec.xor_assoc, BitVec.xor_comm _ Pol, BitVec.xor_assoc]
  · rw [xor_cross, BitVec.xor_self, BitVec.xor_zero]
theorem Tn_xor : ∀ (n : Nat) (x y : Wd), Tn n (x ^^^ y) = Tn n x ^^^ Tn n y
  | 0, _, _ => rfl
  | n + 1, x, y => by simp only [Tn, T_xor, Tn_xor n]
/-- A word whose high bit is free comes back from one place up. -/
theorem T_up (z : Wd) (h : z.toNat < 2 ^ 31) : T (z <<< 1) = z := by
  have h0 : (z <<< 1).getLsbD 0 = false := by simp
  unfold T
  rw [h0]
  simp only [Bool.false_eq_true, if_false]
  apply BitVec.eq_of_toNat_eq
  rw [BitVec.toNat_ushiftRight, BitVec.toNat_shiftLeft, Nat.shiftLeft_eq, Nat.shiftRight_eq_div_pow, Nat.mod_eq_of_lt (by omega)]
  omega
theorem Tn_up : ∀ (k : Nat) (z : Wd), z.toNat * 2 ^ k < 2 ^ 32 → Tn k (z <<< k) = z
  | 0, z, _ => by simp [Tn]
  | k + 1, z, h => by
    have hp : 0 < 2 ^ k := Nat.two_pow_pos k
    have h' : z.toNat * 2 ^ k * 2 < 2 ^ 32 := by rw [Nat.mul_assoc, ← Nat.pow_succ]; exact h
    have h2 : z.toNat * 2 ^ k < 2 ^ 31 := by omega
    have e : z <<< (k + 1) = (z <<< k) <<< 1 := by rw [BitVec.shiftLeft_add]
    have hn : (z <<< k).toNat = z.toNat * 2 ^ k := by rw [BitVec.toNat_shiftLeft, Nat.shiftLeft_eq, Nat.mod_eq_of_lt (by omega)]
    simp only [Tn]
    rw [e, T_up _ (by rw [hn]; exact h2)]
    exact Tn_up k z (by omega)

/-- A byte. -/
def B (c : Int) : Wd := (BitVec.ofInt 8 c).setWidth 32
def V (n : Int) : Wd := BitVec.ofInt 32 n
def step (s : Wd) (c : Int) : Wd := Tn 8 (s ^^^ B c)
def G (s : Wd) (l : List Int) : Wd := l.foldl step s
theorem G_cons (s : Wd) (c : Int) (l : List Int) : G s (c :: l) = G (step s c) l := rfl
theorem B_lt (c : Int) : (B c).toNat < 256 := by
  unfold B
  rw [BitVec.toNat_setWidth]
  have := (BitVec.ofInt 8 c).isLt
  omega
theorem B_toNat (c : Int) : ((B c).toNat : Int) = c % 256 := by
  unfold B
  rw [BitVec.toNat_setWidth, BitVec.toNat_ofInt]
  have h := Int.emod_nonneg c (b := 256) (by decide)
  have h2 := Int.emod_lt_of_pos c (b := 256) (by decide)
  have e : ((2 ^ 8 : Nat) : Int) = 256 := rfl
  rw [e]
  omega
theorem xor_toInt (a b : Int) : Go.bits .xor .u32 a b = ((V a ^^^ V b).toNat : Int) := by
  simp only [Go.bits, V]
  rw [IntKind.wrap_u32]
  have := (BitVec.ofInt 32 a ^^^ BitVec.ofInt 32 b).isLt
  have e : IntKind.u32.bits = 32 := rfl
  show (((BitVec.ofInt 32 a ^^^ BitVec.ofInt 32 b).toNat : Nat) : Int) % 4294967296 = _
  omega
theorem and_toInt (a b : Int) : Go.bits .and .u32 a b = ((V a &&& V b).toNat : Int) := by
  simp only [Go.bits, V]
  rw [IntKind.wrap_u32]
  have := (BitVec.ofInt 32 a &&& BitVec.ofInt 32 b).isLt
  show (((BitVec.ofInt 32 a &&& BitVec.ofInt 32 b).toNat : Nat) : Int) % 4294967296 = _
  omega
theorem xor8_toInt (a b : Int) : Go.bits .xor .u8 a b = ((BitVec.ofInt 8 a ^^^ BitVec.ofInt 8 b).toNat : Int) := by
  simp only [Go.bits]
  rw [IntKind.wrap_u8]
  have := (BitVec.ofInt 8 a ^^^ BitVec.ofInt 8 b).isLt
  show (((BitVec.ofInt 8 a ^^^ BitVec.ofInt 8 b).toNat : Nat) : Int) % 256 = _
  omega
theorem V_toNat (x : Wd) : V (x.toNat : Int) = x := by
  unfold V
  rw [BitVec.ofInt_natCast, BitVec.ofNat_toNat, BitVec.setWidth_eq]
theorem V_xor (a b : Int) : V (Go.bits .xor .u32 a b) = V a ^^^ V b := by rw [xor_toInt, V_toNat]
theorem V_nat (n : Int) (h0 : 0 ≤ n) (h : n < 4294967296) : ((V n).toNat : Int) = n := by
  unfold V
  rw [BitVec.toNat_ofInt]
  have e : ((2 ^ 32 : Nat) : Int) = 4294967296 := rfl
  rw [e]
  omega
theorem V_inj {m n : Int} (h0 : 0 ≤ m) (h1 : m < 4294967296) (h2 : 0 ≤ n) (h3 : n < 4294967296) (h : V m = V n) : m = n := by
  rw [← V_nat m h0 h1, ← V_nat n h2 h3, h]
theorem V_half (n : Int) (h0 : 0 ≤ n) (h : n < 4294967296) (k : Nat) : V (n / 2 ^ k) = V n >>> k := by
  obtain ⟨m, rfl⟩ := Int.eq_ofNat_of_zero_le h0
  apply BitVec.eq_of_toNat_eq
  rw [BitVec.toNat_ushiftRight, Nat.shiftRight_eq_div_pow]
  unfold V
  have e : ((m : Int) / 2 ^ k) = ((m / 2 ^ k : Nat) : Int) := by simp
  rw [e, BitVec.ofInt_natCast, BitVec.ofInt_natCast, BitVec.toNat_ofNat, BitVec.toNat_ofNat]
  have hm : m < 4294967296 := by omega
  have hd : m / 2 ^ k ≤ m := Nat.div_le_self _ _
  rw [Nat.mod_eq_of_lt (by omega), Nat.mod_eq_of_lt (by omega)]
/-- one step of the register, on numbers -/
def stepI (n : Int) : Int := if Go.bits .and .u32 n 1 = 1 then Go.bits .xor .u32 (n / 2) 3988292384 else n / 2
theorem stepI_range (n : Int) (h0 : 0 ≤ n) (h : n < 4294967296) : 0 ≤ stepI n ∧ stepI n < 4294967296 := by
  unfold stepI
  split
  · rw [xor_toInt]
    have := (V (n / 2) ^^^ V 3988292384).isLt
    omega
  · omega
theorem and_one (x : Wd) : ((x &&& 1#32).toNat : Int) = 1 ↔ x.getLsbD 0 = true := by
  rw [BitVec.toNat_and]
  have e : (1#32 : Wd).toNat = 1 := rfl
  rw [e, Nat.and_one_is_mod, BitVec.getLsbD, Nat.testBit_zero]
  constructor
  · intro h; simp; omega
  · intro h; simp at h; omega
theorem V_stepI (n : Int) (h0 : 0 ≤ n) (h : n < 4294967296) : V (stepI n) = T (V n) := by
  have h1 : V 1 = 1#32 := by decide
  have h2 : V 3988292384 = Pol := by decide
  have h3 := V_half n h0 h 1
  have e2 : n / 2 ^ 1 = n / 2 := by simp
  rw [e2] at h3
  unfold stepI T
  rw [and_toInt, h1]
  by_cases hc : (V n).getLsbD 0 = true
  · rw [if_pos ((and_one _).2 hc), if_pos hc, V_xor, h3, h2]
  · rw [if_neg (fun z => hc ((and_one _).1 z)), if_neg hc, h3]
def itrI : Nat → Int → Int
  | 0, x => x
  | m + 1, x => stepI (itrI m x)
theorem Tn_succ' : ∀ (m : Nat) (x : Wd), Tn (m + 1) x = T (Tn m x)
  | 0, _ => rfl
  | m + 1, x => Tn_succ' m (T x)
theorem itrI_spec (n : Int) (h0 : 0 ≤ n) (h : n < 4294967296) : ∀ m, 0 ≤ itrI m n ∧ itrI m n < 4294967296 ∧ V (itrI m n) = Tn m (V n)
  | 0 => ⟨h0, h, rfl⟩
  | m + 1 => by
    obtain ⟨a, b, c⟩ := itrI_spec n h0 h m
    obtain ⟨d, e⟩ := stepI_range _ a b
    refine ⟨d, e, ?_⟩
    show V (stepI (itrI m n)) = _
    rw [V_stepI _ a b, c, Tn_succ']
def tbI (j : Nat) : Int := itrI 8 j
def stepC (n c : Int) : Int := Go.bits .xor .u32 (n / 256) (tbI (Go.bits .xor .u8 (n % 256) c).toNat)
def foldC (n : Int) (l : List Int) : Int := l.foldl stepC n
theorem xor32_range (a b : Int) : 0 ≤ Go.bits .xor .u32 a b ∧ Go.bits .xor .u32 a b < 4294967296 := by
  rw [xor_toInt]
  have := (V a ^^^ V b).isLt
  omega
theorem low_byte (n c : Int) (h0 : 0 ≤ n) (h : n < 4294967296) : V (((Go.bits .xor .u8 (n % 256) c).toNat : Nat) : Int) = ((V n ^^^ B c) &&& 255#32) := by
  rw [xor8_toInt, Int.toNat_natCast]
  apply BitVec.eq_of_getLsbD_eq
  intro i hi
  unfold V B
  rw [BitVec.ofInt_natCast]
  simp only [BitVec.getLsbD_ofNat, BitVec.getLsbD_and, BitVec.getLsbD_xor, BitVec.getLsbD_setWidth, hi, decide_true, Bool.true_and]
  have e1 : (BitVec.ofInt 8 (n % 256) ^^^ BitVec.ofInt 8 c).toNat.testBit i = (BitVec.ofInt 8 (n % 256) ^^^ BitVec.ofInt 8 c).getLsbD i := rfl
  have e2 : (255 : Nat).testBit i = decide (i < 8) := by
    have : (255 : Nat) = 2 ^ 8 - 1 := rfl
    rw [this, Nat.testBit_two_pow_sub_one]
  rw [e1, e2, BitVec.getLsbD_xor]
  by_cases h8 : i < 8
  · simp only [h8, decide_true, Bool.and_true]
    congr 1
    obtain ⟨m, rfl⟩ := Int.eq_ofNat_of_zero_le h0
    have em : ((m : Int) % 256) = ((m % 256 : Nat) : Int) := by omega
    rw [em, BitVec.ofInt_natCast, BitVec.ofInt_natCast, BitVec.getLsbD_ofNat, BitVec.getLsbD_ofNat]
    have : (256 : Nat) = 2 ^ 8 := rfl
    rw [this, Nat.testBit_mod_two_pow]
    simp [h8, hi]
  · simp only [h8, decide_false, Bool.and_false]
    have g1 : (BitVec.ofInt 8 (n % 256)).getLsbD i = false := BitVec.getLsbD_of_ge _ _ (by omega)
    have g2 : (BitVec.ofInt 8 c).getLsbD i = false := BitVec.getLsbD_of_ge _ _ (by omega)
    rw [g1, g2]; rfl
theorem split_byte (x : Wd) : x = ((x >>> 8) <<< 8) ^^^ (x &&& 255#32) := by
  apply BitVec.eq_of_getLsbD_eq
  intro i hi
  have e2 : (255 : Nat).testBit i = decide (i < 8) := by
    have : (255 : Nat) = 2 ^ 8 - 1 := rfl
    rw [this, Nat.testBit_two_pow_sub_one]
  simp only [BitVec.getLsbD_xor, BitVec.getLsbD_shiftLeft, BitVec.getLsbD_ushiftRight, BitVec.getLsbD_and, BitVec.getLsbD_ofNat, e2, hi, decide_true, Bool.true_and]
  by_cases h8 : i < 8
  · simp [h8]
  · simp [h8]
    congr 1
    omega
theorem T8_split (x : Wd) : Tn 8 x = (x >>> 8) ^^^ Tn 8 (x &&& 255#32) := by
  conv => lhs; rw [split_byte x]
  rw [Tn_xor, Tn_up 8 (x >>> 8) (by
    rw [BitVec.toNat_ushiftRight, Nat.shiftRight_eq_div_pow]
    have := x.isLt
    omega)]
theorem B_high (c : Int) : B c >>> 8 = 0#32 := by
  apply BitVec.eq_of_toNat_eq
  rw [BitVec.toNat_ushiftRight, Nat.shiftRight_eq_div_pow]
  have := B_lt c
  simp
  omega
theorem stepC_range (n c : Int) : 0 ≤ stepC n c ∧ stepC n c < 4294967296 := xor32_range _ _
theorem V_stepC (n c : Int) (h0 : 0 ≤ n) (h : n < 4294967296) : V (stepC n c) = step (V n) c := by
  have h8 := V_half n h0 h 8
  have e8 : n / 2 ^ 8 = n / 256 := rfl
  rw [e8] at h8
  have hb : 0 ≤ Go.bits .xor .u8 (n % 256) c ∧ Go.bits .xor .u8 (n % 256) c < 256 := by
    rw [xor8_toInt]
    have := (BitVec.ofInt 8 (n % 256) ^^^ BitVec.ofInt 8 c).isLt
    omega
  unfold stepC step
  rw [V_xor, h8]
  unfold tbI
  rw [(itrI_spec _ (by omega) (by omega) 8).2.2, low_byte n c h0 h, T8_split (V n ^^^ B c), BitVec.ushiftRight_xor_distrib, B_high, BitVec.xor_zero]
theorem foldC_spec : ∀ (l : List Int) (n : Int), 0 ≤ n → n < 4294967296 → 0 ≤ foldC n l ∧ foldC n l < 4294967296 ∧ V (foldC n l) = G (V n) l
  | [], n, h0, h => ⟨h0, h, rfl⟩
  | c :: l, n, h0, h => by
    obtain ⟨a, b⟩ := stepC_range n c
    have := foldC_spec l (stepC n c) a b
    rw [V_stepC n c h0 h] at this
    exact this
/-- With, on numbers. -/
def withC (sum : Int) (l : List Int) : Int := Go.bits .xor .u32 (foldC (Go.bits .xor .u32 sum 4294967295) l) 4294967295
theorem withC_range (s : Int) (l : List Int) : 0 ≤ withC s l ∧ withC s l < 4294967296 := xor32_range _ _
theorem xor_cancel (a b : Wd) : (a ^^^ b) ^^^ b = a := by rw [BitVec.xor_assoc, BitVec.xor_self, BitVec.xor_zero]
theorem B_small (c : Int) (h0 : 0 ≤ c) (h : c ≤ 255) : B c = V c := by
  apply BitVec.eq_of_toNat_eq
  have h1 := B_toNat c
  have h2 := V_nat c h0 (by omega)
  omega
def seal4 (n : Int) : List Int := [n % 256, n / 256 % 256, n / 65536 % 256, n / 16777216 % 256]
/-- One turn by a bit. -/
theorem turn_bit (z : Wd) (c : Int) (h0 : 0 ≤ c) (h : c < 4294967296) : T ((z ^^^ V c) ^^^ V (c % 2)) = T z ^^^ V (c / 2) := by
  have e : V c ^^^ V (c % 2) = V (c / 2) <<< 1 := by
    have h2 := V_half c h0 h 1
    have e2 : c / 2 ^ 1 = c / 2 := by simp
    rw [e2] at h2
    rw [h2]
    apply BitVec.eq_of_getLsbD_eq
    intro i hi
    simp only [BitVec.getLsbD_xor, BitVec.getLsbD_shiftLeft, BitVec.getLsbD_ushiftRight, hi, decide_true, Bool.true_and]
    obtain ⟨m, rfl⟩ := Int.eq_ofNat_of_zero_le h0
    have em : ((m : Int) % 2) = ((m % 2 : Nat) : Int) := by omega
    unfold V
    rw [em, BitVec.ofInt_natCast, BitVec.ofInt_natCast, BitVec.getLsbD_ofNat, BitVec.getLsbD_ofNat, BitVec.getLsbD_ofNat]
    have e21 : (2 : Nat) = 2 ^ 1 := rfl
    have et : (m % 2).testBit i = (decide (i < 1) && m.testBit i) := by
      conv => lhs; rw [e21]
      rw [Nat.testBit_mod_two_pow]
    rw [et]
    by_cases h1 : i < 1
    · simp [h1]
    · have : 1 + (i - 1) = i := by omega
      simp [h1, hi, this]
  rw [BitVec.xor_assoc, e, T_xor, T_up]
  have := V_nat (c / 2) (by omega) (by omega)
  omega
end Go.Proofs.YtknkncdlcoglpaaDoor.Bits32
