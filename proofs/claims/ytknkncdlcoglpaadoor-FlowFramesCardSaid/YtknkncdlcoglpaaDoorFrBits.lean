import Derived.Laws.BitsLemmas
namespace Go.Proofs.YtknkncdlcoglpaaDoor.FrBits32
/-! The shift register of the sum, on words of 32 bits. Plain mathematics: no program. -/
abbrev Wd := BitVec 32
def Pol : Wd := 0xedb88320#32
def T (x : Wd) : Wd := if x.getLsbD 0 then (x >>> 1) ^^^ Pol else x >>> 1
def Tn : Nat → Wd → Wd
  | 0, x => x
  | n + 1, x => Tn n (T x)

/-- A byte. -/
def B (c : Int) : Wd := (BitVec.ofInt 8 c).setWidth 32
def V (n : Int) : Wd := BitVec.ofInt 32 n
def step (s : Wd) (c : Int) : Wd := Tn 8 (s ^^^ B c)
def G (s : Wd) (l : List Int) : Wd := l.foldl step s
theorem xor_toInt (a b : Int) : Go.bits .xor .u32 a b = ((V a ^^^ V b).toNat : Int) := by
  simp only [Go.bits, V]
  rw [IntKind.wrap_u32]
  have := (BitVec.ofInt 32 a ^^^ BitVec.ofInt 32 b).isLt
  have e : IntKind.u32.bits = 32 := rfl
  show (((BitVec.ofInt 32 a ^^^ BitVec.ofInt 32 b).toNat : Nat) : Int) % 4294967296 = _
  omega
/-- one step of the register, on numbers -/
def stepI (n : Int) : Int := if Go.bits .and .u32 n 1 = 1 then Go.bits .xor .u32 (n / 2) 3988292384 else n / 2
def itrI : Nat → Int → Int
  | 0, x => x
  | m + 1, x => stepI (itrI m x)
def tbI (j : Nat) : Int := itrI 8 j
def stepC (n c : Int) : Int := Go.bits .xor .u32 (n / 256) (tbI (Go.bits .xor .u8 (n % 256) c).toNat)
def foldC (n : Int) (l : List Int) : Int := l.foldl stepC n
theorem xor32_range (a b : Int) : 0 ≤ Go.bits .xor .u32 a b ∧ Go.bits .xor .u32 a b < 4294967296 := by
  rw [xor_toInt]
  have := (V a ^^^ V b).isLt
  omega
/-- With, on numbers. -/
def withC (sum : Int) (l : List Int) : Int := Go.bits .xor .u32 (foldC (Go.bits .xor .u32 sum 4294967295) l) 4294967295
def seal4 (n : Int) : List Int := [n % 256, n / 256 % 256, n / 65536 % 256, n / 16777216 % 256]
end Go.Proofs.YtknkncdlcoglpaaDoor.FrBits32
