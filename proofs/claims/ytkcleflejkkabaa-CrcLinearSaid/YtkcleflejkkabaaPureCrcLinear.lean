/- For every three rows of as many bytes: the sum of the row that is odd of them, bit by bit, is what is odd of their three sums. Rows of more than 300 bytes, and rows that differ in length, are answered true by the law itself. -/
import Derived.Test.YtkcleflejkkabaaCrcAwake
import Derived.Test.YtkcleflejkkabaaPAllx7
namespace Go.Proofs.Ytkcleflejkkabaa.Pure
open Go.RowKit Go.Proofs.Ytkcleflejkkabaa.PAll Go.Proofs.YtkcleflejkkabaaW.PrintWords Go.Proofs.YtkcleflejkkabaaW.PrintLast Go.Proofs.Ytkcleflejkkabaa.Bits32 Go.Proofs.Ytkcleflejkkabaa.Crc
def zx : List Int → List Int → List Int → List Int
  | a :: l, b :: m, c :: n => Go.bits .xor .u8 (Go.bits .xor .u8 a b) c :: zx l m n
  | _, _, _ => []
theorem zx_length : ∀ (l m n : List Int), m.length = l.length → n.length = l.length → (zx l m n).length = l.length
  | [], _, _, _, _ => by simp [zx]
  | a :: l, b :: m, c :: n, h, k => by
    simp only [zx, List.length_cons]
    rw [zx_length l m n (by simpa using h) (by simpa using k)]
  | a :: l, [], _, h, _ => by simp at h
  | a :: l, b :: m, [], _, k => by simp at k
theorem zx_get : ∀ (l m n : List Int) (i : Nat), m.length = l.length → n.length = l.length → i < l.length →
    (zx l m n)[i]? = some (Go.bits .xor .u8 (Go.bits .xor .u8 (l.getD i 0) (m.getD i 0)) (n.getD i 0))
  | [], _, _, _, _, _, h => by simp at h
  | a :: l, b :: m, c :: n, 0, _, _, _ => by simp [zx]
  | a :: l, b :: m, c :: n, i + 1, h, k, hi => by
    simp only [zx, List.getElem?_cons_succ, List.getD_cons_succ]
    exact zx_get l m n i (by simpa using h) (by simpa using k) (by simpa using hi)
  | a :: l, [], _, _, h, _, _ => by simp at h
  | a :: l, b :: m, [], _, _, k, _ => by simp at k
theorem G_zx : ∀ (l m n : List Int) (s t u : Wd), m.length = l.length → n.length = l.length → G (s ^^^ t ^^^ u) (zx l m n) = G s l ^^^ G t m ^^^ G u n
  | [], [], [], s, t, u, _, _ => rfl
  | a :: l, b :: m, c :: n, s, t, u, h, k => by
    simp only [zx, G_cons]
    rw [step_xor (s ^^^ t) u (Go.bits .xor .u8 a b) c _ (B_xor _ _), step_xor s t a b _ (B_xor _ _)]
    exact G_zx l m n _ _ _ (by simpa using h) (by simpa using k)
  | [], b :: m, _, _, _, _, h, _ => by simp at h
  | [], [], c :: n, _, _, _, _, k => by simp at k
  | a :: l, [], _, _, _, _, h, _ => by simp at h
  | a :: l, b :: m, [], _, _, _, _, k => by simp at k
theorem linear (l m n : List Int) (h : m.length = l.length) (k : n.length = l.length) :
    withC 0 (zx l m n) = Go.bits .xor .u32 (Go.bits .xor .u32 (withC 0 l) (withC 0 m)) (withC 0 n) := by
  obtain ⟨p, q⟩ := withC_range 0 (zx l m n)
  obtain ⟨r, t⟩ := Bits32.xor32_range (Go.bits .xor .u32 (withC 0 l) (withC 0 m)) (withC 0 n)
  refine V_inj p q r t ?_
  have e0 : V 0 ^^^ All1 = All1 := by
    have : V 0 = 0#32 := rfl
    rw [this, BitVec.zero_xor]
  have e1 : All1 = All1 ^^^ All1 ^^^ All1 := by rw [BitVec.xor_self, BitVec.zero_xor]
  rw [V_xor, V_xor, V_withC, V_withC, V_withC, V_withC, e0]
  have := G_zx l m n All1 All1 All1 h k
  rw [← e1] at this
  rw [this]
  generalize G All1 l = x
  generalize G All1 m = y
  generalize G All1 n = z
  rw [xor_cross x All1 y All1, BitVec.xor_self, BitVec.xor_zero, ← BitVec.xor_assoc]
theorem linear_loop (x0 x1 x2 : List Int) (h1 : x1.length = x0.length) (h2 : x2.length = x0.length) (h : x0.length ≤ 300) (d : Nat) : ∀ (k i : Nat), i + d = x0.length → d < k →
    foliatelaw02_CrcLinear.l0 k x0 x1 x2 ((zx x0 x1 x2).take i) (i : Int) = some true := by
  induction d with
  | zero =>
    intro k i hi hk
    obtain ⟨k, rfl⟩ : ∃ m, k = m + 1 := ⟨k - 1, by omega⟩
    have e : (zx x0 x1 x2).take i = zx x0 x1 x2 := List.take_of_length_le (by rw [zx_length x0 x1 x2 h1 h2]; omega)
    simp only [foliatelaw02_CrcLinear.l0]
    rw [if_neg (by omega), e]
    simp only [sum_eq, obind, linear x0 x1 x2 h1 h2]
    simp
  | succ d ih =>
    intro k i hi hk
    obtain ⟨k, rfl⟩ : ∃ m, k = m + 1 := ⟨k - 1, by omega⟩
    have hz := zx_length x0 x1 x2 h1 h2
    have e : (zx x0 x1 x2).take (i + 1) = (zx x0 x1 x2).take i ++ [Go.bits .xor .u8 (Go.bits .xor .u8 (rd x0 i) (rd x1 i)) (rd x2 i)] := by
      rw [List.take_add_one, zx_get x0 x1 x2 i h1 h2 (by omega)]
      simp [rd]
    have ew : wrap64 ((i : Int) + 1) = ((i + 1 : Nat) : Int) := by unfold wrap64; omega
    simp only [foliatelaw02_CrcLinear.l0]
    rw [if_pos (by omega), if_pos (by omega), if_pos (by omega), if_pos (by omega), if_pos (by rw [List.length_take]; omega), ← e, ew]
    exact ih k (i + 1) (by omega) (by omega)
theorem CrcLinear : foliatelaw02_CrcLinear.Pure := by
  intro l0 l1 l2 _ _ _ _ _ _ _ _ _
  refine ⟨400, ?_⟩
  unfold foliatelaw02_CrcLinear.f
  rw [awake 400 (by omega)]
  simp only [obind, if_true]
  by_cases c0 : (l0.length : Int) > 300
  · rw [if_pos c0]; simp [foliatelaw02_CrcLinear.j0]
  rw [if_neg c0]
  by_cases c1 : (l1.length : Int) = (l0.length : Int)
  · rw [if_pos c1]
    by_cases c2 : (l2.length : Int) = (l0.length : Int)
    · have e2 : ((l2.length : Int) != (l0.length : Int)) = false := by simpa using c2
      rw [e2]
      simp only [foliatelaw02_CrcLinear.j0, Bool.false_eq_true, if_false]
      exact linear_loop l0 l1 l2 (by omega) (by omega) (by omega) l0.length 399 0 (by omega) (by omega)
    · have e2 : ((l2.length : Int) != (l0.length : Int)) = true := by simpa using c2
      rw [e2]
      simp [foliatelaw02_CrcLinear.j0]
  · rw [if_neg c1]; simp [foliatelaw02_CrcLinear.j0]
end Go.Proofs.Ytkcleflejkkabaa.Pure
