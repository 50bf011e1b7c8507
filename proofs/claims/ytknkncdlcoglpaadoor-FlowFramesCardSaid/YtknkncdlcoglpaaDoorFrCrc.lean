import Derived.Test.YtknkncdlcoglpaaDoorPFrx3
import Derived.Test.YtknkncdlcoglpaaDoorPFrx1
import Derived.Test.YtknkncdlcoglpaaDoorPFrx1
import Derived.Test.YtknkncdlcoglpaaDoorPFrx1
import Derived.Test.YtknkncdlcoglpaaDoorFrBits
namespace Go.Proofs.YtknkncdlcoglpaaDoor.FrCrc
open Go.RowKit Go.Proofs.YtknkncdlcoglpaaDoor.PFr Go.Proofs.YtknkncdlcoglpaaDoorW.PrintWords Go.Proofs.YtknkncdlcoglpaaDoorW.PrintLast Go.Proofs.YtknkncdlcoglpaaDoor.FrBits32
/-! The sum's functions, as they are printed, told by the words of Bits32. -/
/-- As Option.bind_some, but told by a proof: simp takes it as an equation, and the kernel needn't see it. -/
theorem obind {α β : Type} (a : α) (f : α → Option β) : (some a).bind f = f a := by
  cases h : (some a : Option α) with
  | none => cases h
  | some b => cases h; rfl
def Bytes (l : List Int) : Prop := ∀ x ∈ l, 0 ≤ x ∧ x ≤ 255
theorem bytes_of {l : List Int} (h : ∀ x ∈ l, (Lit.int .u8 x).wf = true) : Bytes l := fun x hx => by
  have := h x hx
  simpa [Lit.wf, IntKind.min, IntKind.max, IntKind.signed, IntKind.bits] using this
theorem u32_of {x : Int} (h : (Lit.int .u32 x).wf = true) : 0 ≤ x ∧ x < 4294967296 := by
  have : 0 ≤ x ∧ x ≤ 4294967295 := by simpa [Lit.wf, IntKind.min, IntKind.max, IntKind.signed, IntKind.bits] using h
  omega
theorem Bytes.take {l : List Int} (h : Bytes l) (n : Nat) : Bytes (l.take n) := fun x hx => h x (List.mem_of_mem_take hx)
theorem Bytes.drop {l : List Int} (h : Bytes l) (n : Nat) : Bytes (l.drop n) := fun x hx => h x (List.mem_of_mem_drop hx)
theorem Bytes.append {l m : List Int} (h : Bytes l) (k : Bytes m) : Bytes (l ++ m) := fun x hx => by
  rcases List.mem_append.1 hx with h1 | h1
  · exact h x h1
  · exact k x h1
theorem crcStep_eq : crcStep = stepC := by funext n c; rfl
theorem crcFold_eq (n : Int) (l : List Int) : crcFold n l = foldC n l := by unfold crcFold foldC; rw [crcStep_eq]
theorem with_eq (a : Int) (l : List Int) : crc_With.f a l = some (withC a l) := by unfold crc_With.f withC; rw [crcFold_eq]
theorem sum_eq (l : List Int) : crc_Sum.f l = some (withC 0 l) := by unfold crc_Sum.f; rw [with_eq]; rfl
theorem sealOf_eq (n : Int) : sealOf n = seal4 n := rfl
/-- a row, sealed -/
def sealed (l : List Int) : List Int := l ++ seal4 (withC 0 l)
theorem sealed_length (l : List Int) : (sealed l).length = l.length + 4 := by simp [sealed, seal4]
theorem seal_eq (l : List Int) (h : l.length + 4 < 140737488355328) : crc_Seal.f l = some (sealed l) := by
  unfold crc_Seal.f
  rw [sum_eq]
  simp only [obind]
  rw [if_pos h, sealOf_eq]; rfl
theorem seal4_bytes (n : Int) : Bytes (seal4 n) := fun x hx => by
  simp only [seal4, List.mem_cons, List.not_mem_nil, or_false] at hx
  omega
theorem sealed_bytes {l : List Int} (h : Bytes l) : Bytes (sealed l) := h.append (seal4_bytes _)

/-- Is the row good? -/
def goodB (l : List Int) : Bool := decide (4 ≤ l.length ∧ seal4 (withC 0 (l.take (l.length - 4))) = l.drop (l.length - 4))
theorem wrap_sub4 (n : Nat) (h : n ≤ 140737488355328) : wrap64 ((n : Int) - 4) = (n : Int) - 4 := by unfold wrap64; omega
theorem good_loop (k : Nat) (n a b c d : Int) : crc_Good.l0 (k + 5) n [a, b, c, d] 4 0 = some (decide (seal4 n = [a, b, c, d])) := by
  have w0 : wrap64 (8 * 0) = 0 := by unfold wrap64; omega
  have w1 : wrap64 (0 + 1) = 1 := by unfold wrap64; omega
  have w2 : wrap64 (1 + 1) = 2 := by unfold wrap64; omega
  have w3 : wrap64 (2 + 1) = 3 := by unfold wrap64; omega
  have w4 : wrap64 (3 + 1) = 4 := by unfold wrap64; omega
  have v1 : wrap64 (8 * 1) = 8 := by unfold wrap64; omega
  have v2 : wrap64 (8 * 2) = 16 := by unfold wrap64; omega
  have v3 : wrap64 (8 * 3) = 24 := by unfold wrap64; omega
  have r0 : rd [a, b, c, d] 0 = a := rfl
  have r1 : rd [a, b, c, d] 1 = b := rfl
  have r2 : rd [a, b, c, d] 2 = c := rfl
  have r3 : rd [a, b, c, d] 3 = d := rfl
  have s0 : shr .u32 n 0 = n := by simp [shr]
  have s1 : shr .u32 n 8 = n / 256 := by simp [shr, IntKind.bits]
  have s2 : shr .u32 n 16 = n / 65536 := by simp [shr, IntKind.bits]
  have s3 : shr .u32 n 24 = n / 16777216 := by simp [shr, IntKind.bits]
  have hl : (([a, b, c, d] : List Int).length : Int) = 4 := rfl
  simp only [crc_Good.l0, w0, w1, w2, w3, w4, v1, v2, v3, r0, r1, r2, r3, s0, s1, s2, s3, hl, seal4, List.cons.injEq, and_true]
  by_cases e0 : n % 256 = a
  · by_cases e1 : n / 256 % 256 = b
    · by_cases e2 : n / 65536 % 256 = c
      · by_cases e3 : n / 16777216 % 256 = d
        · simp [e0, e1, e2, e3]
        · simp [e0, e1, e2, e3]
      · simp [e0, e1, e2]
    · simp [e0, e1]
  · simp [e0]
theorem good_eq (l : List Int) (k : Nat) (hk : 5 ≤ k) (h : l.length ≤ 140737488355328) : crc_Good.f k l = some (goodB l) := by
  obtain ⟨k, rfl⟩ : ∃ m, k = m + 5 := ⟨k - 5, by omega⟩
  unfold crc_Good.f goodB
  rw [wrap_sub4 _ h]
  by_cases h4 : 4 ≤ l.length
  · have e : ((l.length : Int) - 4).toNat = l.length - 4 := by omega
    rw [if_neg (by omega), if_pos (by omega), if_pos (by omega), sum_eq, e]
    simp only [obind]
    have hd : (l.drop (l.length - 4)).length = 4 := by rw [List.length_drop]; omega
    generalize l.drop (l.length - 4) = q at hd ⊢
    match q, hd with
    | [a, b, c, d], _ =>
      have := good_loop k (withC 0 (l.take (l.length - 4))) a b c d
      simpa [h4] using this
  · rw [if_pos (by omega)]
    simp [h4]
theorem sealed_good (l : List Int) : goodB (sealed l) = true := by
  unfold goodB
  rw [decide_eq_true_iff, sealed_length]
  refine ⟨by omega, ?_⟩
  have e : l.length + 4 - 4 = l.length := by omega
  rw [e]
  simp [sealed]
theorem good_sealed {l : List Int} (h : goodB l = true) : 4 ≤ l.length ∧ sealed (l.take (l.length - 4)) = l := by
  unfold goodB at h
  rw [decide_eq_true_iff] at h
  refine ⟨h.1, ?_⟩
  unfold sealed
  rw [h.2, List.take_append_drop]
end Go.Proofs.YtknkncdlcoglpaaDoor.FrCrc
