/- For every frame and every number: if the frame has bytes, they begin by its kind and its body's length, are ten more than the body's, and the body's bytes stand in them from the seventh one on; it has none just if the kind or the length is none of a byte, and then there are no bytes. Bodies of more than 600 bytes are answered as the law itself says. -/
import Derived.Test.YtjihemgadbpebaaFrameAwake
import Derived.Test.YtjihemgadbpebaaPAllx8
namespace Go.Proofs.Ytjihemgadbpebaa.Pure
open Go.RowKit Go.Proofs.Ytjihemgadbpebaa.PAll Go.Proofs.YtjihemgadbpebaaW.PrintWords Go.Proofs.YtjihemgadbpebaaW.PrintLast Go.Proofs.Ytjihemgadbpebaa.Bits32 Go.Proofs.Ytjihemgadbpebaa.Crc Go.Proofs.Ytjihemgadbpebaa.Frame
theorem body_at (a : Int) (b : List Int) (i : Nat) (h : i < b.length) : (frameB a b).getD (6 + i) 0 = b.getD i 0 := by
  have e : frameB a b = sealed [a, (b.length : Int)] ++ (b ++ seal4 (withC 0 b)) := rfl
  have h6 : (sealed [a, (b.length : Int)]).length = 6 := by rw [sealed_length]; rfl
  rw [e, List.getD_eq_getElem?_getD, List.getD_eq_getElem?_getD, List.getElem?_append_right (by omega), h6, Nat.add_sub_cancel_left, List.getElem?_append_left h]
theorem FrameHead (a : Int) (b : List Int) (hw : ∀ y ∈ b, (Lit.int .u8 y).wf = true) (i : Int) : ∃ k, foliatelaw03_FrameHead.f k a b i = some true := by
  obtain ⟨m, aw⟩ := awake
  have hb := bytes_of hw
  refine ⟨m + 3, ?_⟩
  unfold foliatelaw03_FrameHead.f
  rw [aw _ (by omega), obind, if_pos rfl]
  by_cases c0 : (b.length : Int) > 600
  · rw [decide_eq_true c0]; simp [foliatelaw03_FrameHead.j0]
  rw [decide_eq_false c0]
  simp only [foliatelaw03_FrameHead.j0, Bool.false_eq_true, if_false]
  by_cases c : (0 ≤ a ∧ a ≤ 255) ∧ b.length ≤ 255
  · obtain ⟨⟨h0, h1⟩, h2⟩ := c
    have hl := frameB_length a b
    have r0 : rd (frameB a b) 0 = a := rfl
    have r1 : rd (frameB a b) 1 = (b.length : Int) := rfl
    have w0 : wrap64 a = a := by unfold wrap64; omega
    have w1 : wrap64 (b.length : Int) = (b.length : Int) := by unfold wrap64; omega
    have w2 : wrap64 ((b.length : Int) + 10) = ((frameB a b).length : Int) := by unfold wrap64; omega
    rw [put_ok _ (by omega) a b h0 h1 h2, obind]
    rw [if_pos (by omega), if_pos (by omega), decide_eq_true (by omega)]
    simp only [foliatelaw03_FrameHead.j1, if_true]
    rw [w2, if_pos rfl, if_pos (by omega), r0, w0, if_pos rfl, if_pos (by omega), r1, w1, if_pos rfl]
    by_cases n0 : i < 0
    · rw [if_pos n0]
    rw [if_neg n0]
    by_cases n1 : i ≥ (b.length : Int)
    · rw [if_pos n1]
    rw [if_neg n1]
    obtain ⟨j, rfl⟩ := Int.eq_ofNat_of_zero_le (show 0 ≤ i by omega)
    have w3 : wrap64 (6 + (j : Int)) = ((6 + j : Nat) : Int) := by unfold wrap64; omega
    have e := body_at a b j (by omega)
    have x0 : (0 : Int) ≤ ((6 + j : Nat) : Int) := by omega
    have x1 : ((6 + j : Nat) : Int) < ((frameB a b).length : Int) := by omega
    have x2 : (0 : Int) ≤ (j : Int) := by omega
    have x3 : (j : Int) < (b.length : Int) := by omega
    rw [w3, if_pos x0, if_pos x1, if_pos x2, if_pos x3]
    have e1 : rd (frameB a b) ((6 + j : Nat) : Int) = rd b (j : Int) := by unfold rd; rw [Int.toNat_natCast, Int.toNat_natCast]; exact e
    rw [e1, beq_self_eq_true]
  · rw [put_bad _ (by omega) a b c, obind]
    have fin : foliatelaw03_FrameHead.j1 (m + 2) i [] 1 false a b = some true := by simp [foliatelaw03_FrameHead.j1]
    by_cases c1 : a ≥ 0
    · rw [if_pos c1]
      by_cases c2 : a ≤ 255
      · rw [if_pos c2, decide_eq_false (by omega)]; exact fin
      · rw [if_neg c2]; exact fin
    · rw [if_neg c1]; exact fin
end Go.Proofs.Ytjihemgadbpebaa.Pure
