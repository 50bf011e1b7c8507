/- For every frame that has bytes and every row of bytes: with the row behind them they are read as the frame, and as long as they are, ten more than its body; what is read at the row's front, if anything, is put as the same bytes, and else there is nothing. Bodies and rows of more than 600 bytes are answered as the law itself says. -/
import Derived.Test.YtjihemgadbpebaaTlFrameAwake
import Derived.Test.YtjihemgadbpebaaPTlx18
namespace Go.Proofs.Ytjihemgadbpebaa.Pure
open Go.RowKit Go.Proofs.Ytjihemgadbpebaa.PTl Go.Proofs.YtjihemgadbpebaaW.PrintWords Go.Proofs.YtjihemgadbpebaaW.PrintLast Go.Proofs.Ytjihemgadbpebaa.TlBits32 Go.Proofs.Ytjihemgadbpebaa.TlCrc Go.Proofs.Ytjihemgadbpebaa.TlFrame
theorem FrameBack (a : Int) (b : List Int) (hw : ∀ y ∈ b, (Lit.int .u8 y).wf = true) (r : List Int) (hr : ∀ y ∈ r, (Lit.int .u8 y).wf = true) : ∃ k, foliatelaw03_FrameBack.f k a b r = some true := by
  obtain ⟨m, aw⟩ := awake
  have hb := bytes_of hw
  have hrb := bytes_of hr
  refine ⟨m + 1003, ?_⟩
  unfold foliatelaw03_FrameBack.f
  rw [aw _ (by omega), obind, if_pos rfl]
  by_cases c0 : (b.length : Int) > 600
  · rw [if_pos c0]; simp [foliatelaw03_FrameBack.j0]
  rw [if_neg c0]
  by_cases c1 : (r.length : Int) > 600
  · rw [decide_eq_true c1]; simp [foliatelaw03_FrameBack.j0]
  rw [decide_eq_false c1]
  simp only [foliatelaw03_FrameBack.j0, Bool.false_eq_true, if_false]
  have rest : foliatelaw03_FrameBack.j1 (m + 1002) r = some true := by
    simp only [foliatelaw03_FrameBack.j1]
    rw [get_eq _ (by omega) r hrb (by omega), obind]
    by_cases g : (getP r).2.2.2 = 0
    · obtain ⟨a', b', t, hl, ⟨h0, h1⟩, h2, _, _, he⟩ := get_inv hrb g
      have hlen := frameB_length a' b'
      have hrl : r.length = (frameB a' b').length + t.length := by rw [← List.length_append, ← hl]
      have et : r.take ((b'.length : Int) + 10).toNat = frameB a' b' := by
        rw [show ((b'.length : Int) + 10).toNat = (frameB a' b').length by omega, hl, List.take_left]
      rw [if_pos g, he]
      simp only
      rw [put_ok _ (by omega) a' b' h0 h1 h2, obind]
      dsimp only
      rw [if_pos rfl, if_pos (by omega), if_pos (by omega), if_pos (by omega), et, beq_self_eq_true]
    · have he := get_err g
      rw [if_neg g, he]
      rfl
  by_cases c : (0 ≤ a ∧ a ≤ 255) ∧ b.length ≤ 255
  · obtain ⟨⟨h0, h1⟩, h2⟩ := c
    have hl := frameB_length a b
    have hP := frame_bytes h0 h1 h2 hb
    rw [put_ok _ (by omega) a b h0 h1 h2, obind, if_pos rfl]
    dsimp only
    simp only [List.nil_append, List.length_nil, Nat.zero_add]
    have w1 : wrap64 ((b.length : Int) + 10) = (b.length : Int) + 10 := by unfold wrap64; omega
    rw [if_pos (by omega), obind, if_pos (by omega), get_eq _ (by omega) _ (hP.append hrb) (by rw [List.length_append]; omega), obind, get_frame a b r h0 h1 h2]
    simp only [if_true]
    rw [if_pos (by omega), w1, if_pos rfl, same_eq _ _ _ _ _ (by omega) (by omega), obind, decide_eq_true ⟨rfl, rfl⟩, if_pos rfl]
    exact rest
  · rw [put_bad _ (by omega) a b c, obind, if_neg (by decide)]
    exact rest
end Go.Proofs.Ytjihemgadbpebaa.Pure
