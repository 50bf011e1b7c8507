/- For every two frames and every row of bytes: the frame's bytes, what the row is read as, its frames, and whether the two frames are the same, are what the document's own reckoning gives. Bodies and rows of more than 600 bytes are answered as the law itself says. -/
import Derived.Test.YtjihemgadbpebaaTlFrameAwake
import Derived.Test.YtjihemgadbpebaaTlFrameRef
import Derived.Test.YtjihemgadbpebaaPTlx17
namespace Go.Proofs.Ytjihemgadbpebaa.Pure
open Go.RowKit Go.Proofs.Ytjihemgadbpebaa.PTl Go.Proofs.YtjihemgadbpebaaW.PrintWords Go.Proofs.YtjihemgadbpebaaW.PrintLast Go.Proofs.Ytjihemgadbpebaa.TlBits32 Go.Proofs.Ytjihemgadbpebaa.TlCrc Go.Proofs.Ytjihemgadbpebaa.TlFrame
theorem FrameTells (a : Int) (b : List Int) (hw : ∀ y ∈ b, (Lit.int .u8 y).wf = true) (a' : Int) (b' : List Int) (hw' : ∀ y ∈ b', (Lit.int .u8 y).wf = true) (r : List Int) (hr : ∀ y ∈ r, (Lit.int .u8 y).wf = true) : ∃ k, foliatelaw03_FrameTells.f k a b a' b' r = some true := by
  obtain ⟨m, aw⟩ := awake
  have hb := bytes_of hw
  have hb' := bytes_of hw'
  have hrb := bytes_of hr
  refine ⟨m + 6003, ?_⟩
  unfold foliatelaw03_FrameTells.f
  rw [aw _ (by omega), obind, if_pos rfl]
  by_cases c0 : (b.length : Int) > 600
  · rw [if_pos c0]; simp [foliatelaw03_FrameTells.j0]
  rw [if_neg c0]
  by_cases c1 : (b'.length : Int) > 600
  · rw [if_pos c1]; simp [foliatelaw03_FrameTells.j0]
  rw [if_neg c1]
  by_cases c2 : (r.length : Int) > 600
  · rw [decide_eq_true c2]; simp [foliatelaw03_FrameTells.j0]
  rw [decide_eq_false c2]
  simp only [foliatelaw03_FrameTells.j0, Bool.false_eq_true, if_false]
  have hgb := getP_bytes hrb
  have hal := allL_length (r.length + 1) r hrb (Nat.lt_succ_self _)
  obtain ⟨p, hp1, hp2⟩ : ∃ p, frame_Put.f (m + 6002) a b = some p ∧ foliateref03_Put.f (m + 6002) a b = some p := by
    by_cases c : (0 ≤ a ∧ a ≤ 255) ∧ b.length ≤ 255
    · exact ⟨_, put_ok _ (by omega) a b c.1.1 c.1.2 c.2, rput_ok _ (by omega) a b c.1.1 c.1.2 c.2 hb⟩
    · exact ⟨_, put_bad _ (by omega) a b c, rput_bad _ (by omega) a b c⟩
  rw [hp1, obind, hp2, obind, get_eq _ (by omega) r hrb (by omega), obind, rget_eq _ (by omega) r hrb (by omega), obind, allf_eq _ r hrb (by omega) (by omega), obind, rall_eq _ (by omega) r hrb (by omega), obind]
  rw [rsame_eq _ _ _ _ hgb.1 hgb.1, obind, rlists_eq _ _ (by omega) (by omega), obind, rsame_eq _ _ _ _ hb hb', obind]
  rw [if_pos rfl, if_pos rfl, decide_eq_true ⟨rfl, rfl⟩, if_pos rfl, if_pos rfl, if_pos rfl, if_pos rfl, if_pos rfl, same_eq _ _ _ _ _ (by omega) (by omega), obind, beq_self_eq_true]
end Go.Proofs.Ytjihemgadbpebaa.Pure
