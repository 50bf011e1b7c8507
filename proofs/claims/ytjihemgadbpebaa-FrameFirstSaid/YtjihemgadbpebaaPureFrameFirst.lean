/- For every row of bytes that is not empty: if its first frame can be read, it is at least ten bytes long and no longer than the row, and all frames are that one and those of the rest, or none where the rest has an error, which is then all's; if it can't be read, its error is that of all, and there are none. Rows of more than 600 bytes, and the empty one, are answered as the law itself says. -/
import Derived.Test.YtjihemgadbpebaaFrameAwake
import Derived.Test.YtjihemgadbpebaaPAllx9
namespace Go.Proofs.Ytjihemgadbpebaa.Pure
open Go.RowKit Go.Proofs.Ytjihemgadbpebaa.PAll Go.Proofs.YtjihemgadbpebaaW.PrintWords Go.Proofs.YtjihemgadbpebaaW.PrintLast Go.Proofs.Ytjihemgadbpebaa.Bits32 Go.Proofs.Ytjihemgadbpebaa.Crc Go.Proofs.Ytjihemgadbpebaa.Frame
theorem FrameFirst : foliatelaw03_FrameFirst.Pure := by
  intro l _ _ hw
  have hb := bytes_of hw
  obtain ⟨m, aw⟩ := awake
  refine ⟨m + 1000, ?_⟩
  unfold foliatelaw03_FrameFirst.f
  rw [aw _ (by omega), obind, if_pos rfl]
  by_cases c0 : (l.length : Int) > 600
  · rw [if_pos c0]; simp [foliatelaw03_FrameFirst.j0]
  rw [if_neg c0]
  by_cases c1 : l = []
  · subst c1; simp [foliatelaw03_FrameFirst.j0]
  have hpos : 0 < l.length := List.length_pos_iff.2 c1
  have e0 : ((l.length : Int) == 0) = false := beq_eq_false_iff_ne.mpr (by omega)
  rw [e0]
  simp only [foliatelaw03_FrameFirst.j0, Bool.false_eq_true, if_false]
  rw [allf_eq _ l hb (by omega) (by omega), obind, get_eq _ (by omega) l hb (by omega), obind]
  have ha := allL_cons hb c1
  by_cases g : (getP l).2.2.2 = 0
  · rw [if_pos g] at ha ⊢
    have hs := get_step hb g
    rw [if_neg (by omega), decide_eq_false (by omega)]
    simp only [foliatelaw03_FrameFirst.j1, Bool.false_eq_true, if_false]
    have hbl : (getP l).2.1.length < 1000000 ∧ (getP l).2.1.length ≤ 255 := by
      obtain ⟨a, b, r, hl, _, h2, _, _, he⟩ := get_inv hb g
      rw [he]
      exact ⟨by show b.length < 1000000; omega, h2⟩
    generalize (getP l).2.2.1 = n at ha hs ⊢
    generalize getP l = t at ha hbl ⊢
    have hd : (l.drop n.toNat).length = l.length - n.toNat := List.length_drop
    rw [if_pos (by omega), if_pos hs.2, allf_eq _ _ (hb.drop _) (by omega) (by omega), obind]
    by_cases g2 : (allL (l.drop n.toNat)).2 = 0
    · rw [if_pos g2] at ha
      rw [ha, g2]
      simp only [if_true]
      have hbd : (allL (l.drop n.toNat)).1.length ≤ 1000 := by
        have : ∀ (q : Nat) (x : List Int), Bytes x → x.length < q → (allL x).1.length ≤ x.length := by
          intro q
          induction q with
          | zero => intro x _ h; omega
          | succ q ih =>
            intro x hx hq
            by_cases cx : x = []
            · subst cx; rw [allL_nil]; exact Nat.le_refl _
            · rw [allL_cons hx cx]
              by_cases gx : (getP x).2.2.2 = 0
              · rw [if_pos gx]
                have sx := get_step hx gx
                have dx : (x.drop (getP x).2.2.1.toNat).length = x.length - (getP x).2.2.1.toNat := List.length_drop
                by_cases gy : (allL (x.drop (getP x).2.2.1.toNat)).2 = 0
                · rw [if_pos gy]
                  have := ih (x.drop (getP x).2.2.1.toNat) (hx.drop _) (by omega)
                  show (allL (x.drop (getP x).2.2.1.toNat)).1.length + 1 ≤ x.length
                  omega
                · rw [if_neg gy]; exact Nat.zero_le _
              · rw [if_neg gx]; exact Nat.zero_le _
        have h1 := this _ _ (hb.drop n.toNat) (Nat.lt_succ_self _)
        omega
      have e1 : ((⟨t.1, t.2.1⟩ :: (allL (l.drop n.toNat)).1 : List S24).length : Int) = wrap64 (((allL (l.drop n.toNat)).1.length : Int) + 1) := by
        rw [List.length_cons]; unfold wrap64; omega
      rw [if_pos e1, if_pos (by rw [List.length_cons]; omega)]
      have e2 : rd_T24 (⟨t.1, t.2.1⟩ :: (allL (l.drop n.toNat)).1) 0 = ⟨t.1, t.2.1⟩ := rfl
      rw [e2, same_eq _ _ _ _ _ hbl.1 (by show t.2.1.length + 1 ≤ _; omega), obind]
      simp
    · rw [if_neg g2] at ha
      rw [ha]
      simp only [if_true]
      rw [if_neg g2]
      rfl
  · rw [if_neg g] at ha ⊢
    rw [ha]
    simp
end Go.Proofs.Ytjihemgadbpebaa.Pure
