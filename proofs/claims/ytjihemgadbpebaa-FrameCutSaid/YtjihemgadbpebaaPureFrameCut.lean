/- For every two frames that have bytes, and every number: of these bytes, one behind the other, cut there, all frames are none, the first, or both, just where they are cut ahead, between the two, or nowhere; anywhere else there are none, and the error is that of bytes that are none's. Frames that have none, and numbers beyond, are answered as the law itself says. -/
import Derived.Test.YtjihemgadbpebaaFrameAwake
import Derived.Test.YtjihemgadbpebaaPAllx7
namespace Go.Proofs.Ytjihemgadbpebaa.Pure
open Go.RowKit Go.Proofs.Ytjihemgadbpebaa.PAll Go.Proofs.YtjihemgadbpebaaW.PrintWords Go.Proofs.YtjihemgadbpebaaW.PrintLast Go.Proofs.Ytjihemgadbpebaa.Bits32 Go.Proofs.Ytjihemgadbpebaa.Crc Go.Proofs.Ytjihemgadbpebaa.Frame
theorem get_cut (a : Int) (b : List Int) (j : Nat) (h : j < b.length + 10) : getP ((frameB a b).take j) = (0, [], 0, 2) := by
  have hl := frameB_length a b
  have hs6 : (sealed [a, (b.length : Int)]).length = 6 := by rw [sealed_length]; rfl
  have hsl := sealed_length b
  by_cases c : j < 6
  · have e : partP ((frameB a b).take j) 2 = 2 := by
      unfold partP; rw [if_pos (by rw [List.length_take]; omega)]
    unfold getP
    rw [e, if_neg (by decide)]
  · have et : ((frameB a b).take j).take 6 = sealed [a, (b.length : Int)] := by
      rw [List.take_take, Nat.min_eq_left (by omega)]
      unfold frameB; rw [List.take_append_of_le_length (by omega), List.take_of_length_le (by omega)]
    have ed : ((frameB a b).take j).drop 6 = (sealed b).take (j - 6) := by
      rw [List.drop_take]
      unfold frameB; rw [List.drop_append_of_le_length (by omega), List.drop_of_length_le (by omega)]; rfl
    have e1 : ((frameB a b).take j).getD 1 0 = (b.length : Int) := by
      rw [List.getD_eq_getElem?_getD, List.getElem?_take_of_lt (by omega)]; rfl
    have ep : partP ((frameB a b).take j) 2 = 0 := by
      unfold partP
      rw [if_neg (by rw [List.length_take]; omega), et, sealed_good]; rfl
    have ep2 : partP ((sealed b).take (j - 6)) b.length = 2 := by
      unfold partP
      rw [if_pos (by rw [List.length_take]; omega)]
    unfold getP
    rw [if_pos ep, e1, ed, Int.toNat_natCast, ep2, if_neg (by decide)]
theorem all_cut {a : Int} {b : List Int} (hB : Bytes (frameB a b)) (j : Nat) (h0 : 0 < j) (h : j < b.length + 10) : allL ((frameB a b).take j) = ([], 2) := by
  have hl := frameB_length a b
  have hn : (frameB a b).take j ≠ [] := fun e => by
    have := congrArg List.length e
    rw [List.length_take, List.length_nil] at this
    omega
  rw [allL_cons (hB.take j) hn, get_cut a b j h, if_neg (by decide)]
theorem FrameCut (a : Int) (b : List Int) (hw : ∀ y ∈ b, (Lit.int .u8 y).wf = true) (a' : Int) (b' : List Int) (hw' : ∀ y ∈ b', (Lit.int .u8 y).wf = true) (n : Int) : ∃ k, foliatelaw03_FrameCut.f k a b a' b' n = some true := by
  obtain ⟨m, aw⟩ := awake
  have hb := bytes_of hw
  have hb' := bytes_of hw'
  refine ⟨m + 1000, ?_⟩
  unfold foliatelaw03_FrameCut.f
  rw [aw _ (by omega), obind]
  have triv : ∀ p q, foliatelaw03_FrameCut.j0 (m + 1000) n true p q true = some true := fun p q => by simp [foliatelaw03_FrameCut.j0]
  by_cases c : (0 ≤ a ∧ a ≤ 255) ∧ b.length ≤ 255
  rotate_left
  · rw [put_bad _ (by omega) a b c, obind]
    by_cases c' : (0 ≤ a' ∧ a' ≤ 255) ∧ b'.length ≤ 255
    · rw [put_ok _ (by omega) a' b' c'.1.1 c'.1.2 c'.2, obind, if_pos rfl, if_neg (by decide)]; exact triv _ _
    · rw [put_bad _ (by omega) a' b' c', obind, if_pos rfl, if_neg (by decide)]; exact triv _ _
  obtain ⟨⟨h0, h1⟩, h2⟩ := c
  rw [put_ok _ (by omega) a b h0 h1 h2, obind]
  by_cases c' : (0 ≤ a' ∧ a' ≤ 255) ∧ b'.length ≤ 255
  rotate_left
  · rw [put_bad _ (by omega) a' b' c', obind, if_pos rfl, if_pos rfl]; exact triv _ _
  obtain ⟨⟨h0', h1'⟩, h2'⟩ := c'
  rw [put_ok _ (by omega) a' b' h0' h1' h2', obind, if_pos rfl, if_pos rfl]
  have e0 : ((0 : Int) != 0) = false := rfl
  have hl := frameB_length a b
  have hl' := frameB_length a' b'
  have hP := frame_bytes h0 h1 h2 hb
  have hQ := frame_bytes h0' h1' h2' hb'
  have hPQ := hP.append hQ
  have hpq : (frameB a b ++ frameB a' b').length = b.length + b'.length + 20 := by rw [List.length_append]; omega
  rw [e0]
  simp only [foliatelaw03_FrameCut.j0, Bool.false_eq_true, if_false, List.nil_append, List.length_nil, Nat.zero_add]
  rw [if_pos (by omega), obind, if_pos (by omega), obind]
  have triv1 : foliatelaw03_FrameCut.j1 (m + 999) n (frameB a b) (frameB a b ++ frameB a' b') true = some true := by simp [foliatelaw03_FrameCut.j1]
  by_cases n0 : n < 0
  · rw [if_pos n0]; exact triv1
  rw [if_neg n0]
  by_cases n1 : n > ((frameB a b ++ frameB a' b').length : Int)
  · rw [decide_eq_true n1]; exact triv1
  rw [decide_eq_false n1]
  simp only [foliatelaw03_FrameCut.j1, Bool.false_eq_true, if_false]
  obtain ⟨j, rfl⟩ := Int.eq_ofNat_of_zero_le (show 0 ≤ n by omega)
  rw [if_pos (by omega), if_pos (by omega), Int.toNat_natCast, allf_eq _ _ (hPQ.take j) (by rw [List.length_take]; omega) (by rw [List.length_take]; omega), obind]
  have one : allL (frameB a b) = ([⟨a, b⟩], 0) := by
    have := allL_frame (r := []) h0 h1 h2 hb (fun x hx => by cases hx)
    rw [List.append_nil, allL_nil] at this
    exact this
  have one' : allL (frameB a' b') = ([⟨a', b'⟩], 0) := by
    have := allL_frame (r := []) h0' h1' h2' hb' (fun x hx => by cases hx)
    rw [List.append_nil, allL_nil] at this
    exact this
  by_cases j0 : j = 0
  · subst j0
    rw [if_pos (by rfl), List.take_zero, allL_nil]
    simp only [foliatelaw03_FrameCut.j2, if_true]
    rw [if_neg (by decide), if_neg (by rw [hpq]; omega)]
    rfl
  rw [if_neg (by omega)]
  by_cases j1 : j = b.length + 10
  · have et : (frameB a b ++ frameB a' b').take j = frameB a b := by rw [List.take_append_of_le_length (by omega), List.take_of_length_le (by omega)]
    rw [if_pos (by omega), et, one]
    simp only [foliatelaw03_FrameCut.j2, if_true]
    rw [if_pos (by omega), if_neg (by rw [hpq]; omega)]
    rfl
  rw [if_neg (by omega)]
  by_cases j2 : j = b.length + b'.length + 20
  · have et : (frameB a b ++ frameB a' b').take j = frameB a b ++ frameB a' b' := List.take_of_length_le (by omega)
    have eb : ((j : Int) == ((frameB a b ++ frameB a' b').length : Int)) = true := beq_iff_eq.mpr (by omega)
    rw [et, eb, allL_frame h0 h1 h2 hb hQ, one']
    simp only [foliatelaw03_FrameCut.j2, if_true]
    rw [if_pos (by omega), if_pos (by omega)]
    rfl
  have eb : ((j : Int) == ((frameB a b ++ frameB a' b').length : Int)) = false := beq_eq_false_iff_ne.mpr (by omega)
  have key : allL ((frameB a b ++ frameB a' b').take j) = ([], 2) := by
    by_cases j3 : j < b.length + 10
    · rw [List.take_append_of_le_length (by omega)]
      exact all_cut hP j (by omega) j3
    · have et : (frameB a b ++ frameB a' b').take j = frameB a b ++ (frameB a' b').take (j - (frameB a b).length) := by
        rw [List.take_append]
        congr 1
        exact List.take_of_length_le (by omega)
      rw [et, allL_frame h0 h1 h2 hb (hQ.take _), all_cut hQ _ (by omega) (by omega), if_neg (by decide)]
  rw [key, eb]
  simp [foliatelaw03_FrameCut.j2]
end Go.Proofs.Ytjihemgadbpebaa.Pure
