import Derived.Test.YtknkncdlcoglpaaDoorFrCrc
import Derived.Test.YtknkncdlcoglpaaDoorPFrx2
import Derived.Test.YtknkncdlcoglpaaDoorPFrx3
import Derived.Test.YtknkncdlcoglpaaDoorPFrx4
import Derived.Test.YtknkncdlcoglpaaDoorPFrx6
import Derived.Test.YtknkncdlcoglpaaDoorPFrx1
import Derived.Test.YtknkncdlcoglpaaDoorPFrx3
namespace Go.Proofs.YtknkncdlcoglpaaDoor.FrFrame
open Go.RowKit Go.Proofs.YtknkncdlcoglpaaDoor.PFr Go.Proofs.YtknkncdlcoglpaaDoorW.PrintWords Go.Proofs.YtknkncdlcoglpaaDoorW.PrintLast Go.Proofs.YtknkncdlcoglpaaDoor.FrBits32 Go.Proofs.YtknkncdlcoglpaaDoor.FrCrc
/-! Frames, as they are printed, told plainly. -/
/-- a frame's bytes -/
def frameB (a : Int) (b : List Int) : List Int := sealed [a, (b.length : Int)] ++ sealed b
theorem frameB_length (a : Int) (b : List Int) : (frameB a b).length = b.length + 10 := by
  simp only [frameB, List.length_append, sealed_length, List.length_cons, List.length_nil]; omega
theorem put_ok (k : Nat) (hk : 1 ≤ k) (a : Int) (b : List Int) (h0 : 0 ≤ a) (h1 : a ≤ 255) (hb : b.length ≤ 255) : frame_Put.f k a b = some (frameB a b, 0) := by
  obtain ⟨k, rfl⟩ : ∃ n, k = n + 1 := ⟨k - 1, by omega⟩
  have e1 : a % 256 = a := by omega
  have e2 : (b.length : Int) % 256 = (b.length : Int) := by omega
  unfold frame_Put.f
  rw [if_neg (by omega), if_neg (by omega), decide_eq_false (by omega)]
  simp only [frame_Put.j0, Bool.false_eq_true, if_false]
  rw [e1, e2, seal_eq _ (by simp), obind, seal_eq _ (by omega), obind]
  unfold slices_Concat_byte_byte.f
  have hl := frameB_length a b
  have hf : ([sealed [a, (b.length : Int)], sealed b] : List (List Int)).flatten = frameB a b := by simp [frameB]
  rw [hf, if_pos (by rw [hl]; simp; omega), obind]
/-- what part answers, plainly -/
def partP (l : List Int) (n : Nat) : Int := if l.length < n + 4 then 2 else if goodB (l.take (n + 4)) = true then 0 else 3
theorem part_eq (k : Nat) (hk : 5 ≤ k) (l : List Int) (n : Nat) (h : l.length ≤ 140737488355328) : partE k l n = some (partP l n) := by
  unfold partE partP
  by_cases c : l.length < n + 4
  · rw [if_pos c, if_pos c]
  · rw [if_neg c, if_neg c, good_eq _ k hk (by rw [List.length_take]; omega), obind]
    split <;> rfl
/-- what Get answers, plainly -/
def getP (l : List Int) : Int × List Int × Int × Int :=
  if partP l 2 = 0 then (if partP (l.drop 6) (l.getD 1 0).toNat = 0 then (l.getD 0 0, (l.drop 6).take (l.getD 1 0).toNat, 10 + l.getD 1 0, 0) else (0, [], 0, partP (l.drop 6) (l.getD 1 0).toNat)) else (0, [], 0, partP l 2)
theorem part_len {l : List Int} {n : Nat} (h : partP l n = 0) : n + 4 ≤ l.length ∧ goodB (l.take (n + 4)) = true := by
  unfold partP at h
  by_cases c : l.length < n + 4
  · rw [if_pos c] at h; exact absurd h (by decide)
  · rw [if_neg c] at h
    by_cases g : goodB (l.take (n + 4)) = true
    · exact ⟨by omega, g⟩
    · rw [if_neg g] at h; exact absurd h (by decide)
theorem getD_byte {l : List Int} (h : Bytes l) (i : Nat) : 0 ≤ l.getD i 0 ∧ l.getD i 0 ≤ 255 := by
  rw [List.getD_eq_getElem?_getD]
  by_cases c : i < l.length
  · rw [List.getElem?_eq_getElem c]; exact h _ (List.getElem_mem c)
  · rw [List.getElem?_eq_none (by omega)]; decide
theorem get_eq (k : Nat) (hk : 5 ≤ k) (l : List Int) (hb : Bytes l) (h : l.length < 140737488355328) : frame_Get.f k l = some (getP l) := by
  unfold frame_Get.f getP
  rw [part_eq k hk l 2 (by omega), obind]
  by_cases c : partP l 2 = 0
  · rw [if_pos c, if_pos c, if_pos ⟨⟨getD_byte hb 0, getD_byte hb 1⟩, h⟩, part_eq k hk _ _ (by rw [List.length_drop]; omega), obind]
    split <;> rfl
  · rw [if_neg c, if_neg c]
set_option linter.unusedVariables false in
/-- a frame's bytes, and whatever stands behind, are read as that frame -/
theorem get_frame (a : Int) (b r : List Int) (h0 : 0 ≤ a) (h1 : a ≤ 255) (hb : b.length ≤ 255) : getP (frameB a b ++ r) = (a, b, (b.length : Int) + 10, 0) := by
  have hs6 : (sealed [a, (b.length : Int)]).length = 6 := by rw [sealed_length]; rfl
  have e0 : (frameB a b ++ r).getD 0 0 = a := rfl
  have e1 : (frameB a b ++ r).getD 1 0 = (b.length : Int) := rfl
  have et : (frameB a b ++ r).take 6 = sealed [a, (b.length : Int)] := by
    unfold frameB; rw [List.append_assoc, List.take_append_of_le_length (by omega), List.take_of_length_le (by omega)]
  have ed : (frameB a b ++ r).drop 6 = sealed b ++ r := by
    unfold frameB; rw [List.append_assoc, List.drop_append_of_le_length (by omega), List.drop_of_length_le (by omega)]; rfl
  have hl := frameB_length a b
  have ep : partP (frameB a b ++ r) 2 = 0 := by
    unfold partP
    rw [if_neg (by rw [List.length_append]; omega), et, sealed_good]; rfl
  have hsl := sealed_length b
  have ep2 : partP (sealed b ++ r) b.length = 0 := by
    unfold partP
    rw [if_neg (by rw [List.length_append]; omega), List.take_append_of_le_length (by omega), List.take_of_length_le (by omega), sealed_good]; rfl
  have eb : (sealed b ++ r).take b.length = b := by
    unfold sealed; rw [List.append_assoc, List.take_append_of_le_length (Nat.le_refl _), List.take_of_length_le (Nat.le_refl _)]
  unfold getP
  rw [if_pos ep, e0, e1, ed, Int.toNat_natCast, if_pos ep2, eb, Int.add_comm]
/-- what is read is a frame's bytes, and something behind -/
theorem get_inv {l : List Int} (hb : Bytes l) (h : (getP l).2.2.2 = 0) : ∃ a b r, l = frameB a b ++ r ∧ (0 ≤ a ∧ a ≤ 255) ∧ b.length ≤ 255 ∧ Bytes b ∧ Bytes r ∧ getP l = (a, b, (b.length : Int) + 10, 0) := by
  have key : partP l 2 = 0 ∧ partP (l.drop 6) (l.getD 1 0).toNat = 0 := by
    unfold getP at h
    by_cases c : partP l 2 = 0
    · refine ⟨c, ?_⟩
      rw [if_pos c] at h
      by_cases c2 : partP (l.drop 6) (l.getD 1 0).toNat = 0
      · exact c2
      · rw [if_neg c2] at h; exact absurd h c2
    · rw [if_neg c] at h; exact absurd h c
  obtain ⟨p1, p2⟩ := key
  obtain ⟨h6, g1⟩ := part_len p1
  obtain ⟨hn, g2⟩ := part_len p2
  obtain ⟨q1, s1⟩ := good_sealed g1
  obtain ⟨q2, s2⟩ := good_sealed g2
  have b1 := getD_byte hb 1
  obtain ⟨n, hn1⟩ : ∃ n : Nat, l.getD 1 0 = (n : Int) := ⟨(l.getD 1 0).toNat, by omega⟩
  rw [hn1, Int.toNat_natCast] at hn g2 s2 q2
  have e2 : ((l.drop 6).take (n + 4)).length = n + 4 := by rw [List.length_take]; omega
  have ht2 : ((l.drop 6).take (n + 4)).take (((l.drop 6).take (n + 4)).length - 4) = (l.drop 6).take n := by
    rw [e2, List.take_take]; congr 1; omega
  rw [ht2] at s2
  have hbl : ((l.drop 6).take n).length = n := by rw [List.length_take]; omega
  have ht1 : (l.take (2 + 4)).take ((l.take (2 + 4)).length - 4) = [l.getD 0 0, l.getD 1 0] := by
    have : (l.take (2 + 4)).length = 6 := by rw [List.length_take]; omega
    rw [this, List.take_take]
    rcases l with _ | ⟨x, _ | ⟨y, t⟩⟩
    · simp at h6
    · simp at h6
    · rfl
  rw [ht1, hn1] at s1
  have hl : l = frameB (l.getD 0 0) ((l.drop 6).take n) ++ (l.drop 6).drop (n + 4) := by
    unfold frameB
    rw [hbl, s1, s2, List.append_assoc, List.take_append_drop]
    exact (List.take_append_drop 6 l).symm
  refine ⟨l.getD 0 0, (l.drop 6).take n, (l.drop 6).drop (n + 4), hl, getD_byte hb 0, by rw [hbl]; omega, (hb.drop 6).take n, (hb.drop 6).drop _, ?_⟩
  conv => lhs; rw [hl]
  exact get_frame _ _ _ (getD_byte hb 0).1 (getD_byte hb 0).2 (by rw [hbl]; omega)
theorem get_err {l : List Int} (h : (getP l).2.2.2 ≠ 0) : getP l = (0, [], 0, (getP l).2.2.2) := by
  unfold getP at h ⊢
  by_cases c : partP l 2 = 0
  · rw [if_pos c] at h ⊢
    by_cases c2 : partP (l.drop 6) (l.getD 1 0).toNat = 0
    · rw [if_pos c2] at h; exact absurd rfl h
    · rw [if_neg c2]
  · rw [if_neg c]
/-- all frames, plainly -/
def allP : Nat → List Int → List S50 × Int
  | 0, _ => ([], 0)
  | n + 1, l => if l = [] then ([], 0) else if (getP l).2.2.2 = 0 then (if (allP n (l.drop (getP l).2.2.1.toNat)).2 = 0 then (⟨(getP l).1, (getP l).2.1⟩ :: (allP n (l.drop (getP l).2.2.1.toNat)).1, 0) else ([], (allP n (l.drop (getP l).2.2.1.toNat)).2)) else ([], (getP l).2.2.2)
theorem get_step {l : List Int} (hb : Bytes l) (h : (getP l).2.2.2 = 0) : 10 ≤ (getP l).2.2.1 ∧ (getP l).2.2.1 ≤ (l.length : Int) := by
  obtain ⟨a, b, r, hl, _, _, _, _, he⟩ := get_inv hb h
  rw [he]
  have := frameB_length a b
  have h2 : l.length = (frameB a b).length + r.length := by rw [← List.length_append, ← hl]
  constructor
  · show (10 : Int) ≤ (b.length : Int) + 10; omega
  · show (b.length : Int) + 10 ≤ (l.length : Int); omega
theorem allP_fuel : ∀ (n m : Nat) (l : List Int), Bytes l → l.length < n → l.length < m → allP n l = allP m l
  | 0, _, _, _, h, _ => absurd h (by omega)
  | _, 0, _, _, _, h => absurd h (by omega)
  | n + 1, m + 1, l, hb, hn, hm => by
    rw [allP.eq_2, allP.eq_2]
    by_cases c : l = []
    · rw [if_pos c, if_pos c]
    · rw [if_neg c, if_neg c]
      by_cases g : (getP l).2.2.2 = 0
      · have hs := get_step hb g
        have hd : (l.drop (getP l).2.2.1.toNat).length = l.length - (getP l).2.2.1.toNat := List.length_drop
        rw [if_pos g, if_pos g, allP_fuel n m _ (hb.drop _) (by omega) (by omega)]
      · rw [if_neg g, if_neg g]
def allL (l : List Int) : List S50 × Int := allP (l.length + 1) l
theorem allL_nil : allL [] = ([], 0) := rfl
theorem allL_cons {l : List Int} (hb : Bytes l) (h : l ≠ []) : allL l = if (getP l).2.2.2 = 0 then (if (allL (l.drop (getP l).2.2.1.toNat)).2 = 0 then (⟨(getP l).1, (getP l).2.1⟩ :: (allL (l.drop (getP l).2.2.1.toNat)).1, 0) else ([], (allL (l.drop (getP l).2.2.1.toNat)).2)) else ([], (getP l).2.2.2) := by
  conv => lhs; unfold allL
  rw [allP.eq_2, if_neg h]
  by_cases g : (getP l).2.2.2 = 0
  · have hs := get_step hb g
    have hd : (l.drop (getP l).2.2.1.toNat).length = l.length - (getP l).2.2.1.toNat := List.length_drop
    rw [if_pos g, if_pos g, allP_fuel l.length _ _ (hb.drop _) (by omega) (Nat.lt_succ_self _)]
    rfl
  · rw [if_neg g, if_neg g]
theorem allL_err {l : List Int} (hb : Bytes l) (h : (allL l).2 ≠ 0) : (allL l).1 = [] := by
  by_cases c : l = []
  · subst c; rfl
  · rw [allL_cons hb c] at h ⊢
    by_cases g : (getP l).2.2.2 = 0
    · rw [if_pos g] at h ⊢
      by_cases g2 : (allL (l.drop (getP l).2.2.1.toNat)).2 = 0
      · rw [if_pos g2] at h; exact absurd rfl h
      · rw [if_neg g2]
    · rw [if_neg g]
set_option linter.unusedVariables false in
theorem allL_frame {a : Int} {b r : List Int} (h0 : 0 ≤ a) (h1 : a ≤ 255) (hb : b.length ≤ 255) (hbb : Bytes b) (hr : Bytes r) : allL (frameB a b ++ r) = if (allL r).2 = 0 then (⟨a, b⟩ :: (allL r).1, 0) else ([], (allL r).2) := by
  have hl := frameB_length a b
  have hB : Bytes (frameB a b ++ r) := by
    refine Bytes.append (Bytes.append (sealed_bytes ?_) (sealed_bytes hbb)) hr
    intro x hx
    simp only [List.mem_cons, List.not_mem_nil, or_false] at hx
    rcases hx with rfl | rfl <;> omega
  have hn : frameB a b ++ r ≠ [] := fun h => by
    have := congrArg List.length h
    rw [List.length_append, hl] at this
    simp at this
  have hd : (frameB a b ++ r).drop ((b.length : Int) + 10).toNat = r := by
    rw [show ((b.length : Int) + 10).toNat = (frameB a b).length by omega, List.drop_left]
  rw [allL_cons hB hn, get_frame a b r h0 h1 hb, if_pos rfl, hd]
theorem frame_bytes {a : Int} {b : List Int} (h0 : 0 ≤ a) (h1 : a ≤ 255) (hb : b.length ≤ 255) (hbb : Bytes b) : Bytes (frameB a b) := by
  refine Bytes.append (sealed_bytes ?_) (sealed_bytes hbb)
  intro x hx
  simp only [List.mem_cons, List.not_mem_nil, or_false] at hx
  rcases hx with rfl | rfl <;> omega
theorem all_eq : ∀ (n k : Nat) (l : List Int) (out : List S50), l.length < n → n + 5 ≤ k → Bytes l → l.length + out.length < 1000000 → frame_All.l0 k l out = some (if (allL l).2 = 0 then (out ++ (allL l).1, 0) else ([], (allL l).2))
  | 0, _, _, _, h, _, _, _ => absurd h (by omega)
  | n + 1, k, l, out, h, hk, hb, ho => by
    obtain ⟨k, rfl⟩ : ∃ m, k = m + 1 := ⟨k - 1, by omega⟩
    rw [frame_All.l0.eq_2]
    by_cases c : l = []
    · rw [if_pos c]; subst c; rw [allL_nil]; simp
    · rw [if_neg c, get_eq k (by omega) l hb (by omega), obind, allL_cons hb c]
      by_cases g : (getP l).2.2.2 = 0
      · have hs := get_step hb g
        have hd : (l.drop (getP l).2.2.1.toNat).length = l.length - (getP l).2.2.1.toNat := List.length_drop
        rw [if_pos g, if_pos g, if_pos ⟨⟨by omega, hs.2⟩, by omega⟩, all_eq n k _ _ (by omega) (by omega) (hb.drop _) (by rw [hd, List.length_append, List.length_singleton]; omega)]
        by_cases g2 : (allL (l.drop (getP l).2.2.1.toNat)).2 = 0
        · rw [if_pos g2, if_pos g2, if_pos rfl, List.append_assoc]; rfl
        · rw [if_neg g2, if_neg g2]; exact (by rw [if_neg g2])
      · rw [if_neg g, if_neg g]; exact (by rw [if_neg g])
theorem allf_eq (k : Nat) (l : List Int) (hb : Bytes l) (hl : l.length < 1000000) (hk : l.length + 6 ≤ k) : frame_All.f k l = some (allL l) := by
  unfold frame_All.f
  rw [all_eq (l.length + 1) k l [] (by omega) (by omega) hb (by simpa using hl)]
  by_cases g : (allL l).2 = 0
  · rw [if_pos g, List.nil_append, ← g]
  · rw [if_neg g, ← allL_err hb g]
theorem next_nat (i : Nat) (h : i < 1000000) : wrap64 ((i : Int) + 1) = ((i + 1 : Nat) : Int) := by unfold wrap64; omega
/-- equality of rows, as it is printed -/
theorem equal_loop (l m : List Int) (n : Nat) (hl : l.length = n) (hm : m.length = n) (hn : n < 1000000) (d : Nat) : ∀ (k i : Nat), i + d = n → d < k → slices_Equal_byte_byte.l0 k l m (n : Int) (i : Int) = some (decide (l.drop i = m.drop i)) := by
  induction d with
  | zero =>
    intro k i hi hk
    obtain ⟨k, rfl⟩ : ∃ q, k = q + 1 := ⟨k - 1, by omega⟩
    rw [slices_Equal_byte_byte.l0.eq_2, if_neg (by omega), List.drop_of_length_le (by omega), List.drop_of_length_le (by omega)]
    rfl
  | succ d ih =>
    intro k i hi hk
    obtain ⟨k, rfl⟩ : ∃ q, k = q + 1 := ⟨k - 1, by omega⟩
    have il : i < l.length := by omega
    have im : i < m.length := by omega
    have t0 : (i : Int) < (n : Int) := by omega
    have t1 : (0 : Int) ≤ (i : Int) := by omega
    have t2 : (i : Int) < (l.length : Int) := by omega
    have t3 : (i : Int) < (m.length : Int) := by omega
    have ew := next_nat i (by omega)
    have t4 := ih k (i + 1) (by omega) (by omega)
    have e1 : rd l (i : Int) = l[i] := by unfold rd; rw [Int.toNat_natCast, List.getD_eq_getElem?_getD, List.getElem?_eq_getElem il]; rfl
    have e2 : rd m (i : Int) = m[i] := by unfold rd; rw [Int.toNat_natCast, List.getD_eq_getElem?_getD, List.getElem?_eq_getElem im]; rfl
    rw [slices_Equal_byte_byte.l0.eq_2, if_pos t0, if_pos t1, if_pos t2, if_pos t3, e1, e2, ew, List.drop_eq_getElem_cons il, List.drop_eq_getElem_cons im]
    by_cases c : l[i] = m[i]
    · rw [if_pos c, t4, c]
      simp only [List.cons.injEq, true_and]
    · rw [if_neg c]
      simp only [List.cons.injEq, c, false_and, decide_false]
theorem equal_eq (k : Nat) (l m : List Int) (hl : l.length < 1000000) (hk : l.length + 1 ≤ k) : slices_Equal_byte_byte.f k l m = some (decide (l = m)) := by
  unfold slices_Equal_byte_byte.f
  by_cases c : l.length = m.length
  · rw [if_pos (by omega)]
    have := equal_loop l m l.length rfl c.symm hl l.length k 0 (by omega) (by omega)
    simpa using this
  · rw [if_neg (by omega), decide_eq_false (fun h => c (by rw [h]))]
end Go.Proofs.YtknkncdlcoglpaaDoor.FrFrame
