import Derived.Test.YtknkncdlcoglpaaDoorFrame
import Derived.Test.YtknkncdlcoglpaaDoorCrcRef
import Derived.Test.YtknkncdlcoglpaaDoorPAllx9
import Derived.Test.YtknkncdlcoglpaaDoorPAllx9
import Derived.Test.YtknkncdlcoglpaaDoorPAllx10
namespace Go.Proofs.YtknkncdlcoglpaaDoor.Frame
open Go.RowKit Go.Proofs.YtknkncdlcoglpaaDoor.PAll Go.Proofs.YtknkncdlcoglpaaDoorW.PrintWords Go.Proofs.YtknkncdlcoglpaaDoorW.PrintLast Go.Proofs.YtknkncdlcoglpaaDoor.Bits32 Go.Proofs.YtknkncdlcoglpaaDoor.Crc
/-! The document's frames, as they are printed, are the same. -/
theorem rput_ok (k : Nat) (hk : 3002 ≤ k) (a : Int) (b : List Int) (h0 : 0 ≤ a) (h1 : a ≤ 255) (hb : b.length ≤ 255) (hbb : Bytes b) : foliateref03_Put.f k a b = some (frameB a b, 0) := by
  obtain ⟨k, rfl⟩ : ∃ n, k = n + 1 := ⟨k - 1, by omega⟩
  have e1 : a % 256 = a := by omega
  have e2 : (b.length : Int) % 256 = (b.length : Int) := by omega
  have hh : Bytes [a, (b.length : Int)] := fun x hx => by
    simp only [List.mem_cons, List.not_mem_nil, or_false] at hx
    rcases hx with rfl | rfl <;> omega
  have hl := frameB_length a b
  have hf : sealed [a, (b.length : Int)] ++ sealed b = frameB a b := rfl
  have hlen : (sealed [a, (b.length : Int)]).length + (sealed b).length < 140737488355328 := by rw [← List.length_append, hf, hl]; omega
  unfold foliateref03_Put.f
  rw [if_neg (by omega), if_neg (by omega), decide_eq_false (by omega)]
  simp only [foliateref03_Put.j0, Bool.false_eq_true, if_false]
  rw [e1, e2, ref_seal _ hh (by simp) k (by omega), obind, ref_seal b hbb (by omega) k (by omega), obind, if_pos hlen, hf]
theorem byte_w (z : Int) (h0 : 0 ≤ z) (h1 : z ≤ 255) : wrap64 z = z := by unfold wrap64; omega
theorem nat_w (n : Nat) (h : n ≤ 255) : wrap64 (n : Int) = (n : Int) := by unfold wrap64; omega
theorem nat_w6 (n : Nat) (h : n ≤ 255) : wrap64 (6 + (n : Int)) = ((6 + n : Nat) : Int) := by unfold wrap64; omega
theorem nat_w10 (n : Nat) (h : n ≤ 255) : wrap64 (((6 + n : Nat) : Int) + 4) = ((n + 10 : Nat) : Int) := by unfold wrap64; omega
theorem nat_w11 (n : Nat) (h : n ≤ 255) : wrap64 (10 + (n : Int)) = 10 + (n : Int) := by unfold wrap64; omega
theorem rget_eq (k : Nat) (hk : 3001 ≤ k) (l : List Int) (hb : Bytes l) (h : l.length ≤ 3000) : foliateref03_Get.f k l = some (getP l) := by
  unfold foliateref03_Get.f getP
  by_cases c0 : (l.length : Int) < 6
  · have e : partP l 2 = 2 := by unfold partP; rw [if_pos (by omega)]
    rw [if_pos c0, e, if_neg (by decide)]
  have p6 : 6 ≤ (l.length : Int) := by omega
  have t6 : l.take (2 + 4) = l.take 6 := rfl
  rw [if_neg c0, if_pos p6, ref_good _ (hb.take 6) (by rw [List.length_take]; omega) k hk, obind]
  by_cases g : goodB (l.take 6) = true
  · have e : partP l 2 = 0 := by unfold partP; rw [if_neg (by omega), t6, if_pos g]
    rw [if_pos g, e, if_pos rfl]
    have b1 := getD_byte hb 1
    have b0 := getD_byte hb 0
    have r1 : rd l 1 = l.getD 1 0 := rfl
    have r0 : rd l 0 = l.getD 0 0 := rfl
    obtain ⟨n, hn⟩ : ∃ n : Nat, l.getD 1 0 = (n : Int) := ⟨(l.getD 1 0).toNat, by omega⟩
    rw [r1, r0, hn, Int.toNat_natCast]
    rw [hn] at b1
    have hn2 : n ≤ 255 := by omega
    have q1 : 1 < (l.length : Int) := by omega
    have q0 : 0 < (l.length : Int) := by omega
    have hd : (l.drop 6).length = l.length - 6 := List.length_drop
    rw [byte_w _ b0.1 b0.2, nat_w n hn2, nat_w6 n hn2, nat_w10 n hn2, nat_w11 n hn2, if_pos q1]
    clear r1 r0 hn b0
    by_cases c1 : (l.length : Int) < ((n + 10 : Nat) : Int)
    · have e2 : partP (l.drop 6) n = 2 := by unfold partP; rw [if_pos (by omega)]
      rw [if_pos c1, e2, if_neg (by decide)]
    have p1 : 6 ≤ ((n + 10 : Nat) : Int) := by omega
    have p2 : ((n + 10 : Nat) : Int) ≤ (l.length : Int) := by omega
    have ed : (l.take (n + 10)).drop 6 = (l.drop 6).take (n + 4) := by rw [List.drop_take]; congr 1
    have p3 : 6 ≤ ((6 + n : Nat) : Int) := by omega
    have p4 : ((6 + n : Nat) : Int) ≤ (l.length : Int) := by omega
    have ed2 : (l.take (6 + n)).drop 6 = (l.drop 6).take n := by rw [List.drop_take, Nat.add_sub_cancel_left]
    have hl4 : ((l.drop 6).take n).length ≤ 3000 := by rw [List.length_take]; omega
    rw [if_neg c1, if_pos p1, if_pos p2, Int.toNat_natCast, ed, ref_good _ ((hb.drop 6).take _) (by rw [List.length_take]; omega) k hk, obind]
    by_cases g2 : goodB ((l.drop 6).take (n + 4)) = true
    · have e2 : partP (l.drop 6) n = 0 := by unfold partP; rw [if_neg (by omega), if_pos g2]
      have p5 : ([] : List Int).length + ((l.drop 6).take n).length < 140737488355328 := by simp only [List.length_nil]; omega
      rw [if_pos g2, if_pos q0, if_pos p3, if_pos p4, Int.toNat_natCast, ed2, if_pos p5, e2, if_pos rfl, List.nil_append]
    · have e2 : partP (l.drop 6) n = 3 := by unfold partP; rw [if_neg (by omega), if_neg g2]
      rw [if_neg g2, e2, if_neg (by decide)]
  · have e : partP l 2 = 3 := by unfold partP; rw [if_neg (by omega), t6, if_neg g]
    rw [if_neg g, e, if_neg (by decide)]
theorem nat_add_w (i n : Nat) (h : i + n ≤ 3000) : wrap64 ((i : Int) + (n : Int)) = ((i + n : Nat) : Int) := by unfold wrap64; omega
theorem rall_loop (l : List Int) (hb : Bytes l) (hl : l.length ≤ 3000) (d : Nat) : ∀ (k i : Nat) (out : List S50), l.length - i < d → i ≤ l.length → d + 3001 ≤ k → out.length ≤ i → foliateref03_All.l0 k l out (i : Int) = some (if (allL (l.drop i)).2 = 0 then (out ++ (allL (l.drop i)).1, 0) else ([], (allL (l.drop i)).2)) := by
  induction d with
  | zero => intro k i out h; omega
  | succ d ih =>
    intro k i out h hi hk ho
    obtain ⟨k, rfl⟩ : ∃ m, k = m + 1 := ⟨k - 1, by omega⟩
    rw [foliateref03_All.l0.eq_2]
    by_cases c : i < l.length
    · have t0 : (i : Int) < (l.length : Int) := by omega
      have t1 : (0 : Int) ≤ (i : Int) := by omega
      have t2 : (i : Int) ≤ (l.length : Int) := by omega
      have hd : (l.drop i).length = l.length - i := List.length_drop
      have hne : l.drop i ≠ [] := fun e => by
        have := congrArg List.length e
        rw [hd, List.length_nil] at this
        omega
      rw [if_pos t0, if_pos t1, if_pos t2, Int.toNat_natCast, rget_eq k (by omega) _ (hb.drop i) (by omega), obind, allL_cons (hb.drop i) hne]
      by_cases g : (getP (l.drop i)).2.2.2 = 0
      · have hs := get_step (hb.drop i) g
        rw [hd] at hs
        rw [if_pos g, if_pos g, if_pos (show out.length < 4398046511104 by omega)]
        obtain ⟨n, hn⟩ : ∃ n : Nat, (getP (l.drop i)).2.2.1 = (n : Int) := ⟨(getP (l.drop i)).2.2.1.toNat, by omega⟩
        rw [hn] at hs ⊢
        have hin : i + n ≤ 3000 := by omega
        have r := ih k (i + n) (out ++ [⟨(getP (l.drop i)).1, (getP (l.drop i)).2.1⟩]) (by omega) (by omega) (by omega) (by rw [List.length_append, List.length_singleton]; omega)
        have ed : (l.drop i).drop n = l.drop (i + n) := List.drop_drop
        rw [nat_add_w i n hin, r, Int.toNat_natCast, ed]
        by_cases g2 : (allL (l.drop (i + n))).2 = 0
        · rw [if_pos g2, if_pos g2, if_pos rfl, List.append_assoc]; rfl
        · rw [if_neg g2, if_neg g2]; exact (by rw [if_neg g2])
      · rw [if_neg g, if_neg g]; exact (by rw [if_neg g])
    · have t0 : ¬ (i : Int) < (l.length : Int) := by omega
      rw [if_neg t0, List.drop_of_length_le (by omega), allL_nil, if_pos rfl, List.append_nil]
theorem rall_eq (k : Nat) (hk : 7000 ≤ k) (l : List Int) (hb : Bytes l) (hl : l.length ≤ 3000) : foliateref03_All.f k l = some (allL l) := by
  unfold foliateref03_All.f
  have r := rall_loop l hb hl (l.length + 1) k 0 [] (by omega) (by omega) (by omega) (by simp)
  rw [show ((0 : Nat) : Int) = 0 from rfl] at r
  rw [r, List.drop_zero]
  by_cases g : (allL l).2 = 0
  · rw [if_pos g, List.nil_append, ← g]
  · rw [if_neg g, ← allL_err hb g]
end Go.Proofs.YtknkncdlcoglpaaDoor.Frame
