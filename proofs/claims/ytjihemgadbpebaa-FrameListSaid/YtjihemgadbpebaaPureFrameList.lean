/- For every row of at most eight frames: if each has bytes, these, one behind the other, are read as the frames that they were; if one has none, there are no bytes of it. Longer rows are answered as the law itself says. -/
import Derived.Test.YtjihemgadbpebaaFrameAwake
import Derived.Test.YtjihemgadbpebaaPAllx7
namespace Go.Proofs.Ytjihemgadbpebaa.Pure
open Go.RowKit Go.Proofs.Ytjihemgadbpebaa.PAll Go.Proofs.YtjihemgadbpebaaW.PrintWords Go.Proofs.YtjihemgadbpebaaW.PrintLast Go.Proofs.Ytjihemgadbpebaa.Bits32 Go.Proofs.Ytjihemgadbpebaa.Crc Go.Proofs.Ytjihemgadbpebaa.Frame
def FrameOk (x : S24) : Prop := (0 ≤ x.f0 ∧ x.f0 ≤ 255) ∧ x.f1.length ≤ 255
def catF (l : List S24) : List Int := (l.map fun x => frameB x.f0 x.f1).flatten
theorem catF_append (l m : List S24) : catF (l ++ m) = catF l ++ catF m := by simp [catF]
theorem catF_bytes : ∀ (l : List S24), (∀ x ∈ l, FrameOk x ∧ Bytes x.f1) → Bytes (catF l) ∧ (catF l).length ≤ 265 * l.length
  | [], _ => ⟨(fun x hx => by cases hx), Nat.le_refl _⟩
  | x :: l, h => by
    obtain ⟨⟨⟨h0, h1⟩, h2⟩, hb⟩ := h x (List.mem_cons_self ..)
    obtain ⟨i1, i2⟩ := catF_bytes l (fun y hy => h y (List.mem_cons_of_mem _ hy))
    have e : catF (x :: l) = frameB x.f0 x.f1 ++ catF l := rfl
    have hl := frameB_length x.f0 x.f1
    rw [e, List.length_append, List.length_cons]
    exact ⟨(frame_bytes h0 h1 h2 hb).append i1, by omega⟩
theorem all_catF : ∀ (l : List S24), (∀ x ∈ l, FrameOk x ∧ Bytes x.f1) → allL (catF l) = (l, 0)
  | [], _ => rfl
  | x :: l, h => by
    obtain ⟨⟨⟨h0, h1⟩, h2⟩, hb⟩ := h x (List.mem_cons_self ..)
    have hr := fun y hy => h y (List.mem_cons_of_mem _ hy)
    have e : catF (x :: l) = frameB x.f0 x.f1 ++ catF l := rfl
    rw [e, allL_frame h0 h1 h2 hb (catF_bytes l hr).1, all_catF l hr]
    rfl
theorem lists_loop (l : List S24) (hl : l.length ≤ 100) (d : Nat) : ∀ (k i : Nat), i + d = l.length → d < k → foliateref03_Lists.l0 k l l (i : Int) = some true := by
  induction d with
  | zero =>
    intro k i hi hk
    obtain ⟨k, rfl⟩ : ∃ q, k = q + 1 := ⟨k - 1, by omega⟩
    rw [foliateref03_Lists.l0.eq_2, if_neg (by omega)]
  | succ d ih =>
    intro k i hi hk
    obtain ⟨k, rfl⟩ : ∃ q, k = q + 1 := ⟨k - 1, by omega⟩
    have t0 : (i : Int) < (l.length : Int) := by omega
    have t1 : (0 : Int) ≤ (i : Int) := by omega
    have t2 := ih k (i + 1) (by omega) (by omega)
    have ew := next_nat i (by omega)
    rw [foliateref03_Lists.l0.eq_2, if_pos t0, if_pos t1, if_pos t0]
    unfold foliateref03_Same.f
    rw [if_pos rfl, obind, beq_self_eq_true, if_pos rfl, ew]
    exact t2
theorem list_loop (l : List S24) (hl : l.length ≤ 8) (hb : ∀ x ∈ l, Bytes x.f1) (d : Nat) : ∀ (k i : Nat), i + d = l.length → d + 3000 ≤ k → (∀ x ∈ l.take i, FrameOk x) → foliatelaw03_FrameList.l0 k l (catF (l.take i)) (i : Int) = some true := by
  induction d with
  | zero =>
    intro k i hi hk hok
    obtain ⟨k, rfl⟩ : ∃ q, k = q + 1 := ⟨k - 1, by omega⟩
    have e : l.take i = l := List.take_of_length_le (by omega)
    rw [e] at hok ⊢
    have hok2 : ∀ x ∈ l, FrameOk x ∧ Bytes x.f1 := fun x hx => ⟨hok x hx, hb x hx⟩
    obtain ⟨b1, b2⟩ := catF_bytes l hok2
    rw [foliatelaw03_FrameList.l0.eq_2, if_neg (by omega), allf_eq _ _ b1 (by omega) (by omega), obind, all_catF l hok2]
    have := lists_loop l (by omega) l.length k 0 (by omega) (by omega)
    unfold foliateref03_Lists.f
    rw [if_pos rfl]
    rw [show foliateref03_Lists.l0 k l l 0 = some true from this, obind, if_pos rfl]
  | succ d ih =>
    intro k i hi hk hok
    obtain ⟨k, rfl⟩ : ∃ q, k = q + 1 := ⟨k - 1, by omega⟩
    have il : i < l.length := by omega
    have t0 : (i : Int) < (l.length : Int) := by omega
    have t1 : (0 : Int) ≤ (i : Int) := by omega
    have ew := next_nat i (by omega)
    have er : rd_T24 l (i : Int) = l[i] := by unfold rd_T24; rw [Int.toNat_natCast, List.getD_eq_getElem?_getD, List.getElem?_eq_getElem il]; rfl
    have hbt := (catF_bytes (l.take i) (fun x hx => ⟨hok x hx, hb x (List.mem_of_mem_take hx)⟩)).2
    have hlt : (l.take i).length ≤ 8 := by rw [List.length_take]; omega
    have et : l.take (i + 1) = l.take i ++ [l[i]] := List.take_succ_eq_append_getElem il
    by_cases c : FrameOk l[i]
    · have hok' : ∀ x ∈ l.take (i + 1), FrameOk x := fun x hx => by
        rw [et] at hx
        rcases List.mem_append.1 hx with h | h
        · exact hok x h
        · rw [List.mem_singleton] at h; rw [h]; exact c
      have t2 := ih k (i + 1) (by omega) (by omega) hok'
      have hfl := frameB_length l[i].f0 l[i].f1
      have ec : catF (l.take (i + 1)) = catF (l.take i) ++ frameB l[i].f0 l[i].f1 := by rw [et, catF_append]; simp [catF]
      have c2 := c.2
      have hk1 : 1 ≤ k := by omega
      have hlen : (catF (l.take i)).length + (frameB l[i].f0 l[i].f1).length < 140737488355328 := by omega
      rw [foliatelaw03_FrameList.l0.eq_2, if_pos t0, if_pos t1, er, put_ok k hk1 _ _ c.1.1 c.1.2 c2, obind, if_pos rfl, if_pos hlen, ew, ← ec]
      exact t2
    · have hk1 : 1 ≤ k := by omega
      rw [foliatelaw03_FrameList.l0.eq_2, if_pos t0, if_pos t1, er, put_bad k hk1 _ _ c, obind, if_neg (by decide)]
      rfl
theorem FrameList (l : List S24) (hw : ∀ x ∈ l, ∀ y ∈ x.f1, (Lit.int .u8 y).wf = true) : ∃ k, foliatelaw03_FrameList.f k l = some true := by
  obtain ⟨m, aw⟩ := awake
  refine ⟨m + 4000, ?_⟩
  unfold foliatelaw03_FrameList.f
  rw [aw _ (by omega), obind, if_pos rfl]
  by_cases c : (l.length : Int) > 8
  · rw [decide_eq_true c]; simp [foliatelaw03_FrameList.j0]
  rw [decide_eq_false c]
  simp only [foliatelaw03_FrameList.j0, Bool.false_eq_true, if_false]
  have := list_loop l (by omega) (fun x hx => bytes_of (hw x hx)) l.length (m + 3999) 0 (by omega) (by omega) (fun x hx => by rw [List.take_zero] at hx; cases hx)
  simpa [catF] using this
end Go.Proofs.Ytjihemgadbpebaa.Pure
