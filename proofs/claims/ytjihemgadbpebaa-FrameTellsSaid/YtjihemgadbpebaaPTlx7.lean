-- Written by wip/tools/myprint.py, a program of the prover's own, over the kit's print; the contracts named 'HAND' there are typed by hand.
import Derived.Test.YtjihemgadbpebaaPTlx0
import Derived.Test.YtjihemgadbpebaaPTlx5
import Derived.Test.YtjihemgadbpebaaPTlx6
namespace Go.Proofs.Ytjihemgadbpebaa.PTl
open Go.RowKit Go.Proofs.YtjihemgadbpebaaW.PrintWords Go.Proofs.YtjihemgadbpebaaW.PrintLast Go.Proofs.YtjihemgadbpebaaW.PrintMore
attribute [local go_sem] max2_int min2_int max_two min_two max_three min_three max_four min_four   -- for this text's walks alone
set_option linter.unusedVariables false
set_option linter.unusedSimpArgs false

/-! ### frame_Get: function 13 -/
def frame_Get.f (k : Nat) (l0 : List Int) : Option (Int × List Int × Int × Int) :=
  (partE k l0 2).bind fun e => if e = 0 then
    (if ((0 ≤ l0.getD 0 0 ∧ l0.getD 0 0 ≤ 255) ∧ (0 ≤ l0.getD 1 0 ∧ l0.getD 1 0 ≤ 255)) ∧ l0.length < 140737488355328 then
      (partE k (l0.drop 6) (l0.getD 1 0).toNat).bind fun e2 => if e2 = 0 then some (l0.getD 0 0, (l0.drop 6).take (l0.getD 1 0).toNat, 10 + l0.getD 1 0, 0) else some (0, [], 0, e2)
    else none)
  else some (0, [], 0, e)
theorem frame_Get.mono : ∀ a0 k, LeO (frame_Get.f k a0) (frame_Get.f (k + 1) a0) := by
  intro a0 k
  have hp : ∀ l n, LeO (partE k l n) (partE (k + 1) l n) := fun l n => LeO.ite (LeO.refl _) (LeO.bind (crc_Good.mono _ _) fun _ => LeO.refl _)
  exact LeO.bind (hp _ _) fun _ => LeO.ite (LeO.ite (LeO.bind (hp _ _) fun _ => LeO.refl _) (LeO.none _)) (LeO.refl _)
def get_T : Bool × List (List Nat × List Nat) := (true, [([], []), ([0], [0]), ([1], [1]), ([2], [2]), ([], []), ([4], [4]), ([3, 5], [3, 5]), ([], []), ([7], [7]), ([], []), ([9], [9]), ([8, 10], [8, 10]), ([6, 5, 0, 1, 2, 3, 4, 5, 6], [6]), ([11, 12, 0, 1, 2, 3, 4, 5, 6, 7, 8, 9, 10, 11, 12], [11]), ([13, 0, 1, 2, 3, 4, 5, 6, 7, 8, 9, 10, 11, 12, 13], [])])
def get_B : List Nat := [0, 1, 3, 7, 0, 16, 63, 0, 128, 0, 512, 1920, 127, 8191, 16383]
theorem get_tab : rtab .any (opsOf Try.f13 7) = get_T := by kernel_rfl
theorem get_bits : waitsOk get_T.2 get_B = true := by kernel_rfl
theorem get_info : (Try.prog.info? 5).map (fun i => (i.zero, i.size, i.bytes)) = some (some (.int .u8 0), 1, 1) := by kernel_rfl
set_option maxHeartbeats 8000000 in
set_option maxRecDepth 100000 in
theorem frame_Get.calls (k : Nat) (A0 : Option Addr) (c0 : Nat) (l0 : List Int) (r1 : Int) (r2 : List Int) (r3 : Int) (r4 : Int) (w : World) (hr0 : Kd.C (Kd.int .u8) w A0 l0.length l0) (hc0 : l0.length ≤ c0) (h : frame_Get.f k l0 = some (r1, r2, r3, r4)) :
    Calls Try.prog 13 #[.slice A0 l0.length c0] w fun e w' => ∃ v1_ : Value, e = .returned (.tuple #[.agg #[.int .i64 r1, v1_], .int .i64 r3, .int .i64 r4]) ∧ Kd.R (Kd.int .u8) 5 w' w.heap.size (fun _ => True) v1_ r2 ∧ Below w.heap.size w w' := by
  have hu24 := Try.underlying24
  have HR0 := Aside0.mk hr0
  have HC0 := Aside0.mk hc0
  clear hr0 hc0
  unfold frame_Get.f at h
  obtain ⟨e1, he1, h⟩ := Option.bind_eq_some_iff.mp h
  have HE1 := Aside0.mk he1
  by_cases c1 : e1 = 0
  · rw [if_pos c1] at h
    subst c1
    by_cases c2 : ((0 ≤ l0.getD 0 0 ∧ l0.getD 0 0 ≤ 255) ∧ (0 ≤ l0.getD 1 0 ∧ l0.getD 1 0 ≤ 255)) ∧ l0.length < 140737488355328
    · rw [if_pos c2] at h
      obtain ⟨e2, he2, h⟩ := Option.bind_eq_some_iff.mp h
      obtain ⟨⟨⟨z0, z1⟩, y0, y1⟩, hlen⟩ := c2
      have h6 : 6 ≤ l0.length := by
        unfold partE at he1
        by_cases hl : l0.length < 2 + 4
        · rw [if_pos hl] at he1
          exact absurd he1 (by decide)
        · omega
      obtain ⟨ad, rfl, hx1⟩ := Kd.at_int HR0.out 1 (by omega) (by omega)
      obtain ⟨ad', e', hx0⟩ := Kd.at_int HR0.out 0 (by omega) (by omega)
      obtain rfl : ad = ad' := by injection e'
      clear e'
      replace hx1 : w.cell? ⟨ad.block, ad.off + 1, none⟩ = some (.int .u8 (l0.getD 1 0)) := by have := add_field ad 0 1 (by omega); rw [Addr.add_zero'] at this; rw [← this]; exact hx1
      replace hx0 : w.cell? ad = some (.int .u8 (l0.getD 0 0)) := by have := hx0; rw [show ((0 : Int)).toNat = 0 from rfl, Addr.add_zero'] at this; exact this
      obtain ⟨n0, hn0⟩ : ∃ n : Nat, l0.getD 0 0 = (n : Int) := ⟨(l0.getD 0 0).toNat, by omega⟩
      obtain ⟨n1, hn1⟩ : ∃ n : Nat, l0.getD 1 0 = (n : Int) := ⟨(l0.getD 1 0).toNat, by omega⟩
      rw [hn0, hn1] at h
      rw [hn0] at hx0 z0 z1
      rw [hn1] at hx1 y0 y1 he2
      rw [show ((n1 : Int)).toNat = n1 from rfl] at he2 h
      have kw0 : wrap64 (n0 : Int) = (n0 : Int) := by unfold wrap64; omega
      have kw1 : wrap64 (n1 : Int) = (n1 : Int) := by unfold wrap64; omega
      have HE2 := Aside0.mk he2
      have hld : (l0.drop 6).length = l0.length - 6 := List.length_drop
      have HLD := Aside0.mk hld
      have H6 := Aside0.mk h6
      have HNN := Aside0.mk (show n1 ≤ 1000000 by omega)
      have HLL := Aside0.mk hlen
      clear he2 he1 hld hlen z0 z1 y0 y1 hn0 hn1
      have P1 : ∀ W, Kd.C (Kd.int .u8) W (some ad) l0.length l0 → Calls Try.prog 24 #[.slice (some ad) l0.length c0, .int .i64 2] W fun e w' => ∃ A7, e = .returned (.tuple #[.slice (some ad) 2 2, .slice A7 (l0.length - 6) (c0 - 6), .int .i64 0]) ∧ Aside0 (Kd.C (Kd.int .u8) w' A7 (l0.drop 6).length (l0.drop 6)) ∧ Aside0 (Below W.heap.size W w') := by
        intro W hC
        refine (part_any k (some ad) c0 l0 2 0 W hC HC0.out (by omega) HE1.out).mono ?_
        rintro e w1 ⟨hb, (⟨-, A7, rfl, hC7, -⟩ | ⟨h0, -⟩)⟩
        · exact ⟨A7, rfl, ⟨Kd.C_below hC7 hb⟩, ⟨hb⟩⟩
        · exact absurd rfl h0
      by_cases c3 : e2 = 0
      · rw [if_pos c3] at h
        subst c3
        simp only [Option.some.injEq, Prod.mk.injEq] at h
        obtain ⟨rfl, rfl, rfl, rfl⟩ := h
        have h2 : n1 + 4 ≤ (l0.drop 6).length := by
          have he := HE2.out
          unfold partE at he
          by_cases hl : (l0.drop 6).length < n1 + 4
          · rw [if_pos hl] at he
            exact absurd he (by decide)
          · omega
        obtain ⟨body, hbody⟩ : ∃ b, b = (l0.drop 6).take n1 := ⟨_, rfl⟩
        rw [← hbody]
        have hbl : body.length = n1 := by rw [hbody, List.length_take]; omega
        obtain ⟨L9, hL9⟩ : ∃ n, n = l0.length - 6 - (n1 + 4) := ⟨_, rfl⟩
        have k9 : wrap64 ((l0.length : Int) - (L9 : Int)) = 10 + (n1 : Int) := by have := HLD.out; have := HLL.out; unfold wrap64; omega
        have H01 : (0 < l0.length) := by omega
        have P2 : ∀ A7 W, Kd.C (Kd.int .u8) W A7 (l0.drop 6).length (l0.drop 6) → Calls Try.prog 24 #[.slice A7 (l0.length - 6) (c0 - 6), .int .i64 (n1 : Int)] W fun e w' => ∃ A9, e = .returned (.tuple #[.slice A7 n1 n1, .slice A9 L9 (c0 - 6 - (n1 + 4)), .int .i64 0]) ∧ Aside0 (Kd.C (Kd.int .u8) w' A7 n1 body) ∧ Aside0 (Below W.heap.size W w') := by
          intro A7 W hC
          rw [show l0.length - 6 = (l0.drop 6).length from HLD.out.symm]
          refine (part_any k A7 (c0 - 6) (l0.drop 6) n1 0 W hC (by have := HC0.out; have := HLD.out; omega) HNN.out HE2.out).mono ?_
          obtain ⟨i0, hi0, _, hsz, _⟩ := info_parts get_info
          obtain ⟨hcutA, hA, hCA⟩ := print_take_of (P := Try.prog) (Value.int .u8) 0 22 5 .i64 Try.underlying22 hi0 hsz A7 (l0.drop 6).length (l0.drop 6) (n1 : Int) (by omega) (by omega) (Nat.le_refl _)
          have hCb : Kd.C (Kd.int .u8) W A7 n1 body := by
            have := Kd.C_of_reads (h1 := fun _ => rfl) (hA _ (Kd.reads_of_C hC))
            rw [show ((n1 : Int)).toNat = n1 from rfl, ← hbody, hbl] at this
            exact this
          rintro e w2 ⟨hb2, (⟨-, A9, rfl, -, -⟩ | ⟨h0, -⟩)⟩
          · exact ⟨A9, by rw [HLD.out, hL9], ⟨Kd.C_below hCb hb2⟩, ⟨hb2⟩⟩
          · exact absurd rfl h0
        have P3 : ∀ A7 W, Kd.C (Kd.int .u8) W A7 n1 body → Calls Try.prog 25 #[.slice A7 n1 n1] W fun e w' => ∃ v0_ : Value, e = .returned (v0_) ∧ Aside0 (Kd.R (Kd.int .u8) 5 w' W.heap.size (fun _ => True) v0_ body) ∧ Aside0 (Below W.heap.size W w') := by
          intro A7 W hC
          have hf : slices_Clone_byte_byte.f body = some body := by
            unfold slices_Clone_byte_byte.f
            rw [if_pos (by have := HNN.out; omega)]
          have := slices_Clone_byte_byte.calls A7 body.length body body W (by rw [hbl]; exact hC) (Nat.le_refl _) hf
          rw [hbl] at this
          refine this.mono ?_
          rintro e w' ⟨v, rfl, h1, h2⟩
          exact ⟨v, rfl, ⟨h1⟩, ⟨h2⟩⟩
        have HBY := Aside0.mk hbody
        have HBL := Aside0.mk hbl
        clear h6 h2 hbody hbl hL9
        go_enter Try.func13, Try.ntmps13
        go_upto_region 7 with (first
          | (go_at_call 24; with_reducible refine (P1 _ (Kd.C_alloc HR0.out _)).mono ?_; rintro e w1 ⟨A7, rfl, HC7, hb⟩; have HB1 := Aside0.mk (below_then ((Below.refl w.heap.size w).alloc (Nat.le_refl _) _) (by simp) hb.out); have HBK : Aside0 (w1.heap[w.heap.size]? = some (.cells #[.int .i64 0, .slice none 0 0] 24 (0, 0))) := ⟨blk_below (heap_alloc_new _ _) hb.out⟩; have hx1' := (HB1.out.cell (World.block_lt_of_cell? w _ hx1)).trans hx1; clear hb)
          | (go_at_call 24; with_reducible refine (P2 A7 w1 HC7.out).mono ?_; rintro e w2 ⟨A9, rfl, HC8, hb2⟩; have HBK2 := Aside0.mk (blk_below HBK.out hb2.out); have HB2 := Aside0.mk (below_then HB1.out (HB1.out.size) hb2.out); clear hb2))
        have hxs := (HB2.out.cell (World.block_lt_of_cell? w _ hx0)).trans hx0
        have HXS := Aside0.mk hxs
        have HB3 := Aside0.mk (below_drew1 HB2.out)
        have HBK3 := Aside0.mk (blk_drew HBK2.out)
        have HC9 := Aside0.mk (Kd.C_drew HC8.out)
        have HLT := Aside0.mk (World.block_lt_of_cell? w _ hx0)
        clear hx1' hxs hx1
        refine start_ (n := 15) (S := fun w' => w'.cell? ad = some (.int .u8 (n0 : Int))) (ds := []) #[false, false, false, false, false, false, false, false, false, false, false, false, false, false, false] (by kernel_rfl) rfl rfl (HXS.out) (fun hHeld => ?_)
        refine with_tabW get_tab get_bits (fun HT_ HW_ => ?_)
        generalize w2.drew = w3 at HB3 HBK3 HC9 hHeld ⊢
        refine pure_ (i := 0) (N := some 33) (v := ?_) (a' := ?_) #[true, false, false, false, false, false, false, false, false, false, false, false, false, false, false] rfl rfl (any_of HT_.out (by kernel_rfl)) (fun _ _ _ h => h) (Or.inl ⟨by rfl, ?_⟩) ?_ ?_
        rotate_left
        · intro w'
          go_simp
          with_reducible rfl
        rotate_left
        · simp only [Act.put, List.setIfInBounds_toArray, List.set_cons_zero, List.set_cons_succ, i64_w, i32_w]
          rfl
        refine pure_ (i := 1) (N := some 34) (v := ?_) (a' := ?_) #[true, true, false, false, false, false, false, false, false, false, false, false, false, false, false] rfl rfl (any_of HT_.out (by kernel_rfl)) (fun _ _ _ h => h) (Or.inl ⟨by rfl, ?_⟩) ?_ ?_
        rotate_left
        · intro w'
          go_simp
          with_reducible rfl
        rotate_left
        · simp only [Act.put, List.setIfInBounds_toArray, List.set_cons_zero, List.set_cons_succ, i64_w, i32_w]
          rfl
        refine pure_ (i := 4) (N := some 37) (v := ?_) (a' := ?_) #[true, true, false, false, true, false, false, false, false, false, false, false, false, false, false] rfl rfl (any_of HT_.out (by kernel_rfl)) (fun _ _ _ h => h) (Or.inl ⟨by rfl, ?_⟩) ?_ ?_
        rotate_left
        · intro w'
          go_simp
          with_reducible rfl
        rotate_left
        · simp only [Act.put, List.setIfInBounds_toArray, List.set_cons_zero, List.set_cons_succ, i64_w, i32_w]
          rfl
        refine pure_ (i := 7) (N := some 40) (v := ?_) (a' := ?_) #[true, true, false, false, true, false, false, true, false, false, false, false, false, false, false] rfl rfl (any_of HT_.out (by kernel_rfl)) (fun _ _ _ h => h) (Or.inl ⟨by rfl, ?_⟩) ?_ ?_
        rotate_left
        · intro w'
          go_simp
          with_reducible rfl
        rotate_left
        · simp only [Act.put, List.setIfInBounds_toArray, List.set_cons_zero, List.set_cons_succ, i64_w, i32_w]
          rfl
        refine pure_ (i := 8) (N := some 41) (v := ?_) (a' := ?_) #[true, true, false, false, true, false, false, true, true, false, false, false, false, false, false] rfl rfl (any_of HT_.out (by kernel_rfl)) (fun _ _ _ h => h) (Or.inl ⟨by rfl, ?_⟩) ?_ ?_
        rotate_left
        · intro w'
          go_simp
          with_reducible rfl
        rotate_left
        · simp only [Act.put, List.setIfInBounds_toArray, List.set_cons_zero, List.set_cons_succ, i64_w, i32_w]
          rfl
        refine pure_ (i := 9) (N := some 42) (v := ?_) (a' := ?_) #[true, true, false, false, true, false, false, true, true, true, false, false, false, false, false] rfl rfl (any_of HT_.out (by kernel_rfl)) (fun _ _ _ h => h) (Or.inl ⟨by rfl, ?_⟩) ?_ ?_
        rotate_left
        · intro w'
          go_simp
          with_reducible rfl
        rotate_left
        · simp only [Act.put, List.setIfInBounds_toArray, List.set_cons_zero, List.set_cons_succ, i64_w, i32_w]
          rfl
        refine pure_ (i := 10) (N := some 43) (v := ?_) (a' := ?_) #[true, true, false, false, true, false, false, true, true, true, true, false, false, false, false] rfl rfl (any_of HT_.out (by kernel_rfl)) (fun _ _ _ h => h) (Or.inl ⟨by rfl, ?_⟩) ?_ ?_
        rotate_left
        · intro w'
          go_simp
          with_reducible rfl
        rotate_left
        · simp only [Act.put, List.setIfInBounds_toArray, List.set_cons_zero, List.set_cons_succ, i64_w, i32_w]
          rfl
        refine pure_ (i := 11) (N := some 44) (v := ?_) (a' := ?_) #[true, true, false, false, true, false, false, true, true, true, true, true, false, false, false] rfl rfl (any_of HT_.out (by kernel_rfl)) (fun _ _ _ h => h) (Or.inl ⟨by rfl, ?_⟩) ?_ ?_
        rotate_left
        · intro w'
          go_simp
          with_reducible rfl
        rotate_left
        · simp only [Act.put, List.setIfInBounds_toArray, List.set_cons_zero, List.set_cons_succ, i64_w, i32_w]
          rfl
        refine take_ (i := 2) (N := some 35) (v := ?_) (a' := ?_) #[true, true, true, false, true, false, false, true, true, true, true, true, false, false, false] rfl rfl (take_ofW HT_.out HW_.out (by kernel_rfl)) (fun _ _ _ h => h) (Or.inl ⟨by rfl, ?_⟩) hHeld ?_ ?_
        rotate_left
        · rintro w' s0
          go_simp
          with_reducible rfl
        rotate_left
        · simp only [Act.put, List.setIfInBounds_toArray, List.set_cons_zero, List.set_cons_succ, i64_w, i32_w]
          rfl
        refine pure_ (i := 3) (N := some 36) (v := ?_) (a' := ?_) #[true, true, true, true, true, false, false, true, true, true, true, true, false, false, false] rfl rfl (any_of HT_.out (by kernel_rfl)) (fun _ _ _ h => h) (Or.inl ⟨by rfl, ?_⟩) ?_ ?_
        rotate_left
        · intro w'
          go_simp
          with_reducible rfl
        rotate_left
        · simp only [Act.put, List.setIfInBounds_toArray, List.set_cons_zero, List.set_cons_succ, i64_w, i32_w]
          rfl
        refine one_ (i := 5) (N := some 38) #[true, true, true, true, true, true, false, true, true, true, true, true, false, false, false] rfl rfl (one_of HT_.out (by kernel_rfl)) (by decide) (fun K hK => ?_)
        refine goes_ Try.func25 (by kernel_rfl) rfl #[.slice A7 n1 n1] (by rfl) rfl rfl (by simp only [List.map_toArray, List.map_cons, List.map_nil]; rfl) ?_
        with_reducible refine (P3 A7 w3 HC9.out).mono ?_
        rintro e w4 ⟨v0, rfl, HO, hb4⟩
        refine ⟨_, rfl, ?_⟩
        have HBK4 := Aside0.mk (blk_below HBK3.out hb4.out)
        have HB4 := Aside0.mk (below_then HB3.out (HB3.out.size) hb4.out)
        have HX4 := Aside0.mk ((hb4.out.cell (World.block_lt_of_cell? _ _ hHeld)).trans hHeld)
        have HO4 := Aside0.mk (Kd.R_lower HO.out HB3.out.size)
        obtain ⟨Ao, co, eo⟩ := Kd.R_slice HO4.out
        subst eo
        refine hK.out _ _ HX4.out (fun hHeld => ?_)
        clear hK K HO hb4
        refine norm_ (a' := ?_) ?_ ?_
        rotate_left
        · show Act.put _ (some 38) _ = _
          simp only [Act.put, List.setIfInBounds_toArray, List.set_cons_zero, List.set_cons_succ, i64_w, i32_w]
          rfl
        refine pure_ (i := 6) (N := some 39) (v := ?_) (a' := ?_) #[true, true, true, true, true, true, true, true, true, true, true, true, false, false, false] rfl rfl (any_of HT_.out (by kernel_rfl)) (fun _ _ _ h => h) (Or.inl ⟨by rfl, ?_⟩) ?_ ?_
        rotate_left
        · intro w'
          go_simp
          with_reducible rfl
        rotate_left
        · simp only [Act.put, List.setIfInBounds_toArray, List.set_cons_zero, List.set_cons_succ, i64_w, i32_w]
          rfl
        refine one_ (i := 12) (N := none) #[true, true, true, true, true, true, true, true, true, true, true, true, true, false, false] rfl rfl (one_of HT_.out (by kernel_rfl)) (by decide) (fun K hK => ?_)
        have hs0 : w4.cell? ⟨w.heap.size, 0, none⟩ = some (.int .i64 0) := (blk_cell HBK4.out 0).trans rfl
        have hf0 := blk_frozen HBK4.out 0
        have hs1 : w4.cell? ⟨w.heap.size, 1, none⟩ = some (.slice none 0 0) := (blk_cell HBK4.out 1).trans rfl
        have hf1 := blk_frozen HBK4.out 1
        refine skip_ (w1 := ?_) (by rfl) rfl ?_ ?_
        rotate_left
        · go_simp
          rfl
        refine hK.out _ _ ((cell_far (p := ⟨w.heap.size, _, none⟩) (Nat.ne_of_lt HLT.out) _).trans ((cell_far (p := ⟨w.heap.size, _, none⟩) (Nat.ne_of_lt HLT.out) _).trans HX4.out)) (fun hHeld => ?_)
        clear hK K
        refine pure_ (i := 13) (N := some 3) (v := ?_) (a' := ?_) #[true, true, true, true, true, true, true, true, true, true, true, true, true, true, false] rfl rfl (any_of HT_.out (by kernel_rfl)) (fun _ _ _ h => h) (Or.inl ⟨by rfl, ?_⟩) ?_ ?_
        rotate_left
        · intro w'
          go_simp
          with_reducible rfl
        rotate_left
        · simp only [Act.put, List.setIfInBounds_toArray, List.set_cons_zero, List.set_cons_succ, i64_w, i32_w]
          rfl
        refine pure_ (i := 14) (N := some 4) (v := ?_) (a' := ?_) #[true, true, true, true, true, true, true, true, true, true, true, true, true, true, true] rfl rfl (any_of HT_.out (by kernel_rfl)) (fun _ _ _ h => h) (Or.inl ⟨by rfl, ?_⟩) ?_ ?_
        rotate_left
        · intro w'
          go_simp
          with_reducible rfl
        rotate_left
        · simp only [Act.put, List.setIfInBounds_toArray, List.set_cons_zero, List.set_cons_succ, i64_w, i32_w]
          rfl
        refine done_ (done_of HT_.out (by kernel_rfl)) ?_
        go_wp2
        refine bodyPost_ret (results_ctt rfl _ _ w.heap.size 24 #[.int .i64 (n0 : Int), .slice Ao body.length co] (0, 0) _ rfl (by (with_reducible repeat (first | refine blk_drewN ?_ _ | refine blk_drew ?_ | refine blk_alloc ?_ _)); refine blk_put (cs := #[.int .i64 (n0 : Int), .slice none 0 0]) ?_ 1 _ rfl; (with_reducible repeat (first | refine blk_drewN ?_ _ | refine blk_drew ?_ | refine blk_alloc ?_ _)); refine blk_put (cs := #[.int .i64 0, .slice none 0 0]) ?_ 0 _ rfl; (with_reducible repeat (first | refine blk_drewN ?_ _ | refine blk_drew ?_ | refine blk_alloc ?_ _)); exact HBK4.out) Try.underlying24 rfl (by kernel_rfl)) rfl ?_
        exact ⟨_, rfl, Kd.R_mono (Kd.R_far (p := ⟨w.heap.size, 1, none⟩) (Kd.R_far (p := ⟨w.heap.size, 0, none⟩) (Kd.R_types HO4.out HBK4.out (by decide)) (fun _ hk => hk.2) (.int .i64 (n0 : Int))) (fun _ hk => hk.2) (.slice Ao body.length co)) (fun _ hk => trivial), by repeat (first | (with_reducible first | apply below_alloc | apply pw_below_drewN | apply below_drew1 | refine below_set ?_ (Nat.le_refl _)) | exact HB4.out)⟩
      · rw [if_neg c3] at h
        simp only [Option.some.injEq, Prod.mk.injEq] at h
        obtain ⟨rfl, rfl, rfl, rfl⟩ := h
        have c3b : (e2 != 0) = true := bne_iff_ne.mpr c3
        have HN2 := Aside0.mk c3
        have H01 : (0 < l0.length) := by omega
        clear c3 h6
        go_enter Try.func13, Try.ntmps13
        have P2 : ∀ A7 W, Kd.C (Kd.int .u8) W A7 (l0.drop 6).length (l0.drop 6) → Calls Try.prog 24 #[.slice A7 (l0.length - 6) (c0 - 6), .int .i64 (n1 : Int)] W fun e w' => e = .returned (.tuple #[.slice none 0 0, .slice none 0 0, .int .i64 e2]) ∧ Aside0 (Below W.heap.size W w') := by
          intro A7 W hC
          rw [show l0.length - 6 = (l0.drop 6).length from HLD.out.symm]
          refine (part_any k A7 (c0 - 6) (l0.drop 6) n1 e2 W hC (by have := HC0.out; have := HLD.out; omega) HNN.out HE2.out).mono ?_
          rintro e w2 ⟨hb2, (⟨h0, -⟩ | ⟨-, rfl⟩)⟩
          · exact absurd h0 HN2.out
          · exact ⟨rfl, ⟨hb2⟩⟩
        go_wp2_with (first
          | (go_at_call 24; with_reducible refine (P1 _ (Kd.C_alloc HR0.out _)).mono ?_; rintro e w1 ⟨A7, rfl, HC7, hb⟩; have HB1 := Aside0.mk (below_then ((Below.refl w.heap.size w).alloc (Nat.le_refl _) _) (by simp) hb.out); have HBK : Aside0 (w1.heap[w.heap.size]? = some (.cells #[.int .i64 0, .slice none 0 0] 24 (0, 0))) := ⟨blk_below (heap_alloc_new _ _) hb.out⟩; have hx1' := (HB1.out.cell (World.block_lt_of_cell? w _ hx1)).trans hx1; have hx0' := (HB1.out.cell (World.block_lt_of_cell? w _ hx0)).trans hx0; clear hb)
          | (go_at_call 24; with_reducible refine (P2 A7 w1 HC7.out).mono ?_; rintro e w2 ⟨rfl, hb2⟩; have HBK2 := Aside0.mk (blk_below HBK.out hb2.out); have hs0 : w2.cell? ⟨w.heap.size, 0, none⟩ = some (.int .i64 0) := (blk_cell HBK2.out 0).trans rfl; have hs1 : w2.cell? ⟨w.heap.size, 1, none⟩ = some (.slice none 0 0) := (blk_cell HBK2.out 1).trans rfl; have hf0 := blk_frozen HBK2.out 0; have hf1 := blk_frozen HBK2.out 1; have HB2 := Aside0.mk (below_then HB1.out (HB1.out.size) hb2.out); clear hb2))
        refine bodyPost_ret (results_ctt rfl _ _ w.heap.size 24 #[.int .i64 0, .slice none 0 0] (0, 0) _ rfl (by (with_reducible repeat (first | refine blk_drewN ?_ _ | refine blk_drew ?_ | refine blk_alloc ?_ _)); refine blk_put (cs := #[.int .i64 0, .slice none 0 0]) ?_ 1 _ rfl; (with_reducible repeat (first | refine blk_drewN ?_ _ | refine blk_drew ?_ | refine blk_alloc ?_ _)); refine blk_put (cs := #[.int .i64 0, .slice none 0 0]) ?_ 0 _ rfl; (with_reducible repeat (first | refine blk_drewN ?_ _ | refine blk_drew ?_ | refine blk_alloc ?_ _)); exact HBK2.out) Try.underlying24 rfl (by kernel_rfl)) rfl ?_
        exact ⟨_, rfl, Kd.R_nil _ _ _ _ _, by repeat (first | (with_reducible first | apply below_alloc | apply pw_below_drewN | apply below_drew1 | refine below_set ?_ (Nat.le_refl _)) | exact HB2.out)⟩
    · rw [if_neg c2] at h
      exact absurd h (by simp)
  · rw [if_neg c1] at h
    simp only [Option.some.injEq, Prod.mk.injEq] at h
    obtain ⟨rfl, rfl, rfl, rfl⟩ := h
    have c1b : (e1 != 0) = true := bne_iff_ne.mpr c1
    clear he1
    have HN1 := Aside0.mk c1
    clear c1
    go_enter Try.func13, Try.ntmps13
    go_wp2_with (go_at_call 24; refine (part_any k A0 c0 l0 2 e1 _ (Kd.C_alloc HR0.out _) HC0.out (by omega) HE1.out).mono ?_; rintro e w1 ⟨hb, (⟨h0, -⟩ | ⟨-, rfl⟩)⟩; (exact absurd h0 HN1.out); have BK : w1.heap[w.heap.size]? = some (.cells #[.int .i64 0, .slice none 0 0] 24 (0, 0)) := blk_below (heap_alloc_new _ _) hb; have hs0 : w1.cell? ⟨w.heap.size, 0, none⟩ = some (.int .i64 0) := (blk_cell BK 0).trans rfl; have hs1 : w1.cell? ⟨w.heap.size, 1, none⟩ = some (.slice none 0 0) := (blk_cell BK 1).trans rfl; have hf0 := blk_frozen BK 0; have hf1 := blk_frozen BK 1; have HBK := Aside0.mk BK; clear BK)
    refine bodyPost_ret (results_ctt rfl _ _ w.heap.size 24 #[.int .i64 0, .slice none 0 0] (0, 0) _ rfl (by (with_reducible repeat (first | refine blk_drewN ?_ _ | refine blk_drew ?_ | refine blk_alloc ?_ _)); refine blk_put (cs := #[.int .i64 0, .slice none 0 0]) ?_ 1 _ rfl; (with_reducible repeat (first | refine blk_drewN ?_ _ | refine blk_drew ?_ | refine blk_alloc ?_ _)); refine blk_put (cs := #[.int .i64 0, .slice none 0 0]) ?_ 0 _ rfl; (with_reducible repeat (first | refine blk_drewN ?_ _ | refine blk_drew ?_ | refine blk_alloc ?_ _)); exact HBK.out) Try.underlying24 rfl (by kernel_rfl)) rfl ?_
    exact ⟨_, rfl, Kd.R_nil _ _ _ _ _, by repeat (first | (with_reducible first | apply below_alloc | apply pw_below_drewN | apply below_drew1 | refine below_set ?_ (Nat.le_refl _)) | exact below_then ((Below.refl _ _).alloc (Nat.le_refl _) _) (by simp) hb)⟩

end Go.Proofs.Ytjihemgadbpebaa.PTl
