-- Written by wip/tools/myprint.py, a program of the prover's own, over the kit's print; the contracts named 'HAND' there are typed by hand.
import Derived.Test.YtknkncdlcoglpaaDoorPFrx0
import Derived.Test.YtknkncdlcoglpaaDoorPFrx3
import Derived.Test.YtknkncdlcoglpaaDoorPFrx4
import Derived.Test.YtknkncdlcoglpaaDoorPFrx5
namespace Go.Proofs.YtknkncdlcoglpaaDoor.PFr
open Go.RowKit Go.Proofs.YtknkncdlcoglpaaDoorW.PrintWords Go.Proofs.YtknkncdlcoglpaaDoorW.PrintLast Go.Proofs.YtknkncdlcoglpaaDoorW.PrintMore
attribute [local go_sem] max2_int min2_int max_two min_two max_three min_three max_four min_four   -- for this text's walks alone
set_option linter.unusedVariables false
set_option linter.unusedSimpArgs false

/-! ### flow_Get: function 14 -/
def flow_Get.f (k : Nat) (l0 : List Int) : Option (Int × List (List Int) × Int) := (flow_read.f k l0).bind fun t => some (if t.1 = 0 then (t.2.1, t.2.2, 0) else (0, [], t.1))
def get4_T : Bool × List (List Nat × List Nat) := (true, [([], []), ([], []), ([1], [1]), ([0, 0], [0]), ([2, 3, 0, 1, 2, 3], [2])])
def get4_B : List Nat := [0, 0, 2, 1, 15]
theorem get4_tab : rtab .any (opsOf Tryd.f14 4) = get4_T := by kernel_rfl
theorem get4_bits : waitsOk get4_T.2 get4_B = true := by kernel_rfl
theorem three_is (w w' : World) (c0 c1 c2 : Array Value) (t0 t1 t2 : TypeId) (h : w' = ((w.alloc (.cells c0 t0)).alloc (.cells c1 t1)).alloc (.cells c2 t2)) : w'.heap[w.heap.size]? = some (.cells c0 t0 (0, 0)) ∧ w'.heap[w.heap.size + 1]? = some (.cells c1 t1 (0, 0)) ∧ w'.heap[w.heap.size + 1 + 1]? = some (.cells c2 t2 (0, 0)) ∧ Below w.heap.size w w' := by
  subst h
  have h0 : (w.alloc (.cells c0 t0)).heap[w.heap.size]? = some (.cells c0 t0 (0, 0)) := heap_alloc_new _ _
  have h1 : ((w.alloc (.cells c0 t0)).alloc (.cells c1 t1)).heap[w.heap.size + 1]? = some (.cells c1 t1 (0, 0)) := by
    have := heap_alloc_new (w.alloc (.cells c0 t0)) (.cells c1 t1)
    rwa [World.size_alloc] at this
  have h2 : (((w.alloc (.cells c0 t0)).alloc (.cells c1 t1)).alloc (.cells c2 t2)).heap[w.heap.size + 1 + 1]? = some (.cells c2 t2 (0, 0)) := by
    have := heap_alloc_new ((w.alloc (.cells c0 t0)).alloc (.cells c1 t1)) (.cells c2 t2)
    rwa [World.size_alloc, World.size_alloc] at this
  exact ⟨blk_alloc (blk_alloc h0 _) _, blk_alloc h1 _, h2, below_alloc (below_alloc (below_alloc (Below.refl _ _) _) _) _⟩
set_option maxHeartbeats 8000000 in
set_option maxRecDepth 100000 in
theorem flow_Get.calls (k : Nat) (A0 : Option Addr) (c0 : Nat) (l0 : List Int) (r1 : Int) (r2 : List (List Int)) (r3 : Int) (w : World) (hr0 : Kd.C (Kd.int .u8) w A0 l0.length l0) (hc0 : l0.length ≤ c0) (h : flow_Get.f k l0 = some (r1, r2, r3)) (hE : errT w) :
    Calls Tryd.prog 14 #[.slice A0 l0.length c0] w fun e w' => ∃ v1_ : Value, e = .returned (.tuple #[.agg #[.int .u32 r1, v1_], .int .i64 r3]) ∧ Kd.S (Kd.slice 5 (Kd.int .u8)) 26 w' w.heap.size (fun _ => True) v1_ r2 ∧ Below w.heap.size w w' := by
  have HR := Aside0.mk hr0
  have HC := Aside0.mk hc0
  have HE := Aside0.mk hE
  unfold flow_Get.f at h
  obtain ⟨⟨er, bs, ps⟩, ha, h⟩ := Option.bind_eq_some_iff.mp h
  have HA := Aside0.mk ha
  dsimp only at h
  clear hr0 hc0 ha hE
  by_cases c1 : er = 0
  · rw [if_pos c1] at h
    subst c1
    simp only [Option.some.injEq, Prod.mk.injEq] at h
    obtain ⟨rfl, rfl, rfl⟩ := h
    go_enter Tryd.func14, Tryd.ntmps14
    go_upto_region 3 with (fail)
    obtain ⟨w1, hw⟩ : ∃ w1, w1 = ((w.alloc (.cells #[.int .u32 0, .slice none 0 0] 25)).alloc (.cells #[.int .u64 0, .int .u32 0, .slice none 0 0] 57)).alloc (.cells #[.int .i64 0] 59) := ⟨_, rfl⟩
    rw [← hw]
    obtain ⟨h0, h1, h2, h3⟩ := three_is _ _ _ _ _ _ _ _ hw
    have H0 := Aside0.mk h0
    have H1 := Aside0.mk h1
    have H3 := Aside0.mk h3
    clear hw h0 h1 h2 h3
    go_wp2_with (first
      | (go_at_call 30; refine (flow_read.calls k (w.heap.size + 1) A0 c0 l0 0 bs ps w1 (Kd.C_below HR.out H3.out) HC.out H1.out HA.out).mono ?_; rintro e w2 ⟨he, hp⟩; rw [show errV 0 = Value.nilIface from rfl] at he; subst he; obtain ⟨hk, hb, hx⟩ := hp; obtain ⟨many, Ap, cp, hG, hS⟩ := hx rfl; have HG := Aside0.mk hG; have HS := Aside0.mk hS; have HB := Aside0.mk (H3.out.trans (below_less hb (Nat.le_succ _))); have H02 := Aside0.mk (hk.blk H0.out (by omega) (by simp)); clear hk hb hx hG hS; have hcg1 : w2.cell? ⟨w.heap.size + 1, 1, none⟩ = some (.int .u32 bs) := (blk_cell HG.out 1).trans rfl; have hcg2 : w2.cell? ⟨w.heap.size + 1, 2, none⟩ = some (.slice Ap ps.length cp) := (blk_cell HG.out 2).trans rfl; have hs0 : w2.cell? ⟨w.heap.size, 0, none⟩ = some (.int .u32 0) := (blk_cell H02.out 0).trans rfl; have hs1 : w2.cell? ⟨w.heap.size, 1, none⟩ = some (.slice none 0 0) := (blk_cell H02.out 1).trans rfl; have hf0 := blk_frozen H02.out 0; have hf1 := blk_frozen H02.out 1)
      | (go_at_call 29; refine (as_nil _ w2).mono ?_; rintro e w3 ⟨rfl, rfl⟩))
    refine bodyPost_ret (results_ct rfl _ _ w.heap.size 25 #[.int .u32 bs, .slice Ap ps.length cp] (0, 0) _ rfl (by refine blk_put (cs := #[.int .u32 bs, .slice none 0 0]) ?_ 1 _ rfl; refine blk_put (cs := #[.int .u32 0, .slice none 0 0]) ?_ 0 _ rfl; exact H02.out) Tryd.underlying25 rfl (by kernel_rfl)) rfl ?_
    exact ⟨_, rfl, Kd.S_set (Kd.S_set (Kd.S_lower HS.out H3.out.size) H02.out (by decide) 0 _) (blk_put H02.out 0 _ rfl) (by decide) 1 _, below_set (below_set HB.out (Nat.le_refl _)) (Nat.le_refl _)⟩
  · rw [if_neg c1] at h
    simp only [Option.some.injEq, Prod.mk.injEq] at h
    obtain ⟨rfl, rfl, rfl⟩ := h
    have C1 := Aside0.mk c1
    clear c1
    go_enter Tryd.func14, Tryd.ntmps14
    go_upto_region 3 with (fail)
    obtain ⟨w1, hw⟩ : ∃ w1, w1 = ((w.alloc (.cells #[.int .u32 0, .slice none 0 0] 25)).alloc (.cells #[.int .u64 0, .int .u32 0, .slice none 0 0] 57)).alloc (.cells #[.int .i64 0] 59) := ⟨_, rfl⟩
    rw [← hw]
    obtain ⟨h0, h1, h2, h3⟩ := three_is _ _ _ _ _ _ _ _ hw
    have H0 := Aside0.mk h0
    have H1 := Aside0.mk h1
    have H2 := Aside0.mk h2
    have H3 := Aside0.mk h3
    clear hw h0 h1 h2 h3
    have P1 : Calls Tryd.prog 30 #[.pointer (some ⟨w.heap.size + 1, 0, none⟩), .slice A0 l0.length c0] w1 fun e w2 => e = .returned (.iface 59 (.agg #[.int .i64 er])) ∧ Aside0 (Below w.heap.size w w2) ∧ Aside0 (w2.heap[w.heap.size]? = some (.cells #[.int .u32 0, .slice none 0 0] 25 (0, 0))) ∧ Aside0 (w2.heap[w.heap.size + 1 + 1]? = some (.cells #[.int .i64 0] 59 (0, 0))) := by
      refine (flow_read.calls k (w.heap.size + 1) A0 c0 l0 er bs ps w1 (Kd.C_below HR.out H3.out) HC.out H1.out HA.out).mono ?_
      rintro e w2 ⟨he, hp⟩
      rw [errV_bad _ C1.out] at he
      have hk : KeepBut w1 w2 (w.heap.size + 1) none := hp.1
      have hb : Below (w.heap.size + 1) w1 w2 := hp.2.1
      exact ⟨he, ⟨H3.out.trans (below_less hb (Nat.le_succ _))⟩, ⟨hk.blk H0.out (by omega) (by simp)⟩, ⟨hk.blk H2.out (by omega) (by simp)⟩⟩
    have P2 : ∀ w2, Aside0 (Below w.heap.size w w2) → Aside0 (w2.heap[w.heap.size]? = some (.cells #[.int .u32 0, .slice none 0 0] 25 (0, 0))) → Aside0 (w2.heap[w.heap.size + 1 + 1]? = some (.cells #[.int .i64 0] 59 (0, 0))) →
        Calls Tryd.prog 29 #[.iface 59 (.agg #[.int .i64 er]), .iface 64 (.pointer (some ⟨w.heap.size + 1 + 1, 0, none⟩))] w2 fun e w3 => e = .returned (.bool true) ∧ Aside0 (Below w.heap.size w w3) ∧ Aside0 (w3.heap[w.heap.size]? = some (.cells #[.int .u32 0, .slice none 0 0] 25 (0, 0))) ∧ Aside0 (w3.heap[w.heap.size + 1 + 1]? = some (.cells #[.int .i64 er] 59 (0, 0))) := by
      intro w2 HB H02 H22
      refine (as_hit er ⟨w.heap.size + 1 + 1, 0, none⟩ (.int .i64 0) w2 (errT_below HE.out HB.out (Nat.le_refl _)) ((blk_cell H22.out 0).trans rfl) (blk_frozen H22.out 0)).mono ?_
      rintro e w3 ⟨he, hw⟩
      refine ⟨he, ⟨?_⟩, ⟨?_⟩, ⟨?_⟩⟩
      · rw [hw]
        exact below_set (below_alloc (below_alloc (below_alloc (below_alloc HB.out _) _) _) _) (Nat.le_add_right w.heap.size 2)
      · rw [hw]
        exact (Below.heap_setCell _ _ _ _ (by show w.heap.size ≠ w.heap.size + 1 + 1; omega)).trans (blk_alloc (blk_alloc (blk_alloc (blk_alloc H02.out _) _) _) _)
      · rw [hw]
        exact blk_put (blk_alloc (blk_alloc (blk_alloc (blk_alloc H22.out _) _) _) _) 0 _ rfl
    go_upto_region 4 with (first
      | (go_at_call 30; with_reducible refine P1.mono ?_; rintro e w2 ⟨rfl, HB, H02, H22⟩)
      | (go_at_call 29; with_reducible refine (P2 w2 HB H02 H22).mono ?_; rintro e w3 ⟨rfl, HB3, H03, H23⟩))
    have HD0 := Aside0.mk (blk_drew H03.out)
    have HD2 := Aside0.mk (blk_drew H23.out)
    have HDB := Aside0.mk (below_drew1 HB3.out)
    have HX : Aside0 (w3.drew.cell? ⟨w.heap.size + 1 + 1, 0, none⟩ = some (.int .i64 er)) := ⟨(blk_cell HD2.out 0).trans rfl⟩
    refine start_ (n := 5) (S := fun w' => w'.cell? ⟨w.heap.size + 1 + 1, 0, none⟩ = some (.int .i64 er)) (ds := []) #[false, false, false, false, false] (by kernel_rfl) rfl rfl HX.out (fun hHeld => ?_)
    refine with_tabW get4_tab get4_bits (fun HT_ HW_ => ?_)
    generalize w3.drew = w4 at HD0 HD2 HDB HX hHeld ⊢
    refine pure_ (i := 0) (N := some 10) (v := ?_) (a' := ?_) #[true, false, false, false, false] rfl rfl (any_of HT_.out (by kernel_rfl)) (fun _ _ _ h => h) (Or.inl ⟨by rfl, ?_⟩) ?_ ?_
    rotate_left
    · intro w'
      go_simp
      with_reducible rfl
    rotate_left
    · simp only [Act.put, List.setIfInBounds_toArray, List.set_cons_zero, List.set_cons_succ, i64_w, i32_w]
      rfl
    refine pure_ (i := 1) (N := some 11) (v := ?_) (a' := ?_) #[true, true, false, false, false] rfl rfl (any_of HT_.out (by kernel_rfl)) (fun _ _ _ h => h) (Or.inl ⟨by rfl, ?_⟩) ?_ ?_
    rotate_left
    · intro w'
      go_simp
      with_reducible rfl
    rotate_left
    · simp only [Act.put, List.setIfInBounds_toArray, List.set_cons_zero, List.set_cons_succ, i64_w, i32_w]
      rfl
    refine take_ (i := 2) (N := some 12) (v := ?_) (a' := ?_) #[true, true, true, false, false] rfl rfl (take_ofW HT_.out HW_.out (by kernel_rfl)) (fun _ _ _ h => h) (Or.inl ⟨by rfl, ?_⟩) hHeld ?_ ?_
    rotate_left
    · rintro w' s0
      go_simp
      with_reducible rfl
    rotate_left
    · simp only [Act.put, List.setIfInBounds_toArray, List.set_cons_zero, List.set_cons_succ, i64_w, i32_w]
      rfl
    refine one_ (i := 3) (N := none) #[true, true, true, true, false] rfl rfl (one_of HT_.out (by kernel_rfl)) (by decide) (fun K hK => ?_)
    have hs0 : w4.cell? ⟨w.heap.size, 0, none⟩ = some (.int .u32 0) := (blk_cell HD0.out 0).trans rfl
    have hs1 : w4.cell? ⟨w.heap.size, 1, none⟩ = some (.slice none 0 0) := (blk_cell HD0.out 1).trans rfl
    have hf0 := blk_frozen HD0.out 0
    have hf1 := blk_frozen HD0.out 1
    refine skip_ (w1 := (w4.setCell ⟨w.heap.size, 0, none⟩ (.int .u32 0)).setCell ⟨w.heap.size, 1, none⟩ (.slice none 0 0)) (by rfl) rfl ?_ ?_
    · go_simp
    clear hs0 hs1 hf0 hf1
    refine hK.out _ _ ((cell_far (p := ⟨w.heap.size, _, none⟩) (by show w.heap.size + 1 + 1 ≠ w.heap.size; omega) _).trans ((cell_far (p := ⟨w.heap.size, _, none⟩) (by show w.heap.size + 1 + 1 ≠ w.heap.size; omega) _).trans HX.out)) (fun hHeld => ?_)
    clear hK K
    refine pure_ (i := 4) (N := some 3) (v := ?_) (a' := ?_) #[true, true, true, true, true] rfl rfl (any_of HT_.out (by kernel_rfl)) (fun _ _ _ h => h) (Or.inl ⟨by rfl, ?_⟩) ?_ ?_
    rotate_left
    · intro w'
      go_simp
      with_reducible rfl
    rotate_left
    · simp only [Act.put, List.setIfInBounds_toArray, List.set_cons_zero, List.set_cons_succ, i64_w, i32_w]
      rfl
    refine done_ (done_of HT_.out (by kernel_rfl)) ?_
    go_wp2
    refine bodyPost_ret (results_ct rfl _ _ w.heap.size 25 #[.int .u32 0, .slice none 0 0] (0, 0) _ rfl (by refine blk_put (cs := #[.int .u32 0, .slice none 0 0]) ?_ 1 _ rfl; refine blk_put (cs := #[.int .u32 0, .slice none 0 0]) ?_ 0 _ rfl; exact HD0.out) Tryd.underlying25 rfl (by kernel_rfl)) rfl ?_
    exact ⟨_, rfl, Kd.S_nil _ _ _ _ _, below_set (below_set HDB.out (Nat.le_refl _)) (Nat.le_refl _)⟩

/-! ### flow_Cuts: function 16 -/
def flow_Cuts.l0 : Nat → List Int → List (S50) → Int → Int → Option (List Int × Bool)
  | 0, _, _, _, _ => none
  | k + 1, x8, x24, x25, x26 => if x26 < x25 then (if 0 ≤ x26 then (if x26 < (x24.length : Int) then (if 0 ≤ (wrap64 ((x8.length : Int) - 1)) then (if (wrap64 ((x8.length : Int) - 1)) < (x8.length : Int) then (if x8.length < 17592186044416 then (flow_Cuts.l0 k (x8 ++ [wrap64 ((wrap64 ((wrap64 ((rd x8 (wrap64 ((x8.length : Int) - 1))) + (((rd_T50 x24 x26).f1).length : Int))) + 6)) + 4)]) x24 x25 (wrap64 (x26 + 1))) else (none)) else (none)) else (none)) else (none)) else (none)) else (some (x8, true))
def flow_Cuts.f (k : Nat) (l0 : List Int) : Option (List Int × Bool) := (flow_Get.f k l0).bind fun bt188 => (if bt188.2.2 = 0 then ((frame_All.f k l0).bind fun bt194 => (flow_Cuts.l0 k (([0] : List Int)) bt194.1 (bt194.1.length : Int) 0)) else (some (([] : List Int), false)))
def flow_Cuts.T9 : Bool × List (List Nat × List Nat) := (true, [([], []), ([], []), ([], []), ([2], [2]), ([3], [3]), ([1, 4], [1, 4]), ([5], [5]), ([], []), ([7], [7]), ([8], [8]), ([6, 9], [6, 9]), ([10], [10]), ([11], [11]), ([12], [12]), ([0, 13], [0, 13]), ([14, 14, 0, 1, 2, 3, 4, 5, 6, 7, 8, 9, 10, 11, 12, 13, 14], [0, 1, 2, 14])])
def flow_Cuts.B9 : List Nat := [0, 0, 0, 4, 12, 30, 62, 0, 128, 384, 1022, 2046, 4094, 8190, 16383, 32767]
theorem flow_Cuts.tab9 : rtab .any (opsOf Tryd.f16 9) = flow_Cuts.T9 := by kernel_rfl
theorem flow_Cuts.bits9 : waitsOk flow_Cuts.T9.2 flow_Cuts.B9 = true := by kernel_rfl
set_option maxHeartbeats 8000000 in
set_option maxRecDepth 100000 in
theorem flow_Cuts.calls (k : Nat) (A0 : Option Addr) (c0 : Nat) (l0 : List Int) (r1 : List Int) (r2 : Bool) (w : World) (hr0 : Kd.C (Kd.int .u8) w A0 l0.length l0) (hc0 : l0.length ≤ c0) (h : flow_Cuts.f k l0 = some (r1, r2)) (hE : errT w) :
    Calls Tryd.prog 16 #[.slice A0 l0.length c0] w fun e w' => ∃ v0_ : Value, e = .returned (.tuple #[v0_, .bool r2]) ∧ Kd.R (Kd.int .i64) 3 w' w.heap.size (fun _ => True) v0_ r1 ∧ Below w.heap.size w w' := by
  have HE := Aside0.mk hE
  clear hE
  have hu25 := Tryd.underlying25
  have hu50 := Tryd.underlying50
  have HR0 := Aside0.mk hr0
  have HC0 := Aside0.mk hc0
  clear hr0 hc0
  have HB := Aside0.mk (Below.refl w.heap.size w)
  have H : ((flow_Get.f k l0).bind fun bt188 => (if bt188.2.2 = 0 then ((frame_All.f k l0).bind fun bt194 => (flow_Cuts.l0 k (([0] : List Int)) bt194.1 (bt194.1.length : Int) 0)) else (some (([] : List Int), false)))) = some (r1, r2) := h
  clear h
  replace H := Option.bind_eq_some_iff.mp H
  obtain ⟨⟨t188, t189, t192⟩, A20, H⟩ := H
  replace H : (if t192 = 0 then ((frame_All.f k l0).bind fun bt194 => (flow_Cuts.l0 k (([0] : List Int)) bt194.1 (bt194.1.length : Int) 0)) else (some (([] : List Int), false))) = some (r1, r2) := H
  have A2 := Aside0.mk A20
  clear A20
  by_cases c3 : t192 = 0
  · rw [if_pos c3] at H
    have c3b0 : (t192 == 0) = true := beq_iff_eq.mpr c3
    have c3b1 : (t192 != 0) = false := bne_eq_false_iff_eq.mpr c3
    clear c3
    replace H := Option.bind_eq_some_iff.mp H
    obtain ⟨⟨t194, t195⟩, A40, H⟩ := H
    replace H : (flow_Cuts.l0 k (([0] : List Int)) t194 (t194.length : Int) 0) = some (r1, r2) := H
    have A4 := Aside0.mk A40
    clear A40
    obtain ⟨y198, hy198⟩ : ∃ y_ : List Int, y_ = (([0] : List Int)) := ⟨_, rfl⟩
    replace H : (flow_Cuts.l0 k y198 t194 (t194.length : Int) 0) = some (r1, r2) := by first | (rw [hy198]; with_reducible exact H) | (have H2_ := (Option.bind_some _ _).symm.trans H; rw [hy198]; with_reducible exact H2_) | (have H2_ := (Option.bind_some _ _).symm.trans H; with_reducible exact H2_) | with_reducible exact H | (rw [hy198]; exact H) | exact H
    have Ny198 := Aside0.mk hy198
    clear hy198
    have H' := Aside0.mk H
    clear H
    go_enter Tryd.func16, Tryd.ntmps16
    go_wp2_with (first | ((with_reducible refine gate_callee (f := 14) rfl ?_); refine goesL_ (some 13) rfl rfl Tryd.func14 (by kernel_rfl) rfl #[.slice A0 l0.length c0] rfl (by (try simp only [List.map_toArray, List.map_cons, List.map_nil]); first | done | rfl | (simp only [List.length_drop, List.length_take]; rfl)) ?_; (with_reducible refine (flow_Get.calls k _ _ l0 t188 t189 t192 _ ?side1 ?side2 A2.out ?errE).mono ?_); (case errE => exact errT_below HE.out (by repeat (first | (with_reducible first | exact HB.out | apply below_alloc | apply pw_below_drewN | apply below_drew1) | exact HB.out)) (Nat.le_refl _)); (case side1 => repeat (first | exact HR0.out | (with_reducible refine Kd.C_alloc ?_ _) | (with_reducible refine Kd.C_drewN ?_ _) | (with_reducible refine Kd.C_drew ?_))); (case side2 => exact HC0.out); rintro e w5 ⟨v190, rfl, ho0, hb⟩; refine ⟨_, rfl, ?_⟩; have n0_ := Aside0.mk (Kd.S_lower ho0 (below_size (by repeat (first | (with_reducible first | exact HB.out | apply below_alloc | apply pw_below_drewN | apply below_drew1) | exact HB.out)))); have n1_ := Aside0.mk (below_step (by repeat (first | (with_reducible first | exact HB.out | apply below_alloc | apply pw_below_drewN | apply below_drew1) | exact HB.out)) hb); clear HB; have HO191 := n0_; have HB := n1_; clear n0_ n1_; (try clear hb); (try clear hb2); (try clear hk); (try clear hi); (try clear ho0)) | ((with_reducible refine gate_dst (N := 4) rfl ?_); refine box_event ?hg (N := 4) ?hd (cs := #[.int .u32 0, .slice none 0 0]) (t := 25) ?hr ?_; (case hd => rfl); (case hg => rfl); (case hr => first | (go_simp; done) | (go_simp; rfl)); intro gb193 hg w6 hbox hb; have n0_ := Aside0.mk (Kd.S_below (by (with_reducible repeat (first | apply Kd.S_alloc | apply Kd.S_drewN | apply Kd.S_drew)); exact HO191.out) hb); have n1_ := Aside0.mk (below_step (by repeat (first | (with_reducible first | exact HB.out | apply below_alloc | apply pw_below_drewN | apply below_drew1) | exact HB.out)) hb); have n2_ := Aside0.mk (hbox); have n3_ := Aside0.mk ((by rw [hg]; exact (below_size (by repeat (first | (with_reducible first | exact HB.out | apply below_alloc | apply pw_below_drewN | apply below_drew1) | exact HB.out))) : w.heap.size ≤ gb193)); have n4_ := Aside0.mk ((by rw [hg]; exact (below_size (by repeat (first | (with_reducible first | exact HB.out | apply below_alloc | apply pw_below_drewN | apply below_drew1) | exact HB.out))) : w.heap.size ≤ gb193)); clear HO191; clear HB; have HO191 := n0_; have HB := n1_; have BK193 := n2_; have GW193 := n3_; have GE193 := n4_; clear n0_ n1_ n2_ n3_ n4_; clear hb hbox hg; have hcz7_0 : w6.cell? ⟨gb193, 0, none⟩ = some (.int .u32 0) := (blk_cell BK193.out 0).trans rfl; have hcz7_1 : w6.cell? ⟨gb193, 1, none⟩ = some (.slice none 0 0) := (blk_cell BK193.out 1).trans rfl; have hfz7_0 := blk_frozen BK193.out 0; have hfz7_1 := blk_frozen BK193.out 1; obtain ⟨Ao8, co8, eo8⟩ := Kd.S_slice HO191.out; subst eo8) | ((with_reducible refine gate_callee (f := 24) rfl ?_); refine goesL_ (some 20) rfl rfl Tryd.func24 (by kernel_rfl) rfl #[.slice A0 l0.length c0] rfl (by (try simp only [List.map_toArray, List.map_cons, List.map_nil]); first | done | rfl | (simp only [List.length_drop, List.length_take]; rfl)) ?_; (with_reducible refine (frame_All.calls k _ _ l0 t194 t195 _ ?side1 ?side2 A4.out).mono ?_); (case side1 => exact Kd.C_below HR0.out (by repeat (first | (with_reducible first | exact HB.out | apply below_alloc | apply pw_below_drewN | apply below_drew1 | refine below_set ?_ GE193.out) | exact HB.out))); (case side2 => exact HC0.out); rintro e w9 ⟨v196, rfl, ho0, hb⟩; refine ⟨_, rfl, ?_⟩; have n0_ := Aside0.mk (Kd.S_below (by (with_reducible repeat (first | apply Kd.S_alloc | apply Kd.S_drewN | apply Kd.S_drew)); exact (Kd.S_mono (Kd.S_far (p := ⟨gb193, 1, none⟩) (Kd.S_far (p := ⟨gb193, 0, none⟩) (Kd.S_types HO191.out BK193.out (by decide)) (fun _ hk => hk.2) (.int .u32 t188)) (fun _ hk => hk.2) (.slice Ao8 t189.length co8)) (fun _ h_ => h_.1))) hb); have n1_ := Aside0.mk (Kd.S_lower ho0 (below_size (by repeat (first | (with_reducible first | exact HB.out | apply below_alloc | apply pw_below_drewN | apply below_drew1 | refine below_set ?_ GE193.out) | exact HB.out)))); have n2_ := Aside0.mk (blk_below (g := gb193) (o := .cells #[.int .u32 t188, .slice Ao8 t189.length co8] 25 (0, 0)) (by (with_reducible repeat (first | refine blk_drewN ?_ _ | refine blk_drew ?_ | refine blk_alloc ?_ _)); refine blk_put (cs := #[.int .u32 t188, .slice none 0 0]) ?_ 1 _ rfl; (with_reducible repeat (first | refine blk_drewN ?_ _ | refine blk_drew ?_ | refine blk_alloc ?_ _)); refine blk_put (cs := #[.int .u32 0, .slice none 0 0]) ?_ 0 _ rfl; (with_reducible repeat (first | refine blk_drewN ?_ _ | refine blk_drew ?_ | refine blk_alloc ?_ _)); exact BK193.out) hb); have n3_ := Aside0.mk (below_step (by repeat (first | (with_reducible first | exact HB.out | apply below_alloc | apply pw_below_drewN | apply below_drew1 | refine below_set ?_ GE193.out) | exact HB.out)) hb); clear HO191; clear BK193; clear HB; have HO191 := n0_; have HO197 := n1_; have BK193 := n2_; have HB := n3_; clear n0_ n1_ n2_ n3_; (try clear hb); (try clear hb2); (try clear hk); (try clear hi); (try clear ho0)) | ((with_reducible refine gate_dst (N := 23) rfl ?_); refine Kd.R_lit (Kd.int .i64) _ 3 ?hg (N := 23) ?hd (xs := ([0] : List Int)) (inner := [.int .i64 0]) (ok := fun _ => True) (okp := fun _ => True) ?hr ?hp (fun _ hk => hk) trivial (Below.refl _ _) (Nat.le_refl _) (by simp) ?_; (case hd => rfl); (case hg => rfl); (case hr => first | (go_simp; done) | (go_simp; rfl)); (case hp => exact (Reps.one (show Kd.M (Kd.int .i64) _ _ _ 0 [.int .i64 0] from rfl) (Reps.none _ _))); intro v199 w10 ho11 hb hg_ hnew_; clear hg_ hnew_; (first | rw [← Ny198.out] at ho11 | (simp only [Int.reduceToNat] at ho11; rw [← Ny198.out] at ho11)); have n0_ := Aside0.mk (Kd.S_below (by (with_reducible repeat (first | apply Kd.S_alloc | apply Kd.S_drewN | apply Kd.S_drew)); exact HO191.out) hb); have n1_ := Aside0.mk (Kd.S_below (by (with_reducible repeat (first | apply Kd.S_alloc | apply Kd.S_drewN | apply Kd.S_drew)); exact HO197.out) hb); have n2_ := Aside0.mk (Kd.R_lower ho11 (below_size (by repeat (first | (with_reducible first | exact HB.out | apply below_alloc | apply pw_below_drewN | apply below_drew1 | refine below_set ?_ GE193.out) | exact HB.out)))); have n3_ := Aside0.mk (blk_below (g := gb193) (o := .cells #[.int .u32 t188, .slice Ao8 t189.length co8] 25 (0, 0)) (by (with_reducible repeat (first | refine blk_drewN ?_ _ | refine blk_drew ?_ | refine blk_alloc ?_ _)); exact BK193.out) hb); have n4_ := Aside0.mk (below_step (by repeat (first | (with_reducible first | exact HB.out | apply below_alloc | apply pw_below_drewN | apply below_drew1 | refine below_set ?_ GE193.out) | exact HB.out)) hb); clear HO191; clear HO197; clear BK193; clear HB; have HO191 := n0_; have HO197 := n1_; have HO200 := n2_; have BK193 := n3_; have HB := n4_; clear n0_ n1_ n2_ n3_ n4_; clear hb ho11; obtain ⟨Ao12, co12, eo12⟩ := Kd.S_slice HO197.out; subst eo12))
    go_loopg [8, 26] k (fun kq v8 v26 w' => ∃ (x8_1 : List Int) (x26_1 : Int), v26 = .int .i64 x26_1 ∧ Aside0 (flow_Cuts.l0 kq x8_1 t194 (t194.length : Int) x26_1 = some (r1, r2)) ∧ Aside0 (kq ≤ k) ∧ Aside0 (Kd.R (Kd.int .i64) 3 w' w.heap.size (fun _ => True) v8 x8_1) ∧ Aside0 (Kd.S k50 50 w' w.heap.size (fun _ => True) (.slice Ao12 t194.length co12) t194) ∧ Aside0 (Kd.S (Kd.slice 5 (Kd.int .u8)) 26 w' w.heap.size (fun _ => True) (.slice Ao8 t189.length co8) t189) ∧ Aside0 (w'.heap[gb193]? = some (.cells #[.int .u32 t188, (.slice Ao8 t189.length co8)] 25 (0, 0))) ∧ Aside0 (Below w.heap.size w w'))
    case atStart => exact ⟨(y198), (0), (by first | rfl | (simp; done) | (simp [*]; done)), H', ⟨Nat.le_refl _⟩, ⟨by (with_reducible repeat (first | apply Kd.R_alloc | apply Kd.R_drewN | apply Kd.R_drew)); exact HO200.out⟩, ⟨by (with_reducible repeat (first | apply Kd.S_alloc | apply Kd.S_drewN | apply Kd.S_drew)); exact HO197.out⟩, ⟨by (with_reducible repeat (first | apply Kd.S_alloc | apply Kd.S_drewN | apply Kd.S_drew)); exact HO191.out⟩, ⟨by (with_reducible repeat (first | refine blk_drewN ?_ _ | refine blk_drew ?_ | refine blk_alloc ?_ _)); exact BK193.out⟩, ⟨by repeat (first | (with_reducible first | exact HB.out | apply below_alloc | apply pw_below_drewN | apply below_drew1 | refine below_set ?_ GE193.out) | exact HB.out)⟩⟩
    case round =>
      clear H'
      try clear c1
      try clear c2
      try clear p2
      try clear c3
      try clear c3b0
      try clear c3b1
      try clear hcz7_0
      try clear hcz7_1
      try clear hfz7_0
      try clear hfz7_1
      obtain ⟨x8_1, x26_1, rfl, HA, HK1, HO_8, HO_24, HO_194001, BK193, HB⟩ := hrel
      cases gk with
      | zero => exact absurd HA.out (by simp [flow_Cuts.l0])
      | succ k1 =>
        have H := HA.out
        clear HA
        simp only [flow_Cuts.l0] at H
        by_cases c13 : x26_1 < (t194.length : Int)
        · rw [if_pos c13] at H
          have c13b0 : decide (x26_1 < (t194.length : Int)) = true := decide_eq_true c13
          clear c13
          by_cases c14 : 0 ≤ x26_1
          · rw [if_pos c14] at H
            have c14b0 : decide (0 ≤ x26_1) = true := decide_eq_true c14
            clear c14
            by_cases c15 : x26_1 < (t194.length : Int)
            · rw [if_pos c15] at H
              have c15b0 : decide (x26_1 < (t194.length : Int)) = true := decide_eq_true c15
              clear c15
              obtain ⟨ji16, hji16⟩ : ∃ j_ : Int, (wrap64 ((x8_1.length : Int) - 1)) = j_ := ⟨_, rfl⟩
              replace H : (if 0 ≤ (ji16) then (if (ji16) < (x8_1.length : Int) then (if x8_1.length < 17592186044416 then (flow_Cuts.l0 k1 (x8_1 ++ [wrap64 ((wrap64 ((wrap64 ((rd x8_1 (ji16)) + (((rd_T50 t194 x26_1).f1).length : Int))) + 6)) + 4)]) t194 (t194.length : Int) (wrap64 (x26_1 + 1))) else (none)) else (none)) else (none)) = some (r1, r2) := by first | (rw [hji16] at H; exact H) | (simp only [hji16] at H ⊢; exact H)
              have hji16w : (IntKind.i64.wrap ((x8_1.length : Int) - 1)) = ji16 := (i64_w _).trans hji16
              by_cases c17 : 0 ≤ (ji16)
              · rw [if_pos c17] at H
                have c17b0 : decide (0 ≤ (ji16)) = true := decide_eq_true c17
                clear c17
                by_cases c18 : (ji16) < (x8_1.length : Int)
                · rw [if_pos c18] at H
                  have c18b0 : decide ((ji16) < (x8_1.length : Int)) = true := decide_eq_true c18
                  clear c18
                  by_cases c19 : x8_1.length < 17592186044416
                  · rw [if_pos c19] at H
                    have LMc19 := Aside0.mk c19
                    clear c19
                    obtain ⟨y204, hy204⟩ : ∃ y_ : List Int, y_ = (x8_1 ++ [wrap64 ((wrap64 ((wrap64 ((rd x8_1 (ji16)) + (((rd_T50 t194 x26_1).f1).length : Int))) + 6)) + 4)]) := ⟨_, rfl⟩
                    replace H : (flow_Cuts.l0 k1 y204 t194 (t194.length : Int) (wrap64 (x26_1 + 1))) = some (r1, r2) := by first | (rw [hy204]; with_reducible exact H) | (have H2_ := (Option.bind_some _ _).symm.trans H; rw [hy204]; with_reducible exact H2_) | (have H2_ := (Option.bind_some _ _).symm.trans H; with_reducible exact H2_) | with_reducible exact H | (rw [hy204]; exact H) | exact H
                    have Ny204 := Aside0.mk hy204
                    clear hy204
                    have H' := Aside0.mk H
                    clear H
                    have p201 : 0 ≤ (x26_1 : Int) := of_decide_eq_true (by first | (with_reducible assumption) | assumption)
                    have q201 : x26_1 < (t194.length : Int) := of_decide_eq_true (by first | (with_reducible assumption) | assumption)
                    obtain ⟨ad201, A201_1, c201_1, e201, hx201_0, hx201_1, hl201_1, hi201_1⟩ := at_T50 (Kd.S_reads' HO_24.out).2.2 x26_1 p201 q201
                    cases e201
                    obtain ⟨ce201, hce201, hMe201, hcc201⟩ := Kd.S_get HO_24.out z50 x26_1 p201 (by first | exact q201 | exact of_decide_eq_true (by first | (with_reducible assumption) | assumption) | (have e_ := (Kd.S_reads' HO_24.out).1; omega))
                    obtain ⟨ve201_1, rfl, ge201_1⟩ := k50_openM hMe201
                    have hv201_1 := hcc201 1 _ rfl
                    rw [add_field _ _ 1 (by omega)] at hv201_1
                    replace hv201_1 := Option.some.inj (hv201_1.symm.trans hx201_1)
                    rw [hv201_1] at ge201_1
                    have HL201_1 := Aside0.mk (show Kd.R (Kd.int .u8) 5 _ _ _ _ ((rd_T50 t194 x26_1).f1) from ge201_1)
                    clear hv201_1 ge201_1
                    clear hcc201 hce201
                    have HR201_1 := Aside0.mk hi201_1
                    have HC201_1 := Aside0.mk hl201_1
                    clear hi201_1 hl201_1
                    replace p201 := eq_true p201
                    replace q201 := eq_true q201
                    try go_wp2_with (first | ((with_reducible refine gate_dst (N := 10) rfl ?_); refine box_event ?hg (N := 10) ?hd (cs := #[.int .i64 0, .slice none 0 0]) (t := 50) ?hr ?_; (case hd => rfl); (case hg => rfl); (case hr => first | (go_simp; done) | (go_simp; rfl)); intro gb202 hg w20 hbox hb; have n0_ := Aside0.mk (Kd.R_below (by (with_reducible repeat (first | apply Kd.R_alloc | apply Kd.R_drewN | apply Kd.R_drew)); exact HO_8.out) hb); have n1_ := Aside0.mk (Kd.S_below (Kd.S_elderB (by (with_reducible repeat (first | apply Kd.S_alloc | apply Kd.S_drewN | apply Kd.S_drew)); exact HO_24.out) gb202 (Nat.le_of_eq hg.symm)) hb); have n2_ := Aside0.mk (Kd.S_below (by (with_reducible repeat (first | apply Kd.S_alloc | apply Kd.S_drewN | apply Kd.S_drew)); exact HO_194001.out) hb); have n3_ := Aside0.mk (Kd.R_below (by (with_reducible repeat (first | apply Kd.R_alloc | apply Kd.R_drewN | apply Kd.R_drew)); exact HL201_1.out) hb); have n4_ := Aside0.mk (blk_below (g := gb193) (o := .cells #[.int .u32 t188, .slice Ao8 t189.length co8] 25 (0, 0)) (by (with_reducible repeat (first | refine blk_drewN ?_ _ | refine blk_drew ?_ | refine blk_alloc ?_ _)); exact BK193.out) hb); have n5_ := Aside0.mk (Kd.C_below (by repeat (first | (with_reducible exact HR201_1.out) | (with_reducible refine Kd.C_alloc ?_ _) | (with_reducible refine Kd.C_drewN ?_ _) | (with_reducible refine Kd.C_drew ?_) | exact HR201_1.out)) hb); have n6_ := Aside0.mk (below_step (by repeat (first | (with_reducible first | exact HB.out | apply below_alloc | apply pw_below_drewN | apply below_drew1 | refine below_set ?_ GE193.out) | exact HB.out)) hb); have n7_ := Aside0.mk (hbox); have n8_ := Aside0.mk ((by rw [hg]; exact (below_size (by repeat (first | (with_reducible first | exact HB.out | apply below_alloc | apply pw_below_drewN | apply below_drew1 | refine below_set ?_ GE193.out) | exact HB.out))) : w.heap.size ≤ gb202)); have n9_ := Aside0.mk ((by rw [hg]; exact (below_size (by repeat (first | (with_reducible first | exact HB.out | apply below_alloc | apply pw_below_drewN | apply below_drew1 | refine below_set ?_ GE193.out) | exact HB.out))) : w.heap.size ≤ gb202)); have n10_ := Aside0.mk ((by rw [hg]; exact Nat.ne_of_lt (blk_lt (g := gb193) (o := .cells #[.int .u32 t188, .slice Ao8 t189.length co8] 25 (0, 0)) (by (with_reducible repeat (first | refine blk_drewN ?_ _ | refine blk_drew ?_ | refine blk_alloc ?_ _)); exact BK193.out)) : gb193 ≠ gb202)); have n11_ := Aside0.mk ((by rw [hg]; exact Nat.ne_of_gt (blk_lt (g := gb193) (o := .cells #[.int .u32 t188, .slice Ao8 t189.length co8] 25 (0, 0)) (by (with_reducible repeat (first | refine blk_drewN ?_ _ | refine blk_drew ?_ | refine blk_alloc ?_ _)); exact BK193.out)) : gb202 ≠ gb193)); clear HO_8; clear HO_24; clear HO_194001; clear HL201_1; clear BK193; clear HR201_1; clear HB; have HO_8 := n0_; have HO_24 := n1_; have HO_194001 := n2_; have HL201_1 := n3_; have BK193 := n4_; have HR201_1 := n5_; have HB := n6_; have BK202 := n7_; have GW202 := n8_; have GE202 := n9_; have NB193_202 := n10_; have NB202_193 := n11_; clear n0_ n1_ n2_ n3_ n4_ n5_ n6_ n7_ n8_ n9_ n10_ n11_; clear hb hbox hg; have hnb21 := NB202_193.out; have hnc21 := NB193_202.out; have hcz22_0 : w20.cell? ⟨gb202, 0, none⟩ = some (.int .i64 0) := (blk_cell BK202.out 0).trans rfl; have hcz22_1 : w20.cell? ⟨gb202, 1, none⟩ = some (.slice none 0 0) := (blk_cell BK202.out 1).trans rfl; have hfz22_0 := blk_frozen BK202.out 0; have hfz22_1 := blk_frozen BK202.out 1))
                    have n0_ : Aside0 (Kd.R (Kd.int .i64) 3 ((w20.setCell ⟨gb202, 0, none⟩ (.int .i64 ((rd_T50 t194 x26_1).f0))).setCell ⟨gb202, 1, none⟩ (.slice A201_1 ((rd_T50 t194 x26_1).f1).length c201_1)) w.heap.size (fun _ => True) u8 x8_1) := ⟨by (with_reducible repeat (first | apply Kd.R_alloc | apply Kd.R_drewN | apply Kd.R_drew)); exact Kd.R_mono (Kd.R_far (p := ⟨gb202, 1, none⟩) (Kd.R_far (p := ⟨gb202, 0, none⟩) (Kd.R_types HO_8.out BK202.out (by decide)) (fun _ hk => hk.2) (.int .i64 ((rd_T50 t194 x26_1).f0))) (fun _ hk => hk.2) (.slice A201_1 ((rd_T50 t194 x26_1).f1).length c201_1)) (fun _ hk => trivial)⟩
                    have n1_ : Aside0 (Kd.S k50 50 ((w20.setCell ⟨gb202, 0, none⟩ (.int .i64 ((rd_T50 t194 x26_1).f0))).setCell ⟨gb202, 1, none⟩ (.slice A201_1 ((rd_T50 t194 x26_1).f1).length c201_1)) w.heap.size (fun k_ => k_ ≠ gb202) (.slice (some ad201) t194.length co12) t194) := ⟨by (with_reducible repeat (first | apply Kd.S_alloc | apply Kd.S_drewN | apply Kd.S_drew)); exact Kd.S_mono (Kd.S_far (p := ⟨gb202, 1, none⟩) (Kd.S_far (p := ⟨gb202, 0, none⟩) (Kd.S_mono HO_24.out (fun k_ hk => (⟨hk, hk.2⟩ : _ ∧ k_ ≠ gb202))) (fun _ hk => hk.2) (.int .i64 ((rd_T50 t194 x26_1).f0))) (fun _ hk => hk.2) (.slice A201_1 ((rd_T50 t194 x26_1).f1).length c201_1)) (fun _ hk => hk.1.2)⟩
                    have n2_ : Aside0 (Kd.S (Kd.slice 5 (Kd.int .u8)) 26 ((w20.setCell ⟨gb202, 0, none⟩ (.int .i64 ((rd_T50 t194 x26_1).f0))).setCell ⟨gb202, 1, none⟩ (.slice A201_1 ((rd_T50 t194 x26_1).f1).length c201_1)) w.heap.size (fun _ => True) (.slice Ao8 t189.length co8) t189) := ⟨by (with_reducible repeat (first | apply Kd.S_alloc | apply Kd.S_drewN | apply Kd.S_drew)); exact Kd.S_mono (Kd.S_far (p := ⟨gb202, 1, none⟩) (Kd.S_far (p := ⟨gb202, 0, none⟩) (Kd.S_types HO_194001.out BK202.out (by decide)) (fun _ hk => hk.2) (.int .i64 ((rd_T50 t194 x26_1).f0))) (fun _ hk => hk.2) (.slice A201_1 ((rd_T50 t194 x26_1).f1).length c201_1)) (fun _ hk => trivial)⟩
                    have n3_ : Aside0 (Kd.R (Kd.int .u8) 5 ((w20.setCell ⟨gb202, 0, none⟩ (.int .i64 ((rd_T50 t194 x26_1).f0))).setCell ⟨gb202, 1, none⟩ (.slice A201_1 ((rd_T50 t194 x26_1).f1).length c201_1)) w.heap.size (fun k_ => some k_ ≠ (.slice (some ad201) t194.length co12 : Value).ownBlock) (.slice A201_1 ((rd_T50 t194 x26_1).f1).length c201_1) ((rd_T50 t194 x26_1).f1)) := ⟨by (with_reducible repeat (first | apply Kd.R_alloc | apply Kd.R_drewN | apply Kd.R_drew)); exact Kd.R_mono (Kd.R_far (p := ⟨gb202, 1, none⟩) (Kd.R_far (p := ⟨gb202, 0, none⟩) (Kd.R_types HL201_1.out BK202.out (by decide)) (fun _ hk => hk.2) (.int .i64 ((rd_T50 t194 x26_1).f0))) (fun _ hk => hk.2) (.slice A201_1 ((rd_T50 t194 x26_1).f1).length c201_1)) (fun _ hk => hk.1.2)⟩
                    have n4_ : Aside0 (((w20.setCell ⟨gb202, 0, none⟩ (.int .i64 ((rd_T50 t194 x26_1).f0))).setCell ⟨gb202, 1, none⟩ (.slice A201_1 ((rd_T50 t194 x26_1).f1).length c201_1)).heap[gb193]? = some (.cells #[.int .u32 t188, .slice Ao8 t189.length co8] 25 (0, 0))) := ⟨by (with_reducible repeat (first | refine blk_drewN ?_ _ | refine blk_drew ?_ | refine blk_alloc ?_ _)); refine blk_far ?_ NB193_202.out _; (with_reducible repeat (first | refine blk_drewN ?_ _ | refine blk_drew ?_ | refine blk_alloc ?_ _)); refine blk_far ?_ NB193_202.out _; (with_reducible repeat (first | refine blk_drewN ?_ _ | refine blk_drew ?_ | refine blk_alloc ?_ _)); exact BK193.out⟩
                    have n5_ : Aside0 (((w20.setCell ⟨gb202, 0, none⟩ (.int .i64 ((rd_T50 t194 x26_1).f0))).setCell ⟨gb202, 1, none⟩ (.slice A201_1 ((rd_T50 t194 x26_1).f1).length c201_1)).heap[gb202]? = some (.cells #[.int .i64 ((rd_T50 t194 x26_1).f0), .slice A201_1 ((rd_T50 t194 x26_1).f1).length c201_1] 50 (0, 0))) := ⟨by (with_reducible repeat (first | refine blk_drewN ?_ _ | refine blk_drew ?_ | refine blk_alloc ?_ _)); refine blk_put (cs := #[.int .i64 ((rd_T50 t194 x26_1).f0), .slice none 0 0]) ?_ 1 _ rfl; (with_reducible repeat (first | refine blk_drewN ?_ _ | refine blk_drew ?_ | refine blk_alloc ?_ _)); refine blk_put (cs := #[.int .i64 0, .slice none 0 0]) ?_ 0 _ rfl; (with_reducible repeat (first | refine blk_drewN ?_ _ | refine blk_drew ?_ | refine blk_alloc ?_ _)); exact BK202.out⟩
                    have n6_ : Aside0 (Below w.heap.size w ((w20.setCell ⟨gb202, 0, none⟩ (.int .i64 ((rd_T50 t194 x26_1).f0))).setCell ⟨gb202, 1, none⟩ (.slice A201_1 ((rd_T50 t194 x26_1).f1).length c201_1))) := ⟨by repeat (first | (with_reducible first | exact HB.out | apply below_alloc | apply pw_below_drewN | apply below_drew1 | refine below_set ?_ GE193.out | refine below_set ?_ GE202.out) | exact HB.out)⟩
                    (try clear HO_8)
                    (try clear HO_24)
                    (try clear HO_194001)
                    (try clear HL201_1)
                    (try clear BK193)
                    (try clear BK202)
                    (try clear HB)
                    generalize ((w20.setCell ⟨gb202, 0, none⟩ (.int .i64 ((rd_T50 t194 x26_1).f0))).setCell ⟨gb202, 1, none⟩ (.slice A201_1 ((rd_T50 t194 x26_1).f1).length c201_1)) = w23 at n0_ n1_ n2_ n3_ n4_ n5_ n6_ ⊢
                    have HO_8 := n0_
                    have HO_24 := n1_
                    have HO_194001 := n2_
                    have HL201_1 := n3_
                    have BK193 := n4_
                    have BK202 := n5_
                    have HB := n6_
                    clear n0_ n1_ n2_ n3_ n4_ n5_ n6_
                    have n0_ := Aside0.mk (Kd.R_drew HO_8.out)
                    have n1_ := Aside0.mk (Kd.S_drew HO_24.out)
                    have n2_ := Aside0.mk (Kd.S_drew HO_194001.out)
                    have n3_ := Aside0.mk (Kd.R_drew HL201_1.out)
                    have n4_ := Aside0.mk (blk_drew BK193.out)
                    have n5_ := Aside0.mk (blk_drew BK202.out)
                    have n6_ := Aside0.mk (below_drew1 HB.out)
                    clear HO_8
                    clear HO_24
                    clear HO_194001
                    clear HL201_1
                    clear BK193
                    clear BK202
                    clear HB
                    have HO_8 := n0_
                    have HO_24 := n1_
                    have HO_194001 := n2_
                    have HL201_1 := n3_
                    have BK193 := n4_
                    have BK202 := n5_
                    have HB := n6_
                    clear n0_ n1_ n2_ n3_ n4_ n5_ n6_
                    obtain ⟨Ao25, co25, eo25⟩ := Kd.R_slice HO_8.out
                    (first | subst eo25 | (injection eo25 with f1_ f2_ f3_; have f4_ := f1_.symm; have f5_ := f3_.symm; clear f1_ f2_ f3_; subst f4_; subst f5_))
                    have p203 : 0 ≤ ((ji16) : Int) := of_decide_eq_true (by first | (with_reducible assumption) | assumption)
                    have q203 : (ji16) < (x8_1.length : Int) := of_decide_eq_true (by first | (with_reducible assumption) | assumption)
                    obtain ⟨ad203, e203, hx203_0⟩ := Kd.at_int (Kd.R_reads' HO_8.out).2.2 (ji16) p203 q203
                    cases e203
                    replace p203 := eq_true p203
                    replace q203 := eq_true q203
                    refine start_ (n := 16) (S := fun w' => w'.cell? ⟨gb202, 0, none⟩ = some (.int .i64 ((rd_T50 t194 x26_1).f0)) ∧ w'.cell? ⟨gb202, 1, none⟩ = some (.slice A201_1 ((rd_T50 t194 x26_1).f1).length c201_1) ∧ w'.cell? (ad203.add ((ji16)).toNat) = some (.int .i64 (rd x8_1 (ji16)))) (ds := [13, 14]) #[false, false, false, false, false, false, false, false, false, false, false, false, false, false, false, false] (by kernel_rfl) rfl rfl ⟨(blk_cell BK202.out 0).trans rfl, (blk_cell BK202.out 1).trans rfl, hx203_0⟩ (fun hHeld => ?_); refine with_tabW flow_Cuts.tab9 flow_Cuts.bits9 (fun HT_ HW_ => ?_)
                    generalize w23.drew = w24 at HO_8 HO_24 HO_194001 HL201_1 BK193 BK202 HB hx203_0 hHeld ⊢
                    refine pure_ (i := 0) (N := some 30) (v := ?_) (a' := ?_) #[true, false, false, false, false, false, false, false, false, false, false, false, false, false, false, false] rfl rfl (any_of HT_.out (by kernel_rfl)) (fun _ _ _ h => h) (Or.inl ⟨by rfl, ?_⟩) ?_ ?_
                    rotate_left
                    · intro w'
                      go_simp
                      with_reducible rfl
                    rotate_left
                    · simp only [Act.put, List.setIfInBounds_toArray, List.set_cons_zero, List.set_cons_succ, i64_w, i32_w]
                      rfl
                    refine pure_ (i := 1) (N := some 31) (v := ?_) (a' := ?_) #[true, true, false, false, false, false, false, false, false, false, false, false, false, false, false, false] rfl rfl (any_of HT_.out (by kernel_rfl)) (fun _ _ _ h => h) (Or.inl ⟨by rfl, ?_⟩) ?_ ?_
                    rotate_left
                    · intro w'
                      go_simp
                      with_reducible rfl
                    rotate_left
                    · simp only [Act.put, List.setIfInBounds_toArray, List.set_cons_zero, List.set_cons_succ, i64_w, i32_w]
                      rfl
                    refine pure_ (i := 2) (N := some 32) (v := ?_) (a' := ?_) #[true, true, true, false, false, false, false, false, false, false, false, false, false, false, false, false] rfl rfl (any_of HT_.out (by kernel_rfl)) (fun _ _ _ h => h) (Or.inl ⟨by rfl, ?_⟩) ?_ ?_
                    rotate_left
                    · intro w'
                      go_simp
                      with_reducible rfl
                    rotate_left
                    · simp only [Act.put, List.setIfInBounds_toArray, List.set_cons_zero, List.set_cons_succ, i64_w, i32_w]
                      rfl
                    refine pure_ (i := 3) (N := some 33) (v := ?_) (a' := ?_) #[true, true, true, true, false, false, false, false, false, false, false, false, false, false, false, false] rfl rfl (any_of HT_.out (by kernel_rfl)) (fun _ _ _ h => h) (Or.inl ⟨by rfl, ?_⟩) ?_ ?_
                    rotate_left
                    · intro w'
                      go_simp
                      with_reducible rfl
                    rotate_left
                    · simp only [Act.put, List.setIfInBounds_toArray, List.set_cons_zero, List.set_cons_succ, i64_w, i32_w]
                      rfl
                    refine pure_ (i := 4) (N := some 34) (v := ?_) (a' := ?_) #[true, true, true, true, true, false, false, false, false, false, false, false, false, false, false, false] rfl rfl (any_of HT_.out (by kernel_rfl)) (fun _ _ _ h => h) (Or.inl ⟨by rfl, ?_⟩) ?_ ?_
                    rotate_left
                    · intro w'
                      go_simp
                      with_reducible rfl
                    rotate_left
                    · simp only [Act.put, List.setIfInBounds_toArray, List.set_cons_zero, List.set_cons_succ, i64_w, i32_w]
                      rfl
                    refine pure_ (i := 5) (N := some 35) (v := ?_) (a' := ?_) #[true, true, true, true, true, true, false, false, false, false, false, false, false, false, false, false] rfl rfl (any_of HT_.out (by kernel_rfl)) (fun _ _ _ h => h) (Or.inl ⟨by rfl, ?_⟩) ?_ ?_
                    rotate_left
                    · intro w'
                      go_simp
                      with_reducible rfl
                    rotate_left
                    · simp only [Act.put, List.setIfInBounds_toArray, List.set_cons_zero, List.set_cons_succ, i64_w, i32_w]
                      rfl
                    refine pure_ (i := 7) (N := some 37) (v := ?_) (a' := ?_) #[true, true, true, true, true, true, false, true, false, false, false, false, false, false, false, false] rfl rfl (any_of HT_.out (by kernel_rfl)) (fun _ _ _ h => h) (Or.inl ⟨by rfl, ?_⟩) ?_ ?_
                    rotate_left
                    · intro w'
                      go_simp
                      with_reducible rfl
                    rotate_left
                    · simp only [Act.put, List.setIfInBounds_toArray, List.set_cons_zero, List.set_cons_succ, i64_w, i32_w]
                      rfl
                    refine take_ (i := 6) (N := some 36) (v := ?_) (a' := ?_) #[true, true, true, true, true, true, true, true, false, false, false, false, false, false, false, false] rfl rfl (take_ofW HT_.out HW_.out (by kernel_rfl)) (fun _ _ _ h => h) (Or.inl ⟨by rfl, ?_⟩) hHeld ?_ ?_
                    rotate_left
                    · rintro w' ⟨s0, s1, s2⟩
                      go_simp
                      with_reducible rfl
                    rotate_left
                    · simp only [Act.put, List.setIfInBounds_toArray, List.set_cons_zero, List.set_cons_succ, i64_w, i32_w]
                      rfl
                    refine take_ (i := 8) (N := some 38) (v := ?_) (a' := ?_) #[true, true, true, true, true, true, true, true, true, false, false, false, false, false, false, false] rfl rfl (take_ofW HT_.out HW_.out (by kernel_rfl)) (fun _ _ _ h => h) (Or.inl ⟨by rfl, ?_⟩) hHeld ?_ ?_
                    rotate_left
                    · rintro w' ⟨s0, s1, s2⟩
                      go_simp
                      with_reducible rfl
                    rotate_left
                    · simp only [Act.put, List.setIfInBounds_toArray, List.set_cons_zero, List.set_cons_succ, i64_w, i32_w]
                      rfl
                    refine pure_ (i := 9) (N := some 39) (v := ?_) (a' := ?_) #[true, true, true, true, true, true, true, true, true, true, false, false, false, false, false, false] rfl rfl (any_of HT_.out (by kernel_rfl)) (fun _ _ _ h => h) (Or.inl ⟨by rfl, ?_⟩) ?_ ?_
                    rotate_left
                    · intro w'
                      go_simp
                      with_reducible rfl
                    rotate_left
                    · simp only [Act.put, List.setIfInBounds_toArray, List.set_cons_zero, List.set_cons_succ, i64_w, i32_w]
                      rfl
                    refine pure_ (i := 10) (N := some 40) (v := ?_) (a' := ?_) #[true, true, true, true, true, true, true, true, true, true, true, false, false, false, false, false] rfl rfl (any_of HT_.out (by kernel_rfl)) (fun _ _ _ h => h) (Or.inl ⟨by rfl, ?_⟩) ?_ ?_
                    rotate_left
                    · intro w'
                      go_simp
                      with_reducible rfl
                    rotate_left
                    · simp only [Act.put, List.setIfInBounds_toArray, List.set_cons_zero, List.set_cons_succ, i64_w, i32_w]
                      rfl
                    refine pure_ (i := 11) (N := some 41) (v := ?_) (a' := ?_) #[true, true, true, true, true, true, true, true, true, true, true, true, false, false, false, false] rfl rfl (any_of HT_.out (by kernel_rfl)) (fun _ _ _ h => h) (Or.inl ⟨by rfl, ?_⟩) ?_ ?_
                    rotate_left
                    · intro w'
                      go_simp
                      with_reducible rfl
                    rotate_left
                    · simp only [Act.put, List.setIfInBounds_toArray, List.set_cons_zero, List.set_cons_succ, i64_w, i32_w]
                      rfl
                    refine pure_ (i := 12) (N := some 42) (v := ?_) (a' := ?_) #[true, true, true, true, true, true, true, true, true, true, true, true, true, false, false, false] rfl rfl (any_of HT_.out (by kernel_rfl)) (fun _ _ _ h => h) (Or.inl ⟨by rfl, ?_⟩) ?_ ?_
                    rotate_left
                    · intro w'
                      go_simp
                      with_reducible rfl
                    rotate_left
                    · simp only [Act.put, List.setIfInBounds_toArray, List.set_cons_zero, List.set_cons_succ, i64_w, i32_w]
                      rfl
                    refine last_ (i := 13) (N := some 43) #[true, true, true, true, true, true, true, true, true, true, true, true, true, true, false, false] rfl rfl (one_of HT_.out (by kernel_rfl)) (by decide) (fun K hK => ?_)
                    refine value_ (w1 := ?_) (v := ?_) (by rfl) rfl ?_ ?_
                    rotate_left 2
                    · go_simp
                      constructor
                      · rfl
                      · rfl
                    refine hK.out _ _ ?_
                    clear hK K
                    refine norm_ (a' := ?_) ?_ ?_
                    rotate_left
                    · show Act.put _ (some 43) _ = _
                      simp only [Act.put, List.setIfInBounds_toArray, List.set_cons_zero, List.set_cons_succ, i64_w, i32_w]
                      rfl
                    refine last_ (i := 14) (N := some 44) #[true, true, true, true, true, true, true, true, true, true, true, true, true, true, true, false] rfl rfl (one_of HT_.out (by kernel_rfl)) (by decide) (fun K hK => ?_)
                    refine Kd.R_append_step (Kd.int .i64) (w0 := w) w.heap.size (by rfl) (.tmp 30) (.tmp 43) 34 3 (.int .i64 0) 8 rfl Tryd.underlying34 info3 rfl (by decide) (by omega) (.slice (some ad203) x8_1.length co25) x8_1 (wrap64 ((wrap64 ((wrap64 ((rd x8_1 (ji16)) + (((rd_T50 t194 x26_1).f1).length : Int))) + 6)) + 4)) [.int .i64 (wrap64 ((wrap64 ((wrap64 ((rd x8_1 (ji16)) + (((rd_T50 t194 x26_1).f1).length : Int))) + 6)) + 4))] (fun _ => True) (fun _ => False) rfl rfl ?aP (fun _ hk => hk.elim) ?aF ?aO ?aB ?aS ?aL ?_
                    (case aP => exact rfl)
                    (case aB => exact (by repeat (first | (with_reducible first | exact HB.out | apply below_alloc | apply pw_below_drewN | apply below_drew1 | refine below_set ?_ GE193.out | refine below_set ?_ GE202.out) | exact HB.out)))
                    (case aF => exact (fun _ _ => trivial))
                    (case aO => exact (by (with_reducible repeat (first | apply Kd.R_alloc | apply Kd.R_drewN | apply Kd.R_drew)); exact HO_8.out))
                    (case aS => exact (below_size (by repeat (first | (with_reducible first | exact HB.out | apply below_alloc | apply pw_below_drewN | apply below_drew1 | refine below_set ?_ GE193.out | refine below_set ?_ GE202.out) | exact HB.out))))
                    (case aL => have := LMc19.out; omega)
                    intro v205 w26 ho hb hg hat
                    rw [← Ny204.out] at ho
                    have n0_ := Aside0.mk (Kd.S_over' (by (with_reducible repeat (first | apply Kd.S_alloc | apply Kd.S_drewN | apply Kd.S_drew)); exact HO_24.out) (Kd.R_typed (by (with_reducible repeat (first | apply Kd.R_alloc | apply Kd.R_drewN | apply Kd.R_drew)); exact HO_8.out)) (by decide) hg)
                    have n1_ := Aside0.mk (Kd.S_over' (by (with_reducible repeat (first | apply Kd.S_alloc | apply Kd.S_drewN | apply Kd.S_drew)); exact HO_194001.out) (Kd.R_typed (by (with_reducible repeat (first | apply Kd.R_alloc | apply Kd.R_drewN | apply Kd.R_drew)); exact HO_8.out)) (by decide) hg)
                    have n2_ := Aside0.mk (blk_grown (g := gb193) (o := .cells #[.int .u32 t188, .slice Ao8 t189.length co8] 25 (0, 0)) (by (with_reducible repeat (first | refine blk_drewN ?_ _ | refine blk_drew ?_ | refine blk_alloc ?_ _)); exact BK193.out) hg (Kd.R_ne HO_8.out BK193.out (by decide)))
                    have n3_ := Aside0.mk (Kd.R_over' (by (with_reducible repeat (first | apply Kd.R_alloc | apply Kd.R_drewN | apply Kd.R_drew)); exact HL201_1.out) (Kd.R_typed (by (with_reducible repeat (first | apply Kd.R_alloc | apply Kd.R_drewN | apply Kd.R_drew)); exact HO_8.out)) (by decide) hg)
                    have n4_ := Aside0.mk (blk_grown (g := gb202) (o := .cells #[.int .i64 ((rd_T50 t194 x26_1).f0), .slice A201_1 ((rd_T50 t194 x26_1).f1).length c201_1] 50 (0, 0)) (by (with_reducible repeat (first | refine blk_drewN ?_ _ | refine blk_drew ?_ | refine blk_alloc ?_ _)); exact BK202.out) hg (Kd.R_ne HO_8.out BK202.out (by decide)))
                    have n5_ := Aside0.mk (hb)
                    have n6_ := Aside0.mk (ho)
                    clear HO_24
                    clear HO_194001
                    clear BK193
                    clear HL201_1
                    clear BK202
                    clear HB
                    clear HO_8
                    have HO_24 := n0_
                    have HO_194001 := n1_
                    have BK193 := n2_
                    have HL201_1 := n3_
                    have BK202 := n4_
                    have HB := n5_
                    have HO206 := n6_
                    clear n0_ n1_ n2_ n3_ n4_ n5_ n6_
                    clear ho hb hg hat
                    refine hK.out _ _ ?_
                    clear hK K
                    refine norm_ (a' := ?_) ?_ ?_
                    rotate_left
                    · show Act.put _ (some 44) _ = _
                      simp only [Act.put, List.setIfInBounds_toArray, List.set_cons_zero, List.set_cons_succ, i64_w, i32_w]
                      rfl
                    refine pure_ (i := 15) (N := some 8) (v := ?_) (a' := ?_) #[true, true, true, true, true, true, true, true, true, true, true, true, true, true, true, true] rfl rfl (any_of HT_.out (by kernel_rfl)) (fun _ _ _ h => h) (Or.inl ⟨by rfl, ?_⟩) ?_ ?_
                    rotate_left
                    · intro w'
                      go_simp
                      with_reducible rfl
                    rotate_left
                    · simp only [Act.put, List.setIfInBounds_toArray, List.set_cons_zero, List.set_cons_succ, i64_w, i32_w]
                      rfl
                    refine done_ (done_of HT_.out (by kernel_rfl)) ?_
                    try go_wp2
                    go_roundg k1
                    case measure => have := HK1.out; omega
                    case rel => exact ⟨(y204), (wrap64 (x26_1 + 1)), (by first | rfl | (simp; done) | (simp [*]; done)), H', ⟨by have := HK1.out; omega⟩, ⟨by (with_reducible repeat (first | apply Kd.R_alloc | apply Kd.R_drewN | apply Kd.R_drew)); exact HO206.out⟩, ⟨by (with_reducible repeat (first | apply Kd.S_alloc | apply Kd.S_drewN | apply Kd.S_drew)); exact Kd.S_mono HO_24.out (fun _ hk => trivial)⟩, ⟨by (with_reducible repeat (first | apply Kd.S_alloc | apply Kd.S_drewN | apply Kd.S_drew)); exact HO_194001.out⟩, ⟨by (with_reducible repeat (first | refine blk_drewN ?_ _ | refine blk_drew ?_ | refine blk_alloc ?_ _)); exact BK193.out⟩, ⟨by repeat (first | (with_reducible first | exact HB.out | apply below_alloc | apply pw_below_drewN | apply below_drew1 | refine below_set ?_ GE193.out | refine below_set ?_ GE202.out) | exact HB.out)⟩⟩
                  · rw [if_neg c19] at H
                    exact absurd H (by simp)
                · rw [if_neg c18] at H
                  exact absurd H (by simp)
              · rw [if_neg c17] at H
                exact absurd H (by simp)
            · rw [if_neg c15] at H
              exact absurd H (by simp)
          · rw [if_neg c14] at H
            exact absurd H (by simp)
        · rw [if_neg c13] at H
          have c13b0 : decide (x26_1 < (t194.length : Int)) = false := decide_eq_false c13
          clear c13
          simp only [Option.some.injEq, Prod.mk.injEq] at H
          obtain ⟨rfl, rfl⟩ := H
          go_wp2
          go_ret2
          exact ⟨_, by first | rfl | (simp [errW_none, errW_some] <;> rfl) | (simp [*, errW_none, errW_some] <;> rfl), by (with_reducible repeat (first | apply Kd.R_alloc | apply Kd.R_drewN | apply Kd.R_drew)); exact HO_8.out, by repeat (first | (with_reducible first | exact HB.out | apply below_alloc | apply pw_below_drewN | apply below_drew1 | refine below_set ?_ GE193.out) | exact HB.out)⟩
  · rw [if_neg c3] at H
    have c3b0 : (t192 == 0) = false := beq_eq_false_iff_ne.mpr c3
    have c3b1 : (t192 != 0) = true := bne_iff_ne.mpr c3
    simp only [Option.some.injEq, Prod.mk.injEq] at H
    obtain ⟨rfl, rfl⟩ := H
    go_enter Tryd.func16, Tryd.ntmps16
    go_wp2_with (first | ((with_reducible refine gate_callee (f := 14) rfl ?_); refine goesL_ (some 13) rfl rfl Tryd.func14 (by kernel_rfl) rfl #[.slice A0 l0.length c0] rfl (by (try simp only [List.map_toArray, List.map_cons, List.map_nil]); first | done | rfl | (simp only [List.length_drop, List.length_take]; rfl)) ?_; (with_reducible refine (flow_Get.calls k _ _ l0 t188 t189 t192 _ ?side1 ?side2 A2.out ?errE).mono ?_); (case errE => exact errT_below HE.out (by repeat (first | (with_reducible first | exact HB.out | apply below_alloc | apply pw_below_drewN | apply below_drew1) | exact HB.out)) (Nat.le_refl _)); (case side1 => repeat (first | exact HR0.out | (with_reducible refine Kd.C_alloc ?_ _) | (with_reducible refine Kd.C_drewN ?_ _) | (with_reducible refine Kd.C_drew ?_))); (case side2 => exact HC0.out); rintro e w27 ⟨v190, rfl, ho0, hb⟩; refine ⟨_, rfl, ?_⟩; have n0_ := Aside0.mk (Kd.S_lower ho0 (below_size (by repeat (first | (with_reducible first | exact HB.out | apply below_alloc | apply pw_below_drewN | apply below_drew1) | exact HB.out)))); have n1_ := Aside0.mk (below_step (by repeat (first | (with_reducible first | exact HB.out | apply below_alloc | apply pw_below_drewN | apply below_drew1) | exact HB.out)) hb); clear HB; have HO191 := n0_; have HB := n1_; clear n0_ n1_; (try clear hb); (try clear hb2); (try clear hk); (try clear hi); (try clear ho0)) | ((with_reducible refine gate_dst (N := 4) rfl ?_); refine box_event ?hg (N := 4) ?hd (cs := #[.int .u32 0, .slice none 0 0]) (t := 25) ?hr ?_; (case hd => rfl); (case hg => rfl); (case hr => first | (go_simp; done) | (go_simp; rfl)); intro gb193 hg w28 hbox hb; have n0_ := Aside0.mk (Kd.S_below (by (with_reducible repeat (first | apply Kd.S_alloc | apply Kd.S_drewN | apply Kd.S_drew)); exact HO191.out) hb); have n1_ := Aside0.mk (below_step (by repeat (first | (with_reducible first | exact HB.out | apply below_alloc | apply pw_below_drewN | apply below_drew1) | exact HB.out)) hb); have n2_ := Aside0.mk (hbox); have n3_ := Aside0.mk ((by rw [hg]; exact (below_size (by repeat (first | (with_reducible first | exact HB.out | apply below_alloc | apply pw_below_drewN | apply below_drew1) | exact HB.out))) : w.heap.size ≤ gb193)); have n4_ := Aside0.mk ((by rw [hg]; exact (below_size (by repeat (first | (with_reducible first | exact HB.out | apply below_alloc | apply pw_below_drewN | apply below_drew1) | exact HB.out))) : w.heap.size ≤ gb193)); clear HO191; clear HB; have HO191 := n0_; have HB := n1_; have BK193 := n2_; have GW193 := n3_; have GE193 := n4_; clear n0_ n1_ n2_ n3_ n4_; clear hb hbox hg; have hcz29_0 : w28.cell? ⟨gb193, 0, none⟩ = some (.int .u32 0) := (blk_cell BK193.out 0).trans rfl; have hcz29_1 : w28.cell? ⟨gb193, 1, none⟩ = some (.slice none 0 0) := (blk_cell BK193.out 1).trans rfl; have hfz29_0 := blk_frozen BK193.out 0; have hfz29_1 := blk_frozen BK193.out 1; obtain ⟨Ao30, co30, eo30⟩ := Kd.S_slice HO191.out; subst eo30))
    go_ret2
    exact ⟨_, by first | rfl | (simp [errW_none, errW_some] <;> rfl) | (simp [*, errW_none, errW_some] <;> rfl), by first | exact Kd.R_nil _ _ _ _ _ | exact Kd.N_nil _ _ _ _ _ | exact Kd.V_nil _ _ _ _ _ | exact Kd.Q_nil _ _ _ _ _ | exact Kd.S_nil _ _ _ _ _, by repeat (first | (with_reducible first | exact HB.out | apply below_alloc | apply pw_below_drewN | apply below_drew1 | refine below_set ?_ GE193.out) | exact HB.out)⟩

-- NOT PRINTED: function 35 (slices_EqualFunc_byte_byte_byte_byte)

/-! ### slices_Equal_byte_byte: function 36 -/
def slices_Equal_byte_byte.l0 : Nat → List Int → List Int → Int → Int → Option (Bool)
  | 0, _, _, _, _ => none
  | k + 1, x0, x1, x12, x13 => if x13 < x12 then (if 0 ≤ x13 then (if x13 < (x0.length : Int) then (if x13 < (x1.length : Int) then (if (rd x0 x13) = (rd x1 x13) then (slices_Equal_byte_byte.l0 k x0 x1 x12 (wrap64 (x13 + 1))) else (some false)) else (none)) else (none)) else (none)) else (some true)
def slices_Equal_byte_byte.f (k : Nat) (l0 : List Int) (l1 : List Int) : Option (Bool) := if (l0.length : Int) = (l1.length : Int) then (slices_Equal_byte_byte.l0 k l0 l1 (l0.length : Int) 0) else (some false)
set_option maxHeartbeats 8000000 in
set_option maxRecDepth 100000 in
theorem slices_Equal_byte_byte.calls (k : Nat) (A0 : Option Addr) (c0 : Nat) (l0 : List Int) (A1 : Option Addr) (c1 : Nat) (l1 : List Int) (r : Bool) (w : World) (hr0 : Kd.C (Kd.int .u8) w A0 l0.length l0) (hc0 : l0.length ≤ c0) (hr1 : Kd.C (Kd.int .u8) w A1 l1.length l1) (hc1 : l1.length ≤ c1) (h : slices_Equal_byte_byte.f k l0 l1 = some r) :
    Calls Tryd.prog 36 #[.slice A0 l0.length c0, .slice A1 l1.length c1] w fun e w' => e = .returned (.bool r) ∧ Drawn0 w w' := by
  have HR0 := Aside0.mk hr0
  have HC0 := Aside0.mk hc0
  clear hr0 hc0
  have HR1 := Aside0.mk hr1
  have HC1 := Aside0.mk hc1
  clear hr1 hc1
  have H : (if (l0.length : Int) = (l1.length : Int) then (slices_Equal_byte_byte.l0 k l0 l1 (l0.length : Int) 0) else (some false)) = some r := h
  clear h
  by_cases c3 : (l0.length : Int) = (l1.length : Int)
  · rw [if_pos c3] at H
    have c3b0 : ((l0.length : Int) == (l1.length : Int)) = true := beq_iff_eq.mpr c3
    have c3b1 : ((l0.length : Int) != (l1.length : Int)) = false := bne_eq_false_iff_eq.mpr c3
    have c3b2 : (l0.length == l1.length) = true := by first | simpa using c3 | (simp at c3 ⊢; omega)
    clear c3
    have H' := Aside0.mk H
    clear H
    go_enter Tryd.func36, Tryd.ntmps36
    go_wp2
    repeat (go_quiet (fail); try go_wp2)
    go_loopg [13] k (fun kq v13 w' => ∃ (x13_1 : Int), v13 = .int .i64 x13_1 ∧ Aside0 (slices_Equal_byte_byte.l0 kq l0 l1 (l0.length : Int) x13_1 = some r) ∧ Aside0 (kq ≤ k) ∧ Drawn0 w w')
    case atStart => exact ⟨(0), (by first | rfl | (simp; done) | (simp [*]; done)), H', ⟨Nat.le_refl _⟩, by repeat (first | exact Drawn0.refl _ | apply Drawn0.step)⟩
    case round =>
      clear H'
      try clear c1
      try clear p2
      try clear c3
      try clear c3b0
      try clear c3b1
      try clear c3b2
      obtain ⟨x13_1, rfl, HA, HK1, ⟨m1, rfl⟩⟩ := hrel
      cases gk with
      | zero => exact absurd HA.out (by simp [slices_Equal_byte_byte.l0])
      | succ k1 =>
        have H := HA.out
        clear HA
        simp only [slices_Equal_byte_byte.l0] at H
        by_cases c4 : x13_1 < (l0.length : Int)
        · rw [if_pos c4] at H
          have c4b0 : decide (x13_1 < (l0.length : Int)) = true := decide_eq_true c4
          clear c4
          by_cases c5 : 0 ≤ x13_1
          · rw [if_pos c5] at H
            have c5b0 : decide (0 ≤ x13_1) = true := decide_eq_true c5
            clear c5
            by_cases c6 : x13_1 < (l0.length : Int)
            · rw [if_pos c6] at H
              have c6b0 : decide (x13_1 < (l0.length : Int)) = true := decide_eq_true c6
              clear c6
              by_cases c7 : x13_1 < (l1.length : Int)
              · rw [if_pos c7] at H
                have c7b0 : decide (x13_1 < (l1.length : Int)) = true := decide_eq_true c7
                clear c7
                by_cases c8 : (rd l0 x13_1) = (rd l1 x13_1)
                · rw [if_pos c8] at H
                  have c8b0 : ((rd l0 x13_1) == (rd l1 x13_1)) = true := beq_iff_eq.mpr c8
                  have c8b1 : ((rd l0 x13_1) != (rd l1 x13_1)) = false := bne_eq_false_iff_eq.mpr c8
                  clear c8
                  have H' := Aside0.mk H
                  clear H
                  have p207 : 0 ≤ (x13_1 : Int) := of_decide_eq_true (by first | (with_reducible assumption) | assumption)
                  have q207 : x13_1 < (l0.length : Int) := of_decide_eq_true (by first | (with_reducible assumption) | assumption)
                  obtain ⟨ad207, e207, hx207_0⟩ := Kd.at_int HR0.out x13_1 p207 q207
                  cases e207
                  replace p207 := eq_true p207
                  replace q207 := eq_true q207
                  have p208 : 0 ≤ (x13_1 : Int) := of_decide_eq_true (by first | (with_reducible assumption) | assumption)
                  have q208 : x13_1 < (l1.length : Int) := of_decide_eq_true (by first | (with_reducible assumption) | assumption)
                  obtain ⟨ad208, e208, hx208_0⟩ := Kd.at_int HR1.out x13_1 p208 q208
                  cases e208
                  replace p208 := eq_true p208
                  replace q208 := eq_true q208
                  go_wp2
                  repeat (go_quiet (fail); try go_wp2)
                  go_roundg k1
                  case measure => have := HK1.out; omega
                  case rel => exact ⟨(wrap64 (x13_1 + 1)), (by first | rfl | (simp; done) | (simp [*]; done)), H', ⟨by have := HK1.out; omega⟩, by repeat (first | exact Drawn0.refl _ | apply Drawn0.step)⟩
                · rw [if_neg c8] at H
                  have c8b0 : ((rd l0 x13_1) == (rd l1 x13_1)) = false := beq_eq_false_iff_ne.mpr c8
                  have c8b1 : ((rd l0 x13_1) != (rd l1 x13_1)) = true := bne_iff_ne.mpr c8
                  obtain rfl := Option.some.inj H
                  have p207 : 0 ≤ (x13_1 : Int) := of_decide_eq_true (by first | (with_reducible assumption) | assumption)
                  have q207 : x13_1 < (l0.length : Int) := of_decide_eq_true (by first | (with_reducible assumption) | assumption)
                  obtain ⟨ad207, e207, hx207_0⟩ := Kd.at_int HR0.out x13_1 p207 q207
                  cases e207
                  replace p207 := eq_true p207
                  replace q207 := eq_true q207
                  have p208 : 0 ≤ (x13_1 : Int) := of_decide_eq_true (by first | (with_reducible assumption) | assumption)
                  have q208 : x13_1 < (l1.length : Int) := of_decide_eq_true (by first | (with_reducible assumption) | assumption)
                  obtain ⟨ad208, e208, hx208_0⟩ := Kd.at_int HR1.out x13_1 p208 q208
                  cases e208
                  replace p208 := eq_true p208
                  replace q208 := eq_true q208
                  go_wp2
                  repeat (go_quiet (fail); try go_wp2)
                  go_ret
                  exact ⟨by first | rfl | (simp; done) | (simp [*]; done), by repeat (first | exact Drawn0.refl _ | apply Drawn0.step)⟩
              · rw [if_neg c7] at H
                exact absurd H (by simp)
            · rw [if_neg c6] at H
              exact absurd H (by simp)
          · rw [if_neg c5] at H
            exact absurd H (by simp)
        · rw [if_neg c4] at H
          have c4b0 : decide (x13_1 < (l0.length : Int)) = false := decide_eq_false c4
          clear c4
          obtain rfl := Option.some.inj H
          go_wp2
          repeat (go_quiet (fail); try go_wp2)
          go_ret
          exact ⟨by first | rfl | (simp; done) | (simp [*]; done), by repeat (first | exact Drawn0.refl _ | apply Drawn0.step)⟩
  · rw [if_neg c3] at H
    have c3b0 : ((l0.length : Int) == (l1.length : Int)) = false := beq_eq_false_iff_ne.mpr c3
    have c3b1 : ((l0.length : Int) != (l1.length : Int)) = true := bne_iff_ne.mpr c3
    have c3b2 : (l0.length == l1.length) = false := by first | simpa using c3 | (simp at c3 ⊢; omega)
    obtain rfl := Option.some.inj H
    go_enter Tryd.func36, Tryd.ntmps36
    go_wp2
    repeat (go_quiet (fail); try go_wp2)
    go_ret
    exact ⟨by first | rfl | (simp; done) | (simp [*]; done), by repeat (first | exact Drawn0.refl _ | apply Drawn0.step)⟩

/-! ### flow_Same: function 22 -/
def eqRows (k : Nat) : List (List Int × List Int) → Option Bool
  | [] => some true
  | p :: t => (slices_Equal_byte_byte.f k p.1 p.2).bind fun r => if r = true then eqRows k t else some false
def equalRows (k : Nat) (l0 l1 : List (List Int)) : Option Bool := if l0.length < 140737488355328 then (if l0.length = l1.length then eqRows k (l0.zip l1) else some false) else none
theorem row_at {w : World} {A : Option Addr} {n : Nat} {xs : List (List Int)} (h : Kd.C (Kd.slice 5 (Kd.int .u8)) w A n xs) (i : Nat) (h1 : i < n) : ∃ ad A0 c0, ∃ row : List Int, A = some ad ∧ w.cell? (ad.add i) = some (.slice A0 row.length c0) ∧ row.length ≤ c0 ∧ Kd.C (Kd.int .u8) w A0 row.length row ∧ row = xs.getD i [] := by
  obtain ⟨ad, c, e, _, hK, hc0⟩ := Kd.C_get h ([] : List Int) (i : Int) (by omega) (by omega)
  have hc : ∀ j u, c[j]? = some u → w.cell? (ad.add ((i : Int).toNat * 1 + j)) = some u := hc0
  obtain ⟨A0, c0, rfl, l0, g0⟩ := hK
  exact ⟨ad, A0, c0, _, e, by have hq := hc 0 _ rfl; rwa [Nat.mul_one, Nat.add_zero] at hq, l0, g0, rfl⟩
set_option maxHeartbeats 4000000 in
theorem equal_rows (k : Nat) (A0 : Option Addr) (c0 : Nat) (l0 : List (List Int)) (A1 : Option Addr) (c1 : Nat) (l1 : List (List Int)) (r : Bool) (w : World) (hr0 : Kd.C (Kd.slice 5 (Kd.int .u8)) w A0 l0.length l0) (hr1 : Kd.C (Kd.slice 5 (Kd.int .u8)) w A1 l1.length l1) (h : equalRows k l0 l1 = some r) :
    Calls Tryd.prog 35 #[.slice A0 l0.length c0, .slice A1 l1.length c1, .func (.func 36) #[] #[]] w fun e w' => e = .returned (.bool r) ∧ Below w.heap.size w w' := by
  have HR0 := Aside0.mk hr0
  have HR1 := Aside0.mk hr1
  unfold equalRows at h
  by_cases hb : l0.length < 140737488355328
  rotate_left
  · rw [if_neg hb] at h
    exact absurd h (by simp)
  rw [if_pos hb] at h
  have HB0 := Aside0.mk hb
  by_cases hl : l0.length = l1.length
  · rw [if_pos hl] at h
    obtain ⟨n, hn⟩ : ∃ n, n = l0.length := ⟨_, rfl⟩
    have hn1 : l1.length = n := by omega
    have HN := Aside0.mk hn
    have HN1 := Aside0.mk hn1
    rw [← hn] at hr0 ⊢
    rw [hn1] at hr1 ⊢
    have HR0 := Aside0.mk hr0
    have HR1 := Aside0.mk hr1
    have HH := Aside0.mk h
    have e0 : ((n : Int) != (n : Int)) = false := bne_self_eq_false _
    clear hr0 hr1 h hb hl hn hn1
    go_enter Tryd.func35, Tryd.ntmps35
    go_wp2
    go_loopw [17] (fun i wr => ∃ j : Nat, j ≤ n ∧ i = .int .i64 (j : Int) ∧ Aside0 (eqRows k ((l0.zip l1).drop j) = some r) ∧ Aside0 (Below w.heap.size w wr)) (fun i _ => match i with | .int _ m => ((n : Int) - m).toNat | _ => 0)
    case atStart => exact ⟨0, by omega, rfl, ⟨by rw [List.drop_zero]; exact HH.out⟩, ⟨Below.refl _ _⟩⟩
    case round =>
      clear e0
      obtain ⟨j, hj, rfl, HP, HB⟩ := hrel
      by_cases hlt : j < n
      · have hb : decide ((j : Int) < (n : Int)) = true := decide_eq_true (by omega)
        have hb2 : decide (j < n) = true := decide_eq_true (by omega)
        obtain ⟨ad, A2, c2, row, e1, hcell, hrl, hrC, hrow⟩ := row_at (Kd.C_below HR0.out HB.out) j hlt
        obtain ⟨ad', A3, c3, row', e1', hcell', hrl', hrC', hrow'⟩ := row_at (Kd.C_below HR1.out HB.out) j hlt
        subst e1 e1'
        have hz : (l0.zip l1).drop j = (row, row') :: (l0.zip l1).drop (j + 1) := by
          have jl : j < (l0.zip l1).length := by rw [List.length_zip]; have := HN.out; have := HN1.out; omega
          rw [List.drop_eq_getElem_cons jl, List.getElem_zip, hrow, hrow', List.getD_eq_getElem?_getD, List.getD_eq_getElem?_getD, List.getElem?_eq_getElem (by have := HN.out; omega), List.getElem?_eq_getElem (by have := HN1.out; omega)]
          rfl
        have hp := HP.out
        rw [hz, eqRows.eq_2] at hp
        obtain ⟨b, hb1, hp⟩ := Option.bind_eq_some_iff.mp hp
        have HB1 := Aside0.mk hb1
        have HC2 := Aside0.mk hrC
        have HC3 := Aside0.mk hrC'
        have HL2 := Aside0.mk hrl
        have HL3 := Aside0.mk hrl'
        have HLT := Aside0.mk hlt
        have hk1 : wrap64 ((j : Int) + 1) = (j : Int) + 1 := by have := HB0.out; have := HN.out; unfold wrap64; omega
        clear hrow hrow' hz hb1 hrC hrC' hrl hrl' hj HP
        cases b with
        | true =>
          have HP2 := Aside0.mk (show eqRows k ((l0.zip l1).drop (j + 1)) = some r from hp)
          clear hp
          go_wp2_with (go_at_call 36; refine (slices_Equal_byte_byte.calls k A2 c2 row A3 c3 row' true _ HC2.out HL2.out HC3.out HL3.out HB1.out).mono ?_; rintro e w1 ⟨rfl, ⟨m1, rfl⟩⟩)
          go_roundw
          case rel => exact ⟨j + 1, HLT.out, by rw [hk1]; rfl, HP2, ⟨pw_below_drewN HB.out _⟩⟩
          case measure => rw [hk1]; have := HLT.out; simp; omega
        | false =>
          obtain rfl : false = r := Option.some.inj hp
          clear hp
          go_wp2_with (go_at_call 36; refine (slices_Equal_byte_byte.calls k A2 c2 row A3 c3 row' false _ HC2.out HL2.out HC3.out HL3.out HB1.out).mono ?_; rintro e w1 ⟨rfl, ⟨m1, rfl⟩⟩)
          go_ret
          exact ⟨rfl, pw_below_drewN HB.out _⟩
      · have hb : decide ((j : Int) < (n : Int)) = false := decide_eq_false (by omega)
        have hb2 : decide (j < n) = false := decide_eq_false (by omega)
        obtain rfl : j = n := by omega
        have hp := HP.out
        rw [List.drop_of_length_le (by rw [List.length_zip]; have := HN.out; omega)] at hp
        obtain rfl : true = r := Option.some.inj hp
        clear hlt hj hp
        go_wp2
        go_ret
        exact ⟨rfl, HB.out⟩
  · rw [if_neg hl] at h
    obtain rfl := Option.some.inj h
    have e0 : ((l0.length : Int) != (l1.length : Int)) = true := bne_iff_ne.mpr (by omega)
    clear h hb hr0 hr1
    go_enter Tryd.func35, Tryd.ntmps35
    go_wp2
    go_ret
    exact ⟨rfl, Below.refl _ _⟩
def flow_Same.f (k : Nat) (a0_0 : Int) (l0_1 : List (List Int)) (a1_0 : Int) (l1_1 : List (List Int)) : Option Bool := if a0_0 = a1_0 then equalRows k l0_1 l1_1 else some false
set_option maxHeartbeats 4000000 in
theorem flow_Same.calls (k : Nat) (a0_0 : Int) (A0_1 : Option Addr) (c0_1 : Nat) (l0_1 : List (List Int)) (a1_0 : Int) (A1_1 : Option Addr) (c1_1 : Nat) (l1_1 : List (List Int)) (r : Bool) (w : World) (hr0_1 : Kd.C (Kd.slice 5 (Kd.int .u8)) w A0_1 l0_1.length l0_1) (hc0_1 : l0_1.length ≤ c0_1) (hr1_1 : Kd.C (Kd.slice 5 (Kd.int .u8)) w A1_1 l1_1.length l1_1) (hc1_1 : l1_1.length ≤ c1_1) (h : flow_Same.f k a0_0 l0_1 a1_0 l1_1 = some r) :
    Calls Tryd.prog 22 #[.agg #[.int .u32 a0_0, .slice A0_1 l0_1.length c0_1], .agg #[.int .u32 a1_0, .slice A1_1 l1_1.length c1_1]] w fun e w' => e = .returned (.bool r) ∧ Below w.heap.size w w' := by
  have HR0 := Aside0.mk hr0_1
  have HR1 := Aside0.mk hr1_1
  unfold flow_Same.f at h
  by_cases c : a0_0 = a1_0
  · subst c
    rw [if_pos rfl] at h
    have HH := Aside0.mk h
    have e0 : (a0_0 == a0_0) = true := beq_self_eq_true _
    clear h hr0_1 hr1_1 hc0_1 hc1_1
    go_enter Tryd.func22, Tryd.ntmps22
    go_wp2_with (go_at_call 35; refine (equal_rows k A0_1 c0_1 l0_1 A1_1 c1_1 l1_1 r _ (Kd.C_alloc (Kd.C_alloc HR0.out _) _) (Kd.C_alloc (Kd.C_alloc HR1.out _) _) HH.out).mono ?_; rintro e w1 ⟨rfl, hb⟩)
    go_ret
    exact ⟨rfl, below_then (((Below.refl _ _).alloc (Nat.le_refl _) _).alloc (by simp) _) (by simp; omega) hb⟩
  · rw [if_neg c] at h
    obtain rfl := Option.some.inj h
    have e0 : (a0_0 == a1_0) = false := beq_eq_false_iff_ne.mpr c
    clear h hr0_1 hr1_1 hc0_1 hc1_1
    go_enter Tryd.func22, Tryd.ntmps22
    go_wp2
    go_ret
    exact ⟨rfl, ((Below.refl _ _).alloc (Nat.le_refl _) _).alloc (by simp) _⟩

end Go.Proofs.YtknkncdlcoglpaaDoor.PFr
