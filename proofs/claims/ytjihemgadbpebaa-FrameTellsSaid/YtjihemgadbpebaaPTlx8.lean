-- Written by wip/tools/myprint.py, a program of the prover's own, over the kit's print; the contracts named 'HAND' there are typed by hand.
import Derived.Test.YtjihemgadbpebaaPTlx0
import Derived.Test.YtjihemgadbpebaaPTlx7
namespace Go.Proofs.Ytjihemgadbpebaa.PTl
open Go.RowKit Go.Proofs.YtjihemgadbpebaaW.PrintWords Go.Proofs.YtjihemgadbpebaaW.PrintLast Go.Proofs.YtjihemgadbpebaaW.PrintMore
attribute [local go_sem] max2_int min2_int max_two min_two max_three min_three max_four min_four   -- for this text's walks alone
set_option linter.unusedVariables false
set_option linter.unusedSimpArgs false

/-! ### frame_All: function 15 -/
def frame_All.l0 : Nat → List Int → List (S24) → Option ((List (S24)) × Int)
  | 0, _, _ => none
  | k + 1, b, out => if b = [] then some (out, 0) else (frame_Get.f k b).bind fun t => if t.2.2.2 = 0 then (if (0 < t.2.2.1 ∧ t.2.2.1 ≤ (b.length : Int)) ∧ out.length < 4398046511104 then frame_All.l0 k (b.drop t.2.2.1.toNat) (out ++ [(⟨t.1, t.2.1⟩ : S24)]) else none) else some ([], t.2.2.2)
def frame_All.f (k : Nat) (l0 : List Int) : Option ((List (S24)) × Int) := frame_All.l0 k l0 []
theorem frame_All.mono_l : ∀ k, ∀ b out, LeO (frame_All.l0 k b out) (frame_All.l0 (k + 1) b out)
  | 0 => fun _ _ r h => by simp [frame_All.l0] at h
  | k + 1 => fun b out => by
    rw [frame_All.l0.eq_2, frame_All.l0.eq_2]
    exact LeO.ite (LeO.refl _) (LeO.bind (frame_Get.mono _ _) fun _ => LeO.ite (LeO.ite (frame_All.mono_l k _ _) (LeO.none _)) (LeO.refl _))
theorem frame_All.mono : ∀ a0 k, LeO (frame_All.f k a0) (frame_All.f (k + 1) a0) := fun a0 k => frame_All.mono_l k a0 []
theorem all_info1 : (Try.prog.info? 5).map (fun i => (i.zero, i.size, i.bytes)) = some (some (.int .u8 0), 1, 1) := by kernel_rfl
theorem all_info2 : (Try.prog.info? 24).map (fun i => (i.zero, i.size, i.bytes)) = some (some (.agg #[(.int .i64 0), (.slice none 0 0)]), 2, 32) := by kernel_rfl
theorem scope_jumps_ {P : Program} {a : Act} {w : World} {Q : Exit → Act → World → Prop} {c rest : Code} (l : Nat) (J : Act → World → Prop) (μ : Act → World → Nat) (hf : findLabel c l = some (.seq .skip rest))
    (pass : ∀ a w, J a w → rest.wp P (Exit.jump l (fun a' w' => J a' w' ∧ μ a' w' < μ a w) Q) a w)
    (first : (∀ a w, J a w → rest.wp P (Exit.jump l J Q) a w) → c.wp P (Exit.jump l J Q) a w) : (Code.scope c).wp P Q a w := by
  refine wp_scope_jumps l J μ hf (first fun a w h => Go.wp_mono (pass a w h) ?_) (fun a w h => wp_seq (wp_skip (pass a w h)))
  intro e a' w' hq
  cases e <;> first | exact hq | exact ⟨hq.1, hq.2.1⟩
def lenOf : Value → Nat | .slice _ n _ => n | _ => 0
set_option maxHeartbeats 8000000 in
set_option maxRecDepth 100000 in
theorem frame_All.calls (k : Nat) (A0 : Option Addr) (c0 : Nat) (l0 : List Int) (r1 : List (S24)) (r2 : Int) (w : World) (hr0 : Kd.C (Kd.int .u8) w A0 l0.length l0) (hc0 : l0.length ≤ c0) (h : frame_All.f k l0 = some (r1, r2)) :
    Calls Try.prog 15 #[.slice A0 l0.length c0] w fun e w' => ∃ v0_ : Value, e = .returned (.tuple #[v0_, .int .i64 r2]) ∧ Kd.S k24 24 w' w.heap.size (fun _ => True) v0_ r1 ∧ Below w.heap.size w w' := by
  have hu24 := Try.underlying24
  have HR0 := Aside0.mk hr0
  have HC0 := Aside0.mk hc0
  have HE0 := Aside0.mk (show frame_All.l0 k l0 [] = some (r1, r2) from h)
  clear hr0 hc0 h
  obtain ⟨J, hJ⟩ : ∃ J : Act → World → Prop, J = fun a' W => ∃ (k : Nat) (b : List Int) (A : Option Addr) (c : Nat) (x4 : List (S24)) (v4 : Value) (i0 : Int) (Ab : Option Addr) (lb cb : Nat) (u6 u7 u8 u9 u10 u11 u12 u13 u14 u15 u16 u17 u18 u19 u20 u21 u22 u23 u24 u25 u26 u27 : Value),
      a' = { tmps := #[.slice A b.length c, undef, .slice none 0 0, .int .i64 0, v4, .pointer (some ⟨w.heap.size, 0, none⟩), u6, u7, u8, u9, u10, u11, u12, u13, u14, u15, u16, u17, u18, u19, u20, u21, u22, u23, u24, u25, u26, u27], defers := [] } ∧
      Aside0 (frame_All.l0 k b x4 = some (r1, r2)) ∧ Aside0 (Kd.C (Kd.int .u8) w A b.length b) ∧ Aside0 (b.length ≤ c) ∧
      Aside0 (Kd.S k24 24 W w.heap.size (fun k_ => k_ ≠ w.heap.size) v4 x4) ∧ Aside0 (W.heap[w.heap.size]? = some (.cells #[.int .i64 i0, .slice Ab lb cb] 24 (0, 0))) ∧ Aside0 (Below w.heap.size w W) := ⟨_, rfl⟩
  go_enter Try.func15, Try.ntmps15
  go_wp2
  refine scope_jumps_ 0 J (fun a' _ => lenOf (a'.tmps.getD 0 undef)) rfl ?_ ?_
  · rw [hJ]
    rintro a' W ⟨k, b, A, c, x4, v4, i0, Ab, lb, cb, u6, u7, u8, u9, u10, u11, u12, u13, u14, u15, u16, u17, u18, u19, u20, u21, u22, u23, u24, u25, u26, u27, rfl, HE, HR, HC, HO_4, BK, HB⟩
    cases k with
    | zero => exact absurd HE.out (by simp [frame_All.l0])
    | succ k =>
      have H := HE.out
      rw [frame_All.l0.eq_2] at H
      by_cases hnil : b = []
      · rw [if_pos hnil] at H
        simp only [Option.some.injEq, Prod.mk.injEq] at H
        obtain ⟨rfl, rfl⟩ := H
        have hz : b.length = 0 := by rw [hnil]; rfl
        have he0 : ((b.length : Int) == 0) = true := by rw [hz]; rfl
        clear hnil hz
        go_wp2
        simp only [Exit.jump]
        refine bodyPost_ret (results_tmp2 rfl _ _ _) rfl ?_
        exact ⟨_, rfl, Kd.S_mono HO_4.out (fun _ _ => trivial), HB.out⟩
      · rw [if_neg hnil] at H
        have hpos : 0 < b.length := by rcases b with _ | _ <;> simp_all
        have he0 : ((b.length : Int) == 0) = false := beq_eq_false_iff_ne.mpr (by omega)
        have HPOS := Aside0.mk hpos
        obtain ⟨⟨t1, t2, t3, t4⟩, hg, H⟩ := Option.bind_eq_some_iff.mp H
        replace H : (if t4 = 0 then (if (0 < t3 ∧ t3 ≤ (b.length : Int)) ∧ x4.length < 4398046511104 then frame_All.l0 k (b.drop t3.toNat) (x4 ++ [(⟨t1, t2⟩ : S24)]) else none) else some ([], t4)) = some (r1, r2) := H
        have HG := Aside0.mk hg
        clear hg hnil hpos HE
        by_cases c6 : t4 = 0
        · rw [if_pos c6] at H
          by_cases c7 : (0 < t3 ∧ t3 ≤ (b.length : Int)) ∧ x4.length < 4398046511104
          · rw [if_pos c7] at H
            have HH := Aside0.mk H
            have c6b0 : (t4 == 0) = true := beq_iff_eq.mpr c6
            obtain ⟨i0_, hi0, _, hsz, _⟩ := info_parts all_info1
            obtain ⟨A8, hcut8, hA8, hC8⟩ := print_drop_of (P := Try.prog) (Value.int .u8) 0 22 5 .i64 Try.underlying22 hi0 hsz A c b t3 (by omega) (by omega) HC.out
            have HR8 := Aside0.mk (Kd.C_of_reads (h1 := fun _ => rfl) (hA8 _ (Kd.reads_of_C HR.out)))
            have HC8 := Aside0.mk hC8
            rw [List.length_drop] at hcut8
            have HC7 := Aside0.mk c7
            have c71 := eq_true (show (0 : Int) ≤ t3 by omega)
            have c72 := eq_true c7.1.2
            clear hA8 hC8 hi0 hsz H c6 c7
            go_wp2_with (first
              | (go_at_call 13; with_reducible refine (frame_Get.calls k A c b t1 t2 t3 t4 W (Kd.C_below HR.out HB.out) HC.out HG.out).mono ?_; rintro e w1 ⟨v0, rfl, ho0, hb⟩; have n0_ := Aside0.mk (Kd.S_elder' HO_4.out (Kd.R_base ho0) hb); have n1_ := Aside0.mk (Kd.R_lower ho0 HB.out.size); have n2_ := Aside0.mk (below_then HB.out HB.out.size hb); have n3_ := Aside0.mk (blk_below BK.out hb); clear HO_4 HB BK; have HO_4 := n0_; have HO5 := n1_; have HB := n2_; have BK := n3_; clear n0_ n1_ n2_ n3_ hb ho0; have hcz0 : w1.cell? ⟨w.heap.size, 0, none⟩ = some (.int .i64 i0) := (blk_cell BK.out 0).trans rfl; have hcz1 : w1.cell? ⟨w.heap.size, 1, none⟩ = some (.slice Ab lb cb) := (blk_cell BK.out 1).trans rfl; have hfz0 := blk_frozen BK.out 0; have hfz1 := blk_frozen BK.out 1; obtain ⟨Ao, co, eo⟩ := Kd.R_slice HO5.out; subst eo)
              | ((with_reducible refine gate_store (t := 24) (p := 5) rfl ?_); refine store_event (t := 24) (p := 5) (v := ?vo_w13) (w1 := ((w1.setCell ⟨w.heap.size, 0, none⟩ (.int .i64 t1)).setCell ⟨w.heap.size, 1, none⟩ (.slice Ao t2.length co))) ?hg ?ho ?hn ?hr ?_; (case ho => rfl); (case hg => rfl); (case hn => rfl); (case hr => first | (go_simp; done) | (go_simp; rfl)); intro w2 hw; have n0_ : Aside0 (Kd.S k24 24 w2 w.heap.size (fun k_ => some k_ ≠ (.slice Ao t2.length co : Value).ownBlock ∧ k_ ≠ w.heap.size) v4 x4) := ⟨by rw [hw]; exact Kd.S_mono (Kd.S_far (p := ⟨w.heap.size, 1, none⟩) (Kd.S_far (p := ⟨w.heap.size, 0, none⟩) (Kd.S_mono HO_4.out (fun k_ hk => (⟨hk, hk.1⟩ : _ ∧ k_ ≠ w.heap.size))) (fun _ hk => hk.2) (.int .i64 t1)) (fun _ hk => hk.2) (.slice Ao t2.length co)) (fun _ hk => ⟨hk.1.2, hk.2⟩)⟩; have n1_ : Aside0 (Kd.R (Kd.int .u8) 5 w2 w.heap.size (fun _ => True) (.slice Ao t2.length co) t2) := ⟨by rw [hw]; exact Kd.R_mono (Kd.R_far (p := ⟨w.heap.size, 1, none⟩) (Kd.R_far (p := ⟨w.heap.size, 0, none⟩) (Kd.R_types HO5.out BK.out (by decide)) (fun _ hk => hk.2) (.int .i64 t1)) (fun _ hk => hk.2) (.slice Ao t2.length co)) (fun _ hk => trivial)⟩; have n2_ : Aside0 (w2.heap[w.heap.size]? = some (.cells #[.int .i64 t1, .slice Ao t2.length co] 24 (0, 0))) := ⟨by rw [hw]; refine blk_put (cs := #[.int .i64 t1, .slice Ab lb cb]) ?_ 1 _ rfl; refine blk_put (cs := #[.int .i64 i0, .slice Ab lb cb]) ?_ 0 _ rfl; exact BK.out⟩; have n3_ : Aside0 (Below w.heap.size w w2) := ⟨by rw [hw]; repeat (first | (with_reducible refine below_set ?_ (Nat.le_refl _)) | exact HB.out)⟩; clear hw hcz0 hcz1 hfz0 hfz1; clear HO_4 HO5 BK HB; have HO_4 := n0_; have HO5 := n1_; have BK := n2_; have HB := n3_; clear n0_ n1_ n2_ n3_; have hcz0 : w2.cell? ⟨w.heap.size, 0, none⟩ = some (.int .i64 t1) := (blk_cell BK.out 0).trans rfl; have hcz1 : w2.cell? ⟨w.heap.size, 1, none⟩ = some (.slice Ao t2.length co) := (blk_cell BK.out 1).trans rfl; have hfz0 := blk_frozen BK.out 0; have hfz1 := blk_frozen BK.out 1)
              | ((with_reducible refine gate_builtin (b := .append) (xs := #[.tmp 20, .tmp 22]) rfl ?_); at_builtin; refine Kd.S_append k24 (w0 := w) w.heap.size rfl (.tmp 20) (.tmp 22) 31 24 (.agg #[(.int .i64 0), (.slice none 0 0)]) 32 rfl Try.underlying31 all_info2 rfl (by decide) (by omega) v4 x4 (⟨t1, t2⟩ : S24) [.int .i64 t1, .slice Ao t2.length co] (fun k_ => k_ ≠ w.heap.size) (fun k_ => some k_ = (.slice Ao t2.length co : Value).ownBlock) rfl rfl ?aP (fun k_ hk_ => ((Kd.R_mono (ok' := fun k_ => ((fun k_ => k_ ≠ w.heap.size)) k_ ∧ some k_ ≠ (v4 : Value).ownBlock) (Kd.R_types (Kd.R_apart' (HO5.out) (Kd.S_typed HO_4.out) (by decide)) BK.out (by decide)) (fun k_ hk => ⟨hk.2, hk.1.2⟩))).1 k_ hk_.symm) ?aF ?aO ?aB ?aS ?aL ?_; (case aP => exact k24_mkM _ _ _ (⟨t1, t2⟩ : S24) (Kd.R_mono (Kd.R_tight rfl (Kd.R_mono (ok' := fun k_ => ((fun k_ => k_ ≠ w.heap.size)) k_ ∧ some k_ ≠ (v4 : Value).ownBlock) (Kd.R_types (Kd.R_apart' (HO5.out) (Kd.S_typed HO_4.out) (by decide)) BK.out (by decide)) (fun k_ hk => ⟨hk.2, hk.1.2⟩))) (fun _ h_ => h_))); (case aB => exact (by repeat (first | (with_reducible first | exact HB.out | apply below_alloc | apply pw_below_drewN | apply below_drew1) | exact HB.out))); (case aF => exact (fun k_ hk => Kd.freshB (g := w.heap.size) (o := .cells #[.int .i64 t1, .slice Ao t2.length co] 24 (0, 0)) (by (with_reducible repeat (first | refine blk_drewN ?_ _ | refine blk_drew ?_ | refine blk_alloc ?_ _)); exact BK.out) k_ hk)); (case aO => exact (by (with_reducible repeat (first | apply Kd.S_alloc | apply Kd.S_drewN | apply Kd.S_drew)); exact Kd.S_mono HO_4.out (fun k_ hk => ⟨hk.2, fun e_ => hk.1 e_⟩))); (case aS => exact (below_size (by repeat (first | (with_reducible first | exact HB.out | apply below_alloc | apply pw_below_drewN | apply below_drew1) | exact HB.out)))); (case aL => have := HC7.out; omega); intro v9 w3 ho hb hg hat; have n0_ := Aside0.mk (blk_grown (g := w.heap.size) (o := .cells #[.int .i64 t1, .slice Ao t2.length co] 24 (0, 0)) (by (with_reducible repeat (first | refine blk_drewN ?_ _ | refine blk_drew ?_ | refine blk_alloc ?_ _)); exact BK.out) hg (Kd.S_away HO_4.out (fun _ hk => hk.2))); have n1_ := Aside0.mk (hb); have n2_ := Aside0.mk (ho); clear BK HB HO_4 HO5; have BK := n0_; have HB := n1_; have HO9 := n2_; clear n0_ n1_ n2_; clear ho hb hg hat))
            go_step3
            simp only [Exit.then]
            refine ⟨rfl, ⟨k, b.drop t3.toNat, A8, c - t3.toNat, _, _, t1, _, _, _, _, _, _, _, _, _, _, _, _, _, _, _, _, _, _, _, _, _, _, _, _, _, by rw [List.length_drop], HH, HR8, HC8, HO9, BK, HB⟩, ?_⟩
            show b.length - t3.toNat < b.length
            have := HC7.out
            have := HPOS.out
            omega
          · rw [if_neg c7] at H
            exact absurd H (by simp)
        · rw [if_neg c6] at H
          simp only [Option.some.injEq, Prod.mk.injEq] at H
          obtain ⟨rfl, rfl⟩ := H
          have c6b0 : (t4 == 0) = false := beq_eq_false_iff_ne.mpr c6
          clear c6
          go_wp2_with (first
              | (go_at_call 13; with_reducible refine (frame_Get.calls k A c b t1 t2 t3 t4 W (Kd.C_below HR.out HB.out) HC.out HG.out).mono ?_; rintro e w1 ⟨v0, rfl, ho0, hb⟩; have n0_ := Aside0.mk (Kd.S_elder' HO_4.out (Kd.R_base ho0) hb); have n1_ := Aside0.mk (Kd.R_lower ho0 HB.out.size); have n2_ := Aside0.mk (below_then HB.out HB.out.size hb); have n3_ := Aside0.mk (blk_below BK.out hb); clear HO_4 HB BK; have HO_4 := n0_; have HO5 := n1_; have HB := n2_; have BK := n3_; clear n0_ n1_ n2_ n3_ hb ho0; have hcz0 : w1.cell? ⟨w.heap.size, 0, none⟩ = some (.int .i64 i0) := (blk_cell BK.out 0).trans rfl; have hcz1 : w1.cell? ⟨w.heap.size, 1, none⟩ = some (.slice Ab lb cb) := (blk_cell BK.out 1).trans rfl; have hfz0 := blk_frozen BK.out 0; have hfz1 := blk_frozen BK.out 1; obtain ⟨Ao, co, eo⟩ := Kd.R_slice HO5.out; subst eo)
              | ((with_reducible refine gate_store (t := 24) (p := 5) rfl ?_); refine store_event (t := 24) (p := 5) (v := ?vo_w13) (w1 := ((w1.setCell ⟨w.heap.size, 0, none⟩ (.int .i64 t1)).setCell ⟨w.heap.size, 1, none⟩ (.slice Ao t2.length co))) ?hg ?ho ?hn ?hr ?_; (case ho => rfl); (case hg => rfl); (case hn => rfl); (case hr => first | (go_simp; done) | (go_simp; rfl)); intro w2 hw; have n0_ : Aside0 (Kd.S k24 24 w2 w.heap.size (fun k_ => some k_ ≠ (.slice Ao t2.length co : Value).ownBlock ∧ k_ ≠ w.heap.size) v4 x4) := ⟨by rw [hw]; exact Kd.S_mono (Kd.S_far (p := ⟨w.heap.size, 1, none⟩) (Kd.S_far (p := ⟨w.heap.size, 0, none⟩) (Kd.S_mono HO_4.out (fun k_ hk => (⟨hk, hk.1⟩ : _ ∧ k_ ≠ w.heap.size))) (fun _ hk => hk.2) (.int .i64 t1)) (fun _ hk => hk.2) (.slice Ao t2.length co)) (fun _ hk => ⟨hk.1.2, hk.2⟩)⟩; have n1_ : Aside0 (Kd.R (Kd.int .u8) 5 w2 w.heap.size (fun _ => True) (.slice Ao t2.length co) t2) := ⟨by rw [hw]; exact Kd.R_mono (Kd.R_far (p := ⟨w.heap.size, 1, none⟩) (Kd.R_far (p := ⟨w.heap.size, 0, none⟩) (Kd.R_types HO5.out BK.out (by decide)) (fun _ hk => hk.2) (.int .i64 t1)) (fun _ hk => hk.2) (.slice Ao t2.length co)) (fun _ hk => trivial)⟩; have n2_ : Aside0 (w2.heap[w.heap.size]? = some (.cells #[.int .i64 t1, .slice Ao t2.length co] 24 (0, 0))) := ⟨by rw [hw]; refine blk_put (cs := #[.int .i64 t1, .slice Ab lb cb]) ?_ 1 _ rfl; refine blk_put (cs := #[.int .i64 i0, .slice Ab lb cb]) ?_ 0 _ rfl; exact BK.out⟩; have n3_ : Aside0 (Below w.heap.size w w2) := ⟨by rw [hw]; repeat (first | (with_reducible refine below_set ?_ (Nat.le_refl _)) | exact HB.out)⟩; clear hw hcz0 hcz1 hfz0 hfz1; clear HO_4 HO5 BK HB; have HO_4 := n0_; have HO5 := n1_; have BK := n2_; have HB := n3_; clear n0_ n1_ n2_ n3_; have hcz0 : w2.cell? ⟨w.heap.size, 0, none⟩ = some (.int .i64 t1) := (blk_cell BK.out 0).trans rfl; have hcz1 : w2.cell? ⟨w.heap.size, 1, none⟩ = some (.slice Ao t2.length co) := (blk_cell BK.out 1).trans rfl; have hfz0 := blk_frozen BK.out 0; have hfz1 := blk_frozen BK.out 1)
              | ((with_reducible refine gate_builtin (b := .append) (xs := #[.tmp 20, .tmp 22]) rfl ?_); at_builtin; refine Kd.S_append k24 (w0 := w) w.heap.size rfl (.tmp 20) (.tmp 22) 31 24 (.agg #[(.int .i64 0), (.slice none 0 0)]) 32 rfl Try.underlying31 all_info2 rfl (by decide) (by omega) v4 x4 (⟨t1, t2⟩ : S24) [.int .i64 t1, .slice Ao t2.length co] (fun k_ => k_ ≠ w.heap.size) (fun k_ => some k_ = (.slice Ao t2.length co : Value).ownBlock) rfl rfl ?aP (fun k_ hk_ => ((Kd.R_mono (ok' := fun k_ => ((fun k_ => k_ ≠ w.heap.size)) k_ ∧ some k_ ≠ (v4 : Value).ownBlock) (Kd.R_types (Kd.R_apart' (HO5.out) (Kd.S_typed HO_4.out) (by decide)) BK.out (by decide)) (fun k_ hk => ⟨hk.2, hk.1.2⟩))).1 k_ hk_.symm) ?aF ?aO ?aB ?aS ?aL ?_; (case aP => exact k24_mkM _ _ _ (⟨t1, t2⟩ : S24) (Kd.R_mono (Kd.R_tight rfl (Kd.R_mono (ok' := fun k_ => ((fun k_ => k_ ≠ w.heap.size)) k_ ∧ some k_ ≠ (v4 : Value).ownBlock) (Kd.R_types (Kd.R_apart' (HO5.out) (Kd.S_typed HO_4.out) (by decide)) BK.out (by decide)) (fun k_ hk => ⟨hk.2, hk.1.2⟩))) (fun _ h_ => h_))); (case aB => exact (by repeat (first | (with_reducible first | exact HB.out | apply below_alloc | apply pw_below_drewN | apply below_drew1) | exact HB.out))); (case aF => exact (fun k_ hk => Kd.freshB (g := w.heap.size) (o := .cells #[.int .i64 t1, .slice Ao t2.length co] 24 (0, 0)) (by (with_reducible repeat (first | refine blk_drewN ?_ _ | refine blk_drew ?_ | refine blk_alloc ?_ _)); exact BK.out) k_ hk)); (case aO => exact (by (with_reducible repeat (first | apply Kd.S_alloc | apply Kd.S_drewN | apply Kd.S_drew)); exact Kd.S_mono HO_4.out (fun k_ hk => ⟨hk.2, fun e_ => hk.1 e_⟩))); (case aS => exact (below_size (by repeat (first | (with_reducible first | exact HB.out | apply below_alloc | apply pw_below_drewN | apply below_drew1) | exact HB.out)))); (case aL => have := HC7.out; omega); intro v9 w3 ho hb hg hat; have n0_ := Aside0.mk (blk_grown (g := w.heap.size) (o := .cells #[.int .i64 t1, .slice Ao t2.length co] 24 (0, 0)) (by (with_reducible repeat (first | refine blk_drewN ?_ _ | refine blk_drew ?_ | refine blk_alloc ?_ _)); exact BK.out) hg (Kd.S_away HO_4.out (fun _ hk => hk.2))); have n1_ := Aside0.mk (hb); have n2_ := Aside0.mk (ho); clear BK HB HO_4 HO5; have BK := n0_; have HB := n1_; have HO9 := n2_; clear n0_ n1_ n2_; clear ho hb hg hat))
          simp only [Exit.jump]
          refine bodyPost_ret (results_tmp2 rfl _ _ _) rfl ?_
          exact ⟨_, rfl, Kd.S_nil _ _ _ _ _, HB.out⟩
  · intro PASS
    have HB := Aside0.mk ((Below.refl w.heap.size w).alloc (Nat.le_refl _) (.cells #[.int .i64 0, .slice none 0 0] 24 (0, 0)))
    go_wp2
    go_step3
    simp only [Exit.then]
    rename_i hK_
    refine hK_ _ _ (PASS _ _ ?_)
    rw [hJ]
    exact ⟨k, l0, A0, c0, [], _, 0, none, 0, 0, _, _, _, _, _, _, _, _, _, _, _, _, _, _, _, _, _, _, _, _, _, _, rfl, HE0, HR0, HC0, ⟨Kd.S_nil _ _ _ _ _⟩, ⟨heap_alloc_new _ _⟩, HB⟩

end Go.Proofs.Ytjihemgadbpebaa.PTl
