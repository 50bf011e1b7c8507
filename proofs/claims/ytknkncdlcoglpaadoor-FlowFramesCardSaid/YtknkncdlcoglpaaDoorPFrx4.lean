-- Written by wip/tools/myprint.py, a program of the prover's own, over the kit's print; the contracts named 'HAND' there are typed by hand.
import Derived.Test.YtknkncdlcoglpaaDoorPFrx0
import Derived.Test.YtknkncdlcoglpaaDoorPFrx3
namespace Go.Proofs.YtknkncdlcoglpaaDoor.PFr
open Go.RowKit Go.Proofs.YtknkncdlcoglpaaDoorW.PrintWords Go.Proofs.YtknkncdlcoglpaaDoorW.PrintLast Go.Proofs.YtknkncdlcoglpaaDoorW.PrintMore
attribute [local go_sem] max2_int min2_int max_two min_two max_three min_three max_four min_four   -- for this text's walks alone
set_option linter.unusedVariables false
set_option linter.unusedSimpArgs false

/-! ### frame_All: function 24 -/
def frame_All.l0 : Nat → List Int → List (S50) → Option ((List (S50)) × Int)
  | 0, _, _ => none
  | k + 1, b, out => if b = [] then some (out, 0) else (frame_Get.f k b).bind fun t => if t.2.2.2 = 0 then (if (0 < t.2.2.1 ∧ t.2.2.1 ≤ (b.length : Int)) ∧ out.length < 4398046511104 then frame_All.l0 k (b.drop t.2.2.1.toNat) (out ++ [(⟨t.1, t.2.1⟩ : S50)]) else none) else some ([], t.2.2.2)
def frame_All.f (k : Nat) (l0 : List Int) : Option ((List (S50)) × Int) := frame_All.l0 k l0 []
theorem all_info1 : (Tryd.prog.info? 5).map (fun i => (i.zero, i.size, i.bytes)) = some (some (.int .u8 0), 1, 1) := by kernel_rfl
theorem all_info2 : (Tryd.prog.info? 50).map (fun i => (i.zero, i.size, i.bytes)) = some (some (.agg #[(.int .i64 0), (.slice none 0 0)]), 2, 32) := by kernel_rfl
theorem scope_jumps_ {P : Program} {a : Act} {w : World} {Q : Exit → Act → World → Prop} {c rest : Code} (l : Nat) (J : Act → World → Prop) (μ : Act → World → Nat) (hf : findLabel c l = some (.seq .skip rest))
    (pass : ∀ a w, J a w → rest.wp P (Exit.jump l (fun a' w' => J a' w' ∧ μ a' w' < μ a w) Q) a w)
    (first : (∀ a w, J a w → rest.wp P (Exit.jump l J Q) a w) → c.wp P (Exit.jump l J Q) a w) : (Code.scope c).wp P Q a w := by
  refine wp_scope_jumps l J μ hf (first fun a w h => Go.wp_mono (pass a w h) ?_) (fun a w h => wp_seq (wp_skip (pass a w h)))
  intro e a' w' hq
  cases e <;> first | exact hq | exact ⟨hq.1, hq.2.1⟩
def lenOf : Value → Nat | .slice _ n _ => n | _ => 0
set_option maxHeartbeats 8000000 in
set_option maxRecDepth 100000 in
theorem frame_All.calls (k : Nat) (A0 : Option Addr) (c0 : Nat) (l0 : List Int) (r1 : List (S50)) (r2 : Int) (w : World) (hr0 : Kd.C (Kd.int .u8) w A0 l0.length l0) (hc0 : l0.length ≤ c0) (h : frame_All.f k l0 = some (r1, r2)) :
    Calls Tryd.prog 24 #[.slice A0 l0.length c0] w fun e w' => ∃ v0_ : Value, e = .returned (.tuple #[v0_, .int .i64 r2]) ∧ Kd.S k50 50 w' w.heap.size (fun _ => True) v0_ r1 ∧ Below w.heap.size w w' := by
  have hu24 := Tryd.underlying50
  have HR0 := Aside0.mk hr0
  have HC0 := Aside0.mk hc0
  have HE0 := Aside0.mk (show frame_All.l0 k l0 [] = some (r1, r2) from h)
  clear hr0 hc0 h
  obtain ⟨J, hJ⟩ : ∃ J : Act → World → Prop, J = fun a' W => ∃ (k : Nat) (b : List Int) (A : Option Addr) (c : Nat) (x4 : List (S50)) (v4 : Value) (i0 : Int) (Ab : Option Addr) (lb cb : Nat) (u6 u7 u8 u9 u10 u11 u12 u13 u14 u15 u16 u17 u18 u19 u20 u21 u22 u23 u24 u25 u26 u27 : Value),
      a' = { tmps := #[.slice A b.length c, undef, .slice none 0 0, .int .i64 0, v4, .pointer (some ⟨w.heap.size, 0, none⟩), u6, u7, u8, u9, u10, u11, u12, u13, u14, u15, u16, u17, u18, u19, u20, u21, u22, u23, u24, u25, u26, u27], defers := [] } ∧
      Aside0 (frame_All.l0 k b x4 = some (r1, r2)) ∧ Aside0 (Kd.C (Kd.int .u8) w A b.length b) ∧ Aside0 (b.length ≤ c) ∧
      Aside0 (Kd.S k50 50 W w.heap.size (fun k_ => k_ ≠ w.heap.size) v4 x4) ∧ Aside0 (W.heap[w.heap.size]? = some (.cells #[.int .i64 i0, .slice Ab lb cb] 50 (0, 0))) ∧ Aside0 (Below w.heap.size w W) := ⟨_, rfl⟩
  go_enter Tryd.func24, Tryd.ntmps24
  go_wp2
  refine scope_jumps_ 0 J (fun a' _ => lenOf (a'.tmps.getD 0 undef)) rfl ?_ ?_
  · rw [hJ]
    rintro a' W ⟨k, b, A, c, x4, v4, i0, Ab, lb, cb, u6, u7, u8, u9, u10, u11, u12, u13, u14, u15, u16, u17, u18, u19, u20, u21, u22, u23, u24, u25, u26, u27, rfl, HE, HR, HC, HO_4, BK, HB⟩
    cases k with
    | zero => exact absurd HE.out (by simp [frame_All.l0])
    | succ k =>
      have H := HE.out
      rw [frame_All.l0.eq_2] at H
      by_cases hnil : b = []
      · rw [if_pos hnil] at H
        simp only [Option.some.injEq, Prod.mk.injEq] at H
        obtain ⟨rfl, rfl⟩ := H
        have hz : b.length = 0 := by rw [hnil]; rfl
        have he0 : ((b.length : Int) == 0) = true := by rw [hz]; rfl
        clear hnil hz
        go_wp2
        simp only [Exit.jump]
        refine bodyPost_ret (results_tmp2 rfl _ _ _) rfl ?_
        exact ⟨_, rfl, Kd.S_mono HO_4.out (fun _ _ => trivial), HB.out⟩
      · rw [if_neg hnil] at H
        have hpos : 0 < b.length := by rcases b with _ | _ <;> simp_all
        have he0 : ((b.length : Int) == 0) = false := beq_eq_false_iff_ne.mpr (by omega)
        have HPOS := Aside0.mk hpos
        obtain ⟨⟨t1, t2, t3, t4⟩, hg, H⟩ := Option.bind_eq_some_iff.mp H
        replace H : (if t4 = 0 then (if (0 < t3 ∧ t3 ≤ (b.length : Int)) ∧ x4.length < 4398046511104 then frame_All.l0 k (b.drop t3.toNat) (x4 ++ [(⟨t1, t2⟩ : S50)]) else none) else some ([], t4)) = some (r1, r2) := H
        have HG := Aside0.mk hg
        clear hg hnil hpos HE
        by_cases c6 : t4 = 0
        · rw [if_pos c6] at H
          by_cases c7 : (0 < t3 ∧ t3 ≤ (b.length : Int)) ∧ x4.length < 4398046511104
          · rw [if_pos c7] at H
            have HH := Aside0.mk H
            have c6b0 : (t4 == 0) = true := beq_iff_eq.mpr c6
            obtain ⟨i0_, hi0, _, hsz, _⟩ := info_parts all_info1
            obtain ⟨A8, hcut8, hA8, hC8⟩ := print_drop_of (P := Tryd.prog) (Value.int .u8) 0 26 5 .i64 Tryd.underlying26 hi0 hsz A c b t3 (by omega) (by omega) HC.out
            have HR8 := Aside0.mk (Kd.C_of_reads (h1 := fun _ => rfl) (hA8 _ (Kd.reads_of_C HR.out)))
            have HC8 := Aside0.mk hC8
            rw [List.length_drop] at hcut8
            have HC7 := Aside0.mk c7
            have c71 := eq_true (show (0 : Int) ≤ t3 by omega)
            have c72 := eq_true c7.1.2
            clear hA8 hC8 hi0 hsz H c6 c7
            go_wp2_with (first
              | (go_at_call 37; with_reducible refine (frame_Get.calls k A c b t1 t2 t3 t4 W (Kd.C_below HR.out HB.out) HC.out HG.out).mono ?_; rintro e w1 ⟨v0, rfl, ho0, hb⟩; have n0_ := Aside0.mk (Kd.S_elder' HO_4.out (Kd.R_base ho0) hb); have n1_ := Aside0.mk (Kd.R_lower ho0 HB.out.size); have n2_ := Aside0.mk (below_then HB.out HB.out.size hb); have n3_ := Aside0.mk (blk_below BK.out hb); clear HO_4 HB BK; have HO_4 := n0_; have HO5 := n1_; have HB := n2_; have BK := n3_; clear n0_ n1_ n2_ n3_ hb ho0; have hcz0 : w1.cell? ⟨w.heap.size, 0, none⟩ = some (.int .i64 i0) := (blk_cell BK.out 0).trans rfl; have hcz1 : w1.cell? ⟨w.heap.size, 1, none⟩ = some (.slice Ab lb cb) := (blk_cell BK.out 1).trans rfl; have hfz0 := blk_frozen BK.out 0; have hfz1 := blk_frozen BK.out 1; obtain ⟨Ao, co, eo⟩ := Kd.R_slice HO5.out; subst eo)
              | ((with_reducible refine gate_store (t := 50) (p := 5) rfl ?_); refine store_event (t := 50) (p := 5) (v := ?vo_w13) (w1 := ((w1.setCell ⟨w.heap.size, 0, none⟩ (.int .i64 t1)).setCell ⟨w.heap.size, 1, none⟩ (.slice Ao t2.length co))) ?hg ?ho ?hn ?hr ?_; (case ho => rfl); (case hg => rfl); (case hn => rfl); (case hr => first | (go_simp; done) | (go_simp; rfl)); intro w2 hw; have n0_ : Aside0 (Kd.S k50 50 w2 w.heap.size (fun k_ => some k_ ≠ (.slice Ao t2.length co : Value).ownBlock ∧ k_ ≠ w.heap.size) v4 x4) := ⟨by rw [hw]; exact Kd.S_mono (Kd.S_far (p := ⟨w.heap.size, 1, none⟩) (Kd.S_far (p := ⟨w.heap.size, 0, none⟩) (Kd.S_mono HO_4.out (fun k_ hk => (⟨hk, hk.1⟩ : _ ∧ k_ ≠ w.heap.size))) (fun _ hk => hk.2) (.int .i64 t1)) (fun _ hk => hk.2) (.slice Ao t2.length co)) (fun _ hk => ⟨hk.1.2, hk.2⟩)⟩; have n1_ : Aside0 (Kd.R (Kd.int .u8) 5 w2 w.heap.size (fun _ => True) (.slice Ao t2.length co) t2) := ⟨by rw [hw]; exact Kd.R_mono (Kd.R_far (p := ⟨w.heap.size, 1, none⟩) (Kd.R_far (p := ⟨w.heap.size, 0, none⟩) (Kd.R_types HO5.out BK.out (by decide)) (fun _ hk => hk.2) (.int .i64 t1)) (fun _ hk => hk.2) (.slice Ao t2.length co)) (fun _ hk => trivial)⟩; have n2_ : Aside0 (w2.heap[w.heap.size]? = some (.cells #[.int .i64 t1, .slice Ao t2.length co] 50 (0, 0))) := ⟨by rw [hw]; refine blk_put (cs := #[.int .i64 t1, .slice Ab lb cb]) ?_ 1 _ rfl; refine blk_put (cs := #[.int .i64 i0, .slice Ab lb cb]) ?_ 0 _ rfl; exact BK.out⟩; have n3_ : Aside0 (Below w.heap.size w w2) := ⟨by rw [hw]; repeat (first | (with_reducible refine below_set ?_ (Nat.le_refl _)) | exact HB.out)⟩; clear hw hcz0 hcz1 hfz0 hfz1; clear HO_4 HO5 BK HB; have HO_4 := n0_; have HO5 := n1_; have BK := n2_; have HB := n3_; clear n0_ n1_ n2_ n3_; have hcz0 : w2.cell? ⟨w.heap.size, 0, none⟩ = some (.int .i64 t1) := (blk_cell BK.out 0).trans rfl; have hcz1 : w2.cell? ⟨w.heap.size, 1, none⟩ = some (.slice Ao t2.length co) := (blk_cell BK.out 1).trans rfl; have hfz0 := blk_frozen BK.out 0; have hfz1 := blk_frozen BK.out 1)
              | ((with_reducible refine gate_builtin (b := .append) (xs := #[.tmp 20, .tmp 22]) rfl ?_); at_builtin; refine Kd.S_append k50 (w0 := w) w.heap.size rfl (.tmp 20) (.tmp 22) 46 50 (.agg #[(.int .i64 0), (.slice none 0 0)]) 32 rfl Tryd.underlying46 all_info2 rfl (by decide) (by omega) v4 x4 (⟨t1, t2⟩ : S50) [.int .i64 t1, .slice Ao t2.length co] (fun k_ => k_ ≠ w.heap.size) (fun k_ => some k_ = (.slice Ao t2.length co : Value).ownBlock) rfl rfl ?aP (fun k_ hk_ => ((Kd.R_mono (ok' := fun k_ => ((fun k_ => k_ ≠ w.heap.size)) k_ ∧ some k_ ≠ (v4 : Value).ownBlock) (Kd.R_types (Kd.R_apart' (HO5.out) (Kd.S_typed HO_4.out) (by decide)) BK.out (by decide)) (fun k_ hk => ⟨hk.2, hk.1.2⟩))).1 k_ hk_.symm) ?aF ?aO ?aB ?aS ?aL ?_; (case aP => exact k50_mkM _ _ _ (⟨t1, t2⟩ : S50) (Kd.R_mono (Kd.R_tight rfl (Kd.R_mono (ok' := fun k_ => ((fun k_ => k_ ≠ w.heap.size)) k_ ∧ some k_ ≠ (v4 : Value).ownBlock) (Kd.R_types (Kd.R_apart' (HO5.out) (Kd.S_typed HO_4.out) (by decide)) BK.out (by decide)) (fun k_ hk => ⟨hk.2, hk.1.2⟩))) (fun _ h_ => h_))); (case aB => exact (by repeat (first | (with_reducible first | exact HB.out | apply below_alloc | apply pw_below_drewN | apply below_drew1) | exact HB.out))); (case aF => exact (fun k_ hk => Kd.freshB (g := w.heap.size) (o := .cells #[.int .i64 t1, .slice Ao t2.length co] 50 (0, 0)) (by (with_reducible repeat (first | refine blk_drewN ?_ _ | refine blk_drew ?_ | refine blk_alloc ?_ _)); exact BK.out) k_ hk)); (case aO => exact (by (with_reducible repeat (first | apply Kd.S_alloc | apply Kd.S_drewN | apply Kd.S_drew)); exact Kd.S_mono HO_4.out (fun k_ hk => ⟨hk.2, fun e_ => hk.1 e_⟩))); (case aS => exact (below_size (by repeat (first | (with_reducible first | exact HB.out | apply below_alloc | apply pw_below_drewN | apply below_drew1) | exact HB.out)))); (case aL => have := HC7.out; omega); intro v9 w3 ho hb hg hat; have n0_ := Aside0.mk (blk_grown (g := w.heap.size) (o := .cells #[.int .i64 t1, .slice Ao t2.length co] 50 (0, 0)) (by (with_reducible repeat (first | refine blk_drewN ?_ _ | refine blk_drew ?_ | refine blk_alloc ?_ _)); exact BK.out) hg (Kd.S_away HO_4.out (fun _ hk => hk.2))); have n1_ := Aside0.mk (hb); have n2_ := Aside0.mk (ho); clear BK HB HO_4 HO5; have BK := n0_; have HB := n1_; have HO9 := n2_; clear n0_ n1_ n2_; clear ho hb hg hat))
            go_step3
            simp only [Exit.then]
            refine ⟨rfl, ⟨k, b.drop t3.toNat, A8, c - t3.toNat, _, _, t1, _, _, _, _, _, _, _, _, _, _, _, _, _, _, _, _, _, _, _, _, _, _, _, _, _, by rw [List.length_drop], HH, HR8, HC8, HO9, BK, HB⟩, ?_⟩
            show b.length - t3.toNat < b.length
            have := HC7.out
            have := HPOS.out
            omega
          · rw [if_neg c7] at H
            exact absurd H (by simp)
        · rw [if_neg c6] at H
          simp only [Option.some.injEq, Prod.mk.injEq] at H
          obtain ⟨rfl, rfl⟩ := H
          have c6b0 : (t4 == 0) = false := beq_eq_false_iff_ne.mpr c6
          clear c6
          go_wp2_with (first
              | (go_at_call 37; with_reducible refine (frame_Get.calls k A c b t1 t2 t3 t4 W (Kd.C_below HR.out HB.out) HC.out HG.out).mono ?_; rintro e w1 ⟨v0, rfl, ho0, hb⟩; have n0_ := Aside0.mk (Kd.S_elder' HO_4.out (Kd.R_base ho0) hb); have n1_ := Aside0.mk (Kd.R_lower ho0 HB.out.size); have n2_ := Aside0.mk (below_then HB.out HB.out.size hb); have n3_ := Aside0.mk (blk_below BK.out hb); clear HO_4 HB BK; have HO_4 := n0_; have HO5 := n1_; have HB := n2_; have BK := n3_; clear n0_ n1_ n2_ n3_ hb ho0; have hcz0 : w1.cell? ⟨w.heap.size, 0, none⟩ = some (.int .i64 i0) := (blk_cell BK.out 0).trans rfl; have hcz1 : w1.cell? ⟨w.heap.size, 1, none⟩ = some (.slice Ab lb cb) := (blk_cell BK.out 1).trans rfl; have hfz0 := blk_frozen BK.out 0; have hfz1 := blk_frozen BK.out 1; obtain ⟨Ao, co, eo⟩ := Kd.R_slice HO5.out; subst eo)
              | ((with_reducible refine gate_store (t := 50) (p := 5) rfl ?_); refine store_event (t := 50) (p := 5) (v := ?vo_w13) (w1 := ((w1.setCell ⟨w.heap.size, 0, none⟩ (.int .i64 t1)).setCell ⟨w.heap.size, 1, none⟩ (.slice Ao t2.length co))) ?hg ?ho ?hn ?hr ?_; (case ho => rfl); (case hg => rfl); (case hn => rfl); (case hr => first | (go_simp; done) | (go_simp; rfl)); intro w2 hw; have n0_ : Aside0 (Kd.S k50 50 w2 w.heap.size (fun k_ => some k_ ≠ (.slice Ao t2.length co : Value).ownBlock ∧ k_ ≠ w.heap.size) v4 x4) := ⟨by rw [hw]; exact Kd.S_mono (Kd.S_far (p := ⟨w.heap.size, 1, none⟩) (Kd.S_far (p := ⟨w.heap.size, 0, none⟩) (Kd.S_mono HO_4.out (fun k_ hk => (⟨hk, hk.1⟩ : _ ∧ k_ ≠ w.heap.size))) (fun _ hk => hk.2) (.int .i64 t1)) (fun _ hk => hk.2) (.slice Ao t2.length co)) (fun _ hk => ⟨hk.1.2, hk.2⟩)⟩; have n1_ : Aside0 (Kd.R (Kd.int .u8) 5 w2 w.heap.size (fun _ => True) (.slice Ao t2.length co) t2) := ⟨by rw [hw]; exact Kd.R_mono (Kd.R_far (p := ⟨w.heap.size, 1, none⟩) (Kd.R_far (p := ⟨w.heap.size, 0, none⟩) (Kd.R_types HO5.out BK.out (by decide)) (fun _ hk => hk.2) (.int .i64 t1)) (fun _ hk => hk.2) (.slice Ao t2.length co)) (fun _ hk => trivial)⟩; have n2_ : Aside0 (w2.heap[w.heap.size]? = some (.cells #[.int .i64 t1, .slice Ao t2.length co] 50 (0, 0))) := ⟨by rw [hw]; refine blk_put (cs := #[.int .i64 t1, .slice Ab lb cb]) ?_ 1 _ rfl; refine blk_put (cs := #[.int .i64 i0, .slice Ab lb cb]) ?_ 0 _ rfl; exact BK.out⟩; have n3_ : Aside0 (Below w.heap.size w w2) := ⟨by rw [hw]; repeat (first | (with_reducible refine below_set ?_ (Nat.le_refl _)) | exact HB.out)⟩; clear hw hcz0 hcz1 hfz0 hfz1; clear HO_4 HO5 BK HB; have HO_4 := n0_; have HO5 := n1_; have BK := n2_; have HB := n3_; clear n0_ n1_ n2_ n3_; have hcz0 : w2.cell? ⟨w.heap.size, 0, none⟩ = some (.int .i64 t1) := (blk_cell BK.out 0).trans rfl; have hcz1 : w2.cell? ⟨w.heap.size, 1, none⟩ = some (.slice Ao t2.length co) := (blk_cell BK.out 1).trans rfl; have hfz0 := blk_frozen BK.out 0; have hfz1 := blk_frozen BK.out 1)
              | ((with_reducible refine gate_builtin (b := .append) (xs := #[.tmp 20, .tmp 22]) rfl ?_); at_builtin; refine Kd.S_append k50 (w0 := w) w.heap.size rfl (.tmp 20) (.tmp 22) 46 50 (.agg #[(.int .i64 0), (.slice none 0 0)]) 32 rfl Tryd.underlying46 all_info2 rfl (by decide) (by omega) v4 x4 (⟨t1, t2⟩ : S50) [.int .i64 t1, .slice Ao t2.length co] (fun k_ => k_ ≠ w.heap.size) (fun k_ => some k_ = (.slice Ao t2.length co : Value).ownBlock) rfl rfl ?aP (fun k_ hk_ => ((Kd.R_mono (ok' := fun k_ => ((fun k_ => k_ ≠ w.heap.size)) k_ ∧ some k_ ≠ (v4 : Value).ownBlock) (Kd.R_types (Kd.R_apart' (HO5.out) (Kd.S_typed HO_4.out) (by decide)) BK.out (by decide)) (fun k_ hk => ⟨hk.2, hk.1.2⟩))).1 k_ hk_.symm) ?aF ?aO ?aB ?aS ?aL ?_; (case aP => exact k50_mkM _ _ _ (⟨t1, t2⟩ : S50) (Kd.R_mono (Kd.R_tight rfl (Kd.R_mono (ok' := fun k_ => ((fun k_ => k_ ≠ w.heap.size)) k_ ∧ some k_ ≠ (v4 : Value).ownBlock) (Kd.R_types (Kd.R_apart' (HO5.out) (Kd.S_typed HO_4.out) (by decide)) BK.out (by decide)) (fun k_ hk => ⟨hk.2, hk.1.2⟩))) (fun _ h_ => h_))); (case aB => exact (by repeat (first | (with_reducible first | exact HB.out | apply below_alloc | apply pw_below_drewN | apply below_drew1) | exact HB.out))); (case aF => exact (fun k_ hk => Kd.freshB (g := w.heap.size) (o := .cells #[.int .i64 t1, .slice Ao t2.length co] 50 (0, 0)) (by (with_reducible repeat (first | refine blk_drewN ?_ _ | refine blk_drew ?_ | refine blk_alloc ?_ _)); exact BK.out) k_ hk)); (case aO => exact (by (with_reducible repeat (first | apply Kd.S_alloc | apply Kd.S_drewN | apply Kd.S_drew)); exact Kd.S_mono HO_4.out (fun k_ hk => ⟨hk.2, fun e_ => hk.1 e_⟩))); (case aS => exact (below_size (by repeat (first | (with_reducible first | exact HB.out | apply below_alloc | apply pw_below_drewN | apply below_drew1) | exact HB.out)))); (case aL => have := HC7.out; omega); intro v9 w3 ho hb hg hat; have n0_ := Aside0.mk (blk_grown (g := w.heap.size) (o := .cells #[.int .i64 t1, .slice Ao t2.length co] 50 (0, 0)) (by (with_reducible repeat (first | refine blk_drewN ?_ _ | refine blk_drew ?_ | refine blk_alloc ?_ _)); exact BK.out) hg (Kd.S_away HO_4.out (fun _ hk => hk.2))); have n1_ := Aside0.mk (hb); have n2_ := Aside0.mk (ho); clear BK HB HO_4 HO5; have BK := n0_; have HB := n1_; have HO9 := n2_; clear n0_ n1_ n2_; clear ho hb hg hat))
          simp only [Exit.jump]
          refine bodyPost_ret (results_tmp2 rfl _ _ _) rfl ?_
          exact ⟨_, rfl, Kd.S_nil _ _ _ _ _, HB.out⟩
  · intro PASS
    have HB := Aside0.mk ((Below.refl w.heap.size w).alloc (Nat.le_refl _) (.cells #[.int .i64 0, .slice none 0 0] 50 (0, 0)))
    go_wp2
    go_step3
    simp only [Exit.then]
    rename_i hK_
    refine hK_ _ _ (PASS _ _ ?_)
    rw [hJ]
    exact ⟨k, l0, A0, c0, [], _, 0, none, 0, 0, _, _, _, _, _, _, _, _, _, _, _, _, _, _, _, _, _, _, _, _, _, _, rfl, HE0, HR0, HC0, ⟨Kd.S_nil _ _ _ _ _⟩, ⟨heap_alloc_new _ _⟩, HB⟩

/-! ### vari_Get: function 62 -/
mutual
def vari_Get.l0 : Nat → Int → List Int → Int → Int → Option (Int × Int)
  | 0, _, _, _, _ => none
  | k + 1, x4, x9, x10, x11 => if x11 < x10 then (if 0 ≤ x11 then (if x11 < (x9.length : Int) then (if (wrap64 (7 * x11)) ≥ 64 then (vari_Get.j1 k x4 x11 (rd x9 x11) (wrap64 (7 * x11)) (IntKind.u64.wrap (Go.bits .andNot .u8 (rd x9 x11) 128)) x9 x10 x11 true) else (if 0 ≤ (wrap64 (7 * x11)) then (vari_Get.j1 k x4 x11 (rd x9 x11) (wrap64 (7 * x11)) (IntKind.u64.wrap (Go.bits .andNot .u8 (rd x9 x11) 128)) x9 x10 x11 ((shr .u64 (shl .u64 (IntKind.u64.wrap (Go.bits .andNot .u8 (rd x9 x11) 128)) (wrap64 (7 * x11))) (wrap64 (7 * x11))) != (IntKind.u64.wrap (Go.bits .andNot .u8 (rd x9 x11) 128)))) else (none))) else (none)) else (none)) else (some (0, 0))
def vari_Get.j1 : Nat → Int → Int → Int → Int → Int → List Int → Int → Int → Bool → Option (Int × Int)
  | 0, _, _, _, _, _, _, _, _, _ => none
  | k + 1, x4, x5, x6, x7, x8, x9, x10, x11, x31 => if x31 = true then (some (0, 0)) else (if 0 ≤ x7 then (if x6 < 128 then (if x6 = 0 then (if x5 > 0 then (some (0, 0)) else (some (Go.bits .or .u64 x4 (shl .u64 x8 x7), wrap64 (x5 + 1)))) else (some (Go.bits .or .u64 x4 (shl .u64 x8 x7), wrap64 (x5 + 1)))) else (vari_Get.l0 k (Go.bits .or .u64 x4 (shl .u64 x8 x7)) x9 x10 (wrap64 (x11 + 1)))) else (none))
end
def vari_Get.f (k : Nat) (l0 : List Int) : Option (Int × Int) := vari_Get.l0 k 0 l0 (l0.length : Int) 0
set_option maxHeartbeats 8000000 in
set_option maxRecDepth 100000 in
theorem vari_Get.calls (k : Nat) (A0 : Option Addr) (c0 : Nat) (l0 : List Int) (r1 : Int) (r2 : Int) (w : World) (hr0 : Kd.C (Kd.int .u8) w A0 l0.length l0) (hc0 : l0.length ≤ c0) (h : vari_Get.f k l0 = some (r1, r2)) :
    Calls Tryd.prog 62 #[.slice A0 l0.length c0] w fun e w' => e = .returned (.tuple #[.int .u64 r1, .int .i64 r2]) ∧ Drawn0 w w' := by
  have HR0 := Aside0.mk hr0
  have HC0 := Aside0.mk hc0
  clear hr0 hc0
  have H : (vari_Get.l0 k 0 l0 (l0.length : Int) 0) = some (r1, r2) := h
  clear h
  have H' := Aside0.mk H
  clear H
  go_enter Tryd.func62, Tryd.ntmps62
  go_wp2
  go_loopg [4, 11] k (fun kq v4 v11 w' => ∃ (x4_1 : Int) (x11_1 : Int), v4 = .int .u64 x4_1 ∧ v11 = .int .i64 x11_1 ∧ Aside0 (vari_Get.l0 kq x4_1 l0 (l0.length : Int) x11_1 = some (r1, r2)) ∧ Aside0 (kq ≤ k) ∧ Drawn0 w w')
  case atStart => exact ⟨(0), (0), (by first | rfl | (simp; done) | (simp [*]; done)), (by first | rfl | (simp; done) | (simp [*]; done)), H', ⟨Nat.le_refl _⟩, by repeat (first | exact Drawn0.refl _ | apply Drawn0.step)⟩
  case round =>
    clear H'
    obtain ⟨x4_1, x11_1, rfl, rfl, HA, HK1, ⟨m1, rfl⟩⟩ := hrel
    cases gk with
    | zero => exact absurd HA.out (by simp [vari_Get.l0])
    | succ k1 =>
      have H := HA.out
      clear HA
      simp only [vari_Get.l0] at H
      by_cases c2 : x11_1 < (l0.length : Int)
      · rw [if_pos c2] at H
        have c2b0 : decide (x11_1 < (l0.length : Int)) = true := decide_eq_true c2
        clear c2
        by_cases c3 : 0 ≤ x11_1
        · rw [if_pos c3] at H
          have c3b0 : decide (0 ≤ x11_1) = true := decide_eq_true c3
          clear c3
          by_cases c4 : x11_1 < (l0.length : Int)
          · rw [if_pos c4] at H
            have c4b0 : decide (x11_1 < (l0.length : Int)) = true := decide_eq_true c4
            clear c4
            have HC5 := Aside0.mk H
            clear H
            have p177 : 0 ≤ (x11_1 : Int) := of_decide_eq_true (by first | (with_reducible assumption) | assumption)
            have q177 : x11_1 < (l0.length : Int) := of_decide_eq_true (by first | (with_reducible assumption) | assumption)
            obtain ⟨ad177, e177, hx177_0⟩ := Kd.at_int HR0.out x11_1 p177 q177
            cases e177
            replace p177 := eq_true p177
            replace q177 := eq_true q177
            go_upto_region 7 with (fail)
            go_cut [31] (fun v31 wc => ∃ (kq : Nat) (x31_4 : Bool), v31 = .bool x31_4 ∧ Aside0 (vari_Get.j1 kq x4_1 x11_1 (rd l0 x11_1) (wrap64 (7 * x11_1)) (IntKind.u64.wrap (Go.bits .andNot .u8 (rd l0 x11_1) 128)) l0 (l0.length : Int) x11_1 x31_4 = some (r1, r2)) ∧ Aside0 (kq ≤ k1) ∧ Drawn0 w wc)
            case first =>
              have H := HC5.out
              clear HC5
              by_cases c6 : (wrap64 (7 * x11_1)) ≥ 64
              · rw [if_pos c6] at H
                have c6b0 : decide (64 ≤ (wrap64 (7 * x11_1))) = true := decide_eq_true c6
                clear c6
                (first | rw [c6b0] | (simp only [i64_w, i32_w]; rw [c6b0]) | skip)
                have H' := Aside0.mk H
                clear H
                go_wp2
                go_meet
                case rel => exact ⟨_, (true), (by first | rfl | (simp; done) | (simp [*]; done)), H', ⟨by have := HK1.out; first | omega | exact Nat.le_refl _⟩, by repeat (first | exact Drawn0.refl _ | apply Drawn0.step)⟩
              · rw [if_neg c6] at H
                have c6b0 : decide (64 ≤ (wrap64 (7 * x11_1))) = false := decide_eq_false c6
                clear c6
                (first | rw [c6b0] | (simp only [i64_w, i32_w]; rw [c6b0]) | skip)
                obtain ⟨ji7, hji7⟩ : ∃ j_ : Int, (wrap64 (7 * x11_1)) = j_ := ⟨_, rfl⟩
                replace H : (if 0 ≤ (ji7) then (vari_Get.j1 k1 x4_1 x11_1 (rd l0 x11_1) ji7 (IntKind.u64.wrap (Go.bits .andNot .u8 (rd l0 x11_1) 128)) l0 (l0.length : Int) x11_1 ((shr .u64 (shl .u64 (IntKind.u64.wrap (Go.bits .andNot .u8 (rd l0 x11_1) 128)) (ji7)) (ji7)) != (IntKind.u64.wrap (Go.bits .andNot .u8 (rd l0 x11_1) 128)))) else (none)) = some (r1, r2) := by first | (rw [hji7] at H; exact H) | (simp only [hji7] at H ⊢; exact H)
                (try rw [hji7] at c6b0)
                have hji7w : (IntKind.i64.wrap (7 * x11_1)) = ji7 := (i64_w _).trans hji7
                by_cases c8 : 0 ≤ (ji7)
                · rw [if_pos c8] at H
                  have c8b0 := eq_true c8
                  have c8b1 : decide (0 ≤ (ji7)) = true := decide_eq_true c8
                  clear c8
                  obtain ⟨ji9, hji9⟩ : ∃ j_ : Int, (shl .u64 (IntKind.u64.wrap (Go.bits .andNot .u8 (rd l0 x11_1) 128)) (ji7)) = j_ := ⟨_, rfl⟩
                  replace H : (vari_Get.j1 k1 x4_1 x11_1 (rd l0 x11_1) ji7 (IntKind.u64.wrap (Go.bits .andNot .u8 (rd l0 x11_1) 128)) l0 (l0.length : Int) x11_1 ((shr .u64 (ji9) (ji7)) != (IntKind.u64.wrap (Go.bits .andNot .u8 (rd l0 x11_1) 128)))) = some (r1, r2) := by first | (rw [hji9] at H; exact H) | (simp only [hji9] at H ⊢; exact H)
                  have hji9_ : (IntKind.u64.wrap ((IntKind.u64.wrap (Go.bits .andNot .u8 (rd l0 x11_1) 128)) * 2 ^ min (ji7).toNat 64)) = ji9 := hji9
                  have hji9z : (ji7) ≤ 64 → (IntKind.u64.wrap ((IntKind.u64.wrap (Go.bits .andNot .u8 (rd l0 x11_1) 128)) * 2 ^ (ji7).toNat)) = ji9 := shl_small hji9
                  have c10b0 := eq_true (of_decide_eq_true (by first | (with_reducible assumption) | assumption) : 0 ≤ (ji7))
                  obtain ⟨ji11, hji11⟩ : ∃ j_ : Int, (shr .u64 (ji9) (ji7)) = j_ := ⟨_, rfl⟩
                  replace H : (vari_Get.j1 k1 x4_1 x11_1 (rd l0 x11_1) ji7 (IntKind.u64.wrap (Go.bits .andNot .u8 (rd l0 x11_1) 128)) l0 (l0.length : Int) x11_1 ((ji11) != (IntKind.u64.wrap (Go.bits .andNot .u8 (rd l0 x11_1) 128)))) = some (r1, r2) := by first | (rw [hji11] at H; exact H) | (simp only [hji11] at H ⊢; exact H)
                  have hji11_ : ((ji9) / 2 ^ min (ji7).toNat 64) = ji11 := hji11
                  have hji11z : (ji7) ≤ 64 → ((ji9) / 2 ^ (ji7).toNat) = ji11 := shr_small hji11
                  have H' := Aside0.mk H
                  clear H
                  go_wp2
                  go_meet
                  case rel => exact ⟨_, (((ji11) != (IntKind.u64.wrap (Go.bits .andNot .u8 (rd l0 x11_1) 128)))), (by first | rfl | (simp; done) | (simp only [← hji11] <;> (first | rfl | simp)) | (simp [*]; done)), (by first | exact H' | (simp only [hji11, hji9, hji7]; exact H') | (have H2_ := H'; simp only [hji11, hji9, hji7] at H2_ ⊢; exact H2_)), ⟨by have := HK1.out; first | omega | exact Nat.le_refl _⟩, by repeat (first | exact Drawn0.refl _ | apply Drawn0.step)⟩
                · rw [if_neg c8] at H
                  exact absurd H (by simp)
            case rest =>
              clear HC5
              try clear c1
              try clear p1
              try clear q1
              try clear hx1
              try clear c2
              try clear c2b0
              try clear p2
              try clear c3
              try clear c3b0
              try clear c4
              try clear c4b0
              try clear c6
              try clear c6b0
              try clear p6
              try clear c8
              try clear c8b0
              try clear c8b1
              try clear c10
              try clear c10b0
              try clear hx177_0
              try clear p177
              try clear q177
              obtain ⟨kq, x31_4, rfl, HA, HJ4, ⟨mc4, rfl⟩⟩ := hcut
              cases kq with
              | zero => exact absurd HA.out (by simp [vari_Get.j1])
              | succ kj4 =>
                have H := HA.out
                clear HA
                simp only [vari_Get.j1] at H
                by_cases c12 : x31_4 = true
                · subst c12
                  have H1 : (some (0, 0)) = some (r1, r2) := by rw [if_pos rfl] at H; exact H
                  clear H
                  have H := H1
                  clear H1
                  simp only [Option.some.injEq, Prod.mk.injEq] at H
                  obtain ⟨rfl, rfl⟩ := H
                  go_wp2
                  go_ret2
                  exact ⟨by first | rfl | (simp; done) | (simp [*]; done), by repeat (first | exact Drawn0.refl _ | apply Drawn0.step)⟩
                · replace c12 := Bool.eq_false_iff.mpr c12
                  subst c12
                  have H1 : (if 0 ≤ (wrap64 (7 * x11_1)) then (if (rd l0 x11_1) < 128 then (if (rd l0 x11_1) = 0 then (if x11_1 > 0 then (some (0, 0)) else (some (Go.bits .or .u64 x4_1 (shl .u64 (IntKind.u64.wrap (Go.bits .andNot .u8 (rd l0 x11_1) 128)) (wrap64 (7 * x11_1))), wrap64 (x11_1 + 1)))) else (some (Go.bits .or .u64 x4_1 (shl .u64 (IntKind.u64.wrap (Go.bits .andNot .u8 (rd l0 x11_1) 128)) (wrap64 (7 * x11_1))), wrap64 (x11_1 + 1)))) else (vari_Get.l0 kj4 (Go.bits .or .u64 x4_1 (shl .u64 (IntKind.u64.wrap (Go.bits .andNot .u8 (rd l0 x11_1) 128)) (wrap64 (7 * x11_1)))) l0 (l0.length : Int) (wrap64 (x11_1 + 1)))) else (none)) = some (r1, r2) := by rw [if_neg (show ¬ (false = true) by decide)] at H; exact H
                  clear H
                  have H := H1
                  clear H1
                  obtain ⟨ji13, hji13⟩ : ∃ j_ : Int, (wrap64 (7 * x11_1)) = j_ := ⟨_, rfl⟩
                  replace H : (if 0 ≤ (ji13) then (if (rd l0 x11_1) < 128 then (if (rd l0 x11_1) = 0 then (if x11_1 > 0 then (some (0, 0)) else (some (Go.bits .or .u64 x4_1 (shl .u64 (IntKind.u64.wrap (Go.bits .andNot .u8 (rd l0 x11_1) 128)) (ji13)), wrap64 (x11_1 + 1)))) else (some (Go.bits .or .u64 x4_1 (shl .u64 (IntKind.u64.wrap (Go.bits .andNot .u8 (rd l0 x11_1) 128)) (ji13)), wrap64 (x11_1 + 1)))) else (vari_Get.l0 kj4 (Go.bits .or .u64 x4_1 (shl .u64 (IntKind.u64.wrap (Go.bits .andNot .u8 (rd l0 x11_1) 128)) (ji13))) l0 (l0.length : Int) (wrap64 (x11_1 + 1)))) else (none)) = some (r1, r2) := by first | (rw [hji13] at H; exact H) | (simp only [hji13] at H ⊢; exact H)
                  have hji13w : (IntKind.i64.wrap (7 * x11_1)) = ji13 := (i64_w _).trans hji13
                  by_cases c14 : 0 ≤ (ji13)
                  · rw [if_pos c14] at H
                    have c14b0 := eq_true c14
                    have c14b1 : decide (0 ≤ (ji13)) = true := decide_eq_true c14
                    clear c14
                    obtain ⟨ji15, hji15⟩ : ∃ j_ : Int, (shl .u64 (IntKind.u64.wrap (Go.bits .andNot .u8 (rd l0 x11_1) 128)) (ji13)) = j_ := ⟨_, rfl⟩
                    replace H : (if (rd l0 x11_1) < 128 then (if (rd l0 x11_1) = 0 then (if x11_1 > 0 then (some (0, 0)) else (some (Go.bits .or .u64 x4_1 (ji15), wrap64 (x11_1 + 1)))) else (some (Go.bits .or .u64 x4_1 (ji15), wrap64 (x11_1 + 1)))) else (vari_Get.l0 kj4 (Go.bits .or .u64 x4_1 (ji15)) l0 (l0.length : Int) (wrap64 (x11_1 + 1)))) = some (r1, r2) := by first | (rw [hji15] at H; exact H) | (simp only [hji15] at H ⊢; exact H)
                    have hji15_ : (IntKind.u64.wrap ((IntKind.u64.wrap (Go.bits .andNot .u8 (rd l0 x11_1) 128)) * 2 ^ min (ji13).toNat 64)) = ji15 := hji15
                    have hji15z : (ji13) ≤ 64 → (IntKind.u64.wrap ((IntKind.u64.wrap (Go.bits .andNot .u8 (rd l0 x11_1) 128)) * 2 ^ (ji13).toNat)) = ji15 := shl_small hji15
                    by_cases c16 : (rd l0 x11_1) < 128
                    · rw [if_pos c16] at H
                      have c16b0 : decide ((rd l0 x11_1) < 128) = true := decide_eq_true c16
                      clear c16
                      by_cases c17 : (rd l0 x11_1) = 0
                      · rw [if_pos c17] at H
                        have c17b0 : ((rd l0 x11_1) == 0) = true := beq_iff_eq.mpr c17
                        have c17b1 : ((rd l0 x11_1) != 0) = false := bne_eq_false_iff_eq.mpr c17
                        clear c17
                        by_cases c18 : x11_1 > 0
                        · rw [if_pos c18] at H
                          have c18b0 : decide (0 < x11_1) = true := decide_eq_true c18
                          clear c18
                          simp only [Option.some.injEq, Prod.mk.injEq] at H
                          obtain ⟨rfl, rfl⟩ := H
                          go_wp2
                          go_ret2
                          exact ⟨by first | rfl | (simp; done) | (simp only [← hji13, ← hji15] <;> (first | rfl | simp)) | (simp [*]; done), by repeat (first | exact Drawn0.refl _ | apply Drawn0.step)⟩
                        · rw [if_neg c18] at H
                          have c18b0 : decide (0 < x11_1) = false := decide_eq_false c18
                          clear c18
                          simp only [Option.some.injEq, Prod.mk.injEq] at H
                          obtain ⟨rfl, rfl⟩ := H
                          go_wp2
                          go_ret2
                          exact ⟨by first | rfl | (simp; done) | (simp only [← hji13, ← hji15] <;> (first | rfl | simp)) | (simp [*]; done), by repeat (first | exact Drawn0.refl _ | apply Drawn0.step)⟩
                      · rw [if_neg c17] at H
                        have c17b0 : ((rd l0 x11_1) == 0) = false := beq_eq_false_iff_ne.mpr c17
                        have c17b1 : ((rd l0 x11_1) != 0) = true := bne_iff_ne.mpr c17
                        simp only [Option.some.injEq, Prod.mk.injEq] at H
                        obtain ⟨rfl, rfl⟩ := H
                        go_wp2
                        go_ret2
                        exact ⟨by first | rfl | (simp; done) | (simp only [← hji13, ← hji15] <;> (first | rfl | simp)) | (simp [*]; done), by repeat (first | exact Drawn0.refl _ | apply Drawn0.step)⟩
                    · rw [if_neg c16] at H
                      have c16b0 : decide ((rd l0 x11_1) < 128) = false := decide_eq_false c16
                      clear c16
                      have H' := Aside0.mk H
                      clear H
                      go_wp2
                      go_roundg kj4
                      case measure => have := HK1.out; have := HJ4.out; omega
                      case rel => exact ⟨(Go.bits .or .u64 x4_1 (ji15)), (wrap64 (x11_1 + 1)), (by first | rfl | (simp; done) | (simp only [← hji15] <;> (first | rfl | simp)) | (simp [*]; done)), (by first | rfl | (simp; done) | (simp [*]; done)), H', ⟨by have := HK1.out; have := HJ4.out; omega⟩, by repeat (first | exact Drawn0.refl _ | apply Drawn0.step)⟩
                  · rw [if_neg c14] at H
                    exact absurd H (by simp)
          · rw [if_neg c4] at H
            exact absurd H (by simp)
        · rw [if_neg c3] at H
          exact absurd H (by simp)
      · rw [if_neg c2] at H
        have c2b0 : decide (x11_1 < (l0.length : Int)) = false := decide_eq_false c2
        clear c2
        simp only [Option.some.injEq, Prod.mk.injEq] at H
        obtain ⟨rfl, rfl⟩ := H
        go_wp2
        go_ret2
        exact ⟨by first | rfl | (simp; done) | (simp [*]; done), by repeat (first | exact Drawn0.refl _ | apply Drawn0.step)⟩

-- NOT PRINTED: function 67 (vari_each)

/-! ### vari_All: function 61 -/
section
attribute [local go_sem] Oper.semAt_some
theorem each_info5 : (Tryd.prog.info? 5).map (fun i => (i.zero, i.size, i.bytes)) = some (some (.int .u8 0), 1, 1) := by kernel_rfl
theorem each_info22 : (Tryd.prog.info? 52).map (fun i => (i.zero, i.size, i.bytes)) = some (some (.int .u64 0), 1, 8) := by kernel_rfl
def vari_eachL : Nat → List Int → Option (List (Int × Bool))
  | 0, _ => none
  | k + 1, l => if l = [] then some [] else
      (vari_Get.f k l).bind fun t => if t.2 = 0 then some [(t.1, false)] else (if 0 < t.2 ∧ t.2 ≤ (l.length : Int) then (vari_eachL k (l.drop t.2.toNat)).bind fun ys => some ((t.1, true) :: ys) else none)
def vari_All.f (k : Nat) (l0 : List Int) : Option (List Int × Bool) :=
  (vari_eachL k l0).bind fun ys => if ys.length < 17592186044416 then some (if ys.all (fun x => x.2) = true then ((ys.map (fun x => x.1), true) : List Int × Bool) else ([], false)) else none
def boxLen (W : World) (B : Nat) : Nat := match W.cell? ⟨B, 0, none⟩ with | some (.slice _ l _) => l | _ => 0
theorem boxLen_eq {W : World} {B : Nat} {A : Option Addr} {l c : Nat} (h : Boxed W B 26 (.slice A l c)) : boxLen W B = l := by simp [boxLen, h.cell]
theorem boxed_drawn {W W' : World} {B : Nat} {t : TypeId} {v : Value} (h : Boxed W B t v) (hd : Drawn0 W W') : Boxed W' B t v := by
  obtain ⟨n, rfl⟩ := hd.out
  exact h

set_option maxHeartbeats 2000000 in
theorem each1_in (n : Nat) (hn : 1 ≤ n) (l Bb n₀ : Nat) (w : World) (hw : n₀ = w.heap.size) (hBb : n₀ ≤ Bb) (J Jx : List (Int × Bool) → World → Prop) (ys : List (Int × Bool))
    (hJd : ∀ s A B, J s A → Drawn0 A B → J s B) (hJc : ∀ s A v, J s A → J s (A.setCell ⟨Bb, 0, none⟩ v))
    (hY : ∀ pre x W, J pre W → pre.length < ys.length → YieldAt Fence.wide (n - 1) Tryd.prog l #[.int .u64 x.1, .bool x.2] W fun e W' =>
      (e = .returned (.bool true) ∧ J (pre ++ [x]) W' ∧ Below n₀ W W' ∧ (∀ v, Boxed W Bb 26 v → Boxed W' Bb 26 v)) ∨ (e = .returned (.bool false) ∧ Jx (pre ++ [x]) W'))
    (K0 : Nat) (A0 : Option Addr) (c0 : Nat) (l0 : List Int) (hr0 : Kd.C (Kd.int .u8) w A0 l0.length l0) (hc0 : l0.length ≤ c0) (he : vari_eachL K0 l0 = some ys)
    (W : World) (hb : Boxed W Bb 26 (.slice A0 l0.length c0)) (hB : Below n₀ w W) (h0 : J [] W) :
    CallsIn Fence.wide n Tryd.prog 70 #[.func (.yield l) #[] #[], .pointer (some ⟨Bb, 0, none⟩)] W fun e W' => (∃ v, e = .returned v) ∧
      ((∃ zs, zs = ys ∧ J zs W') ∨ (∃ pre, pre <+: ys ∧ Jx pre W')) := by
  refine callsIn_of_wp Tryd.func70 rfl trivial ?_ rfl
  simp only [Tryd.ntmps70, List.size_toArray, List.length_cons, List.length_nil, Nat.reduceAdd, Nat.reduceSub, Array.replicate_succ, Array.replicate_zero, List.push_toArray, List.append_toArray, List.nil_append, List.cons_append]
  gi_wp2
  gi_loopw [3] (fun p wr => ∃ (k : Nat) (pre rest : List (Int × Bool)) (A : Option Addr) (c : Nat) (b : List Int), ys = pre ++ rest ∧ Aside0 (vari_eachL k b = some rest) ∧ Aside0 (Kd.C (Kd.int .u8) w A b.length b) ∧ Aside0 (b.length ≤ c) ∧ Aside0 (Boxed wr Bb 26 (.slice A b.length c)) ∧ Aside0 (Below n₀ w wr) ∧ J pre wr)
    (fun p wr => boxLen wr Bb)
  case atStart => exact ⟨K0, [], ys, A0, c0, l0, rfl, ⟨he⟩, ⟨hr0⟩, ⟨hc0⟩, ⟨hb⟩, ⟨hB⟩, h0⟩
  case round =>
    obtain ⟨k, pre, rest, A, c, b, hx, HE, HR, HC, HBX, HB, hJs⟩ := hrel
    have hcell := HBX.out.cell
    have hfr := HBX.out.frozen
    cases k with
    | zero => exact absurd HE.out (by simp [vari_eachL])
    | succ k =>
      have H := HE.out
      rw [vari_eachL.eq_2] at H
      by_cases hnil : b = []
      · rw [if_pos hnil] at H
        obtain rfl := Option.some.inj H
        have hz : b.length = 0 := by rw [hnil]; rfl
        rw [hz] at hcell
        gi_wp2
        go_end0
        exact ⟨⟨_, rfl⟩, .inl hJs⟩
      · rw [if_neg hnil] at H
        replace H := Option.bind_eq_some_iff.mp H
        obtain ⟨⟨t1, t2⟩, HG, H⟩ := H
        have hpos : 0 < b.length := by rcases b with _ | _ <;> simp_all
        have hlt : decide ((0 : Int) < (b.length : Int)) = true := decide_eq_true (by omega)
        obtain ⟨i0, hi0, _, hsz, _⟩ := info_parts each_info5
        by_cases hm : t2 = 0
        · subst hm
          rw [if_pos rfl] at H
          obtain rfl := Option.some.inj H
          obtain ⟨A7, hcut7, hA7, hC7⟩ := print_drop_of (P := Tryd.prog) (Value.int .u8) 0 26 5 .i64 Tryd.underlying26 hi0 hsz A c b 0 (by omega) (by omega) HC.out
          gi_wp2_with (refine ⟨trivial, ?_⟩; gi_at_call 62; refine (callsIn_wide.2 (vari_Get.calls k A c b t1 0 wr (Kd.C_below HR.out (hw ▸ HB.out)) HC.out HG)).mono ?_; rintro e w1 ⟨rfl, hd⟩; have hbx := boxed_drawn HBX.out hd; have hcell1 := hbx.cell; have hfr1 := hbx.frozen; obtain ⟨fn, tmps, assign, body, hy, hR⟩ := hY pre (t1, false) (w1.setCell ⟨Bb, 0, none⟩ (.slice A7 b.length c)) (hJc _ _ _ (hJd _ _ _ hJs hd)) (by rw [hx]; simp); dsimp only at hy)
          refine hR.mono ?_
          rintro e W3 (⟨rfl, hJ3, hk3, hbx3⟩ | ⟨rfl, hJx3⟩)
          · gi_wp2
            refine bodyPost_ret (results_none rfl _ _ _) rfl ?_
            exact ⟨⟨_, rfl⟩, .inl ⟨_, rfl, by rw [hx]; exact hJ3⟩⟩
          · gi_wp2
            refine bodyPost_ret (results_none rfl _ _ _) rfl ?_
            exact ⟨⟨_, rfl⟩, .inr ⟨_, by rw [hx]; exact List.prefix_rfl, hJx3⟩⟩
        · rw [if_neg hm] at H
          by_cases hlm : 0 < t2 ∧ t2 ≤ (b.length : Int)
          · rw [if_pos hlm] at H
            replace H := Option.bind_eq_some_iff.mp H
            obtain ⟨rest2, HG2, H⟩ := H
            obtain rfl := Option.some.inj H
            have hgt : decide (t2 > 0) = true := decide_eq_true hlm.1
            have heq : (t2 == 0) = false := beq_eq_false_iff_ne.mpr hm
            obtain ⟨A7, hcut7, hA7, hC7⟩ := print_drop_of (P := Tryd.prog) (Value.int .u8) 0 26 5 .i64 Tryd.underlying26 hi0 hsz A c b t2 (by omega) (by omega) HC.out
            have HR7 := Aside0.mk (Kd.C_of_reads (h1 := fun _ => rfl) (hA7 _ (Kd.reads_of_C HR.out)))
            gi_wp2_with (refine ⟨trivial, ?_⟩; gi_at_call 62; refine (callsIn_wide.2 (vari_Get.calls k A c b t1 t2 wr (Kd.C_below HR.out (hw ▸ HB.out)) HC.out HG)).mono ?_; rintro e w1 ⟨rfl, hd⟩; have hbx := boxed_drawn HBX.out hd; have hcell1 := hbx.cell; have hfr1 := hbx.frozen; obtain ⟨fn, tmps, assign, body, hy, hR⟩ := hY pre (t1, true) (w1.setCell ⟨Bb, 0, none⟩ (.slice A7 (b.length - t2.toNat) (c - t2.toNat))) (hJc _ _ _ (hJd _ _ _ hJs hd)) (by rw [hx]; simp); dsimp only at hy)
            refine hR.mono ?_
            rintro e W3 (⟨rfl, hJ3, hk3, hbx3⟩ | ⟨rfl, hJx3⟩)
            · gi_wp2
              go_roundw
              case rel => exact ⟨k, pre ++ [(t1, true)], rest2, A7, c - t2.toNat, b.drop t2.toNat, by rw [hx]; simp, ⟨HG2⟩, ⟨HR7.out⟩, ⟨hC7⟩, ⟨by rw [List.length_drop]; exact hbx3 _ (hbx.set _)⟩, ⟨((HB.out.trans ((hd.below).mono (by have := HB.out.size; omega))).setCell (p := ⟨Bb, 0, none⟩) hBb _).trans hk3⟩, hJ3⟩
              case measure => rw [boxLen_eq (hbx3 _ (hbx.set _)), boxLen_eq HBX.out]; omega
            · gi_wp2
              refine bodyPost_ret (results_none rfl _ _ _) rfl ?_
              exact ⟨⟨_, rfl⟩, .inr ⟨_, by rw [hx]; exact ⟨rest2, by simp⟩, hJx3⟩⟩
          · rw [if_neg hlm] at H
            exact absurd H (by simp)

/-- ONE ROUND AND ITS BOOK-KEEPING, for an iterator that stores into a box (block Bb) of its own. -/
theorem all_range {n : Nat} {g : Operand} {ps : Array Tmp} {assign body : Code} {Q : Exit → Act → World → Prop} {a : Act} {w : World} {w0 : World} (h1 : 1 ≤ n) (h2 : 2 ≤ n) (Bb : Nat) (hBb : Bb < w.heap.size) (hB0 : w0.heap.size ≤ Bb)
    (hg : a.eval g = .func (.func 70) #[] #[.pointer (some ⟨Bb, 0, none⟩)]) (hps : ps.size = 2)
    (K0 : Nat) (A0 : Option Addr) (c0 : Nat) (l0 : List Int) (ys : List (Int × Bool)) (hr0 : Kd.C (Kd.int .u8) w0 A0 l0.length l0) (hc0 : l0.length ≤ c0) (he : vari_eachL K0 l0 = some ys)
    (hbox : Boxed w Bb 26 (.slice A0 l0.length c0)) (hb0 : Below w0.heap.size w0 w)
    (I : List (Int × Bool) → World → Prop) (Ix : Code → List (Int × Bool) → World → Prop) (hI : OwnFrom w.heap.size I) (hIx : ∀ c, OwnFrom w.heap.size (Ix c))
    (hId : ∀ s A B, I s A → Drawn0 A B → I s B) (hIc : ∀ s A v, I s A → I s (A.setCell ⟨Bb, 0, none⟩ v)) (h0 : I [] w) (a₁ : Int × Bool → Act)
    (hassign : ∀ (l : Nat) (x : Int × Bool) (W : World) (K : Act → World → Prop), K (a₁ x) W →
      assign.wpIn (Fence.wide.inRound l) (n - 1 - 1) Tryd.prog (Exit.then K (fun _ _ _ => False)) { tmps := (ps.zip #[.int .u64 x.1, .bool x.2]).foldl (fun t (p, v) => t.setIfInBounds p v) a.tmps, defers := [] } W)
    (hbody : ∀ (l : Nat) (pre : List (Int × Bool)) (x : Int × Bool) (W : World), I pre W → pre.length < ys.length → body.wpIn (Fence.wide.inRound l) (n - 1 - 1) Tryd.prog (ownPostG w.heap.size (fun A B => Below w0.heap.size A B ∧ (∀ v, Boxed A Bb 26 v → Boxed B Bb 26 v)) I Ix (pre ++ [x]) W) (a₁ x) W)
    (hdone : ∀ (D : Nat) (W : World), w.heap.size ≤ D → I ys W → W.heap[D]? = some (.deferred (some [])) → Q .normal { a with defers := { target := .collected D, args := #[] } :: a.defers } W)
    (hstop : ∀ (D : Nat) (c : Code) (pre : List (Int × Bool)) (W : World), w.heap.size ≤ D → pre <+: ys → Ix c pre W → W.heap[D]? = some (.deferred (some [])) → c.wpIn Fence.wide n Tryd.prog Q { a with defers := { target := .collected D, args := #[] } :: a.defers } W) :
    (Code.rangeFunc g ps assign body).wpIn Fence.wide n Tryd.prog Q a w := by
  refine wpIn_rangeFunc ?_
  intro fn hfn
  obtain ⟨rec, hrec⟩ : ∃ rec : LoopState → Option Code → Loop, rec = fun st pe => { state := st, pending := pe, fn, tmps := a.tmps, params := ps, assign, body, defers := w.heap.size } := ⟨_, rfl⟩
  obtain ⟨W1, hW1⟩ : ∃ W1, (w.alloc (.deferred (some []))).alloc (.loop (rec .ready none)) = W1 := ⟨_, rfl⟩
  have hL1 : W1.heap[w.heap.size + 1]? = some (.loop (rec .ready none)) := by
    rw [← hW1]; have := World.alloc_heap_new (w.alloc (.deferred (some []))) (.loop (rec .ready none)); rwa [World.size_alloc] at this
  have hK1 : W1.heap[w.heap.size]? = some (.deferred (some [])) := by
    rw [← hW1]; exact (Below.heap_alloc _ _ _ (by simp)).trans (World.alloc_heap_new w _)
  have hI1 : I [] W1 := by rw [← hW1]; exact hI.alloc _ (hI.alloc _ h0)
  have hbox1 : Boxed W1 Bb 26 (.slice A0 l0.length c0) := by rw [← hW1]; exact (hbox.alloc _).alloc _
  have hb1 : Below w0.heap.size w0 W1 := by
    rw [← hW1]; exact hb0.trans ((((Below.refl _ w).alloc (Nat.le_refl _) _).alloc (by simp) _).mono hb0.size)
  have hKb : ∀ (W : World) (o o' : Obj) (k : Nat), w.heap.size ≤ k → W.heap[k]? = some o → o.isCells = false → o.isWalk = false → Below w0.heap.size W (W.putObj k o') ∧ (∀ v, Boxed W Bb 26 v → Boxed (W.putObj k o') Bb 26 v) := by
    intro W o o' k hk h1 h2 h3
    exact ⟨belowK_b (w := w) hb0.size W k o o' hk h1 h2 h3, fun v hv => (World.putObj_heap_other (k := Bb) (r := k) (by omega)).trans hv⟩
  refine ⟨w.heap.size + 1, [{ target := .collected w.heap.size, args := #[] }], W1, { target := .fn (.func 70) #[.pointer (some ⟨Bb, 0, none⟩)], args := #[.func (.yield (w.heap.size + 1)) #[] #[]] }, W1, 70,
    #[.func (.yield (w.heap.size + 1)) #[] #[]] ++ #[.pointer (some ⟨Bb, 0, none⟩)], W1, ?_, ?_, ?_, ?_, fun _ => h1, ?_⟩
  · rw [← hW1, hrec]; exact run_enterLoop_outer _ _ _ _ _
  · simp only [resolve, hg]
    simp [go_sem]
  · intro f' hf'; trivial
  · have eg := enters_of Tryd.func70 (by kernel_rfl) rfl
    simp [invoke, go_sem, eg]
  · refine (each1_in (n - 1) (by omega) (w.heap.size + 1) Bb w0.heap.size w0 rfl hB0
      (fun pre W => I pre W ∧ W.heap[w.heap.size + 1]? = some (.loop (rec .ready none)) ∧ W.heap[w.heap.size]? = some (.deferred (some [])))
      (fun pre W => ∃ c, Ix c pre W ∧ W.heap[w.heap.size + 1]? = some (.loop (rec .done (some c))) ∧ W.heap[w.heap.size]? = some (.deferred (some [])))
      ys ?_ ?_ ?_ K0 A0 c0 l0 hr0 hc0 he W1 hbox1 hb1 ⟨hI1, hL1, hK1⟩).mono ?_
    · rintro s A B ⟨hi, hl, hk⟩ hd
      refine ⟨hId _ _ _ hi hd, ?_, ?_⟩
      · obtain ⟨m, rfl⟩ := hd.out; exact hl
      · obtain ⟨m, rfl⟩ := hd.out; exact hk
    · rintro s A v ⟨hi, hl, hk⟩
      exact ⟨hIc _ _ _ hi, (Below.heap_setCell A ⟨Bb, 0, none⟩ v _ (by show _ ≠ Bb; omega)).trans hl, (Below.heap_setCell A ⟨Bb, 0, none⟩ v _ (by show _ ≠ Bb; omega)).trans hk⟩
    · rintro pre x W ⟨hi, hl, hk⟩ hlen
      have hlt : w.heap.size + 1 < W.heap.size := (Array.getElem?_eq_some_iff.1 hl).1
      have hy := run_yield (P := Tryd.prog) (args := #[.int .u64 x.1, .bool x.2]) hl (by rw [hrec]; exact hps.symm)
      rw [hrec] at hy
      refine ⟨fn, _, assign, body, hy, roundIn_of_wpIn hfn (hassign _ x W _ ⟨_, run_beginRound hl (by rw [hrec]), ?_⟩)⟩
      have hl2 : (W.putObj (w.heap.size + 1) (.loop { rec .ready none with state := .busy })).heap[w.heap.size + 1]? = some (.loop { rec .ready none with state := .busy }) := World.putObj_heap_same hlt
      have hk2 : (W.putObj (w.heap.size + 1) (.loop { rec .ready none with state := .busy })).heap[w.heap.size]? = some (.deferred (some [])) := (World.putObj_heap_other (by omega)).trans hk
      have hw2 := hKb W _ (.loop { rec .ready none with state := .busy }) _ (by omega) hl rfl rfl
      refine wpIn_mono (hbody _ pre x _ (hI.putObj _ hi (by omega) hl rfl) hlen) ?_
      have fin : ∀ (jump : Option Code) (W3 : World), KeepsFrom w.heap.size (W.putObj (w.heap.size + 1) (.loop { rec .ready none with state := .busy })) W3 →
          (Instr.endRound (w.heap.size + 1) jump).run Tryd.prog W3 = .ok (.bool jump.isNone) (W3.putObj (w.heap.size + 1) (.loop (rec (if jump.isNone then .ready else .done) jump))) ∧
          W3.heap[w.heap.size + 1]? = some (.loop { rec .ready none with state := .busy }) ∧
          (W3.putObj (w.heap.size + 1) (.loop (rec (if jump.isNone then .ready else .done) jump))).heap[w.heap.size + 1]? = some (.loop (rec (if jump.isNone then .ready else .done) jump)) ∧
          (W3.putObj (w.heap.size + 1) (.loop (rec (if jump.isNone then .ready else .done) jump))).heap[w.heap.size]? = some (.deferred (some [])) := fun jump W3 hk3 => by
        have hl3 := hk3.same _ _ (by omega) hl2 rfl
        have := run_endRound (P := Tryd.prog) jump hl3
        rw [hrec] at this ⊢
        exact ⟨this, by rw [hrec] at hl3; exact hl3, World.putObj_heap_same (Array.getElem?_eq_some_iff.1 hl3).1, (World.putObj_heap_other (by omega)).trans (hk3.same _ _ (Nat.le_refl _) hk2 rfl)⟩
      rintro e a3 W3 hp
      cases e with
      | normal =>
        obtain ⟨hk3, hkp3, hi3⟩ := hp
        obtain ⟨hr, hl3, hl4, hk4⟩ := fin none W3 hk3
        have hw4 := hKb W3 _ (.loop (rec .ready none)) _ (by omega) hl3 rfl rfl
        exact ⟨_, _, hr, .inl ⟨rfl, ⟨hI.putObj _ hi3 (by omega) hl3 rfl, hl4, hk4⟩, (hw2.1.trans hkp3.1).trans hw4.1, fun v hv => hw4.2 v (hkp3.2 v (hw2.2 v hv))⟩⟩
      | ret =>
        obtain ⟨hk3, hi3⟩ := hp
        obtain ⟨hr, hl3, hl4, hk4⟩ := fin (some .ret) W3 hk3
        exact ⟨_, _, hr, .inr ⟨rfl, .ret, (hIx _).putObj _ hi3 (by omega) hl3 rfl, hl4, hk4⟩⟩
      | exit id =>
        obtain ⟨hk3, hi3⟩ := hp
        obtain ⟨hr, hl3, hl4, hk4⟩ := fin (some (.exit id)) W3 hk3
        exact ⟨_, _, hr, .inr ⟨rfl, .exit id, (hIx _).putObj _ hi3 (by omega) hl3 rfl, hl4, hk4⟩⟩
      | goto t =>
        obtain ⟨hk3, hi3⟩ := hp
        obtain ⟨hr, hl3, hl4, hk4⟩ := fin (some (.goto t)) W3 hk3
        exact ⟨_, _, hr, .inr ⟨rfl, .goto t, (hIx _).putObj _ hi3 (by omega) hl3 rfl, hl4, hk4⟩⟩
      | panic ch => exact hp.elim
      | outgrown => exact hp.elim
    · rintro e W2 ⟨⟨v, rfl⟩, (⟨xs, rfl, hi, hl, hk⟩ | ⟨pre, hSp, c, hi, hl, hk⟩)⟩
      · exact ⟨none, _, by have := run_endLoop (P := Tryd.prog) hl (by rw [hrec]; simp); rw [hrec] at this; exact this, hdone _ _ (Nat.le_refl _) (hI.putObj _ hi (by omega) hl rfl) ((World.putObj_heap_other (by omega)).trans hk)⟩
      · exact ⟨some c, _, by have := run_endLoop (P := Tryd.prog) hl (by rw [hrec]; simp); rw [hrec] at this; exact this, hstop _ c pre _ (Nat.le_refl _) hSp ((hIx c).putObj _ hi (by omega) hl rfl) ((World.putObj_heap_other (by omega)).trans hk)⟩

theorem each_in (n : Nat) (A0 : Option Addr) (l c : Nat) (w : World) :
    CallsIn Fence.wide n Tryd.prog 67 #[.slice A0 l c] w fun e w' => e = .returned (.func (.func 70) #[] #[.pointer (some ⟨w.heap.size, 0, none⟩)]) ∧ w' = w.alloc (.cells #[.slice A0 l c] 26) := by
  refine callsIn_of_wp Tryd.func67 rfl trivial ?_ rfl
  simp only [Tryd.ntmps67, List.size_toArray, List.length_cons, List.length_nil, Nat.reduceAdd, Nat.reduceSub, Array.replicate_succ, Array.replicate_zero, List.push_toArray, List.append_toArray, List.nil_append, List.cons_append]
  gi_wp2
  go_ret
  exact ⟨rfl, rfl⟩
def vari_All.T9 : Bool × List (List Nat × List Nat) := (true, [([], []), ([], []), ([0, 0], [0]), ([1, 2, 0, 1, 2], [1])])
def Exit.noPanic_ (Q : Exit → Act → World → Prop) : Exit → Act → World → Prop
  | .panic _, _, _ => False
  | e, a, w => Q e a w
theorem Exit.of_noPanic_ (Q : Exit → Act → World → Prop) : ∀ e a w, Exit.noPanic_ Q e a w → Q e a w := by
  intro e a w h
  cases e <;> first | exact h | exact False.elim h
theorem vari_All.tab9 : rtab .any (opsOf Tryd.f61 9) = vari_All.T9 := by kernel_rfl
theorem vari_All.bits9 : waitsOk vari_All.T9.2 [0, 0, 1, 7] = true := by kernel_rfl
set_option maxHeartbeats 4000000 in
theorem vari_All.calls (k : Nat) (A0 : Option Addr) (c0 : Nat) (l0 : List Int) (r1 : List Int) (r2 : Bool) (w : World) (hr0 : Kd.C (Kd.int .u8) w A0 l0.length l0) (hc0 : l0.length ≤ c0) (h : vari_All.f k l0 = some (r1, r2)) :
    Calls Tryd.prog 61 #[.slice A0 l0.length c0] w fun e w' => ∃ v0_ : Value, e = .returned (.tuple #[v0_, .bool r2]) ∧ Kd.R (Kd.int .u64) 52 w' w.heap.size (fun _ => True) v0_ r1 ∧ Below w.heap.size w w' := by
  obtain ⟨ys, he, h⟩ := Option.bind_eq_some_iff.mp h
  by_cases hlen : ys.length < 17592186044416
  case neg => rw [if_neg hlen] at h; exact absurd h (by simp)
  rw [if_pos hlen] at h
  have HR := Option.some.inj h
  clear h
  obtain ⟨i0, hi, hz0, hz1, hz2⟩ := info_parts each_info22
  refine (callsIn_wide (n := 6)).1 ?_
  refine callsIn_of_wp_marks Tryd.func61 rfl trivial ?_ rfl
  simp only [Tryd.ntmps61, List.size_toArray, List.length_cons, List.length_nil, Nat.reduceAdd, Nat.reduceSub, Array.replicate_succ, Array.replicate_zero, List.push_toArray, List.append_toArray, List.nil_append, List.cons_append]
  gi_wp2_with (refine ⟨trivial, ?_⟩; gi_at_call 67; refine (each_in _ _ _ _ _).mono ?_; rintro e w' ⟨rfl, rfl⟩)
  rw [wpIn_wide]
  refine wp_scope_straight ?_
  rw [← wpIn_wide (n := 6)]
  gi_wp2_with (refine ⟨trivial, ?_⟩; gi_at_call 67; refine (each_in _ _ _ _ _).mono ?_; rintro e w' ⟨rfl, rfl⟩)
  refine wpIn_label ?_
  simp only [Exit.then]
  go_at_K
  gi_wp2_with (refine ⟨trivial, ?_⟩; gi_at_call 67; refine (each_in _ _ _ _ _).mono ?_; rintro e w' ⟨rfl, rfl⟩)
  have bO := ((Boxed.new w 73 (.slice none 0 0)).alloc (.cells #[.bool true] 4)).alloc (.cells #[.slice A0 l0.length c0] 26)
  have bF := (Boxed.new (w.alloc (.cells #[.slice none 0 0] 73)) 4 (.bool true)).alloc (.cells #[.slice A0 l0.length c0] 26)
  have bN := Boxed.new ((w.alloc (.cells #[.slice none 0 0] 73)).alloc (.cells #[.bool true] 4)) 26 (.slice A0 l0.length c0)
  simp only [World.size_alloc] at bF bN
  have HB0 : Below w.heap.size w (((w.alloc (.cells #[.slice none 0 0] 73)).alloc (.cells #[.bool true] 4)).alloc (.cells #[.slice A0 l0.length c0] 26)) := (((Below.refl _ w).alloc (Nat.le_refl _) _).alloc (by simp) _).alloc (by simp; omega) _
  refine all_range (w0 := w) (by omega) (by omega) (w.heap.size + 2) (by simp) (by omega) rfl rfl k A0 c0 l0 ys hr0 hc0 he bN HB0
    (fun pre W => (∃ v, Boxed W w.heap.size 73 v ∧ W.ownsRow w.heap.size 52 1 v pre.length (pre.map (fun x => Value.int .u64 x.1)) ∧ True) ∧ Boxed W (w.heap.size + 1) 4 (.bool true) ∧ (∃ u, Boxed W (w.heap.size + 2) 26 u) ∧ (∀ x ∈ pre, x.2 = true) ∧ Below w.heap.size w W)
    (fun c pre W => c = .exit 0 ∧ Boxed W w.heap.size 73 (.slice none 0 0) ∧ Boxed W (w.heap.size + 1) 4 (.bool false) ∧ (∃ x ∈ pre, x.2 = false) ∧ Below w.heap.size w W)
    ?hI ?hIx ?hId ?hIc ?h0
    (fun x => { tmps := #[.slice A0 l0.length c0, undef, .slice none 0 0, .bool false, .pointer (some ⟨w.heap.size, 0, none⟩), .pointer (some ⟨w.heap.size + 1, 0, none⟩), .int .u64 x.1, .bool x.2, .slice A0 l0.length c0, .func (.func 70) #[] #[.pointer (some ⟨w.heap.size + 2, 0, none⟩)], .int .u64 x.1, .bool x.2, undef, undef, undef, undef, undef, undef, undef, undef], defers := [] }) ?assign ?body ?done ?stop
  case hI =>
    refine OwnFrom.and (Own.from (holdsRow_own w.heap.size w.heap.size 73 52 1 (fun pre : List (Int × Bool) => pre.length) (fun pre => pre.map (fun x => Value.int .u64 x.1)) (fun _ _ => True)) _) (OwnFrom.and (Own.from (boxed_own _ _ _) _) (OwnFrom.and (Own.from ?_ _) (OwnFrom.and (ownFrom_pure _ _) (ownFrom_below (Nat.le_refl _) (by simp; omega)))))
    rintro s A B row ⟨u, hu⟩ hg hr
    exact ⟨u, boxed_own (w.heap.size + 2) 26 (fun _ : Unit => u) () A B row hu hg hr⟩
  case hIx =>
    intro c
    exact OwnFrom.and (ownFrom_pure _ _) (OwnFrom.and (Own.from (boxed_own _ _ _) _) (OwnFrom.and (Own.from (boxed_own _ _ _) _) (OwnFrom.and (ownFrom_pure _ _) (ownFrom_below (Nat.le_refl _) (by simp; omega)))))
  case hId =>
    rintro s A B ⟨⟨v, h1, h2, _⟩, h3, ⟨u, h4⟩, h5, h6⟩ hd
    exact ⟨⟨v, boxed_drawn h1 hd, own_move h2 (fun k _ => by obtain ⟨m, rfl⟩ := hd.out; rfl), trivial⟩, boxed_drawn h3 hd, ⟨u, boxed_drawn h4 hd⟩, h5, h6.trans (hd.below.mono h6.size)⟩
  case hIc =>
    rintro s A z ⟨⟨v, h1, h2, _⟩, h3, ⟨u, h4⟩, h5, h6⟩
    exact ⟨⟨v, h1.other (by omega) z, h2.kept (grownBy_setCell' A _ z) (.inr (h4.not_row (by decide) h2).symm), trivial⟩, h3.other (by omega) z, ⟨z, h4.set z⟩, h5, h6.setCell (p := ⟨w.heap.size + 2, 0, none⟩) (by show _ ≤ w.heap.size + 2; omega) z⟩
  case h0 => exact ⟨⟨_, bO, World.ownsRow_nil _ _ _ _, trivial⟩, bF, ⟨_, bN⟩, by simp, HB0⟩
  case assign =>
    intro l x W K hK
    gi_wp2
    exact hK
  case body =>
    rintro l pre ⟨x1, x2⟩ W ⟨⟨v, hv, hrow, _⟩, hF, ⟨u, hU⟩, hall, hB⟩ hlt
    have hml : pre.length + 1 ≤ maxLen := by simp only [maxLen]; omega
    have hc := hv.cell
    have hcf := hv.frozen
    have hc2 := hF.cell
    have hcf2 := hF.frozen
    cases x2 with
    | true =>
      gi_wp2_with (gi_at_builtin; refine wpListIn_append_own _ rfl _ _ 73 rfl w.heap.size 52 i0 (.int .u64 0) 1 8 Tryd.underlying73 hi hz0 hz1 hz2 rfl (by decide) _ _ _ rfl (hrow.alloc _) ⟨W.heap.size, 0, none⟩ 1 1 [.int .u64 x1] rfl rfl (cell_one_new _ _ _) (by simp [Value.oneCell']) hml (by omega) (by have := hB.size; simp; omega) ?_; intro v' w1 hown' hgrow _; obtain ⟨g', cap', rfl⟩ := ownsRow_succ hown'; obtain ⟨hv1, hv2, hr2, hk2, hb2⟩ := hv.appended (by decide) hrow hB.size (Nat.le_refl _) hown' hgrow; have hc1 := hv1.cell; have hf1 := hv1.frozen)
      have hF1 := (hF.alloc _).kept hgrow (hF.not_row (by decide) hrow)
      have hU1 := fun z (hz : Boxed W (w.heap.size + 2) 26 z) => (hz.alloc _).kept hgrow (hz.not_row (by decide) hrow)
      exact ⟨hk2.from _, ⟨hb2, fun z hz => (hU1 z hz).other (by omega) _⟩, ⟨_, hv2, by simpa using hr2, trivial⟩, hF1.other (by omega) _, ⟨u, (hU1 u hU).other (by omega) _⟩, fun y hy => (List.mem_append.mp hy).elim (hall y) (fun h => by rw [List.mem_singleton.mp h]), hB.trans hb2⟩
    | false =>
      have hF1 := hF.other (B' := w.heap.size) (by omega) (.slice none 0 0)
      have hc3 := hF1.cell
      have hcf3 := hF1.frozen
      gi_wp2
      exact ⟨((KeepsOthers.setCell _ _ _).trans (KeepsOthers.setCell _ _ _)).from _, rfl, (hv.set _).other (by omega) _, hF1.set _, ⟨(x1, false), by simp, rfl⟩, (hB.setCell (p := ⟨w.heap.size, 0, none⟩) (Nat.le_refl _) _).setCell (p := ⟨w.heap.size + 1, 0, none⟩) (by show _ ≤ w.heap.size + 1; omega) _⟩
  case done =>
    rintro D W hD ⟨⟨v, hv, hrow, _⟩, hF, ⟨u, hU⟩, hall, hB⟩ hK
    have hc := hv.cell
    have hc2 := hF.cell
    have hA : ys.all (fun x => x.2) = true := by simpa using hall
    rw [if_pos hA] at HR
    simp only [Prod.mk.injEq] at HR
    obtain ⟨rfl, rfl⟩ := HR
    gi_wp2
    refine wpIn_mono ?_ (Exit.of_noPanic_ _)
    rw [wpIn_wide]
    refine start_ (n := 4) (S := fun w' => w'.cell? ⟨w.heap.size, 0, none⟩ = some v ∧ w'.cell? ⟨w.heap.size + 1, 0, none⟩ = some (.bool true)) (ds := []) #[false, false, false, false] (by kernel_rfl) rfl rfl ⟨hc, hc2⟩ (fun hHeld => ?_)
    refine with_tabW vari_All.tab9 vari_All.bits9 (fun HT_ HW_ => ?_)
    refine take_ (i := 0) (N := some 18) (v := v) (a' := ?_) #[true, false, false, false] rfl rfl (take_ofW HT_.out HW_.out (by kernel_rfl)) (fun _ _ _ h => h) (Or.inl ⟨by rfl, ?_⟩) ⟨hc, hc2⟩ ?_ ?_
    · rintro w' ⟨hS1, hS2⟩
      go_simp
    rotate_left
    · simp only [Act.put, List.setIfInBounds_toArray, List.set_cons_zero, List.set_cons_succ]
      rfl
    refine take_ (i := 1) (N := some 19) (v := .bool true) (a' := ?_) #[true, true, false, false] rfl rfl (take_ofW HT_.out HW_.out (by kernel_rfl)) (fun _ _ _ h => h) (Or.inl ⟨by rfl, ?_⟩) ⟨hc, hc2⟩ ?_ ?_
    · rintro w' ⟨hS1, hS2⟩
      go_simp
    rotate_left
    · simp only [Act.put, List.setIfInBounds_toArray, List.set_cons_zero, List.set_cons_succ]
      rfl
    refine pure_ (i := 2) (N := some 2) (v := ?_) (a' := ?_) #[true, true, true, false] rfl rfl (any_of HT_.out (by kernel_rfl)) (fun _ _ _ h => h) (Or.inl ⟨by rfl, ?_⟩) ?_ ?_
    rotate_left
    · intro w'
      go_simp
      with_reducible rfl
    rotate_left
    · simp only [Act.put, List.setIfInBounds_toArray, List.set_cons_zero, List.set_cons_succ]
      rfl
    refine pure_ (i := 3) (N := some 3) (v := ?_) (a' := ?_) #[true, true, true, true] rfl rfl (any_of HT_.out (by kernel_rfl)) (fun _ _ _ h => h) (Or.inl ⟨by rfl, ?_⟩) ?_ ?_
    rotate_left
    · intro w'
      go_simp
      with_reducible rfl
    rotate_left
    · simp only [Act.put, List.setIfInBounds_toArray, List.set_cons_zero, List.set_cons_succ]
      rfl
    refine done_ (done_of HT_.out (by kernel_rfl)) ?_
    simp only [Exit.noPanic_, Exit.then]
    go_at_K
    gi_wp2
    simp only [Exit.noGoto]
    refine ⟨by simp, .inl ⟨_, _, rfl, run_takeDeferred (w := W.drew) hK, ?_⟩⟩
    have hBD : Below w.heap.size w (W.drew.putObj D (.deferred none)) := (below_drew1 hB).trans (belowK_b (w := w) (Nat.le_refl _) W.drew D _ _ (by simp at hD; omega) hK rfl rfl)
    exact ⟨_, results_tmp2 rfl _ _ _, v, rfl, Kd.R_of_own (by have h_ := ownsRow_putObj (W := W.drew) hrow (.deferred none) hK rfl; rw [List.length_map, show encs (Value.int .u64) (ys.map fun x => x.1) = ys.map fun x => Value.int .u64 x.1 from by simp [encs]]; exact h_) (fun _ _ => trivial), hBD⟩
  case stop =>
    rintro D c pre W hD hpre ⟨rfl, hv, hF, ⟨x, hx, hx2⟩, hB⟩ hK
    have hc := hv.cell
    have hc2 := hF.cell
    have hA : ¬ ys.all (fun x => x.2) = true := by
      intro h
      have := (List.all_eq_true.mp h) x (hpre.subset hx)
      rw [hx2] at this; exact absurd this (by simp)
    rw [if_neg hA] at HR
    simp only [Prod.mk.injEq] at HR
    obtain ⟨rfl, rfl⟩ := HR
    gi_wp2
    refine wpIn_mono ?_ (Exit.of_noPanic_ _)
    rw [wpIn_wide]
    refine start_ (n := 4) (S := fun w' => w'.cell? ⟨w.heap.size, 0, none⟩ = some (.slice none 0 0) ∧ w'.cell? ⟨w.heap.size + 1, 0, none⟩ = some (.bool false)) (ds := []) #[false, false, false, false] (by kernel_rfl) rfl rfl ⟨hc, hc2⟩ (fun hHeld => ?_)
    refine with_tabW vari_All.tab9 vari_All.bits9 (fun HT_ HW_ => ?_)
    refine take_ (i := 0) (N := some 18) (v := .slice none 0 0) (a' := ?_) #[true, false, false, false] rfl rfl (take_ofW HT_.out HW_.out (by kernel_rfl)) (fun _ _ _ h => h) (Or.inl ⟨by rfl, ?_⟩) ⟨hc, hc2⟩ ?_ ?_
    · rintro w' ⟨hS1, hS2⟩
      go_simp
    rotate_left
    · simp only [Act.put, List.setIfInBounds_toArray, List.set_cons_zero, List.set_cons_succ]
      rfl
    refine take_ (i := 1) (N := some 19) (v := .bool false) (a' := ?_) #[true, true, false, false] rfl rfl (take_ofW HT_.out HW_.out (by kernel_rfl)) (fun _ _ _ h => h) (Or.inl ⟨by rfl, ?_⟩) ⟨hc, hc2⟩ ?_ ?_
    · rintro w' ⟨hS1, hS2⟩
      go_simp
    rotate_left
    · simp only [Act.put, List.setIfInBounds_toArray, List.set_cons_zero, List.set_cons_succ]
      rfl
    refine pure_ (i := 2) (N := some 2) (v := ?_) (a' := ?_) #[true, true, true, false] rfl rfl (any_of HT_.out (by kernel_rfl)) (fun _ _ _ h => h) (Or.inl ⟨by rfl, ?_⟩) ?_ ?_
    rotate_left
    · intro w'
      go_simp
      with_reducible rfl
    rotate_left
    · simp only [Act.put, List.setIfInBounds_toArray, List.set_cons_zero, List.set_cons_succ]
      rfl
    refine pure_ (i := 3) (N := some 3) (v := ?_) (a' := ?_) #[true, true, true, true] rfl rfl (any_of HT_.out (by kernel_rfl)) (fun _ _ _ h => h) (Or.inl ⟨by rfl, ?_⟩) ?_ ?_
    rotate_left
    · intro w'
      go_simp
      with_reducible rfl
    rotate_left
    · simp only [Act.put, List.setIfInBounds_toArray, List.set_cons_zero, List.set_cons_succ]
      rfl
    refine done_ (done_of HT_.out (by kernel_rfl)) ?_
    simp only [Exit.noPanic_, Exit.then]
    go_at_K
    gi_wp2
    simp only [Exit.noGoto]
    refine ⟨by simp, .inl ⟨_, _, rfl, run_takeDeferred (w := W.drew) hK, ?_⟩⟩
    have hBD : Below w.heap.size w (W.drew.putObj D (.deferred none)) := (below_drew1 hB).trans (belowK_b (w := w) (Nat.le_refl _) W.drew D _ _ (by simp at hD; omega) hK rfl rfl)
    exact ⟨_, results_tmp2 rfl _ _ _, _, rfl, Kd.R_nil _ _ _ _ _, hBD⟩
end

-- NOT PRINTED: function 47 (flow_reader_head)

-- NOT PRINTED: function 48 (flow_reader_part)

-- NOT PRINTED: function 49 (flow_reader_tail)

/-! ### flow_kind: function 50 -/
def flow_kind.f (a0 : Int) (a1 : Int) : Option (Int) := if a0 = 0 then (some 1) else (if a0 = (wrap64 (a1 - 1)) then (some 3) else (some 2))
set_option maxHeartbeats 8000000 in
set_option maxRecDepth 100000 in
theorem flow_kind.calls (a0 : Int) (a1 : Int) (r : Int) (w : World) (h : flow_kind.f a0 a1 = some r) :
    Calls Tryd.prog 50 #[.int .i64 a0, .int .i64 a1] w fun e w' => e = .returned (.int .i64 r) ∧ Drawn0 w w' := by
  have H : (if a0 = 0 then (some 1) else (if a0 = (wrap64 (a1 - 1)) then (some 3) else (some 2))) = some r := h
  clear h
  by_cases c3 : a0 = 0
  · rw [if_pos c3] at H
    have c3b0 : (a0 == 0) = true := beq_iff_eq.mpr c3
    have c3b1 : (a0 != 0) = false := bne_eq_false_iff_eq.mpr c3
    clear c3
    obtain rfl := Option.some.inj H
    go_enter Tryd.func50, Tryd.ntmps50
    go_wp2
    go_ret
    exact ⟨by first | rfl | (simp; done) | (simp [*]; done), by repeat (first | exact Drawn0.refl _ | apply Drawn0.step)⟩
  · rw [if_neg c3] at H
    have c3b0 : (a0 == 0) = false := beq_eq_false_iff_ne.mpr c3
    have c3b1 : (a0 != 0) = true := bne_iff_ne.mpr c3
    by_cases c4 : a0 = (wrap64 (a1 - 1))
    · rw [if_pos c4] at H
      have c4b0 : (a0 == (wrap64 (a1 - 1))) = true := beq_iff_eq.mpr c4
      have c4b1 : (a0 != (wrap64 (a1 - 1))) = false := bne_eq_false_iff_eq.mpr c4
      clear c4
      obtain rfl := Option.some.inj H
      go_enter Tryd.func50, Tryd.ntmps50
      go_wp2
      go_ret
      exact ⟨by first | rfl | (simp; done) | (simp [*]; done), by repeat (first | exact Drawn0.refl _ | apply Drawn0.step)⟩
    · rw [if_neg c4] at H
      have c4b0 : (a0 == (wrap64 (a1 - 1))) = false := beq_eq_false_iff_ne.mpr c4
      have c4b1 : (a0 != (wrap64 (a1 - 1))) = true := bne_iff_ne.mpr c4
      obtain rfl := Option.some.inj H
      go_enter Tryd.func50, Tryd.ntmps50
      go_wp2
      go_ret
      exact ⟨by first | rfl | (simp; done) | (simp [*]; done), by repeat (first | exact Drawn0.refl _ | apply Drawn0.step)⟩

end Go.Proofs.YtknkncdlcoglpaaDoor.PFr
