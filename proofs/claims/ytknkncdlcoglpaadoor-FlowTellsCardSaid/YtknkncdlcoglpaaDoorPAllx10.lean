-- Written by wip/tools/myprint.py, a program of the prover's own, over the kit's print; the contracts named 'HAND' there are typed by hand.
import Derived.Test.YtknkncdlcoglpaaDoorPAllx0
import Derived.Test.YtknkncdlcoglpaaDoorPAllx7
import Derived.Test.YtknkncdlcoglpaaDoorPAllx9
namespace Go.Proofs.YtknkncdlcoglpaaDoor.PAll
open Go.RowKit Go.Proofs.YtknkncdlcoglpaaDoorW.PrintWords Go.Proofs.YtknkncdlcoglpaaDoorW.PrintLast Go.Proofs.YtknkncdlcoglpaaDoorW.PrintMore
attribute [local go_sem] max2_int min2_int max_two min_two max_three min_three max_four min_four   -- for this text's walks alone
set_option linter.unusedVariables false
set_option linter.unusedSimpArgs false

/-! ### foliateref03_All: function 31 -/
def foliateref03_All.l0 : Nat → List Int → List (S50) → Int → Option ((List (S50)) × Int)
  | 0, _, _, _ => none
  | k + 1, x0, x4, x5 => if x5 < (x0.length : Int) then (if 0 ≤ x5 then (if x5 ≤ (x0.length : Int) then ((foliateref03_Get.f k (x0.drop (x5 : Int).toNat)).bind fun bt333 => (if bt333.2.2.2 = 0 then (if x4.length < 4398046511104 then (foliateref03_All.l0 k x0 (x4 ++ [(⟨bt333.1, bt333.2.1⟩ : S50)]) (wrap64 (x5 + bt333.2.2.1))) else (none)) else (some (([] : List (S50)), bt333.2.2.2)))) else (none)) else (none)) else (some (x4, 0))
def foliateref03_All.f (k : Nat) (l0 : List Int) : Option ((List (S50)) × Int) := foliateref03_All.l0 k l0 ([] : List (S50)) 0
set_option maxHeartbeats 8000000 in
set_option maxRecDepth 100000 in
theorem foliateref03_All.calls (k : Nat) (A0 : Option Addr) (c0 : Nat) (l0 : List Int) (r1 : List (S50)) (r2 : Int) (w : World) (hr0 : Kd.C (Kd.int .u8) w A0 l0.length l0) (hc0 : l0.length ≤ c0) (h : foliateref03_All.f k l0 = some (r1, r2)) :
    Calls Tryd.prog 31 #[.slice A0 l0.length c0] w fun e w' => ∃ v0_ : Value, e = .returned (.tuple #[v0_, .int .i64 r2]) ∧ Kd.S k50 50 w' w.heap.size (fun _ => True) v0_ r1 ∧ Below w.heap.size w w' := by
  have hu50 := Tryd.underlying50
  have HR0 := Aside0.mk hr0
  have HC0 := Aside0.mk hc0
  clear hr0 hc0
  have HB := Aside0.mk (Below.refl w.heap.size w)
  have H : (foliateref03_All.l0 k l0 ([] : List (S50)) 0) = some (r1, r2) := h
  clear h
  have H' := Aside0.mk H
  clear H
  go_enter Tryd.func31, Tryd.ntmps31
  go_wp2
  go_loopg [4, 5] k (fun kq v4 v5 w' => ∃ (x4_1 : List (S50)) (x5_1 : Int), v5 = .int .i64 x5_1 ∧ Aside0 (foliateref03_All.l0 kq l0 x4_1 x5_1 = some (r1, r2)) ∧ Aside0 (kq ≤ k) ∧ Aside0 (Kd.S k50 50 w' w.heap.size (fun _ => True) v4 x4_1) ∧ Aside0 (Below w.heap.size w w'))
  case atStart => exact ⟨(([] : List (S50))), (0), (by first | rfl | (simp; done) | (simp [*]; done)), H', ⟨Nat.le_refl _⟩, ⟨by first | exact Kd.S_nil _ _ _ _ _ | exact Kd.N_nil _ _ _ _ _ | exact Kd.V_nil _ _ _ _ _ | exact Kd.Q_nil _ _ _ _ _ | exact Kd.R_nil _ _ _ _ _⟩, ⟨by repeat (first | (with_reducible first | exact HB.out | apply below_alloc | apply pw_below_drewN | apply below_drew1) | exact HB.out)⟩⟩
  case round =>
    clear H'
    obtain ⟨x4_1, x5_1, rfl, HA, HK1, HO_4, HB⟩ := hrel
    cases gk with
    | zero => exact absurd HA.out (by simp [foliateref03_All.l0])
    | succ k1 =>
      have H := HA.out
      clear HA
      simp only [foliateref03_All.l0] at H
      by_cases c2 : x5_1 < (l0.length : Int)
      · rw [if_pos c2] at H
        have c2b0 : decide (x5_1 < (l0.length : Int)) = true := decide_eq_true c2
        clear c2
        by_cases c3 : 0 ≤ x5_1
        · rw [if_pos c3] at H
          have c3b0 := eq_true c3
          have c3b1 : decide (0 ≤ x5_1) = true := decide_eq_true c3
          clear c3
          by_cases c4 : x5_1 ≤ (l0.length : Int)
          · rw [if_pos c4] at H
            have c4b0 := eq_true c4
            have c4b1 : decide (x5_1 ≤ (l0.length : Int)) = true := decide_eq_true c4
            clear c4
            replace H := Option.bind_eq_some_iff.mp H
            obtain ⟨⟨t333, t334, t337, t338⟩, A50, H⟩ := H
            replace H : (if t338 = 0 then (if x4_1.length < 4398046511104 then (foliateref03_All.l0 k1 l0 (x4_1 ++ [(⟨t333, t334⟩ : S50)]) (wrap64 (x5_1 + t337))) else (none)) else (some (([] : List (S50)), t338))) = some (r1, r2) := H
            have A5 := Aside0.mk A50
            clear A50
            by_cases c6 : t338 = 0
            · rw [if_pos c6] at H
              have c6b0 : (t338 == 0) = true := beq_iff_eq.mpr c6
              have c6b1 : (t338 != 0) = false := bne_eq_false_iff_eq.mpr c6
              clear c6
              by_cases c7 : x4_1.length < 4398046511104
              · rw [if_pos c7] at H
                have LMc7 := Aside0.mk c7
                clear c7
                obtain ⟨y340, hy340⟩ : ∃ y_ : List (S50), y_ = (x4_1 ++ [(⟨t333, t334⟩ : S50)]) := ⟨_, rfl⟩
                replace H : (foliateref03_All.l0 k1 l0 y340 (wrap64 (x5_1 + t337))) = some (r1, r2) := by first | (rw [hy340]; with_reducible exact H) | (have H2_ := (Option.bind_some _ _).symm.trans H; rw [hy340]; with_reducible exact H2_) | (have H2_ := (Option.bind_some _ _).symm.trans H; with_reducible exact H2_) | with_reducible exact H | (rw [hy340]; exact H) | exact H
                have Ny340 := Aside0.mk hy340
                clear hy340
                have H' := Aside0.mk H
                clear H
                obtain ⟨i08, hi08, _, hsz8, _⟩ := info_parts info5
                obtain ⟨A8, hcut8, hA8, hC8⟩ := print_drop_of (P := Tryd.prog) (Value.int .u8) 0 26 5 .i64 Tryd.underlying26 hi08 hsz8 A0 c0 l0 x5_1 (of_decide_eq_true (by first | (with_reducible assumption) | assumption)) (of_decide_eq_true (by first | (with_reducible assumption) | assumption)) HC0.out
                have HR332 := Aside0.mk (Kd.C_of_reads (h1 := fun _ => rfl) (hA8 _ (Kd.reads_of_C HR0.out)))
                have HC332 := Aside0.mk hC8
                clear hA8 hC8 hi08 hsz8
                go_wp2_with (first | ((with_reducible refine gate_callee (f := 51) rfl ?_); refine goesL_ (some 17) rfl rfl Tryd.func51 (by kernel_rfl) rfl #[.slice A8 (l0.drop (x5_1 : Int).toNat).length (c0 - x5_1.toNat)] rfl (by (try simp only [List.map_toArray, List.map_cons, List.map_nil]); first | done | (rw [show (l0.drop (x5_1 : Int).toNat).length = (l0.length - x5_1.toNat) from List.length_drop] <;> rfl) | rfl | (simp only [List.length_drop, List.length_take]; rfl)) ?_; (with_reducible refine (foliateref03_Get.calls k1 _ _ (l0.drop (x5_1 : Int).toNat) t333 t334 t337 t338 _ ?side1 ?side2 A5.out).mono ?_); (case side1 => repeat (first | exact (Kd.C_below HR332.out HB.out) | (with_reducible refine Kd.C_alloc ?_ _) | (with_reducible refine Kd.C_drewN ?_ _) | (with_reducible refine Kd.C_drew ?_))); (case side2 => exact HC332.out); rintro e w9 ⟨v335, rfl, ho0, hb⟩; refine ⟨_, rfl, ?_⟩; have n0_ := Aside0.mk (Kd.S_elder' (by (with_reducible repeat (first | apply Kd.S_alloc | apply Kd.S_drewN | apply Kd.S_drew)); exact HO_4.out) (Kd.R_base ho0) hb); have n1_ := Aside0.mk (Kd.R_lower ho0 (below_size (by repeat (first | (with_reducible first | exact HB.out | apply below_alloc | apply pw_below_drewN | apply below_drew1) | exact HB.out)))); have n2_ := Aside0.mk (below_step (by repeat (first | (with_reducible first | exact HB.out | apply below_alloc | apply pw_below_drewN | apply below_drew1) | exact HB.out)) hb); clear HO_4; clear HB; have HO_4 := n0_; have HO336 := n1_; have HB := n2_; clear n0_ n1_ n2_; (try clear hb); (try clear hb2); (try clear hk); (try clear hi); (try clear ho0)) | ((with_reducible refine gate_dst (N := 6) rfl ?_); refine box_event ?hg (N := 6) ?hd (cs := #[.int .i64 0, .slice none 0 0]) (t := 50) ?hr ?_; (case hd => rfl); (case hg => rfl); (case hr => first | (go_simp; done) | (go_simp; rfl)); intro gb339 hg w10 hbox hb; have n0_ := Aside0.mk (Kd.S_below (Kd.S_elderB (by (with_reducible repeat (first | apply Kd.S_alloc | apply Kd.S_drewN | apply Kd.S_drew)); exact HO_4.out) gb339 (Nat.le_of_eq hg.symm)) hb); have n1_ := Aside0.mk (Kd.R_below (by (with_reducible repeat (first | apply Kd.R_alloc | apply Kd.R_drewN | apply Kd.R_drew)); exact HO336.out) hb); have n2_ := Aside0.mk (below_step (by repeat (first | (with_reducible first | exact HB.out | apply below_alloc | apply pw_below_drewN | apply below_drew1) | exact HB.out)) hb); have n3_ := Aside0.mk (hbox); have n4_ := Aside0.mk ((by rw [hg]; exact (below_size (by repeat (first | (with_reducible first | exact HB.out | apply below_alloc | apply pw_below_drewN | apply below_drew1) | exact HB.out))) : w.heap.size ≤ gb339)); have n5_ := Aside0.mk ((by rw [hg]; exact (below_size (by repeat (first | (with_reducible first | exact HB.out | apply below_alloc | apply pw_below_drewN | apply below_drew1) | exact HB.out))) : w.heap.size ≤ gb339)); clear HO_4; clear HO336; clear HB; have HO_4 := n0_; have HO336 := n1_; have HB := n2_; have BK339 := n3_; have GW339 := n4_; have GE339 := n5_; clear n0_ n1_ n2_ n3_ n4_ n5_; clear hb hbox hg; have hcz11_0 : w10.cell? ⟨gb339, 0, none⟩ = some (.int .i64 0) := (blk_cell BK339.out 0).trans rfl; have hcz11_1 : w10.cell? ⟨gb339, 1, none⟩ = some (.slice none 0 0) := (blk_cell BK339.out 1).trans rfl; have hfz11_0 := blk_frozen BK339.out 0; have hfz11_1 := blk_frozen BK339.out 1; obtain ⟨Ao12, co12, eo12⟩ := Kd.R_slice HO336.out; subst eo12) | ((with_reducible refine gate_store (t := 50) (p := 6) rfl ?_); refine store_event (t := 50) (p := 6) (v := ?vo_w13) (w1 := ((w10.setCell ⟨gb339, 0, none⟩ (.int .i64 t333)).setCell ⟨gb339, 1, none⟩ (.slice Ao12 t334.length co12))) ?hg ?ho ?hn ?hr ?_; (case ho => rfl); (case hg => rfl); (case hn => rfl); (case hr => first | (go_simp; done) | (go_simp; rfl)); intro w13 hw; have n0_ : Aside0 (Kd.S k50 50 w13 w.heap.size (fun k_ => some k_ ≠ (.slice Ao12 t334.length co12 : Value).ownBlock ∧ k_ ≠ gb339) u4 x4_1) := ⟨(by rw [hw]; exact (by (with_reducible repeat (first | apply Kd.S_alloc | apply Kd.S_drewN | apply Kd.S_drew)); exact Kd.S_mono (Kd.S_far (p := ⟨gb339, 1, none⟩) (Kd.S_far (p := ⟨gb339, 0, none⟩) (Kd.S_mono HO_4.out (fun k_ hk => (⟨hk, hk.2⟩ : _ ∧ k_ ≠ gb339))) (fun _ hk => hk.2) (.int .i64 t333)) (fun _ hk => hk.2) (.slice Ao12 t334.length co12)) (fun _ hk => ⟨hk.1.1.2, hk.1.2⟩)))⟩; have n1_ : Aside0 (Kd.R (Kd.int .u8) 5 w13 w.heap.size (fun _ => True) (.slice Ao12 t334.length co12) t334) := ⟨(by rw [hw]; exact (by (with_reducible repeat (first | apply Kd.R_alloc | apply Kd.R_drewN | apply Kd.R_drew)); exact Kd.R_mono (Kd.R_far (p := ⟨gb339, 1, none⟩) (Kd.R_far (p := ⟨gb339, 0, none⟩) (Kd.R_types HO336.out BK339.out (by decide)) (fun _ hk => hk.2) (.int .i64 t333)) (fun _ hk => hk.2) (.slice Ao12 t334.length co12)) (fun _ hk => trivial)))⟩; have n2_ : Aside0 (w13.heap[gb339]? = some (.cells #[.int .i64 t333, .slice Ao12 t334.length co12] 50 (0, 0))) := ⟨(by rw [hw]; exact (by (with_reducible repeat (first | refine blk_drewN ?_ _ | refine blk_drew ?_ | refine blk_alloc ?_ _)); refine blk_put (cs := #[.int .i64 t333, .slice none 0 0]) ?_ 1 _ rfl; (with_reducible repeat (first | refine blk_drewN ?_ _ | refine blk_drew ?_ | refine blk_alloc ?_ _)); refine blk_put (cs := #[.int .i64 0, .slice none 0 0]) ?_ 0 _ rfl; (with_reducible repeat (first | refine blk_drewN ?_ _ | refine blk_drew ?_ | refine blk_alloc ?_ _)); exact BK339.out))⟩; have n3_ : Aside0 (Below w.heap.size w w13) := ⟨(by rw [hw]; exact (by repeat (first | (with_reducible first | exact HB.out | apply below_alloc | apply pw_below_drewN | apply below_drew1 | refine below_set ?_ GE339.out) | exact HB.out)))⟩; clear hw; clear HO_4; clear HO336; clear BK339; clear HB; have HO_4 := n0_; have HO336 := n1_; have BK339 := n2_; have HB := n3_; clear n0_ n1_ n2_ n3_; have hcz14_0 : w13.cell? ⟨gb339, 0, none⟩ = some (.int .i64 t333) := (blk_cell BK339.out 0).trans rfl; have hcz14_1 : w13.cell? ⟨gb339, 1, none⟩ = some (.slice Ao12 t334.length co12) := (blk_cell BK339.out 1).trans rfl; have hfz14_0 := blk_frozen BK339.out 0; have hfz14_1 := blk_frozen BK339.out 1) | ((with_reducible refine gate_builtin (b := .append) (xs := #[.tmp 24, .tmp 26]) rfl ?_); at_builtin; refine Kd.S_append k50 (w0 := w) w.heap.size rfl (.tmp 24) (.tmp 26) 46 50 (.agg #[(.int .i64 0), (.slice none 0 0)]) 32 rfl Tryd.underlying46 info50 rfl (by decide) (by omega) u4 x4_1 (⟨t333, t334⟩ : S50) [.int .i64 t333, .slice Ao12 t334.length co12] (fun k_ => k_ ≠ gb339) (fun k_ => some k_ = (.slice Ao12 t334.length co12 : Value).ownBlock) rfl rfl ?aP (fun k_ hk_ => ((Kd.R_mono (ok' := fun k_ => ((fun k_ => k_ ≠ gb339)) k_ ∧ some k_ ≠ (u4 : Value).ownBlock) (Kd.R_types (Kd.R_apart' (HO336.out) (Kd.S_typed HO_4.out) (by decide)) BK339.out (by decide)) (fun k_ hk => ⟨hk.2, hk.1.2⟩))).1 k_ hk_.symm) ?aF ?aO ?aB ?aS ?aL ?_; (case aP => exact k50_mkM _ _ _ (⟨t333, t334⟩ : S50) (Kd.R_mono (Kd.R_tight rfl (Kd.R_mono (ok' := fun k_ => ((fun k_ => k_ ≠ gb339)) k_ ∧ some k_ ≠ (u4 : Value).ownBlock) (Kd.R_types (Kd.R_apart' (HO336.out) (Kd.S_typed HO_4.out) (by decide)) BK339.out (by decide)) (fun k_ hk => ⟨hk.2, hk.1.2⟩))) (fun _ h_ => h_))); (case aB => exact (by repeat (first | (with_reducible first | exact HB.out | apply below_alloc | apply pw_below_drewN | apply below_drew1 | refine below_set ?_ GE339.out) | exact HB.out))); (case aF => exact (fun k_ hk => Kd.freshB (g := gb339) (o := .cells #[.int .i64 t333, .slice Ao12 t334.length co12] 50 (0, 0)) (by (with_reducible repeat (first | refine blk_drewN ?_ _ | refine blk_drew ?_ | refine blk_alloc ?_ _)); exact BK339.out) k_ hk)); (case aO => exact (by (with_reducible repeat (first | apply Kd.S_alloc | apply Kd.S_drewN | apply Kd.S_drew)); exact Kd.S_mono HO_4.out (fun k_ hk => ⟨hk.2, fun e_ => hk.1 e_⟩))); (case aS => exact (below_size (by repeat (first | (with_reducible first | exact HB.out | apply below_alloc | apply pw_below_drewN | apply below_drew1 | refine below_set ?_ GE339.out) | exact HB.out)))); (case aL => have := LMc7.out; omega); intro v341 w15 ho hb hg hat; rw [← Ny340.out] at ho; have n0_ := Aside0.mk (blk_grown (g := gb339) (o := .cells #[.int .i64 t333, .slice Ao12 t334.length co12] 50 (0, 0)) (by (with_reducible repeat (first | refine blk_drewN ?_ _ | refine blk_drew ?_ | refine blk_alloc ?_ _)); exact BK339.out) hg (Kd.S_away HO_4.out (fun _ hk => hk.2))); have n1_ := Aside0.mk (hb); have n2_ := Aside0.mk (ho); clear BK339; clear HB; clear HO_4; clear HO336; have BK339 := n0_; have HB := n1_; have HO342 := n2_; clear n0_ n1_ n2_; clear ho hb hg hat))
                go_roundg k1
                case measure => have := HK1.out; omega
                case rel => exact ⟨(y340), (wrap64 (x5_1 + t337)), (by first | rfl | (simp; done) | (simp [*]; done)), H', ⟨by have := HK1.out; omega⟩, ⟨by (with_reducible repeat (first | apply Kd.S_alloc | apply Kd.S_drewN | apply Kd.S_drew)); exact Kd.S_mono HO342.out (fun _ hk => trivial)⟩, ⟨by repeat (first | (with_reducible first | exact HB.out | apply below_alloc | apply pw_below_drewN | apply below_drew1 | refine below_set ?_ GE339.out) | exact HB.out)⟩⟩
              · rw [if_neg c7] at H
                exact absurd H (by simp)
            · rw [if_neg c6] at H
              have c6b0 : (t338 == 0) = false := beq_eq_false_iff_ne.mpr c6
              have c6b1 : (t338 != 0) = true := bne_iff_ne.mpr c6
              simp only [Option.some.injEq, Prod.mk.injEq] at H
              obtain ⟨rfl, rfl⟩ := H
              obtain ⟨i016, hi016, _, hsz16, _⟩ := info_parts info5
              obtain ⟨A16, hcut16, hA16, hC16⟩ := print_drop_of (P := Tryd.prog) (Value.int .u8) 0 26 5 .i64 Tryd.underlying26 hi016 hsz16 A0 c0 l0 x5_1 (of_decide_eq_true (by first | (with_reducible assumption) | assumption)) (of_decide_eq_true (by first | (with_reducible assumption) | assumption)) HC0.out
              have HR332 := Aside0.mk (Kd.C_of_reads (h1 := fun _ => rfl) (hA16 _ (Kd.reads_of_C HR0.out)))
              have HC332 := Aside0.mk hC16
              clear hA16 hC16 hi016 hsz16
              go_wp2_with (first | ((with_reducible refine gate_callee (f := 51) rfl ?_); refine goesL_ (some 17) rfl rfl Tryd.func51 (by kernel_rfl) rfl #[.slice A16 (l0.drop (x5_1 : Int).toNat).length (c0 - x5_1.toNat)] rfl (by (try simp only [List.map_toArray, List.map_cons, List.map_nil]); first | done | (rw [show (l0.drop (x5_1 : Int).toNat).length = (l0.length - x5_1.toNat) from List.length_drop] <;> rfl) | rfl | (simp only [List.length_drop, List.length_take]; rfl)) ?_; (with_reducible refine (foliateref03_Get.calls k1 _ _ (l0.drop (x5_1 : Int).toNat) t333 t334 t337 t338 _ ?side1 ?side2 A5.out).mono ?_); (case side1 => repeat (first | exact (Kd.C_below HR332.out HB.out) | (with_reducible refine Kd.C_alloc ?_ _) | (with_reducible refine Kd.C_drewN ?_ _) | (with_reducible refine Kd.C_drew ?_))); (case side2 => exact HC332.out); rintro e w17 ⟨v335, rfl, ho0, hb⟩; refine ⟨_, rfl, ?_⟩; have n0_ := Aside0.mk (Kd.S_elder' (by (with_reducible repeat (first | apply Kd.S_alloc | apply Kd.S_drewN | apply Kd.S_drew)); exact HO_4.out) (Kd.R_base ho0) hb); have n1_ := Aside0.mk (Kd.R_lower ho0 (below_size (by repeat (first | (with_reducible first | exact HB.out | apply below_alloc | apply pw_below_drewN | apply below_drew1) | exact HB.out)))); have n2_ := Aside0.mk (below_step (by repeat (first | (with_reducible first | exact HB.out | apply below_alloc | apply pw_below_drewN | apply below_drew1) | exact HB.out)) hb); clear HO_4; clear HB; have HO_4 := n0_; have HO336 := n1_; have HB := n2_; clear n0_ n1_ n2_; (try clear hb); (try clear hb2); (try clear hk); (try clear hi); (try clear ho0)) | ((with_reducible refine gate_dst (N := 6) rfl ?_); refine box_event ?hg (N := 6) ?hd (cs := #[.int .i64 0, .slice none 0 0]) (t := 50) ?hr ?_; (case hd => rfl); (case hg => rfl); (case hr => first | (go_simp; done) | (go_simp; rfl)); intro gb339 hg w18 hbox hb; have n0_ := Aside0.mk (Kd.S_below (Kd.S_elderB (by (with_reducible repeat (first | apply Kd.S_alloc | apply Kd.S_drewN | apply Kd.S_drew)); exact HO_4.out) gb339 (Nat.le_of_eq hg.symm)) hb); have n1_ := Aside0.mk (Kd.R_below (by (with_reducible repeat (first | apply Kd.R_alloc | apply Kd.R_drewN | apply Kd.R_drew)); exact HO336.out) hb); have n2_ := Aside0.mk (below_step (by repeat (first | (with_reducible first | exact HB.out | apply below_alloc | apply pw_below_drewN | apply below_drew1) | exact HB.out)) hb); have n3_ := Aside0.mk (hbox); have n4_ := Aside0.mk ((by rw [hg]; exact (below_size (by repeat (first | (with_reducible first | exact HB.out | apply below_alloc | apply pw_below_drewN | apply below_drew1) | exact HB.out))) : w.heap.size ≤ gb339)); have n5_ := Aside0.mk ((by rw [hg]; exact (below_size (by repeat (first | (with_reducible first | exact HB.out | apply below_alloc | apply pw_below_drewN | apply below_drew1) | exact HB.out))) : w.heap.size ≤ gb339)); clear HO_4; clear HO336; clear HB; have HO_4 := n0_; have HO336 := n1_; have HB := n2_; have BK339 := n3_; have GW339 := n4_; have GE339 := n5_; clear n0_ n1_ n2_ n3_ n4_ n5_; clear hb hbox hg; have hcz19_0 : w18.cell? ⟨gb339, 0, none⟩ = some (.int .i64 0) := (blk_cell BK339.out 0).trans rfl; have hcz19_1 : w18.cell? ⟨gb339, 1, none⟩ = some (.slice none 0 0) := (blk_cell BK339.out 1).trans rfl; have hfz19_0 := blk_frozen BK339.out 0; have hfz19_1 := blk_frozen BK339.out 1; obtain ⟨Ao20, co20, eo20⟩ := Kd.R_slice HO336.out; subst eo20))
              go_ret2
              exact ⟨_, by first | rfl | (simp [errW_none, errW_some] <;> rfl) | (simp [*, errW_none, errW_some] <;> rfl), by first | exact Kd.S_nil _ _ _ _ _ | exact Kd.N_nil _ _ _ _ _ | exact Kd.V_nil _ _ _ _ _ | exact Kd.Q_nil _ _ _ _ _ | exact Kd.R_nil _ _ _ _ _, by repeat (first | (with_reducible first | exact HB.out | apply below_alloc | apply pw_below_drewN | apply below_drew1 | refine below_set ?_ GE339.out) | exact HB.out)⟩
          · rw [if_neg c4] at H
            exact absurd H (by simp)
        · rw [if_neg c3] at H
          exact absurd H (by simp)
      · rw [if_neg c2] at H
        have c2b0 : decide (x5_1 < (l0.length : Int)) = false := decide_eq_false c2
        clear c2
        simp only [Option.some.injEq, Prod.mk.injEq] at H
        obtain ⟨rfl, rfl⟩ := H
        go_wp2
        go_ret2
        exact ⟨_, by first | rfl | (simp [errW_none, errW_some] <;> rfl) | (simp [*, errW_none, errW_some] <;> rfl), by (with_reducible repeat (first | apply Kd.S_alloc | apply Kd.S_drewN | apply Kd.S_drew)); exact HO_4.out, by repeat (first | (with_reducible first | exact HB.out | apply below_alloc | apply pw_below_drewN | apply below_drew1) | exact HB.out)⟩

/-! ### foliateref01_Get: function 32 -/
mutual
def foliateref01_Get.l0 : Nat → List Int → Int → Int → Int → Option (Int × Int)
  | 0, _, _, _, _ => none
  | k + 1, x0, x4, x5, x6 => if x6 < (x0.length : Int) then (foliateref01_Get.j1 k x0 x4 x5 x6 (decide (x6 < 10))) else (foliateref01_Get.j1 k x0 x4 x5 x6 false)
def foliateref01_Get.j1 : Nat → List Int → Int → Int → Int → Bool → Option (Int × Int)
  | 0, _, _, _, _, _ => none
  | k + 1, x0, x4, x5, x6, x14 => if x14 = true then (if 0 ≤ x6 then (if x6 < (x0.length : Int) then (if (rd x0 x6) < 128 then ((foliateref01_Put.f k (IntKind.u64.wrap (x4 + (IntKind.u64.wrap ((IntKind.u64.wrap (Int.tmod (rd x0 x6) 128)) * x5))))).bind fun t345 => (if 0 ≤ (wrap64 (x6 + 1)) then (if (wrap64 (x6 + 1)) ≤ (x0.length : Int) then (if (strOfNums t345).toList = (strOfNums (x0.take ((wrap64 (x6 + 1)) : Int).toNat)).toList then (some (IntKind.u64.wrap (x4 + (IntKind.u64.wrap ((IntKind.u64.wrap (Int.tmod (rd x0 x6) 128)) * x5))), wrap64 (x6 + 1))) else (some (0, 0))) else (none)) else (none))) else (foliateref01_Get.l0 k x0 (IntKind.u64.wrap (x4 + (IntKind.u64.wrap ((IntKind.u64.wrap (Int.tmod (rd x0 x6) 128)) * x5)))) (IntKind.u64.wrap (x5 * 128)) (wrap64 (x6 + 1)))) else (none)) else (none)) else (some (0, 0))
end
def foliateref01_Get.f (k : Nat) (l0 : List Int) : Option (Int × Int) := foliateref01_Get.l0 k l0 0 1 0
def foliateref01_Get.T9 : Bool × List (List Nat × List Nat) := (true, [([], []), ([0], [0]), ([1], [1]), ([], []), ([], []), ([4], [4]), ([3, 5], [3, 5]), ([6], [6]), ([2, 7], [2, 7])])
def foliateref01_Get.B9 : List Nat := [0, 1, 3, 0, 0, 16, 56, 120, 255]
theorem foliateref01_Get.tab9 : rtab .any (opsOf Tryd.f32 9) = foliateref01_Get.T9 := by kernel_rfl
theorem foliateref01_Get.bits9 : waitsOk foliateref01_Get.T9.2 foliateref01_Get.B9 = true := by kernel_rfl
set_option maxHeartbeats 8000000 in
set_option maxRecDepth 100000 in
theorem foliateref01_Get.calls (k : Nat) (A0 : Option Addr) (c0 : Nat) (l0 : List Int) (r1 : Int) (r2 : Int) (w : World) (hr0 : Kd.C (Kd.int .u8) w A0 l0.length l0) (hc0 : l0.length ≤ c0) (h : foliateref01_Get.f k l0 = some (r1, r2)) :
    Calls Tryd.prog 32 #[.slice A0 l0.length c0] w fun e w' => e = .returned (.tuple #[.int .u64 r1, .int .i64 r2]) ∧ Below w.heap.size w w' := by
  have HR0 := Aside0.mk hr0
  have HC0 := Aside0.mk hc0
  clear hr0 hc0
  have HB := Aside0.mk (Below.refl w.heap.size w)
  have H : (foliateref01_Get.l0 k l0 0 1 0) = some (r1, r2) := h
  clear h
  have H' := Aside0.mk H
  clear H
  go_enter Tryd.func32, Tryd.ntmps32
  go_wp2
  go_loopg [4, 5, 6] k (fun kq v4 v5 v6 w' => ∃ (x4_1 : Int) (x5_1 : Int) (x6_1 : Int), v4 = .int .u64 x4_1 ∧ v5 = .int .u64 x5_1 ∧ v6 = .int .i64 x6_1 ∧ Aside0 (foliateref01_Get.l0 kq l0 x4_1 x5_1 x6_1 = some (r1, r2)) ∧ Aside0 (kq ≤ k) ∧ Aside0 (Below w.heap.size w w'))
  case atStart => exact ⟨(0), (1), (0), (by first | rfl | (simp; done) | (simp [*]; done)), (by first | rfl | (simp; done) | (simp [*]; done)), (by first | rfl | (simp; done) | (simp [*]; done)), H', ⟨Nat.le_refl _⟩, ⟨by repeat (first | (with_reducible first | exact HB.out | apply below_alloc | apply pw_below_drewN | apply below_drew1) | exact HB.out)⟩⟩
  case round =>
    clear H'
    obtain ⟨x4_1, x5_1, x6_1, rfl, rfl, rfl, HA, HK1, HB⟩ := hrel
    cases gk with
    | zero => exact absurd HA.out (by simp [foliateref01_Get.l0])
    | succ k1 =>
      have H := HA.out
      clear HA
      simp only [foliateref01_Get.l0] at H
      have HC2 := Aside0.mk H
      clear H
      go_upto_region 4 with (fail)
      go_cut [14] (fun v14 wc => ∃ (kq : Nat) (x14_1 : Bool), v14 = .bool x14_1 ∧ Aside0 (foliateref01_Get.j1 kq l0 x4_1 x5_1 x6_1 x14_1 = some (r1, r2)) ∧ Aside0 (kq ≤ k1) ∧ Aside0 (Below w.heap.size w wc))
      case first =>
        have H := HC2.out
        clear HC2
        by_cases c3 : x6_1 < (l0.length : Int)
        · rw [if_pos c3] at H
          have c3b0 : decide (x6_1 < (l0.length : Int)) = true := decide_eq_true c3
          clear c3
          (first | rw [c3b0] | (simp only [i64_w, i32_w]; rw [c3b0]) | skip)
          have H' := Aside0.mk H
          clear H
          go_wp2
          go_meet
          case rel => exact ⟨_, (decide (x6_1 < 10)), (by first | rfl | (simp; done) | (simp [*]; done)), H', ⟨by have := HK1.out; first | omega | exact Nat.le_refl _⟩, ⟨by repeat (first | (with_reducible first | exact HB.out | apply below_alloc | apply pw_below_drewN | apply below_drew1) | exact HB.out)⟩⟩
        · rw [if_neg c3] at H
          have c3b0 : decide (x6_1 < (l0.length : Int)) = false := decide_eq_false c3
          clear c3
          (first | rw [c3b0] | (simp only [i64_w, i32_w]; rw [c3b0]) | skip)
          have H' := Aside0.mk H
          clear H
          go_wp2
          go_meet
          case rel => exact ⟨_, (false), (by first | rfl | (simp; done) | (simp [*]; done)), H', ⟨by have := HK1.out; first | omega | exact Nat.le_refl _⟩, ⟨by repeat (first | (with_reducible first | exact HB.out | apply below_alloc | apply pw_below_drewN | apply below_drew1) | exact HB.out)⟩⟩
      case rest =>
        clear HC2
        try clear p2
        try clear c3
        try clear c3b0
        obtain ⟨kq, x14_1, rfl, HA, HJ1, HB⟩ := hcut
        cases kq with
        | zero => exact absurd HA.out (by simp [foliateref01_Get.j1])
        | succ kj1 =>
          have H := HA.out
          clear HA
          simp only [foliateref01_Get.j1] at H
          by_cases c4 : x14_1 = true
          · subst c4
            have H1 : (if 0 ≤ x6_1 then (if x6_1 < (l0.length : Int) then (if (rd l0 x6_1) < 128 then ((foliateref01_Put.f kj1 (IntKind.u64.wrap (x4_1 + (IntKind.u64.wrap ((IntKind.u64.wrap (Int.tmod (rd l0 x6_1) 128)) * x5_1))))).bind fun t345 => (if 0 ≤ (wrap64 (x6_1 + 1)) then (if (wrap64 (x6_1 + 1)) ≤ (l0.length : Int) then (if (strOfNums t345).toList = (strOfNums (l0.take ((wrap64 (x6_1 + 1)) : Int).toNat)).toList then (some (IntKind.u64.wrap (x4_1 + (IntKind.u64.wrap ((IntKind.u64.wrap (Int.tmod (rd l0 x6_1) 128)) * x5_1))), wrap64 (x6_1 + 1))) else (some (0, 0))) else (none)) else (none))) else (foliateref01_Get.l0 kj1 l0 (IntKind.u64.wrap (x4_1 + (IntKind.u64.wrap ((IntKind.u64.wrap (Int.tmod (rd l0 x6_1) 128)) * x5_1)))) (IntKind.u64.wrap (x5_1 * 128)) (wrap64 (x6_1 + 1)))) else (none)) else (none)) = some (r1, r2) := by rw [if_pos rfl] at H; exact H
            clear H
            have H := H1
            clear H1
            by_cases c5 : 0 ≤ x6_1
            · rw [if_pos c5] at H
              have c5b0 : decide (0 ≤ x6_1) = true := decide_eq_true c5
              clear c5
              by_cases c6 : x6_1 < (l0.length : Int)
              · rw [if_pos c6] at H
                have c6b0 : decide (x6_1 < (l0.length : Int)) = true := decide_eq_true c6
                clear c6
                by_cases c7 : (rd l0 x6_1) < 128
                · rw [if_pos c7] at H
                  have c7b0 : decide ((rd l0 x6_1) < 128) = true := decide_eq_true c7
                  clear c7
                  replace H := Option.bind_eq_some_iff.mp H
                  obtain ⟨t345, A80, H⟩ := H
                  replace H : (if 0 ≤ (wrap64 (x6_1 + 1)) then (if (wrap64 (x6_1 + 1)) ≤ (l0.length : Int) then (if (strOfNums t345).toList = (strOfNums (l0.take ((wrap64 (x6_1 + 1)) : Int).toNat)).toList then (some (IntKind.u64.wrap (x4_1 + (IntKind.u64.wrap ((IntKind.u64.wrap (Int.tmod (rd l0 x6_1) 128)) * x5_1))), wrap64 (x6_1 + 1))) else (some (0, 0))) else (none)) else (none)) = some (r1, r2) := H
                  have A8 := Aside0.mk A80
                  clear A80
                  obtain ⟨ji9, hji9⟩ : ∃ j_ : Int, (wrap64 (x6_1 + 1)) = j_ := ⟨_, rfl⟩
                  replace H : (if 0 ≤ (ji9) then (if (ji9) ≤ (l0.length : Int) then (if (strOfNums t345).toList = (strOfNums (l0.take ((ji9) : Int).toNat)).toList then (some (IntKind.u64.wrap (x4_1 + (IntKind.u64.wrap ((IntKind.u64.wrap (Int.tmod (rd l0 x6_1) 128)) * x5_1))), ji9)) else (some (0, 0))) else (none)) else (none)) = some (r1, r2) := by first | (rw [hji9] at H; exact H) | (simp only [hji9] at H ⊢; exact H)
                  (try rw [hji9] at A8)
                  have hji9w : (IntKind.i64.wrap (x6_1 + 1)) = ji9 := (i64_w _).trans hji9
                  by_cases c10 : 0 ≤ (ji9)
                  · rw [if_pos c10] at H
                    have c10b0 := eq_true c10
                    have c10b1 : decide (0 ≤ (ji9)) = true := decide_eq_true c10
                    clear c10
                    by_cases c11 : (ji9) ≤ (l0.length : Int)
                    · rw [if_pos c11] at H
                      have c11b0 := eq_true c11
                      have c11b1 : decide ((ji9) ≤ (l0.length : Int)) = true := decide_eq_true c11
                      clear c11
                      by_cases c12 : (strOfNums t345).toList = (strOfNums (l0.take ((ji9) : Int).toNat)).toList
                      · rw [if_pos c12] at H
                        have c12b0 : ((strOfNums t345).toList == (strOfNums (l0.take ((ji9) : Int).toNat)).toList) = true := beq_iff_eq.mpr c12
                        have c12b1 : ((strOfNums t345).toList != (strOfNums (l0.take ((ji9) : Int).toNat)).toList) = false := bne_eq_false_iff_eq.mpr c12
                        clear c12
                        simp only [Option.some.injEq, Prod.mk.injEq] at H
                        obtain ⟨rfl, rfl⟩ := H
                        have p343 : 0 ≤ (x6_1 : Int) := of_decide_eq_true (by first | (with_reducible assumption) | assumption)
                        have q343 : x6_1 < (l0.length : Int) := of_decide_eq_true (by first | (with_reducible assumption) | assumption)
                        obtain ⟨ad343, e343, hx343_0⟩ := Kd.at_int HR0.out x6_1 p343 q343
                        cases e343
                        replace hx343_0 := (HB.out.cell (World.block_lt_of_cell? w _ hx343_0)).trans hx343_0
                        replace p343 := eq_true p343
                        replace q343 := eq_true q343
                        have p344 : 0 ≤ (x6_1 : Int) := of_decide_eq_true (by first | (with_reducible assumption) | assumption)
                        have q344 : x6_1 < (l0.length : Int) := of_decide_eq_true (by first | (with_reducible assumption) | assumption)
                        obtain ⟨ad344, e344, hx344_0⟩ := Kd.at_int HR0.out x6_1 p344 q344
                        obtain rfl : ad343 = ad344 := (by injection e344)
                        replace hx344_0 := (HB.out.cell (World.block_lt_of_cell? w _ hx344_0)).trans hx344_0
                        replace p344 := eq_true p344
                        replace q344 := eq_true q344
                        try go_wp2
                        have n0_ := Aside0.mk (below_drew1 HB.out)
                        clear HB
                        have HB := n0_
                        clear n0_
                        obtain ⟨i014, hi014, _, hsz14, _⟩ := info_parts info5
                        obtain ⟨hcut14, hA14, hC14⟩ := print_take_of (P := Tryd.prog) (Value.int .u8) 0 26 5 .i64 Tryd.underlying26 hi014 hsz14 (some ad343) c0 l0 (ji9) (of_decide_eq_true (by first | (with_reducible assumption) | assumption)) (of_decide_eq_true (by first | (with_reducible assumption) | assumption)) HC0.out
                        have HR348 := Aside0.mk (Kd.C_of_reads (h1 := fun _ => rfl) (hA14 _ (Kd.reads_of_C HR0.out)))
                        have HC348 := Aside0.mk hC14
                        clear hA14 hC14 hi014 hsz14
                        refine start_ (n := 9) (S := fun w' => Aside0 (Below wc.drew.heap.size wc.drew w')) (ds := []) #[false, false, false, false, false, false, false, false, false] (by kernel_rfl) rfl rfl ⟨Below.refl _ _⟩ (fun hHeld => ?_); refine with_tabW foliateref01_Get.tab9 foliateref01_Get.bits9 (fun HT_ HW_ => ?_)
                        generalize wc.drew = w13 at HB HR348 hHeld ⊢
                        have HX_ := Aside0.mk (Below.refl w13.heap.size w13)
                        have HCV0_ := Aside0.mk (Kd.C_below HR348.out HB.out)
                        refine pure_ (i := 0) (N := some 34) (v := ?_) (a' := ?_) #[true, false, false, false, false, false, false, false, false] rfl rfl (any_of HT_.out (by kernel_rfl)) (fun _ _ _ h => h) (Or.inl ⟨by rfl, ?_⟩) ?_ ?_
                        rotate_left
                        · intro w'
                          go_simp
                          with_reducible rfl
                        rotate_left
                        · simp only [Act.put, List.setIfInBounds_toArray, List.set_cons_zero, List.set_cons_succ, i64_w, i32_w]
                          rfl
                        refine pure_ (i := 3) (N := some 37) (v := ?_) (a' := ?_) #[true, false, false, true, false, false, false, false, false] rfl rfl (any_of HT_.out (by kernel_rfl)) (fun _ _ _ h => h) (Or.inl ⟨by rfl, ?_⟩) ?_ ?_
                        rotate_left
                        · intro w'
                          go_simp
                          with_reducible rfl
                        rotate_left
                        · simp only [Act.put, List.setIfInBounds_toArray, List.set_cons_zero, List.set_cons_succ, i64_w, i32_w]
                          rfl
                        refine pure_ (i := 4) (N := some 38) (v := ?_) (a' := ?_) #[true, false, false, true, true, false, false, false, false] rfl rfl (any_of HT_.out (by kernel_rfl)) (fun _ _ _ h => h) (Or.inl ⟨by rfl, ?_⟩) ?_ ?_
                        rotate_left
                        · intro w'
                          go_simp
                          with_reducible rfl
                        rotate_left
                        · simp only [Act.put, List.setIfInBounds_toArray, List.set_cons_zero, List.set_cons_succ, i64_w, i32_w]
                          rfl
                        refine pure_ (i := 5) (N := some 39) (v := ?_) (a' := ?_) #[true, false, false, true, true, true, false, false, false] rfl rfl (any_of HT_.out (by kernel_rfl)) (fun _ _ _ h => h) (Or.inl ⟨by rfl, ?_⟩) ?_ ?_
                        rotate_left
                        · intro w'
                          go_simp
                          with_reducible rfl
                        rotate_left
                        · simp only [Act.put, List.setIfInBounds_toArray, List.set_cons_zero, List.set_cons_succ, i64_w, i32_w]
                          rfl
                        refine pure_ (i := 6) (N := some 40) (v := ?_) (a' := ?_) #[true, false, false, true, true, true, true, false, false] rfl rfl (any_of HT_.out (by kernel_rfl)) (fun _ _ _ h => h) (Or.inl ⟨by rfl, ?_⟩) ?_ ?_
                        rotate_left
                        · intro w'
                          go_simp
                          with_reducible rfl
                        rotate_left
                        · simp only [Act.put, List.setIfInBounds_toArray, List.set_cons_zero, List.set_cons_succ, i64_w, i32_w]
                          rfl
                        refine take_ (i := 7) (N := some 41) (v := ?_) (a' := ?_) #[true, false, false, true, true, true, true, true, false] rfl rfl (take_ofW HT_.out HW_.out (by kernel_rfl)) (fun _ _ _ h => h) (Or.inl ⟨by rfl, ?_⟩) HX_ ?_ ?_
                        rotate_left
                        · intro w' hS_
                          have hcvS := Kd.C_string (P := Tryd.prog) (A := (some ad343)) (c := c0) Tryd.underlying26 Tryd.underlying5 Tryd.underlying9 (Kd.C_below HCV0_.out hS_.out)
                          (try (rw [show (l0.take ((ji9) : Int).toNat).length = (ji9).toNat from (by rw [List.length_take]; have h_ : ((ji9) : Int) ≤ (l0.length : Int) := of_decide_eq_true (by first | (with_reducible assumption) | assumption); omega)] at hcvS))
                          go_simp
                          with_reducible rfl
                        rotate_left
                        · simp only [Act.put, List.setIfInBounds_toArray, List.set_cons_zero, List.set_cons_succ, i64_w, i32_w]
                          rfl
                        refine one_ (i := 1) (N := some 35) #[true, true, false, true, true, true, true, true, false] rfl rfl (one_of HT_.out (by kernel_rfl)) (by decide) (fun K hK => ?_)
                        refine goes_ Tryd.func41 (by kernel_rfl) rfl #[.int .u64 (IntKind.u64.wrap (x4_1 + (IntKind.u64.wrap ((IntKind.u64.wrap (Int.tmod (rd l0 x6_1) 128)) * x5_1))))] (by rfl) rfl rfl (by (try simp only [List.map_toArray, List.map_cons, List.map_nil]); first | done | rfl | (simp only [List.length_drop, List.length_take]; rfl)) ?_
                        with_reducible refine (foliateref01_Put.calls kj1 (IntKind.u64.wrap (x4_1 + (IntKind.u64.wrap ((IntKind.u64.wrap (Int.tmod (rd l0 x6_1) 128)) * x5_1)))) t345 _ A8.out).mono ?_
                        rintro e w15 ⟨v346, rfl, ho0, hb⟩
                        refine ⟨_, rfl, ?_⟩
                        have n0_ := Aside0.mk (Kd.R_lower ho0 (below_size (by repeat (first | (with_reducible first | exact HB.out | apply below_alloc | apply pw_below_drewN | apply below_drew1) | exact HB.out))))
                        have n1_ := Aside0.mk (below_step (by repeat (first | (with_reducible first | exact HB.out | apply below_alloc | apply pw_below_drewN | apply below_drew1) | exact HB.out)) hb)
                        have nX_ := Aside0.mk (below_step (by repeat (first | (with_reducible first | exact HX_.out | apply below_alloc | apply pw_below_drewN | apply below_drew1) | exact HX_.out)) hb)
                        clear HX_
                        have HX_ := nX_
                        clear nX_
                        clear HB
                        have HO347 := n0_
                        have HB := n1_
                        clear n0_ n1_
                        (try clear hb)
                        (try clear hb2)
                        (try clear hk)
                        (try clear hi)
                        (try clear ho0)
                        skip
                        refine hK.out _ _ HX_ (fun hHeld => ?_)
                        clear hK K
                        refine norm_ (a' := ?_) ?_ ?_
                        rotate_left
                        · show Act.put _ (some 35) _ = _
                          simp only [Act.put, List.setIfInBounds_toArray, List.set_cons_zero, List.set_cons_succ, i64_w, i32_w]
                          rfl
                        refine one_ (i := 2) (N := some 36) #[true, true, true, true, true, true, true, true, false] rfl rfl (one_of HT_.out (by kernel_rfl)) (by decide) (fun K hK => ?_)
                        have hcv16 := own_string (P := Tryd.prog) Tryd.underlying26 Tryd.underlying5 Tryd.underlying9 (Kd.own_of_R HO347.out)
                        refine value_ (w1 := ?_) (v := ?_) (by rfl) rfl ?_ ?_
                        rotate_left 2
                        · go_simp
                          constructor
                          · rfl
                          · rfl
                        clear hcv16
                        refine hK.out _ _ HX_ (fun hHeld => ?_)
                        clear hK K
                        refine norm_ (a' := ?_) ?_ ?_
                        rotate_left
                        · show Act.put _ (some 36) _ = _
                          simp only [Act.put, List.setIfInBounds_toArray, List.set_cons_zero, List.set_cons_succ, i64_w, i32_w]
                          rfl
                        refine pure_ (i := 8) (N := some 42) (v := ?_) (a' := ?_) #[true, true, true, true, true, true, true, true, true] rfl rfl (any_of HT_.out (by kernel_rfl)) (fun _ _ _ h => h) (Or.inl ⟨by rfl, ?_⟩) ?_ ?_
                        rotate_left
                        · intro w'
                          go_simp
                          with_reducible rfl
                        rotate_left
                        · simp only [Act.put, List.setIfInBounds_toArray, List.set_cons_zero, List.set_cons_succ, i64_w, i32_w]
                          rfl
                        refine done_ (done_of HT_.out (by kernel_rfl)) ?_
                        try go_wp2
                        go_ret2
                        exact ⟨by first | rfl | (simp [errW_none, errW_some] <;> rfl) | (simp only [← hji9]; first | rfl | (simp [errW_none, errW_some] <;> rfl)) | (simp [*, errW_none, errW_some] <;> rfl), by repeat (first | (with_reducible first | exact HB.out | apply below_alloc | apply pw_below_drewN | apply below_drew1) | exact HB.out)⟩
                      · rw [if_neg c12] at H
                        have c12b0 : ((strOfNums t345).toList == (strOfNums (l0.take ((ji9) : Int).toNat)).toList) = false := beq_eq_false_iff_ne.mpr c12
                        have c12b1 : ((strOfNums t345).toList != (strOfNums (l0.take ((ji9) : Int).toNat)).toList) = true := bne_iff_ne.mpr c12
                        simp only [Option.some.injEq, Prod.mk.injEq] at H
                        obtain ⟨rfl, rfl⟩ := H
                        have p343 : 0 ≤ (x6_1 : Int) := of_decide_eq_true (by first | (with_reducible assumption) | assumption)
                        have q343 : x6_1 < (l0.length : Int) := of_decide_eq_true (by first | (with_reducible assumption) | assumption)
                        obtain ⟨ad343, e343, hx343_0⟩ := Kd.at_int HR0.out x6_1 p343 q343
                        cases e343
                        replace hx343_0 := (HB.out.cell (World.block_lt_of_cell? w _ hx343_0)).trans hx343_0
                        replace p343 := eq_true p343
                        replace q343 := eq_true q343
                        have p344 : 0 ≤ (x6_1 : Int) := of_decide_eq_true (by first | (with_reducible assumption) | assumption)
                        have q344 : x6_1 < (l0.length : Int) := of_decide_eq_true (by first | (with_reducible assumption) | assumption)
                        obtain ⟨ad344, e344, hx344_0⟩ := Kd.at_int HR0.out x6_1 p344 q344
                        obtain rfl : ad343 = ad344 := (by injection e344)
                        replace hx344_0 := (HB.out.cell (World.block_lt_of_cell? w _ hx344_0)).trans hx344_0
                        replace p344 := eq_true p344
                        replace q344 := eq_true q344
                        try go_wp2
                        have n0_ := Aside0.mk (below_drew1 HB.out)
                        clear HB
                        have HB := n0_
                        clear n0_
                        obtain ⟨i020, hi020, _, hsz20, _⟩ := info_parts info5
                        obtain ⟨hcut20, hA20, hC20⟩ := print_take_of (P := Tryd.prog) (Value.int .u8) 0 26 5 .i64 Tryd.underlying26 hi020 hsz20 (some ad343) c0 l0 (ji9) (of_decide_eq_true (by first | (with_reducible assumption) | assumption)) (of_decide_eq_true (by first | (with_reducible assumption) | assumption)) HC0.out
                        have HR348 := Aside0.mk (Kd.C_of_reads (h1 := fun _ => rfl) (hA20 _ (Kd.reads_of_C HR0.out)))
                        have HC348 := Aside0.mk hC20
                        clear hA20 hC20 hi020 hsz20
                        refine start_ (n := 9) (S := fun w' => Aside0 (Below wc.drew.heap.size wc.drew w')) (ds := []) #[false, false, false, false, false, false, false, false, false] (by kernel_rfl) rfl rfl ⟨Below.refl _ _⟩ (fun hHeld => ?_); refine with_tabW foliateref01_Get.tab9 foliateref01_Get.bits9 (fun HT_ HW_ => ?_)
                        generalize wc.drew = w19 at HB HR348 hHeld ⊢
                        have HX_ := Aside0.mk (Below.refl w19.heap.size w19)
                        have HCV0_ := Aside0.mk (Kd.C_below HR348.out HB.out)
                        refine pure_ (i := 0) (N := some 34) (v := ?_) (a' := ?_) #[true, false, false, false, false, false, false, false, false] rfl rfl (any_of HT_.out (by kernel_rfl)) (fun _ _ _ h => h) (Or.inl ⟨by rfl, ?_⟩) ?_ ?_
                        rotate_left
                        · intro w'
                          go_simp
                          with_reducible rfl
                        rotate_left
                        · simp only [Act.put, List.setIfInBounds_toArray, List.set_cons_zero, List.set_cons_succ, i64_w, i32_w]
                          rfl
                        refine pure_ (i := 3) (N := some 37) (v := ?_) (a' := ?_) #[true, false, false, true, false, false, false, false, false] rfl rfl (any_of HT_.out (by kernel_rfl)) (fun _ _ _ h => h) (Or.inl ⟨by rfl, ?_⟩) ?_ ?_
                        rotate_left
                        · intro w'
                          go_simp
                          with_reducible rfl
                        rotate_left
                        · simp only [Act.put, List.setIfInBounds_toArray, List.set_cons_zero, List.set_cons_succ, i64_w, i32_w]
                          rfl
                        refine pure_ (i := 4) (N := some 38) (v := ?_) (a' := ?_) #[true, false, false, true, true, false, false, false, false] rfl rfl (any_of HT_.out (by kernel_rfl)) (fun _ _ _ h => h) (Or.inl ⟨by rfl, ?_⟩) ?_ ?_
                        rotate_left
                        · intro w'
                          go_simp
                          with_reducible rfl
                        rotate_left
                        · simp only [Act.put, List.setIfInBounds_toArray, List.set_cons_zero, List.set_cons_succ, i64_w, i32_w]
                          rfl
                        refine pure_ (i := 5) (N := some 39) (v := ?_) (a' := ?_) #[true, false, false, true, true, true, false, false, false] rfl rfl (any_of HT_.out (by kernel_rfl)) (fun _ _ _ h => h) (Or.inl ⟨by rfl, ?_⟩) ?_ ?_
                        rotate_left
                        · intro w'
                          go_simp
                          with_reducible rfl
                        rotate_left
                        · simp only [Act.put, List.setIfInBounds_toArray, List.set_cons_zero, List.set_cons_succ, i64_w, i32_w]
                          rfl
                        refine pure_ (i := 6) (N := some 40) (v := ?_) (a' := ?_) #[true, false, false, true, true, true, true, false, false] rfl rfl (any_of HT_.out (by kernel_rfl)) (fun _ _ _ h => h) (Or.inl ⟨by rfl, ?_⟩) ?_ ?_
                        rotate_left
                        · intro w'
                          go_simp
                          with_reducible rfl
                        rotate_left
                        · simp only [Act.put, List.setIfInBounds_toArray, List.set_cons_zero, List.set_cons_succ, i64_w, i32_w]
                          rfl
                        refine take_ (i := 7) (N := some 41) (v := ?_) (a' := ?_) #[true, false, false, true, true, true, true, true, false] rfl rfl (take_ofW HT_.out HW_.out (by kernel_rfl)) (fun _ _ _ h => h) (Or.inl ⟨by rfl, ?_⟩) HX_ ?_ ?_
                        rotate_left
                        · intro w' hS_
                          have hcvS := Kd.C_string (P := Tryd.prog) (A := (some ad343)) (c := c0) Tryd.underlying26 Tryd.underlying5 Tryd.underlying9 (Kd.C_below HCV0_.out hS_.out)
                          (try (rw [show (l0.take ((ji9) : Int).toNat).length = (ji9).toNat from (by rw [List.length_take]; have h_ : ((ji9) : Int) ≤ (l0.length : Int) := of_decide_eq_true (by first | (with_reducible assumption) | assumption); omega)] at hcvS))
                          go_simp
                          with_reducible rfl
                        rotate_left
                        · simp only [Act.put, List.setIfInBounds_toArray, List.set_cons_zero, List.set_cons_succ, i64_w, i32_w]
                          rfl
                        refine one_ (i := 1) (N := some 35) #[true, true, false, true, true, true, true, true, false] rfl rfl (one_of HT_.out (by kernel_rfl)) (by decide) (fun K hK => ?_)
                        refine goes_ Tryd.func41 (by kernel_rfl) rfl #[.int .u64 (IntKind.u64.wrap (x4_1 + (IntKind.u64.wrap ((IntKind.u64.wrap (Int.tmod (rd l0 x6_1) 128)) * x5_1))))] (by rfl) rfl rfl (by (try simp only [List.map_toArray, List.map_cons, List.map_nil]); first | done | rfl | (simp only [List.length_drop, List.length_take]; rfl)) ?_
                        with_reducible refine (foliateref01_Put.calls kj1 (IntKind.u64.wrap (x4_1 + (IntKind.u64.wrap ((IntKind.u64.wrap (Int.tmod (rd l0 x6_1) 128)) * x5_1)))) t345 _ A8.out).mono ?_
                        rintro e w21 ⟨v346, rfl, ho0, hb⟩
                        refine ⟨_, rfl, ?_⟩
                        have n0_ := Aside0.mk (Kd.R_lower ho0 (below_size (by repeat (first | (with_reducible first | exact HB.out | apply below_alloc | apply pw_below_drewN | apply below_drew1) | exact HB.out))))
                        have n1_ := Aside0.mk (below_step (by repeat (first | (with_reducible first | exact HB.out | apply below_alloc | apply pw_below_drewN | apply below_drew1) | exact HB.out)) hb)
                        have nX_ := Aside0.mk (below_step (by repeat (first | (with_reducible first | exact HX_.out | apply below_alloc | apply pw_below_drewN | apply below_drew1) | exact HX_.out)) hb)
                        clear HX_
                        have HX_ := nX_
                        clear nX_
                        clear HB
                        have HO347 := n0_
                        have HB := n1_
                        clear n0_ n1_
                        (try clear hb)
                        (try clear hb2)
                        (try clear hk)
                        (try clear hi)
                        (try clear ho0)
                        skip
                        refine hK.out _ _ HX_ (fun hHeld => ?_)
                        clear hK K
                        refine norm_ (a' := ?_) ?_ ?_
                        rotate_left
                        · show Act.put _ (some 35) _ = _
                          simp only [Act.put, List.setIfInBounds_toArray, List.set_cons_zero, List.set_cons_succ, i64_w, i32_w]
                          rfl
                        refine one_ (i := 2) (N := some 36) #[true, true, true, true, true, true, true, true, false] rfl rfl (one_of HT_.out (by kernel_rfl)) (by decide) (fun K hK => ?_)
                        have hcv22 := own_string (P := Tryd.prog) Tryd.underlying26 Tryd.underlying5 Tryd.underlying9 (Kd.own_of_R HO347.out)
                        refine value_ (w1 := ?_) (v := ?_) (by rfl) rfl ?_ ?_
                        rotate_left 2
                        · go_simp
                          constructor
                          · rfl
                          · rfl
                        clear hcv22
                        refine hK.out _ _ HX_ (fun hHeld => ?_)
                        clear hK K
                        refine norm_ (a' := ?_) ?_ ?_
                        rotate_left
                        · show Act.put _ (some 36) _ = _
                          simp only [Act.put, List.setIfInBounds_toArray, List.set_cons_zero, List.set_cons_succ, i64_w, i32_w]
                          rfl
                        refine pure_ (i := 8) (N := some 42) (v := ?_) (a' := ?_) #[true, true, true, true, true, true, true, true, true] rfl rfl (any_of HT_.out (by kernel_rfl)) (fun _ _ _ h => h) (Or.inl ⟨by rfl, ?_⟩) ?_ ?_
                        rotate_left
                        · intro w'
                          go_simp
                          with_reducible rfl
                        rotate_left
                        · simp only [Act.put, List.setIfInBounds_toArray, List.set_cons_zero, List.set_cons_succ, i64_w, i32_w]
                          rfl
                        refine done_ (done_of HT_.out (by kernel_rfl)) ?_
                        try go_wp2
                        go_ret2
                        exact ⟨by first | rfl | (simp [errW_none, errW_some] <;> rfl) | (simp only [← hji9]; first | rfl | (simp [errW_none, errW_some] <;> rfl)) | (simp [*, errW_none, errW_some] <;> rfl), by repeat (first | (with_reducible first | exact HB.out | apply below_alloc | apply pw_below_drewN | apply below_drew1) | exact HB.out)⟩
                    · rw [if_neg c11] at H
                      exact absurd H (by simp)
                  · rw [if_neg c10] at H
                    exact absurd H (by simp)
                · rw [if_neg c7] at H
                  have c7b0 : decide ((rd l0 x6_1) < 128) = false := decide_eq_false c7
                  clear c7
                  have H' := Aside0.mk H
                  clear H
                  have p343 : 0 ≤ (x6_1 : Int) := of_decide_eq_true (by first | (with_reducible assumption) | assumption)
                  have q343 : x6_1 < (l0.length : Int) := of_decide_eq_true (by first | (with_reducible assumption) | assumption)
                  obtain ⟨ad343, e343, hx343_0⟩ := Kd.at_int HR0.out x6_1 p343 q343
                  cases e343
                  replace hx343_0 := (HB.out.cell (World.block_lt_of_cell? w _ hx343_0)).trans hx343_0
                  replace p343 := eq_true p343
                  replace q343 := eq_true q343
                  have p344 : 0 ≤ (x6_1 : Int) := of_decide_eq_true (by first | (with_reducible assumption) | assumption)
                  have q344 : x6_1 < (l0.length : Int) := of_decide_eq_true (by first | (with_reducible assumption) | assumption)
                  obtain ⟨ad344, e344, hx344_0⟩ := Kd.at_int HR0.out x6_1 p344 q344
                  obtain rfl : ad343 = ad344 := (by injection e344)
                  replace hx344_0 := (HB.out.cell (World.block_lt_of_cell? w _ hx344_0)).trans hx344_0
                  replace p344 := eq_true p344
                  replace q344 := eq_true q344
                  go_wp2
                  go_roundg kj1
                  case measure => have := HK1.out; have := HJ1.out; omega
                  case rel => exact ⟨(IntKind.u64.wrap (x4_1 + (IntKind.u64.wrap ((IntKind.u64.wrap (Int.tmod (rd l0 x6_1) 128)) * x5_1)))), (IntKind.u64.wrap (x5_1 * 128)), (wrap64 (x6_1 + 1)), (by first | rfl | (simp; done) | (simp [*]; done)), (by first | rfl | (simp; done) | (simp [*]; done)), (by first | rfl | (simp; done) | (simp [*]; done)), H', ⟨by have := HK1.out; have := HJ1.out; omega⟩, ⟨by repeat (first | (with_reducible first | exact HB.out | apply below_alloc | apply pw_below_drewN | apply below_drew1) | exact HB.out)⟩⟩
              · rw [if_neg c6] at H
                exact absurd H (by simp)
            · rw [if_neg c5] at H
              exact absurd H (by simp)
          · replace c4 := Bool.eq_false_iff.mpr c4
            subst c4
            have H1 : (some (0, 0)) = some (r1, r2) := by rw [if_neg (show ¬ (false = true) by decide)] at H; exact H
            clear H
            have H := H1
            clear H1
            simp only [Option.some.injEq, Prod.mk.injEq] at H
            obtain ⟨rfl, rfl⟩ := H
            go_wp2
            go_ret2
            exact ⟨by first | rfl | (simp [errW_none, errW_some] <;> rfl) | (simp [*, errW_none, errW_some] <;> rfl), by repeat (first | (with_reducible first | exact HB.out | apply below_alloc | apply pw_below_drewN | apply below_drew1) | exact HB.out)⟩

end Go.Proofs.YtknkncdlcoglpaaDoor.PAll
