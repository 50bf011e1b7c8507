-- Written by wip/tools/myprint.py, a program of the prover's own, over the kit's print; the contracts named 'HAND' there are typed by hand.
import Derived.Test.YtknkncdlcoglpaaDoorPAllx0
import Derived.Test.YtknkncdlcoglpaaDoorPAllx2
import Derived.Test.YtknkncdlcoglpaaDoorPAllx4
import Derived.Test.YtknkncdlcoglpaaDoorPAllx7
namespace Go.Proofs.YtknkncdlcoglpaaDoor.PAll
open Go.RowKit Go.Proofs.YtknkncdlcoglpaaDoorW.PrintWords Go.Proofs.YtknkncdlcoglpaaDoorW.PrintLast Go.Proofs.YtknkncdlcoglpaaDoorW.PrintMore
attribute [local go_sem] max2_int min2_int max_two min_two max_three min_three max_four min_four   -- for this text's walks alone
set_option linter.unusedVariables false
set_option linter.unusedSimpArgs false

/-! ### foliatelaw04_FlowParts: function 8 -/
mutual
def foliatelaw04_FlowParts.j0 : Nat → Int → Bool → List Int → Bool → Int → List (List Int) → Option (Bool)
  | 0, _, _, _, _, _, _ => none
  | k + 1, x1, x5, x7, x30, x636000, x636001 => if x30 = true then (some x5) else ((frame_All.f k x7).bind fun bt642 => (if bt642.2 = 0 then (if (bt642.1.length : Int) = (wrap64 ((x636001.length : Int) + 2)) then (if 0 < (bt642.1.length : Int) then (if ((rd_T50 bt642.1 0).f0) = 1 then (if 0 ≤ (wrap64 ((bt642.1.length : Int) - 1)) then (if (wrap64 ((bt642.1.length : Int) - 1)) < (bt642.1.length : Int) then (foliatelaw04_FlowParts.j1 k x1 bt642.1 (((rd_T50 bt642.1 (wrap64 ((bt642.1.length : Int) - 1))).f0) != 3) x636000 x636001) else (none)) else (none)) else (foliatelaw04_FlowParts.j1 k x1 bt642.1 true x636000 x636001)) else (none)) else (foliatelaw04_FlowParts.j1 k x1 bt642.1 true x636000 x636001)) else (foliatelaw04_FlowParts.j1 k x1 bt642.1 true x636000 x636001)))
def foliatelaw04_FlowParts.j1 : Nat → Int → List (S50) → Bool → Int → List (List Int) → Option (Bool)
  | 0, _, _, _, _, _ => none
  | k + 1, x1, x9, x64, x636000, x636001 => if x64 = true then (none) else (if x1 < 0 then (some true) else (if x1 ≥ (x636001.length : Int) then (some true) else (if 0 ≤ (wrap64 (x1 + 1)) then (if (wrap64 (x1 + 1)) < (x9.length : Int) then (if 0 ≤ x1 then (if x1 < (x636001.length : Int) then (if ((rd_T50 x9 (wrap64 (x1 + 1))).f0) = 2 then (if (wrap64 ((((rd_T50 x9 (wrap64 (x1 + 1))).f1).length : Int) - ((rd_L2 x636001 x1).length : Int))) = 1 then (if 0 < (((rd_T50 x9 (wrap64 (x1 + 1))).f1).length : Int) then (if (wrap64 (rd ((rd_T50 x9 (wrap64 (x1 + 1))).f1) 0)) = x1 then (if 0 ≤ (wrap64 ((((rd_T50 x9 (wrap64 (x1 + 1))).f1).length : Int) - ((rd_L2 x636001 x1).length : Int))) then (if (wrap64 ((((rd_T50 x9 (wrap64 (x1 + 1))).f1).length : Int) - ((rd_L2 x636001 x1).length : Int))) ≤ (((rd_T50 x9 (wrap64 (x1 + 1))).f1).length : Int) then (some ((strOfNums (((rd_T50 x9 (wrap64 (x1 + 1))).f1).drop ((wrap64 ((((rd_T50 x9 (wrap64 (x1 + 1))).f1).length : Int) - ((rd_L2 x636001 x1).length : Int))) : Int).toNat)).toList == (strOfNums (rd_L2 x636001 x1)).toList)) else (none)) else (none)) else (none)) else (none)) else (none)) else (none)) else (none)) else (none)) else (none)) else (none))))
end
def foliatelaw04_FlowParts.f (k : Nat) (a0_0 : Int) (l0_1 : List (List Int)) (a1 : Int) : Option (Bool) := (foliatelaw04_awake.f k).bind fun t636 => ((foliatelaw04_Few.f k a0_0 l0_1 40).bind fun t637 => ((flow_Put.f k a0_0 l0_1).bind fun bt638 => (if t636 = true then (if t637 = true then (foliatelaw04_FlowParts.j0 k a1 t636 bt638.1 (bt638.2 != 0) a0_0 l0_1) else (foliatelaw04_FlowParts.j0 k a1 t636 bt638.1 true a0_0 l0_1)) else (foliatelaw04_FlowParts.j0 k a1 t636 bt638.1 true a0_0 l0_1))))
def parts13_T : Bool × List (List Nat × List Nat) := (true, [([], []), ([], []), ([1], [1]), ([0, 2], [0, 2]), ([3], [3]), ([4], [4]), ([5], [5]), ([6], [6]), ([7], [7]), ([8, 7], [7, 8]), ([7, 9], [7, 9]), ([10, 7], [10]), ([11], [11]), ([12, 11], [11, 12]), ([13, 11], [11, 13]), ([14, 11], [11, 14]), ([11], [11]), ([15, 16, 11], [11, 15, 16]), ([11, 17], [11, 17]), ([18, 11], [18]), ([19], [19]), ([19], [19]), ([20, 21, 19], [19, 20, 21]), ([22, 19], [19, 22]), ([19], [19]), ([24, 19], [19, 24]), ([19], [19]), ([25, 26, 19], [19, 25, 26]), ([27, 19], [19, 27]), ([28, 19], [19, 28]), ([23, 29, 19], [19, 23, 29]), ([19, 30], [19, 30]), ([31, 19, 0, 1, 2, 3, 4, 5, 6, 7, 8, 9, 10, 11, 12, 13, 14, 15, 16, 17, 18, 19, 20, 21, 22, 23, 24, 25, 26, 27, 28, 29, 30, 31], [31])])
def parts13_B : List Nat := [0, 0, 2, 7, 15, 31, 63, 127, 255, 511, 1023, 2047, 4095, 8191, 16383, 32767, 4095, 131071, 262143, 524287, 1048575, 1048575, 4194303, 8388607, 1048575, 17825791, 1048575, 118489087, 252706815, 521142271, 1073741823, 2147483647, 4294967295]
theorem parts13_tab : rtab .any (opsOf Tryd.f8 13) = parts13_T := by kernel_rfl
theorem parts13_bits : waitsOk parts13_T.2 parts13_B = true := by kernel_rfl
set_option maxHeartbeats 8000000 in
set_option maxRecDepth 100000 in
theorem foliatelaw04_FlowParts.calls (k : Nat) (a0_0 : Int) (A0_1 : Option Addr) (c0_1 : Nat) (l0_1 : List (List Int)) (a1 : Int) (r : Bool) (w : World) (hr0_1 : Kd.C (Kd.slice 5 (Kd.int .u8)) w A0_1 l0_1.length l0_1) (hc0_1 : l0_1.length ≤ c0_1) (h : foliatelaw04_FlowParts.f k a0_0 l0_1 a1 = some r) (hE : errT w) :
    Calls Tryd.prog 8 #[.agg #[.int .u32 a0_0, .slice A0_1 l0_1.length c0_1], .int .i64 a1] w fun e w' => e = .returned (.bool r) ∧ Below w.heap.size w w' := by
  have HE := Aside0.mk hE
  clear hE
  have hu25 := Tryd.underlying25
  have HR0_1 := Aside0.mk hr0_1
  have HC0_1 := Aside0.mk hc0_1
  clear hr0_1 hc0_1
  have HB := Aside0.mk (Below.refl w.heap.size w)
  have H : ((foliatelaw04_awake.f k).bind fun t636 => ((foliatelaw04_Few.f k a0_0 l0_1 40).bind fun t637 => ((flow_Put.f k a0_0 l0_1).bind fun bt638 => (if t636 = true then (if t637 = true then (foliatelaw04_FlowParts.j0 k a1 t636 bt638.1 (bt638.2 != 0) a0_0 l0_1) else (foliatelaw04_FlowParts.j0 k a1 t636 bt638.1 true a0_0 l0_1)) else (foliatelaw04_FlowParts.j0 k a1 t636 bt638.1 true a0_0 l0_1))))) = some r := h
  clear h
  replace H := Option.bind_eq_some_iff.mp H
  obtain ⟨t636, A30, H⟩ := H
  replace H : ((foliatelaw04_Few.f k a0_0 l0_1 40).bind fun t637 => ((flow_Put.f k a0_0 l0_1).bind fun bt638 => (if t636 = true then (if t637 = true then (foliatelaw04_FlowParts.j0 k a1 t636 bt638.1 (bt638.2 != 0) a0_0 l0_1) else (foliatelaw04_FlowParts.j0 k a1 t636 bt638.1 true a0_0 l0_1)) else (foliatelaw04_FlowParts.j0 k a1 t636 bt638.1 true a0_0 l0_1)))) = some r := H
  have A3 := Aside0.mk A30
  clear A30
  replace H := Option.bind_eq_some_iff.mp H
  obtain ⟨t637, A40, H⟩ := H
  replace H : ((flow_Put.f k a0_0 l0_1).bind fun bt638 => (if t636 = true then (if t637 = true then (foliatelaw04_FlowParts.j0 k a1 t636 bt638.1 (bt638.2 != 0) a0_0 l0_1) else (foliatelaw04_FlowParts.j0 k a1 t636 bt638.1 true a0_0 l0_1)) else (foliatelaw04_FlowParts.j0 k a1 t636 bt638.1 true a0_0 l0_1))) = some r := H
  have A4 := Aside0.mk A40
  clear A40
  replace H := Option.bind_eq_some_iff.mp H
  obtain ⟨⟨t638, t641⟩, A50, H⟩ := H
  replace H : (if t636 = true then (if t637 = true then (foliatelaw04_FlowParts.j0 k a1 t636 t638 (t641 != 0) a0_0 l0_1) else (foliatelaw04_FlowParts.j0 k a1 t636 t638 true a0_0 l0_1)) else (foliatelaw04_FlowParts.j0 k a1 t636 t638 true a0_0 l0_1)) = some r := H
  have A5 := Aside0.mk A50
  clear A50
  have HC6 := Aside0.mk H
  clear H
  go_enter Tryd.func8, Tryd.ntmps8
  go_upto_region 4 with (first | ((with_reducible refine gate_dst (N := 2) rfl ?_); (try (refine gate_guard (by rfl) ?_; dsimp only)); refine box_event ?hg (N := 2) ?hd (cs := #[.int .u32 a0_0, .slice A0_1 l0_1.length c0_1]) (t := 25) ?hr ?_; (case hd => rfl); (case hg => rfl); (case hr => first | (go_simp; done) | (go_simp; rfl)); intro gb635 hg w7 hbox hb; have n0_ := Aside0.mk (below_step (by repeat (first | (with_reducible first | exact HB.out | apply below_alloc | apply pw_below_drewN | apply below_drew1) | exact HB.out)) hb); have n1_ := Aside0.mk (hbox); have n2_ := Aside0.mk ((by rw [hg]; exact (below_size (by repeat (first | (with_reducible first | exact HB.out | apply below_alloc | apply pw_below_drewN | apply below_drew1) | exact HB.out))) : w.heap.size ≤ gb635)); have n3_ := Aside0.mk ((by rw [hg]; exact (below_size (by repeat (first | (with_reducible first | exact HB.out | apply below_alloc | apply pw_below_drewN | apply below_drew1) | exact HB.out))) : w.heap.size ≤ gb635)); clear HB; have HB := n0_; have BK635 := n1_; have GW635 := n2_; have GE635 := n3_; clear n0_ n1_ n2_ n3_; clear hb hbox hg) | (go_at_call 10; (with_reducible refine (foliatelaw04_awake.calls k  t636 _ A3.out ?errE).mono ?_); (case errE => exact errT_below HE.out (by repeat (first | (with_reducible first | exact HB.out | apply below_alloc | apply pw_below_drewN | apply below_drew1 | refine below_set ?_ GE635.out) | exact HB.out)) (Nat.le_refl _)); rintro e w8 ⟨rfl, hb⟩; have n0_ := Aside0.mk (blk_below (g := gb635) (o := .cells #[.int .u32 a0_0, .slice A0_1 l0_1.length c0_1] 25 (0, 0)) (by (with_reducible repeat (first | refine blk_drewN ?_ _ | refine blk_drew ?_ | refine blk_alloc ?_ _)); exact BK635.out) hb); have n1_ := Aside0.mk (below_step (by repeat (first | (with_reducible first | exact HB.out | apply below_alloc | apply pw_below_drewN | apply below_drew1 | refine below_set ?_ GE635.out) | exact HB.out)) hb); clear BK635; clear HB; have BK635 := n0_; have HB := n1_; clear n0_ n1_; (try clear hb); (try clear hb2); (try clear hk); (try clear hi); have hcz9_0 : w8.cell? ⟨gb635, 0, none⟩ = some (.int .u32 a0_0) := (blk_cell BK635.out 0).trans rfl; have hcz9_1 : w8.cell? ⟨gb635, 1, none⟩ = some (.slice A0_1 l0_1.length c0_1) := (blk_cell BK635.out 1).trans rfl; have hfz9_0 := blk_frozen BK635.out 0; have hfz9_1 := blk_frozen BK635.out 1) | (go_at_call 11; (with_reducible refine (foliatelaw04_Few.calls k a0_0 _ _ l0_1 40 t637 _ ?side1 ?side2 A4.out).mono ?_); (case side1 => repeat (first | exact (Kd.C_below HR0_1.out HB.out) | (with_reducible refine Kd.C_alloc ?_ _) | (with_reducible refine Kd.C_drewN ?_ _) | (with_reducible refine Kd.C_drew ?_))); (case side2 => exact HC0_1.out); rintro e w10 ⟨rfl, hb⟩; have n0_ := Aside0.mk (blk_below (g := gb635) (o := .cells #[.int .u32 a0_0, .slice A0_1 l0_1.length c0_1] 25 (0, 0)) (by (with_reducible repeat (first | refine blk_drewN ?_ _ | refine blk_drew ?_ | refine blk_alloc ?_ _)); exact BK635.out) hb); have n1_ := Aside0.mk (below_step (by repeat (first | (with_reducible first | exact HB.out | apply below_alloc | apply pw_below_drewN | apply below_drew1 | refine below_set ?_ GE635.out) | exact HB.out)) hb); clear BK635; clear HB; have BK635 := n0_; have HB := n1_; clear n0_ n1_; (try clear hb); (try clear hb2); (try clear hk); (try clear hi); have hcz11_0 : w10.cell? ⟨gb635, 0, none⟩ = some (.int .u32 a0_0) := (blk_cell BK635.out 0).trans rfl; have hcz11_1 : w10.cell? ⟨gb635, 1, none⟩ = some (.slice A0_1 l0_1.length c0_1) := (blk_cell BK635.out 1).trans rfl; have hfz11_0 := blk_frozen BK635.out 0; have hfz11_1 := blk_frozen BK635.out 1) | (go_at_call 12; (with_reducible refine (flow_Put.calls k a0_0 _ _ l0_1 t638 t641 _ ?side1 ?side2 A5.out).mono ?_); (case side1 => repeat (first | exact (Kd.C_below HR0_1.out HB.out) | (with_reducible refine Kd.C_alloc ?_ _) | (with_reducible refine Kd.C_drewN ?_ _) | (with_reducible refine Kd.C_drew ?_))); (case side2 => exact HC0_1.out); rintro e w12 ⟨v639, rfl, ho0, hb⟩; have n0_ := Aside0.mk (Kd.R_lower ho0 (below_size (by repeat (first | (with_reducible first | exact HB.out | apply below_alloc | apply pw_below_drewN | apply below_drew1 | refine below_set ?_ GE635.out) | exact HB.out)))); have n1_ := Aside0.mk (blk_below (g := gb635) (o := .cells #[.int .u32 a0_0, .slice A0_1 l0_1.length c0_1] 25 (0, 0)) (by (with_reducible repeat (first | refine blk_drewN ?_ _ | refine blk_drew ?_ | refine blk_alloc ?_ _)); exact BK635.out) hb); have n2_ := Aside0.mk (below_step (by repeat (first | (with_reducible first | exact HB.out | apply below_alloc | apply pw_below_drewN | apply below_drew1 | refine below_set ?_ GE635.out) | exact HB.out)) hb); clear BK635; clear HB; have HO640 := n0_; have BK635 := n1_; have HB := n2_; clear n0_ n1_ n2_; (try clear hb); (try clear hb2); (try clear hk); (try clear hi); (try clear ho0)))
  repeat (go_quiet (first | ((with_reducible refine gate_dst (N := 2) rfl ?_); (try (refine gate_guard (by rfl) ?_; dsimp only)); refine box_event ?hg (N := 2) ?hd (cs := #[.int .u32 a0_0, .slice A0_1 l0_1.length c0_1]) (t := 25) ?hr ?_; (case hd => rfl); (case hg => rfl); (case hr => first | (go_simp; done) | (go_simp; rfl)); intro gb635 hg w7 hbox hb; have n0_ := Aside0.mk (below_step (by repeat (first | (with_reducible first | exact HB.out | apply below_alloc | apply pw_below_drewN | apply below_drew1) | exact HB.out)) hb); have n1_ := Aside0.mk (hbox); have n2_ := Aside0.mk ((by rw [hg]; exact (below_size (by repeat (first | (with_reducible first | exact HB.out | apply below_alloc | apply pw_below_drewN | apply below_drew1) | exact HB.out))) : w.heap.size ≤ gb635)); have n3_ := Aside0.mk ((by rw [hg]; exact (below_size (by repeat (first | (with_reducible first | exact HB.out | apply below_alloc | apply pw_below_drewN | apply below_drew1) | exact HB.out))) : w.heap.size ≤ gb635)); clear HB; have HB := n0_; have BK635 := n1_; have GW635 := n2_; have GE635 := n3_; clear n0_ n1_ n2_ n3_; clear hb hbox hg) | (go_at_call 10; (with_reducible refine (foliatelaw04_awake.calls k  t636 _ A3.out ?errE).mono ?_); (case errE => exact errT_below HE.out (by repeat (first | (with_reducible first | exact HB.out | apply below_alloc | apply pw_below_drewN | apply below_drew1 | refine below_set ?_ GE635.out) | exact HB.out)) (Nat.le_refl _)); rintro e w8 ⟨rfl, hb⟩; have n0_ := Aside0.mk (blk_below (g := gb635) (o := .cells #[.int .u32 a0_0, .slice A0_1 l0_1.length c0_1] 25 (0, 0)) (by (with_reducible repeat (first | refine blk_drewN ?_ _ | refine blk_drew ?_ | refine blk_alloc ?_ _)); exact BK635.out) hb); have n1_ := Aside0.mk (below_step (by repeat (first | (with_reducible first | exact HB.out | apply below_alloc | apply pw_below_drewN | apply below_drew1 | refine below_set ?_ GE635.out) | exact HB.out)) hb); clear BK635; clear HB; have BK635 := n0_; have HB := n1_; clear n0_ n1_; (try clear hb); (try clear hb2); (try clear hk); (try clear hi); have hcz9_0 : w8.cell? ⟨gb635, 0, none⟩ = some (.int .u32 a0_0) := (blk_cell BK635.out 0).trans rfl; have hcz9_1 : w8.cell? ⟨gb635, 1, none⟩ = some (.slice A0_1 l0_1.length c0_1) := (blk_cell BK635.out 1).trans rfl; have hfz9_0 := blk_frozen BK635.out 0; have hfz9_1 := blk_frozen BK635.out 1) | (go_at_call 11; (with_reducible refine (foliatelaw04_Few.calls k a0_0 _ _ l0_1 40 t637 _ ?side1 ?side2 A4.out).mono ?_); (case side1 => repeat (first | exact (Kd.C_below HR0_1.out HB.out) | (with_reducible refine Kd.C_alloc ?_ _) | (with_reducible refine Kd.C_drewN ?_ _) | (with_reducible refine Kd.C_drew ?_))); (case side2 => exact HC0_1.out); rintro e w10 ⟨rfl, hb⟩; have n0_ := Aside0.mk (blk_below (g := gb635) (o := .cells #[.int .u32 a0_0, .slice A0_1 l0_1.length c0_1] 25 (0, 0)) (by (with_reducible repeat (first | refine blk_drewN ?_ _ | refine blk_drew ?_ | refine blk_alloc ?_ _)); exact BK635.out) hb); have n1_ := Aside0.mk (below_step (by repeat (first | (with_reducible first | exact HB.out | apply below_alloc | apply pw_below_drewN | apply below_drew1 | refine below_set ?_ GE635.out) | exact HB.out)) hb); clear BK635; clear HB; have BK635 := n0_; have HB := n1_; clear n0_ n1_; (try clear hb); (try clear hb2); (try clear hk); (try clear hi); have hcz11_0 : w10.cell? ⟨gb635, 0, none⟩ = some (.int .u32 a0_0) := (blk_cell BK635.out 0).trans rfl; have hcz11_1 : w10.cell? ⟨gb635, 1, none⟩ = some (.slice A0_1 l0_1.length c0_1) := (blk_cell BK635.out 1).trans rfl; have hfz11_0 := blk_frozen BK635.out 0; have hfz11_1 := blk_frozen BK635.out 1) | (go_at_call 12; (with_reducible refine (flow_Put.calls k a0_0 _ _ l0_1 t638 t641 _ ?side1 ?side2 A5.out).mono ?_); (case side1 => repeat (first | exact (Kd.C_below HR0_1.out HB.out) | (with_reducible refine Kd.C_alloc ?_ _) | (with_reducible refine Kd.C_drewN ?_ _) | (with_reducible refine Kd.C_drew ?_))); (case side2 => exact HC0_1.out); rintro e w12 ⟨v639, rfl, ho0, hb⟩; have n0_ := Aside0.mk (Kd.R_lower ho0 (below_size (by repeat (first | (with_reducible first | exact HB.out | apply below_alloc | apply pw_below_drewN | apply below_drew1 | refine below_set ?_ GE635.out) | exact HB.out)))); have n1_ := Aside0.mk (blk_below (g := gb635) (o := .cells #[.int .u32 a0_0, .slice A0_1 l0_1.length c0_1] 25 (0, 0)) (by (with_reducible repeat (first | refine blk_drewN ?_ _ | refine blk_drew ?_ | refine blk_alloc ?_ _)); exact BK635.out) hb); have n2_ := Aside0.mk (below_step (by repeat (first | (with_reducible first | exact HB.out | apply below_alloc | apply pw_below_drewN | apply below_drew1 | refine below_set ?_ GE635.out) | exact HB.out)) hb); clear BK635; clear HB; have HO640 := n0_; have BK635 := n1_; have HB := n2_; clear n0_ n1_ n2_; (try clear hb); (try clear hb2); (try clear hk); (try clear hi); (try clear ho0))); go_upto_region 4 with (first | ((with_reducible refine gate_dst (N := 2) rfl ?_); (try (refine gate_guard (by rfl) ?_; dsimp only)); refine box_event ?hg (N := 2) ?hd (cs := #[.int .u32 a0_0, .slice A0_1 l0_1.length c0_1]) (t := 25) ?hr ?_; (case hd => rfl); (case hg => rfl); (case hr => first | (go_simp; done) | (go_simp; rfl)); intro gb635 hg w7 hbox hb; have n0_ := Aside0.mk (below_step (by repeat (first | (with_reducible first | exact HB.out | apply below_alloc | apply pw_below_drewN | apply below_drew1) | exact HB.out)) hb); have n1_ := Aside0.mk (hbox); have n2_ := Aside0.mk ((by rw [hg]; exact (below_size (by repeat (first | (with_reducible first | exact HB.out | apply below_alloc | apply pw_below_drewN | apply below_drew1) | exact HB.out))) : w.heap.size ≤ gb635)); have n3_ := Aside0.mk ((by rw [hg]; exact (below_size (by repeat (first | (with_reducible first | exact HB.out | apply below_alloc | apply pw_below_drewN | apply below_drew1) | exact HB.out))) : w.heap.size ≤ gb635)); clear HB; have HB := n0_; have BK635 := n1_; have GW635 := n2_; have GE635 := n3_; clear n0_ n1_ n2_ n3_; clear hb hbox hg) | (go_at_call 10; (with_reducible refine (foliatelaw04_awake.calls k  t636 _ A3.out ?errE).mono ?_); (case errE => exact errT_below HE.out (by repeat (first | (with_reducible first | exact HB.out | apply below_alloc | apply pw_below_drewN | apply below_drew1 | refine below_set ?_ GE635.out) | exact HB.out)) (Nat.le_refl _)); rintro e w8 ⟨rfl, hb⟩; have n0_ := Aside0.mk (blk_below (g := gb635) (o := .cells #[.int .u32 a0_0, .slice A0_1 l0_1.length c0_1] 25 (0, 0)) (by (with_reducible repeat (first | refine blk_drewN ?_ _ | refine blk_drew ?_ | refine blk_alloc ?_ _)); exact BK635.out) hb); have n1_ := Aside0.mk (below_step (by repeat (first | (with_reducible first | exact HB.out | apply below_alloc | apply pw_below_drewN | apply below_drew1 | refine below_set ?_ GE635.out) | exact HB.out)) hb); clear BK635; clear HB; have BK635 := n0_; have HB := n1_; clear n0_ n1_; (try clear hb); (try clear hb2); (try clear hk); (try clear hi); have hcz9_0 : w8.cell? ⟨gb635, 0, none⟩ = some (.int .u32 a0_0) := (blk_cell BK635.out 0).trans rfl; have hcz9_1 : w8.cell? ⟨gb635, 1, none⟩ = some (.slice A0_1 l0_1.length c0_1) := (blk_cell BK635.out 1).trans rfl; have hfz9_0 := blk_frozen BK635.out 0; have hfz9_1 := blk_frozen BK635.out 1) | (go_at_call 11; (with_reducible refine (foliatelaw04_Few.calls k a0_0 _ _ l0_1 40 t637 _ ?side1 ?side2 A4.out).mono ?_); (case side1 => repeat (first | exact (Kd.C_below HR0_1.out HB.out) | (with_reducible refine Kd.C_alloc ?_ _) | (with_reducible refine Kd.C_drewN ?_ _) | (with_reducible refine Kd.C_drew ?_))); (case side2 => exact HC0_1.out); rintro e w10 ⟨rfl, hb⟩; have n0_ := Aside0.mk (blk_below (g := gb635) (o := .cells #[.int .u32 a0_0, .slice A0_1 l0_1.length c0_1] 25 (0, 0)) (by (with_reducible repeat (first | refine blk_drewN ?_ _ | refine blk_drew ?_ | refine blk_alloc ?_ _)); exact BK635.out) hb); have n1_ := Aside0.mk (below_step (by repeat (first | (with_reducible first | exact HB.out | apply below_alloc | apply pw_below_drewN | apply below_drew1 | refine below_set ?_ GE635.out) | exact HB.out)) hb); clear BK635; clear HB; have BK635 := n0_; have HB := n1_; clear n0_ n1_; (try clear hb); (try clear hb2); (try clear hk); (try clear hi); have hcz11_0 : w10.cell? ⟨gb635, 0, none⟩ = some (.int .u32 a0_0) := (blk_cell BK635.out 0).trans rfl; have hcz11_1 : w10.cell? ⟨gb635, 1, none⟩ = some (.slice A0_1 l0_1.length c0_1) := (blk_cell BK635.out 1).trans rfl; have hfz11_0 := blk_frozen BK635.out 0; have hfz11_1 := blk_frozen BK635.out 1) | (go_at_call 12; (with_reducible refine (flow_Put.calls k a0_0 _ _ l0_1 t638 t641 _ ?side1 ?side2 A5.out).mono ?_); (case side1 => repeat (first | exact (Kd.C_below HR0_1.out HB.out) | (with_reducible refine Kd.C_alloc ?_ _) | (with_reducible refine Kd.C_drewN ?_ _) | (with_reducible refine Kd.C_drew ?_))); (case side2 => exact HC0_1.out); rintro e w12 ⟨v639, rfl, ho0, hb⟩; have n0_ := Aside0.mk (Kd.R_lower ho0 (below_size (by repeat (first | (with_reducible first | exact HB.out | apply below_alloc | apply pw_below_drewN | apply below_drew1 | refine below_set ?_ GE635.out) | exact HB.out)))); have n1_ := Aside0.mk (blk_below (g := gb635) (o := .cells #[.int .u32 a0_0, .slice A0_1 l0_1.length c0_1] 25 (0, 0)) (by (with_reducible repeat (first | refine blk_drewN ?_ _ | refine blk_drew ?_ | refine blk_alloc ?_ _)); exact BK635.out) hb); have n2_ := Aside0.mk (below_step (by repeat (first | (with_reducible first | exact HB.out | apply below_alloc | apply pw_below_drewN | apply below_drew1 | refine below_set ?_ GE635.out) | exact HB.out)) hb); clear BK635; clear HB; have HO640 := n0_; have BK635 := n1_; have HB := n2_; clear n0_ n1_ n2_; (try clear hb); (try clear hb2); (try clear hk); (try clear hi); (try clear ho0))))
  (try simp only [Act.put, List.setIfInBounds_toArray, List.set_cons_zero, List.set_cons_succ])
  go_cut [30] (fun v30 wc => ∃ (kq : Nat) (x30_5 : Bool), v30 = .bool x30_5 ∧ Aside0 (foliatelaw04_FlowParts.j0 kq a1 t636 t638 x30_5 a0_0 l0_1 = some r) ∧ Aside0 (kq ≤ k) ∧ Aside0 (Kd.R (Kd.int .u8) 5 wc w.heap.size (fun _ => True) v639 t638) ∧ Aside0 (wc.heap[gb635]? = some (.cells #[.int .u32 a0_0, (.slice A0_1 l0_1.length c0_1)] 25 (0, 0))) ∧ Aside0 (Below w.heap.size w wc))
  case first =>
    have H := HC6.out
    clear HC6
    by_cases c13 : t636 = true
    · subst c13
      have H1 : (if t637 = true then (foliatelaw04_FlowParts.j0 k a1 true t638 (t641 != 0) a0_0 l0_1) else (foliatelaw04_FlowParts.j0 k a1 true t638 true a0_0 l0_1)) = some r := by rw [if_pos rfl] at H; exact H
      clear H
      have H := H1
      clear H1
      by_cases c14 : t637 = true
      · subst c14
        have H1 : (foliatelaw04_FlowParts.j0 k a1 true t638 (t641 != 0) a0_0 l0_1) = some r := by rw [if_pos rfl] at H; exact H
        clear H
        have H := H1
        clear H1
        have H' := Aside0.mk H
        clear H
        go_wp2
        repeat (go_quiet (fail); try go_wp2)
        go_meet
        case rel => exact ⟨_, ((t641 != 0)), (by first | rfl | (simp; done) | (simp [*]; done)), H', ⟨by first | omega | exact Nat.le_refl _⟩, ⟨by (with_reducible repeat (first | apply Kd.R_alloc | apply Kd.R_drewN | apply Kd.R_drew)); exact HO640.out⟩, ⟨by (with_reducible repeat (first | refine blk_drewN ?_ _ | refine blk_drew ?_ | refine blk_alloc ?_ _)); exact BK635.out⟩, ⟨by repeat (first | (with_reducible first | exact HB.out | apply below_alloc | apply pw_below_drewN | apply below_drew1 | refine below_set ?_ GE635.out) | exact HB.out)⟩⟩
      · replace c14 := Bool.eq_false_iff.mpr c14
        subst c14
        have H1 : (foliatelaw04_FlowParts.j0 k a1 true t638 true a0_0 l0_1) = some r := by rw [if_neg (show ¬ (false = true) by decide)] at H; exact H
        clear H
        have H := H1
        clear H1
        have H' := Aside0.mk H
        clear H
        go_wp2
        repeat (go_quiet (fail); try go_wp2)
        go_meet
        case rel => exact ⟨_, (true), (by first | rfl | (simp; done) | (simp [*]; done)), H', ⟨by first | omega | exact Nat.le_refl _⟩, ⟨by (with_reducible repeat (first | apply Kd.R_alloc | apply Kd.R_drewN | apply Kd.R_drew)); exact HO640.out⟩, ⟨by (with_reducible repeat (first | refine blk_drewN ?_ _ | refine blk_drew ?_ | refine blk_alloc ?_ _)); exact BK635.out⟩, ⟨by repeat (first | (with_reducible first | exact HB.out | apply below_alloc | apply pw_below_drewN | apply below_drew1 | refine below_set ?_ GE635.out) | exact HB.out)⟩⟩
    · replace c13 := Bool.eq_false_iff.mpr c13
      subst c13
      have H1 : (foliatelaw04_FlowParts.j0 k a1 false t638 true a0_0 l0_1) = some r := by rw [if_neg (show ¬ (false = true) by decide)] at H; exact H
      clear H
      have H := H1
      clear H1
      have H' := Aside0.mk H
      clear H
      go_wp2
      repeat (go_quiet (fail); try go_wp2)
      go_meet
      case rel => exact ⟨_, (true), (by first | rfl | (simp; done) | (simp [*]; done)), H', ⟨by first | omega | exact Nat.le_refl _⟩, ⟨by (with_reducible repeat (first | apply Kd.R_alloc | apply Kd.R_drewN | apply Kd.R_drew)); exact HO640.out⟩, ⟨by (with_reducible repeat (first | refine blk_drewN ?_ _ | refine blk_drew ?_ | refine blk_alloc ?_ _)); exact BK635.out⟩, ⟨by repeat (first | (with_reducible first | exact HB.out | apply below_alloc | apply pw_below_drewN | apply below_drew1 | refine below_set ?_ GE635.out) | exact HB.out)⟩⟩
  case rest =>
    clear HC6
    try clear c1
    try clear p2
    try clear c8
    try clear c13
    try clear c14
    try clear hcz11_0
    try clear hcz11_1
    try clear hcz9_0
    try clear hcz9_1
    try clear hfz11_0
    try clear hfz11_1
    try clear hfz9_0
    try clear hfz9_1
    obtain ⟨kq, x30_5, rfl, HA, HJ5, HO_7, BK635, HB⟩ := hcut
    cases kq with
    | zero => exact absurd HA.out (by simp [foliatelaw04_FlowParts.j0])
    | succ kj5 =>
      have H := HA.out
      clear HA
      simp only [foliatelaw04_FlowParts.j0] at H
      by_cases c15 : x30_5 = true
      · subst c15
        have H1 : (some t636) = some r := by rw [if_pos rfl] at H; exact H
        clear H
        have H := H1
        clear H1
        obtain rfl := Option.some.inj H
        go_wp2
        repeat (go_quiet (fail); try go_wp2)
        go_ret
        exact ⟨by first | rfl | (simp [errW_none, errW_some] <;> rfl) | (simp [*, errW_none, errW_some] <;> rfl), by repeat (first | (with_reducible first | exact HB.out | apply below_alloc | apply pw_below_drewN | apply below_drew1 | refine below_set ?_ GE635.out) | exact HB.out)⟩
      · replace c15 := Bool.eq_false_iff.mpr c15
        subst c15
        have H1 : ((frame_All.f kj5 t638).bind fun bt642 => (if bt642.2 = 0 then (if (bt642.1.length : Int) = (wrap64 ((l0_1.length : Int) + 2)) then (if 0 < (bt642.1.length : Int) then (if ((rd_T50 bt642.1 0).f0) = 1 then (if 0 ≤ (wrap64 ((bt642.1.length : Int) - 1)) then (if (wrap64 ((bt642.1.length : Int) - 1)) < (bt642.1.length : Int) then (foliatelaw04_FlowParts.j1 kj5 a1 bt642.1 (((rd_T50 bt642.1 (wrap64 ((bt642.1.length : Int) - 1))).f0) != 3) a0_0 l0_1) else (none)) else (none)) else (foliatelaw04_FlowParts.j1 kj5 a1 bt642.1 true a0_0 l0_1)) else (none)) else (foliatelaw04_FlowParts.j1 kj5 a1 bt642.1 true a0_0 l0_1)) else (foliatelaw04_FlowParts.j1 kj5 a1 bt642.1 true a0_0 l0_1))) = some r := by rw [if_neg (show ¬ (false = true) by decide)] at H; exact H
        clear H
        have H := H1
        clear H1
        replace H := Option.bind_eq_some_iff.mp H
        obtain ⟨⟨t642, t643⟩, A160, H⟩ := H
        replace H : (if t643 = 0 then (if (t642.length : Int) = (wrap64 ((l0_1.length : Int) + 2)) then (if 0 < (t642.length : Int) then (if ((rd_T50 t642 0).f0) = 1 then (if 0 ≤ (wrap64 ((t642.length : Int) - 1)) then (if (wrap64 ((t642.length : Int) - 1)) < (t642.length : Int) then (foliatelaw04_FlowParts.j1 kj5 a1 t642 (((rd_T50 t642 (wrap64 ((t642.length : Int) - 1))).f0) != 3) a0_0 l0_1) else (none)) else (none)) else (foliatelaw04_FlowParts.j1 kj5 a1 t642 true a0_0 l0_1)) else (none)) else (foliatelaw04_FlowParts.j1 kj5 a1 t642 true a0_0 l0_1)) else (foliatelaw04_FlowParts.j1 kj5 a1 t642 true a0_0 l0_1)) = some r := H
        have A16 := Aside0.mk A160
        clear A160
        have HC17 := Aside0.mk H
        clear H
        obtain ⟨Ao18, co18, eo18⟩ := Kd.R_slice HO_7.out
        subst eo18
        go_upto_region 7 with (first | (go_at_call 24; (with_reducible refine (frame_All.calls kj5 _ _ t638 t642 t643 _ ?side1 ?side2 A16.out).mono ?_); (case side1 => repeat (first | exact (Kd.R_reads' HO_7.out).2.2 | (with_reducible refine Kd.C_alloc ?_ _) | (with_reducible refine Kd.C_drewN ?_ _) | (with_reducible refine Kd.C_drew ?_))); (case side2 => exact (Kd.R_reads' HO_7.out).2.1); rintro e w19 ⟨v644, rfl, ho0, hb⟩; have n0_ := Aside0.mk (Kd.R_below (by (with_reducible repeat (first | apply Kd.R_alloc | apply Kd.R_drewN | apply Kd.R_drew)); exact HO_7.out) hb); have n1_ := Aside0.mk (Kd.S_lower (Kd.S_new' ho0 (Kd.R_lt (by (with_reducible repeat (first | apply Kd.R_alloc | apply Kd.R_drewN | apply Kd.R_drew)); exact HO_7.out))) (below_size (by repeat (first | (with_reducible first | exact HB.out | apply below_alloc | apply pw_below_drewN | apply below_drew1 | refine below_set ?_ GE635.out) | exact HB.out)))); have n2_ := Aside0.mk (blk_below (g := gb635) (o := .cells #[.int .u32 a0_0, .slice A0_1 l0_1.length c0_1] 25 (0, 0)) (by (with_reducible repeat (first | refine blk_drewN ?_ _ | refine blk_drew ?_ | refine blk_alloc ?_ _)); exact BK635.out) hb); have n3_ := Aside0.mk (below_step (by repeat (first | (with_reducible first | exact HB.out | apply below_alloc | apply pw_below_drewN | apply below_drew1 | refine below_set ?_ GE635.out) | exact HB.out)) hb); clear HO_7; clear BK635; clear HB; have HO_7 := n0_; have HO645 := n1_; have BK635 := n2_; have HB := n3_; clear n0_ n1_ n2_ n3_; (try clear hb); (try clear hb2); (try clear hk); (try clear hi); (try clear ho0)))
        repeat (go_quiet (first | (go_at_call 24; (with_reducible refine (frame_All.calls kj5 _ _ t638 t642 t643 _ ?side1 ?side2 A16.out).mono ?_); (case side1 => repeat (first | exact (Kd.R_reads' HO_7.out).2.2 | (with_reducible refine Kd.C_alloc ?_ _) | (with_reducible refine Kd.C_drewN ?_ _) | (with_reducible refine Kd.C_drew ?_))); (case side2 => exact (Kd.R_reads' HO_7.out).2.1); rintro e w19 ⟨v644, rfl, ho0, hb⟩; have n0_ := Aside0.mk (Kd.R_below (by (with_reducible repeat (first | apply Kd.R_alloc | apply Kd.R_drewN | apply Kd.R_drew)); exact HO_7.out) hb); have n1_ := Aside0.mk (Kd.S_lower (Kd.S_new' ho0 (Kd.R_lt (by (with_reducible repeat (first | apply Kd.R_alloc | apply Kd.R_drewN | apply Kd.R_drew)); exact HO_7.out))) (below_size (by repeat (first | (with_reducible first | exact HB.out | apply below_alloc | apply pw_below_drewN | apply below_drew1 | refine below_set ?_ GE635.out) | exact HB.out)))); have n2_ := Aside0.mk (blk_below (g := gb635) (o := .cells #[.int .u32 a0_0, .slice A0_1 l0_1.length c0_1] 25 (0, 0)) (by (with_reducible repeat (first | refine blk_drewN ?_ _ | refine blk_drew ?_ | refine blk_alloc ?_ _)); exact BK635.out) hb); have n3_ := Aside0.mk (below_step (by repeat (first | (with_reducible first | exact HB.out | apply below_alloc | apply pw_below_drewN | apply below_drew1 | refine below_set ?_ GE635.out) | exact HB.out)) hb); clear HO_7; clear BK635; clear HB; have HO_7 := n0_; have HO645 := n1_; have BK635 := n2_; have HB := n3_; clear n0_ n1_ n2_ n3_; (try clear hb); (try clear hb2); (try clear hk); (try clear hi); (try clear ho0))); go_upto_region 7 with (first | (go_at_call 24; (with_reducible refine (frame_All.calls kj5 _ _ t638 t642 t643 _ ?side1 ?side2 A16.out).mono ?_); (case side1 => repeat (first | exact (Kd.R_reads' HO_7.out).2.2 | (with_reducible refine Kd.C_alloc ?_ _) | (with_reducible refine Kd.C_drewN ?_ _) | (with_reducible refine Kd.C_drew ?_))); (case side2 => exact (Kd.R_reads' HO_7.out).2.1); rintro e w19 ⟨v644, rfl, ho0, hb⟩; have n0_ := Aside0.mk (Kd.R_below (by (with_reducible repeat (first | apply Kd.R_alloc | apply Kd.R_drewN | apply Kd.R_drew)); exact HO_7.out) hb); have n1_ := Aside0.mk (Kd.S_lower (Kd.S_new' ho0 (Kd.R_lt (by (with_reducible repeat (first | apply Kd.R_alloc | apply Kd.R_drewN | apply Kd.R_drew)); exact HO_7.out))) (below_size (by repeat (first | (with_reducible first | exact HB.out | apply below_alloc | apply pw_below_drewN | apply below_drew1 | refine below_set ?_ GE635.out) | exact HB.out)))); have n2_ := Aside0.mk (blk_below (g := gb635) (o := .cells #[.int .u32 a0_0, .slice A0_1 l0_1.length c0_1] 25 (0, 0)) (by (with_reducible repeat (first | refine blk_drewN ?_ _ | refine blk_drew ?_ | refine blk_alloc ?_ _)); exact BK635.out) hb); have n3_ := Aside0.mk (below_step (by repeat (first | (with_reducible first | exact HB.out | apply below_alloc | apply pw_below_drewN | apply below_drew1 | refine below_set ?_ GE635.out) | exact HB.out)) hb); clear HO_7; clear BK635; clear HB; have HO_7 := n0_; have HO645 := n1_; have BK635 := n2_; have HB := n3_; clear n0_ n1_ n2_ n3_; (try clear hb); (try clear hb2); (try clear hk); (try clear hi); (try clear ho0))))
        (try simp only [Act.put, List.setIfInBounds_toArray, List.set_cons_zero, List.set_cons_succ])
        go_cut [64] (fun v64 wc => ∃ (kq : Nat) (x64_16 : Bool), v64 = .bool x64_16 ∧ Aside0 (foliatelaw04_FlowParts.j1 kq a1 t642 x64_16 a0_0 l0_1 = some r) ∧ Aside0 (kq ≤ kj5) ∧ Aside0 (Kd.S k50 50 wc w.heap.size (fun _ => True) v644 t642) ∧ Aside0 (wc.heap[gb635]? = some (.cells #[.int .u32 a0_0, (.slice A0_1 l0_1.length c0_1)] 25 (0, 0))) ∧ Aside0 (Below w.heap.size w wc))
        case first =>
          have H := HC17.out
          clear HC17
          by_cases c20 : t643 = 0
          · rw [if_pos c20] at H
            have c20b0 : (t643 == 0) = true := beq_iff_eq.mpr c20
            have c20b1 : (t643 != 0) = false := bne_eq_false_iff_eq.mpr c20
            clear c20
            (first | rw [c20b0] | (simp only [i64_w, i32_w]; rw [c20b0]) | skip)
            by_cases c21 : (t642.length : Int) = (wrap64 ((l0_1.length : Int) + 2))
            · rw [if_pos c21] at H
              have c21b0 : ((t642.length : Int) == (wrap64 ((l0_1.length : Int) + 2))) = true := beq_iff_eq.mpr c21
              have c21b1 : ((t642.length : Int) != (wrap64 ((l0_1.length : Int) + 2))) = false := bne_eq_false_iff_eq.mpr c21
              clear c21
              by_cases c22 : 0 < (t642.length : Int)
              · rw [if_pos c22] at H
                have c22b0 : decide (0 < (t642.length : Int)) = true := decide_eq_true c22
                have c22b1 : decide (0 < t642.length) = true := decide_eq_true (by omega)
                clear c22
                by_cases c23 : ((rd_T50 t642 0).f0) = 1
                · rw [if_pos c23] at H
                  have c23b0 : (((rd_T50 t642 0).f0) == 1) = true := beq_iff_eq.mpr c23
                  have c23b1 : (((rd_T50 t642 0).f0) != 1) = false := bne_eq_false_iff_eq.mpr c23
                  clear c23
                  obtain ⟨ji24, hji24⟩ : ∃ j_ : Int, (wrap64 ((t642.length : Int) - 1)) = j_ := ⟨_, rfl⟩
                  replace H : (if 0 ≤ (ji24) then (if (ji24) < (t642.length : Int) then (foliatelaw04_FlowParts.j1 kj5 a1 t642 (((rd_T50 t642 (ji24)).f0) != 3) a0_0 l0_1) else (none)) else (none)) = some r := by first | (rw [hji24] at H; exact H) | (simp only [hji24] at H ⊢; exact H)
                  have hji24w : (IntKind.i64.wrap ((t642.length : Int) - 1)) = ji24 := (i64_w _).trans hji24
                  by_cases c25 : 0 ≤ (ji24)
                  · rw [if_pos c25] at H
                    have c25b0 : decide (0 ≤ (ji24)) = true := decide_eq_true c25
                    clear c25
                    by_cases c26 : (ji24) < (t642.length : Int)
                    · rw [if_pos c26] at H
                      have c26b0 : decide ((ji24) < (t642.length : Int)) = true := decide_eq_true c26
                      clear c26
                      have H' := Aside0.mk H
                      clear H
                      obtain ⟨Ao27, co27, eo27⟩ := Kd.S_slice HO645.out
                      subst eo27
                      have hcz28_0 : w19.cell? ⟨gb635, 0, none⟩ = some (.int .u32 a0_0) := (blk_cell BK635.out 0).trans rfl
                      have hcz28_1 : w19.cell? ⟨gb635, 1, none⟩ = some (.slice A0_1 l0_1.length c0_1) := (blk_cell BK635.out 1).trans rfl
                      have hfz28_0 := blk_frozen BK635.out 0
                      have hfz28_1 := blk_frozen BK635.out 1
                      have p646 : 0 ≤ (0 : Int) := (by omega)
                      have q646 : 0 < (t642.length : Int) := of_decide_eq_true (by first | (with_reducible assumption) | assumption)
                      obtain ⟨ad646, A646_1, c646_1, e646, hx646_0, hx646_1, hl646_1, hi646_1⟩ := at_T50 (Kd.S_reads' HO645.out).2.2 0 p646 q646
                      cases e646
                      obtain ⟨ce646, hce646, hMe646, hcc646⟩ := Kd.S_get HO645.out z50 0 p646 (by first | exact q646 | exact of_decide_eq_true (by first | (with_reducible assumption) | assumption) | (have e_ := (Kd.S_reads' HO645.out).1; omega))
                      obtain ⟨ve646_1, rfl, ge646_1⟩ := k50_openM hMe646
                      have hv646_1 := hcc646 1 _ rfl
                      rw [add_field _ _ 1 (by omega)] at hv646_1
                      replace hv646_1 := Option.some.inj (hv646_1.symm.trans hx646_1)
                      rw [hv646_1] at ge646_1
                      have HL646_1 := Aside0.mk (show Kd.R (Kd.int .u8) 5 _ _ _ _ ((rd_T50 t642 0).f1) from ge646_1)
                      clear hv646_1 ge646_1
                      clear hcc646 hce646
                      have qi646 : (0 < t642.length) = True := eq_true (by omega)
                      (try rw [show ((0 : Int)).toNat = 0 from rfl] at hx646_0)
                      (try rw [show 0 * 2 = 0 from rfl] at hx646_0)
                      (try rw [Addr.add_zero'] at hx646_0)
                      (try rw [show ((0 : Int)).toNat = 0 from rfl] at hx646_1)
                      (try rw [show 0 * 2 = 0 from rfl] at hx646_1)
                      (try rw [Addr.add_zero'] at hx646_1)
                      have HR646_1 := Aside0.mk hi646_1
                      have HC646_1 := Aside0.mk hl646_1
                      clear hi646_1 hl646_1
                      replace p646 := eq_true p646
                      replace q646 := eq_true q646
                      have p647 : 0 ≤ ((ji24) : Int) := of_decide_eq_true (by first | (with_reducible assumption) | assumption)
                      have q647 : (ji24) < (t642.length : Int) := of_decide_eq_true (by first | (with_reducible assumption) | assumption)
                      obtain ⟨ad647, A647_1, c647_1, e647, hx647_0, hx647_1, hl647_1, hi647_1⟩ := at_T50 (Kd.S_reads' HO645.out).2.2 (ji24) p647 q647
                      obtain rfl : ad646 = ad647 := (by injection e647)
                      obtain ⟨ce647, hce647, hMe647, hcc647⟩ := Kd.S_get HO645.out z50 (ji24) p647 (by first | exact q647 | exact of_decide_eq_true (by first | (with_reducible assumption) | assumption) | (have e_ := (Kd.S_reads' HO645.out).1; omega))
                      obtain ⟨ve647_1, rfl, ge647_1⟩ := k50_openM hMe647
                      have hv647_1 := hcc647 1 _ rfl
                      rw [add_field _ _ 1 (by omega)] at hv647_1
                      replace hv647_1 := Option.some.inj (hv647_1.symm.trans hx647_1)
                      rw [hv647_1] at ge647_1
                      have HL647_1 := Aside0.mk (show Kd.R (Kd.int .u8) 5 _ _ _ _ ((rd_T50 t642 (ji24)).f1) from ge647_1)
                      clear hv647_1 ge647_1
                      clear hcc647 hce647
                      have HR647_1 := Aside0.mk hi647_1
                      have HC647_1 := Aside0.mk hl647_1
                      clear hi647_1 hl647_1
                      replace p647 := eq_true p647
                      replace q647 := eq_true q647
                      go_wp2
                      repeat (go_quiet (fail); try go_wp2)
                      go_meet
                      case rel => exact ⟨_, ((((rd_T50 t642 (ji24)).f0) != 3)), (by first | rfl | (simp; done) | (simp only [← hji24] <;> (first | rfl | simp)) | (simp [*]; done)), (by first | exact H' | (simp only [hji24]; exact H') | (have H2_ := H'; simp only [hji24] at H2_ ⊢; exact H2_)), ⟨by have := HJ5.out; first | omega | exact Nat.le_refl _⟩, ⟨by (with_reducible repeat (first | apply Kd.S_alloc | apply Kd.S_drewN | apply Kd.S_drew)); exact Kd.S_mono HO645.out (fun _ hk => trivial)⟩, ⟨by (with_reducible repeat (first | refine blk_drewN ?_ _ | refine blk_drew ?_ | refine blk_alloc ?_ _)); exact BK635.out⟩, ⟨by repeat (first | (with_reducible first | exact HB.out | apply below_alloc | apply pw_below_drewN | apply below_drew1 | refine below_set ?_ GE635.out) | exact HB.out)⟩⟩
                    · rw [if_neg c26] at H
                      exact absurd H (by simp)
                  · rw [if_neg c25] at H
                    exact absurd H (by simp)
                · rw [if_neg c23] at H
                  have c23b0 : (((rd_T50 t642 0).f0) == 1) = false := beq_eq_false_iff_ne.mpr c23
                  have c23b1 : (((rd_T50 t642 0).f0) != 1) = true := bne_iff_ne.mpr c23
                  have H' := Aside0.mk H
                  clear H
                  obtain ⟨Ao29, co29, eo29⟩ := Kd.S_slice HO645.out
                  subst eo29
                  have hcz30_0 : w19.cell? ⟨gb635, 0, none⟩ = some (.int .u32 a0_0) := (blk_cell BK635.out 0).trans rfl
                  have hcz30_1 : w19.cell? ⟨gb635, 1, none⟩ = some (.slice A0_1 l0_1.length c0_1) := (blk_cell BK635.out 1).trans rfl
                  have hfz30_0 := blk_frozen BK635.out 0
                  have hfz30_1 := blk_frozen BK635.out 1
                  have p646 : 0 ≤ (0 : Int) := (by omega)
                  have q646 : 0 < (t642.length : Int) := of_decide_eq_true (by first | (with_reducible assumption) | assumption)
                  obtain ⟨ad646, A646_1, c646_1, e646, hx646_0, hx646_1, hl646_1, hi646_1⟩ := at_T50 (Kd.S_reads' HO645.out).2.2 0 p646 q646
                  cases e646
                  obtain ⟨ce646, hce646, hMe646, hcc646⟩ := Kd.S_get HO645.out z50 0 p646 (by first | exact q646 | exact of_decide_eq_true (by first | (with_reducible assumption) | assumption) | (have e_ := (Kd.S_reads' HO645.out).1; omega))
                  obtain ⟨ve646_1, rfl, ge646_1⟩ := k50_openM hMe646
                  have hv646_1 := hcc646 1 _ rfl
                  rw [add_field _ _ 1 (by omega)] at hv646_1
                  replace hv646_1 := Option.some.inj (hv646_1.symm.trans hx646_1)
                  rw [hv646_1] at ge646_1
                  have HL646_1 := Aside0.mk (show Kd.R (Kd.int .u8) 5 _ _ _ _ ((rd_T50 t642 0).f1) from ge646_1)
                  clear hv646_1 ge646_1
                  clear hcc646 hce646
                  have qi646 : (0 < t642.length) = True := eq_true (by omega)
                  (try rw [show ((0 : Int)).toNat = 0 from rfl] at hx646_0)
                  (try rw [show 0 * 2 = 0 from rfl] at hx646_0)
                  (try rw [Addr.add_zero'] at hx646_0)
                  (try rw [show ((0 : Int)).toNat = 0 from rfl] at hx646_1)
                  (try rw [show 0 * 2 = 0 from rfl] at hx646_1)
                  (try rw [Addr.add_zero'] at hx646_1)
                  have HR646_1 := Aside0.mk hi646_1
                  have HC646_1 := Aside0.mk hl646_1
                  clear hi646_1 hl646_1
                  replace p646 := eq_true p646
                  replace q646 := eq_true q646
                  go_wp2
                  repeat (go_quiet (fail); try go_wp2)
                  go_meet
                  case rel => exact ⟨_, (true), (by first | rfl | (simp; done) | (simp [*]; done)), H', ⟨by have := HJ5.out; first | omega | exact Nat.le_refl _⟩, ⟨by (with_reducible repeat (first | apply Kd.S_alloc | apply Kd.S_drewN | apply Kd.S_drew)); exact Kd.S_mono HO645.out (fun _ hk => trivial)⟩, ⟨by (with_reducible repeat (first | refine blk_drewN ?_ _ | refine blk_drew ?_ | refine blk_alloc ?_ _)); exact BK635.out⟩, ⟨by repeat (first | (with_reducible first | exact HB.out | apply below_alloc | apply pw_below_drewN | apply below_drew1 | refine below_set ?_ GE635.out) | exact HB.out)⟩⟩
              · rw [if_neg c22] at H
                exact absurd H (by simp)
            · rw [if_neg c21] at H
              have c21b0 : ((t642.length : Int) == (wrap64 ((l0_1.length : Int) + 2))) = false := beq_eq_false_iff_ne.mpr c21
              have c21b1 : ((t642.length : Int) != (wrap64 ((l0_1.length : Int) + 2))) = true := bne_iff_ne.mpr c21
              have H' := Aside0.mk H
              clear H
              obtain ⟨Ao31, co31, eo31⟩ := Kd.S_slice HO645.out
              subst eo31
              have hcz32_0 : w19.cell? ⟨gb635, 0, none⟩ = some (.int .u32 a0_0) := (blk_cell BK635.out 0).trans rfl
              have hcz32_1 : w19.cell? ⟨gb635, 1, none⟩ = some (.slice A0_1 l0_1.length c0_1) := (blk_cell BK635.out 1).trans rfl
              have hfz32_0 := blk_frozen BK635.out 0
              have hfz32_1 := blk_frozen BK635.out 1
              go_wp2
              repeat (go_quiet (fail); try go_wp2)
              go_meet
              case rel => exact ⟨_, (true), (by first | rfl | (simp; done) | (simp [*]; done)), H', ⟨by have := HJ5.out; first | omega | exact Nat.le_refl _⟩, ⟨by (with_reducible repeat (first | apply Kd.S_alloc | apply Kd.S_drewN | apply Kd.S_drew)); exact Kd.S_mono HO645.out (fun _ hk => trivial)⟩, ⟨by (with_reducible repeat (first | refine blk_drewN ?_ _ | refine blk_drew ?_ | refine blk_alloc ?_ _)); exact BK635.out⟩, ⟨by repeat (first | (with_reducible first | exact HB.out | apply below_alloc | apply pw_below_drewN | apply below_drew1 | refine below_set ?_ GE635.out) | exact HB.out)⟩⟩
          · rw [if_neg c20] at H
            have c20b0 : (t643 == 0) = false := beq_eq_false_iff_ne.mpr c20
            have c20b1 : (t643 != 0) = true := bne_iff_ne.mpr c20
            (first | rw [c20b0] | (simp only [i64_w, i32_w]; rw [c20b0]) | skip)
            have H' := Aside0.mk H
            clear H
            go_wp2
            repeat (go_quiet (fail); try go_wp2)
            go_meet
            case rel => exact ⟨_, (true), (by first | rfl | (simp; done) | (simp [*]; done)), H', ⟨by have := HJ5.out; first | omega | exact Nat.le_refl _⟩, ⟨by (with_reducible repeat (first | apply Kd.S_alloc | apply Kd.S_drewN | apply Kd.S_drew)); exact Kd.S_mono HO645.out (fun _ hk => trivial)⟩, ⟨by (with_reducible repeat (first | refine blk_drewN ?_ _ | refine blk_drew ?_ | refine blk_alloc ?_ _)); exact BK635.out⟩, ⟨by repeat (first | (with_reducible first | exact HB.out | apply below_alloc | apply pw_below_drewN | apply below_drew1 | refine below_set ?_ GE635.out) | exact HB.out)⟩⟩
        case rest =>
          clear HC17
          try clear c1
          try clear c2
          try clear p2
          try clear c6
          try clear p6
          try clear q6
          try clear hx6
          try clear qi6
          try clear c8
          try clear c13
          try clear c14
          try clear c15
          try clear c20
          try clear c20b0
          try clear c20b1
          try clear c21
          try clear c21b0
          try clear c21b1
          try clear c22
          try clear c22b0
          try clear c22b1
          try clear c23
          try clear c23b0
          try clear c23b1
          try clear c25
          try clear c25b0
          try clear c26
          try clear c26b0
          try clear hcz11_0
          try clear hcz11_1
          try clear hcz28_0
          try clear hcz28_1
          try clear hcz30_0
          try clear hcz30_1
          try clear hcz32_0
          try clear hcz32_1
          try clear hcz9_0
          try clear hcz9_1
          try clear hfz11_0
          try clear hfz11_1
          try clear hfz28_0
          try clear hfz28_1
          try clear hfz30_0
          try clear hfz30_1
          try clear hfz32_0
          try clear hfz32_1
          try clear hfz9_0
          try clear hfz9_1
          try clear hx646_0
          try clear hx646_1
          try clear hx647_0
          try clear hx647_1
          try clear p2
          try clear p646
          try clear p647
          try clear q646
          try clear q647
          obtain ⟨kq, x64_16, rfl, HA, HJ16, HO_9, BK635, HB⟩ := hcut
          cases kq with
          | zero => exact absurd HA.out (by simp [foliatelaw04_FlowParts.j1])
          | succ kj16 =>
            have H := HA.out
            clear HA
            simp only [foliatelaw04_FlowParts.j1] at H
            by_cases c33 : x64_16 = true
            · subst c33
              have H1 : (none) = some r := by rw [if_pos rfl] at H; exact H
              clear H
              have H := H1
              clear H1
              exact absurd H (by simp)
            · replace c33 := Bool.eq_false_iff.mpr c33
              subst c33
              have H1 : (if a1 < 0 then (some true) else (if a1 ≥ (l0_1.length : Int) then (some true) else (if 0 ≤ (wrap64 (a1 + 1)) then (if (wrap64 (a1 + 1)) < (t642.length : Int) then (if 0 ≤ a1 then (if a1 < (l0_1.length : Int) then (if ((rd_T50 t642 (wrap64 (a1 + 1))).f0) = 2 then (if (wrap64 ((((rd_T50 t642 (wrap64 (a1 + 1))).f1).length : Int) - ((rd_L2 l0_1 a1).length : Int))) = 1 then (if 0 < (((rd_T50 t642 (wrap64 (a1 + 1))).f1).length : Int) then (if (wrap64 (rd ((rd_T50 t642 (wrap64 (a1 + 1))).f1) 0)) = a1 then (if 0 ≤ (wrap64 ((((rd_T50 t642 (wrap64 (a1 + 1))).f1).length : Int) - ((rd_L2 l0_1 a1).length : Int))) then (if (wrap64 ((((rd_T50 t642 (wrap64 (a1 + 1))).f1).length : Int) - ((rd_L2 l0_1 a1).length : Int))) ≤ (((rd_T50 t642 (wrap64 (a1 + 1))).f1).length : Int) then (some ((strOfNums (((rd_T50 t642 (wrap64 (a1 + 1))).f1).drop ((wrap64 ((((rd_T50 t642 (wrap64 (a1 + 1))).f1).length : Int) - ((rd_L2 l0_1 a1).length : Int))) : Int).toNat)).toList == (strOfNums (rd_L2 l0_1 a1)).toList)) else (none)) else (none)) else (none)) else (none)) else (none)) else (none)) else (none)) else (none)) else (none)) else (none)))) = some r := by rw [if_neg (show ¬ (false = true) by decide)] at H; exact H
              clear H
              have H := H1
              clear H1
              by_cases c34 : a1 < 0
              · rw [if_pos c34] at H
                have c34b0 : decide (a1 < 0) = true := decide_eq_true c34
                clear c34
                obtain rfl := Option.some.inj H
                go_wp2
                repeat (go_quiet (fail); try go_wp2)
                go_ret
                exact ⟨by first | rfl | (simp [errW_none, errW_some] <;> rfl) | (simp [*, errW_none, errW_some] <;> rfl), by repeat (first | (with_reducible first | exact HB.out | apply below_alloc | apply pw_below_drewN | apply below_drew1 | refine below_set ?_ GE635.out) | exact HB.out)⟩
              · rw [if_neg c34] at H
                have c34b0 : decide (a1 < 0) = false := decide_eq_false c34
                clear c34
                by_cases c35 : a1 ≥ (l0_1.length : Int)
                · rw [if_pos c35] at H
                  have c35b0 : decide ((l0_1.length : Int) ≤ a1) = true := decide_eq_true c35
                  clear c35
                  obtain rfl := Option.some.inj H
                  have hcz36_0 : wc.cell? ⟨gb635, 0, none⟩ = some (.int .u32 a0_0) := (blk_cell BK635.out 0).trans rfl
                  have hcz36_1 : wc.cell? ⟨gb635, 1, none⟩ = some (.slice A0_1 l0_1.length c0_1) := (blk_cell BK635.out 1).trans rfl
                  have hfz36_0 := blk_frozen BK635.out 0
                  have hfz36_1 := blk_frozen BK635.out 1
                  go_wp2
                  repeat (go_quiet (fail); try go_wp2)
                  go_ret
                  exact ⟨by first | rfl | (simp [errW_none, errW_some] <;> rfl) | (simp [*, errW_none, errW_some] <;> rfl), by repeat (first | (with_reducible first | exact HB.out | apply below_alloc | apply pw_below_drewN | apply below_drew1 | refine below_set ?_ GE635.out) | exact HB.out)⟩
                · rw [if_neg c35] at H
                  have c35b0 : decide ((l0_1.length : Int) ≤ a1) = false := decide_eq_false c35
                  clear c35
                  obtain ⟨ji37, hji37⟩ : ∃ j_ : Int, (wrap64 (a1 + 1)) = j_ := ⟨_, rfl⟩
                  replace H : (if 0 ≤ (ji37) then (if (ji37) < (t642.length : Int) then (if 0 ≤ a1 then (if a1 < (l0_1.length : Int) then (if ((rd_T50 t642 (ji37)).f0) = 2 then (if (wrap64 ((((rd_T50 t642 (ji37)).f1).length : Int) - ((rd_L2 l0_1 a1).length : Int))) = 1 then (if 0 < (((rd_T50 t642 (ji37)).f1).length : Int) then (if (wrap64 (rd ((rd_T50 t642 (ji37)).f1) 0)) = a1 then (if 0 ≤ (wrap64 ((((rd_T50 t642 (ji37)).f1).length : Int) - ((rd_L2 l0_1 a1).length : Int))) then (if (wrap64 ((((rd_T50 t642 (ji37)).f1).length : Int) - ((rd_L2 l0_1 a1).length : Int))) ≤ (((rd_T50 t642 (ji37)).f1).length : Int) then (some ((strOfNums (((rd_T50 t642 (ji37)).f1).drop ((wrap64 ((((rd_T50 t642 (ji37)).f1).length : Int) - ((rd_L2 l0_1 a1).length : Int))) : Int).toNat)).toList == (strOfNums (rd_L2 l0_1 a1)).toList)) else (none)) else (none)) else (none)) else (none)) else (none)) else (none)) else (none)) else (none)) else (none)) else (none)) = some r := by first | (rw [hji37] at H; exact H) | (simp only [hji37] at H ⊢; exact H)
                  have hji37w : (IntKind.i64.wrap (a1 + 1)) = ji37 := (i64_w _).trans hji37
                  by_cases c38 : 0 ≤ (ji37)
                  · rw [if_pos c38] at H
                    have c38b0 : decide (0 ≤ (ji37)) = true := decide_eq_true c38
                    clear c38
                    by_cases c39 : (ji37) < (t642.length : Int)
                    · rw [if_pos c39] at H
                      have c39b0 : decide ((ji37) < (t642.length : Int)) = true := decide_eq_true c39
                      clear c39
                      by_cases c40 : 0 ≤ a1
                      · rw [if_pos c40] at H
                        have c40b0 : decide (0 ≤ a1) = true := decide_eq_true c40
                        clear c40
                        by_cases c41 : a1 < (l0_1.length : Int)
                        · rw [if_pos c41] at H
                          have c41b0 : decide (a1 < (l0_1.length : Int)) = true := decide_eq_true c41
                          clear c41
                          by_cases c42 : ((rd_T50 t642 (ji37)).f0) = 2
                          · rw [if_pos c42] at H
                            have c42b0 : (((rd_T50 t642 (ji37)).f0) == 2) = true := beq_iff_eq.mpr c42
                            have c42b1 : (((rd_T50 t642 (ji37)).f0) != 2) = false := bne_eq_false_iff_eq.mpr c42
                            clear c42
                            by_cases c43 : (wrap64 ((((rd_T50 t642 (ji37)).f1).length : Int) - ((rd_L2 l0_1 a1).length : Int))) = 1
                            · rw [if_pos c43] at H
                              have c43b0 : ((wrap64 ((((rd_T50 t642 (ji37)).f1).length : Int) - ((rd_L2 l0_1 a1).length : Int))) == 1) = true := beq_iff_eq.mpr c43
                              have c43b1 : ((wrap64 ((((rd_T50 t642 (ji37)).f1).length : Int) - ((rd_L2 l0_1 a1).length : Int))) != 1) = false := bne_eq_false_iff_eq.mpr c43
                              clear c43
                              by_cases c44 : 0 < (((rd_T50 t642 (ji37)).f1).length : Int)
                              · rw [if_pos c44] at H
                                have c44b0 : decide (0 < (((rd_T50 t642 (ji37)).f1).length : Int)) = true := decide_eq_true c44
                                have c44b1 : decide (0 < ((rd_T50 t642 (ji37)).f1).length) = true := decide_eq_true (by omega)
                                clear c44
                                by_cases c45 : (wrap64 (rd ((rd_T50 t642 (ji37)).f1) 0)) = a1
                                · rw [if_pos c45] at H
                                  have c45b0 : ((wrap64 (rd ((rd_T50 t642 (ji37)).f1) 0)) == a1) = true := beq_iff_eq.mpr c45
                                  have c45b1 : ((wrap64 (rd ((rd_T50 t642 (ji37)).f1) 0)) != a1) = false := bne_eq_false_iff_eq.mpr c45
                                  clear c45
                                  obtain ⟨ji46, hji46⟩ : ∃ j_ : Int, (wrap64 ((((rd_T50 t642 (ji37)).f1).length : Int) - ((rd_L2 l0_1 a1).length : Int))) = j_ := ⟨_, rfl⟩
                                  replace H : (if 0 ≤ (ji46) then (if (ji46) ≤ (((rd_T50 t642 (ji37)).f1).length : Int) then (some ((strOfNums (((rd_T50 t642 (ji37)).f1).drop ((ji46) : Int).toNat)).toList == (strOfNums (rd_L2 l0_1 a1)).toList)) else (none)) else (none)) = some r := by first | (rw [hji46] at H; exact H) | (simp only [hji46] at H ⊢; exact H)
                                  (try rw [hji46] at c43b0)
                                  (try rw [hji46] at c43b1)
                                  have hji46w : (IntKind.i64.wrap ((((rd_T50 t642 (ji37)).f1).length : Int) - ((rd_L2 l0_1 a1).length : Int))) = ji46 := (i64_w _).trans hji46
                                  by_cases c47 : 0 ≤ (ji46)
                                  · rw [if_pos c47] at H
                                    have c47b0 := eq_true c47
                                    have c47b1 : decide (0 ≤ (ji46)) = true := decide_eq_true c47
                                    clear c47
                                    by_cases c48 : (ji46) ≤ (((rd_T50 t642 (ji37)).f1).length : Int)
                                    · rw [if_pos c48] at H
                                      have c48b0 := eq_true c48
                                      have c48b1 : decide ((ji46) ≤ (((rd_T50 t642 (ji37)).f1).length : Int)) = true := decide_eq_true c48
                                      clear c48
                                      obtain ⟨y652, hy652⟩ : ∃ y_ : List Int, y_ = (((rd_T50 t642 (ji37)).f1).drop ((ji46) : Int).toNat) := ⟨_, rfl⟩
                                      replace H : (some ((strOfNums y652).toList == (strOfNums (rd_L2 l0_1 a1)).toList)) = some r := by first | (rw [hy652]; with_reducible exact H) | (have H2_ := (Option.bind_some _ _).symm.trans H; rw [hy652]; with_reducible exact H2_) | (have H2_ := (Option.bind_some _ _).symm.trans H; with_reducible exact H2_) | with_reducible exact H | (rw [hy652]; exact H) | exact H
                                      have Ny652 := Aside0.mk hy652
                                      clear hy652
                                      obtain rfl := Option.some.inj H
                                      have hcz49_0 : wc.cell? ⟨gb635, 0, none⟩ = some (.int .u32 a0_0) := (blk_cell BK635.out 0).trans rfl
                                      have hcz49_1 : wc.cell? ⟨gb635, 1, none⟩ = some (.slice A0_1 l0_1.length c0_1) := (blk_cell BK635.out 1).trans rfl
                                      have hfz49_0 := blk_frozen BK635.out 0
                                      have hfz49_1 := blk_frozen BK635.out 1
                                      obtain ⟨Ao50, co50, eo50⟩ := Kd.S_slice HO_9.out
                                      subst eo50
                                      have p648 : 0 ≤ ((ji37) : Int) := of_decide_eq_true (by first | (with_reducible assumption) | assumption)
                                      have q648 : (ji37) < (t642.length : Int) := of_decide_eq_true (by first | (with_reducible assumption) | assumption)
                                      obtain ⟨ad648, A648_1, c648_1, e648, hx648_0, hx648_1, hl648_1, hi648_1⟩ := at_T50 (Kd.S_reads' HO_9.out).2.2 (ji37) p648 q648
                                      cases e648
                                      obtain ⟨ce648, hce648, hMe648, hcc648⟩ := Kd.S_get HO_9.out z50 (ji37) p648 (by first | exact q648 | exact of_decide_eq_true (by first | (with_reducible assumption) | assumption) | (have e_ := (Kd.S_reads' HO_9.out).1; omega))
                                      obtain ⟨ve648_1, rfl, ge648_1⟩ := k50_openM hMe648
                                      have hv648_1 := hcc648 1 _ rfl
                                      rw [add_field _ _ 1 (by omega)] at hv648_1
                                      replace hv648_1 := Option.some.inj (hv648_1.symm.trans hx648_1)
                                      rw [hv648_1] at ge648_1
                                      have HL648_1 := Aside0.mk (show Kd.R (Kd.int .u8) 5 _ _ _ _ ((rd_T50 t642 (ji37)).f1) from ge648_1)
                                      clear hv648_1 ge648_1
                                      clear hcc648 hce648
                                      have HR648_1 := Aside0.mk hi648_1
                                      have HC648_1 := Aside0.mk hl648_1
                                      clear hi648_1 hl648_1
                                      replace p648 := eq_true p648
                                      replace q648 := eq_true q648
                                      have p649 : 0 ≤ (a1 : Int) := of_decide_eq_true (by first | (with_reducible assumption) | assumption)
                                      have q649 : a1 < (l0_1.length : Int) := of_decide_eq_true (by first | (with_reducible assumption) | assumption)
                                      obtain ⟨ad649, A649_0, c649_0, e649, hx649_0, hl649_0, hi649_0⟩ := at_L2 HR0_1.out a1 p649 q649
                                      cases e649
                                      replace hx649_0 := (HB.out.cell (World.block_lt_of_cell? w _ hx649_0)).trans hx649_0
                                      have HR649_0 := Aside0.mk hi649_0
                                      have HC649_0 := Aside0.mk hl649_0
                                      clear hi649_0 hl649_0
                                      replace p649 := eq_true p649
                                      replace q649 := eq_true q649
                                      have p650 : 0 ≤ ((ji37) : Int) := of_decide_eq_true (by first | (with_reducible assumption) | assumption)
                                      have q650 : (ji37) < (t642.length : Int) := of_decide_eq_true (by first | (with_reducible assumption) | assumption)
                                      obtain ⟨ad650, A650_1, c650_1, e650, hx650_0, hx650_1, hl650_1, hi650_1⟩ := at_T50 (Kd.S_reads' HO_9.out).2.2 (ji37) p650 q650
                                      obtain rfl : ad648 = ad650 := (by injection e650)
                                      obtain ⟨ce650, hce650, hMe650, hcc650⟩ := Kd.S_get HO_9.out z50 (ji37) p650 (by first | exact q650 | exact of_decide_eq_true (by first | (with_reducible assumption) | assumption) | (have e_ := (Kd.S_reads' HO_9.out).1; omega))
                                      obtain ⟨ve650_1, rfl, ge650_1⟩ := k50_openM hMe650
                                      have hv650_1 := hcc650 1 _ rfl
                                      rw [add_field _ _ 1 (by omega)] at hv650_1
                                      replace hv650_1 := Option.some.inj (hv650_1.symm.trans hx650_1)
                                      rw [hv650_1] at ge650_1
                                      have HL650_1 := Aside0.mk (show Kd.R (Kd.int .u8) 5 _ _ _ _ ((rd_T50 t642 (ji37)).f1) from ge650_1)
                                      clear hv650_1 ge650_1
                                      clear hcc650 hce650
                                      have HR650_1 := Aside0.mk hi650_1
                                      have HC650_1 := Aside0.mk hl650_1
                                      clear hi650_1 hl650_1
                                      replace p650 := eq_true p650
                                      replace q650 := eq_true q650
                                      have ea_ := Option.some.inj (hx648_1.symm.trans hx650_1)
                                      injection ea_ with ea_ en_ ec_
                                      subst ea_
                                      subst ec_
                                      clear en_
                                      have p651 : 0 ≤ (0 : Int) := (by omega)
                                      have q651 : 0 < (((rd_T50 t642 (ji37)).f1).length : Int) := of_decide_eq_true (by first | (with_reducible assumption) | assumption)
                                      obtain ⟨ad651, e651, hx651_0⟩ := Kd.at_int (by repeat (first | (with_reducible exact HR648_1.out) | (with_reducible refine Kd.C_alloc ?_ _) | (with_reducible refine Kd.C_drewN ?_ _) | (with_reducible refine Kd.C_drew ?_) | exact HR648_1.out)) 0 p651 q651
                                      cases e651
                                      have qi651 : (0 < ((rd_T50 t642 (ji37)).f1).length) = True := eq_true (by omega)
                                      (try rw [show ((0 : Int)).toNat = 0 from rfl] at hx651_0)
                                      (try rw [Addr.add_zero'] at hx651_0)
                                      replace p651 := eq_true p651
                                      replace q651 := eq_true q651
                                      have q51 : ((ji46) : Int) ≤ ((((rd_T50 t642 (ji37)).f1).length : Int) : Int) := of_decide_eq_true (by first | (with_reducible assumption) | assumption)
                                      obtain ⟨i051, hi051, _, hsz51, _⟩ := info_parts info5
                                      have hroom51 : ((rd_T50 t642 (ji37)).f1).length ≤ c648_1 := HC648_1.out
                                      have hC51 : Kd.C (Kd.int .u8) _ (some ad651) ((rd_T50 t642 (ji37)).f1).length ((rd_T50 t642 (ji37)).f1) := (by repeat (first | (with_reducible exact HR648_1.out) | (with_reducible refine Kd.C_alloc ?_ _) | (with_reducible refine Kd.C_drewN ?_ _) | (with_reducible refine Kd.C_drew ?_) | exact HR648_1.out))
                                      have q051 : (0 : Int) ≤ ((ji46) : Int) := of_decide_eq_true (by first | (with_reducible assumption) | assumption)
                                      have hcut51 := cut_from (P := Tryd.prog) 26 5 .i64 Tryd.underlying26 hi051 1 hsz51 (some ad651) ((rd_T50 t642 (ji37)).f1).length c648_1 (ji46) q051 q51
                                      have hr51 := Kd.C_drop (m := ((ji46) : Int).toNat) (c := c648_1) hC51 (by omega) hroom51
                                      obtain ⟨A51, hA51⟩ : ∃ A1, A1 = (if c648_1 = ((ji46) : Int).toNat then (some ad651) else ((some ad651) : Option Addr).map (·.add (((ji46) : Int).toNat * 1))) := ⟨_, rfl⟩
                                      obtain ⟨c51, hc51⟩ : ∃ c1, c1 = c648_1 - ((ji46) : Int).toNat := ⟨_, rfl⟩
                                      have hy51 : y652.length = ((rd_T50 t642 (ji37)).f1).length - ((ji46) : Int).toNat := (by rw [Ny652.out, List.length_drop] <;> omega)
                                      rw [show ((rd_T50 t642 (ji37)).f1).drop ((ji46) : Int).toNat = y652 from Ny652.out.symm] at hr51
                                      replace hr51 : Kd.C (Kd.int .u8) _ A51 y652.length y652 := (by rw [hA51]; exact hr51)
                                      rw [← hy51, ← hA51, ← hc51] at hcut51
                                      have HR655 := Aside0.mk hr51
                                      have HC655 := Aside0.mk (show y652.length ≤ c51 from by rw [hy51, hc51]; exact Nat.sub_le_sub_right hroom51 _)
                                      clear hr51 hC51 hroom51 hi051 hsz51 hc51
                                      have KY51 := Aside0.mk hy51
                                      have KA51 := Aside0.mk hA51
                                      clear hy51 hA51
                                      replace q51 := eq_true q51
                                      have hcv52 := Kd.C_string (P := Tryd.prog) (A := A51) (c := c51) Tryd.underlying26 Tryd.underlying5 Tryd.underlying9 (by repeat (first | (with_reducible exact HR655.out) | (with_reducible refine Kd.C_alloc ?_ _) | (with_reducible refine Kd.C_drewN ?_ _) | (with_reducible refine Kd.C_drew ?_) | exact HR655.out))
                                      have p656 : 0 ≤ (a1 : Int) := of_decide_eq_true (by first | (with_reducible assumption) | assumption)
                                      have q656 : a1 < (l0_1.length : Int) := of_decide_eq_true (by first | (with_reducible assumption) | assumption)
                                      obtain ⟨ad656, A656_0, c656_0, e656, hx656_0, hl656_0, hi656_0⟩ := at_L2 HR0_1.out a1 p656 q656
                                      obtain rfl : ad649 = ad656 := (by injection e656)
                                      replace hx656_0 := (HB.out.cell (World.block_lt_of_cell? w _ hx656_0)).trans hx656_0
                                      have HR656_0 := Aside0.mk hi656_0
                                      have HC656_0 := Aside0.mk hl656_0
                                      clear hi656_0 hl656_0
                                      replace p656 := eq_true p656
                                      replace q656 := eq_true q656
                                      have ea_ := Option.some.inj (hx649_0.symm.trans hx656_0)
                                      injection ea_ with ea_ en_ ec_
                                      subst ea_
                                      subst ec_
                                      clear en_
                                      have hcv53 := Kd.C_string (P := Tryd.prog) (A := A649_0) (c := c649_0) Tryd.underlying26 Tryd.underlying5 Tryd.underlying9 (Kd.C_below HR656_0.out HB.out)
                                      go_upto_region 13 with (fail)
                                      have hcd52 := Kd.C_string (P := Tryd.prog) (A := A51) (c := c51) Tryd.underlying26 Tryd.underlying5 Tryd.underlying9 (Kd.C_drew HR655.out)
                                      have hcd53 := Kd.C_string (P := Tryd.prog) (A := A649_0) (c := c649_0) Tryd.underlying26 Tryd.underlying5 Tryd.underlying9 (Kd.C_drew (Kd.C_below HR656_0.out HB.out))
                                      refine start_ (n := 33) (S := fun w' => w'.cell? (ad648.add (ji37.toNat * 2)) = some (.int .i64 (rd_T50 t642 ji37).f0) ∧ w'.cell? ad651 = some (.int .u8 (rd (rd_T50 t642 ji37).f1 0)) ∧ w'.cell? ⟨gb635, 1, none⟩ = some (.slice (some ad649) l0_1.length c0_1) ∧ w'.cell? (ad649.add a1.toNat) = some (.slice A649_0 (rd_L2 l0_1 a1).length c649_0) ∧ (convert 26 9 (.slice A51 y652.length c51)).run Tryd.prog w' = .ok (.string (strOfNums y652)) w' ∧ (convert 26 9 (.slice A649_0 (rd_L2 l0_1 a1).length c649_0)).run Tryd.prog w' = .ok (.string (strOfNums (rd_L2 l0_1 a1))) w') (ds := []) #[false, false, false, false, false, false, false, false, false, false, false, false, false, false, false, false, false, false, false, false, false, false, false, false, false, false, false, false, false, false, false, false, false] (by kernel_rfl) rfl rfl ⟨hx650_0, hx651_0, hcz49_1, hx649_0, hcd52, hcd53⟩ (fun hHeld => ?_)
                                      refine with_tabW parts13_tab parts13_bits (fun HT_ HW_ => ?_)
                                      refine pure_ (i := 0) (N := some 89) (v := ?_) (a' := ?_) #[true, false, false, false, false, false, false, false, false, false, false, false, false, false, false, false, false, false, false, false, false, false, false, false, false, false, false, false, false, false, false, false, false] rfl rfl (any_of HT_.out (by kernel_rfl)) (fun _ _ _ h => h) (Or.inl ⟨by rfl, ?_⟩) ?_ ?_
                                      rotate_left
                                      · intro w'
                                        go_simp
                                        with_reducible rfl
                                      rotate_left
                                      · simp only [Act.put, List.setIfInBounds_toArray, List.set_cons_zero, List.set_cons_succ, i64_w, i32_w]
                                        rfl
                                      refine pure_ (i := 1) (N := some 90) (v := ?_) (a' := ?_) #[true, true, false, false, false, false, false, false, false, false, false, false, false, false, false, false, false, false, false, false, false, false, false, false, false, false, false, false, false, false, false, false, false] rfl rfl (any_of HT_.out (by kernel_rfl)) (fun _ _ _ h => h) (Or.inl ⟨by rfl, ?_⟩) ?_ ?_
                                      rotate_left
                                      · intro w'
                                        go_simp
                                        with_reducible rfl
                                      rotate_left
                                      · simp only [Act.put, List.setIfInBounds_toArray, List.set_cons_zero, List.set_cons_succ, i64_w, i32_w]
                                        rfl
                                      refine pure_ (i := 2) (N := some 91) (v := ?_) (a' := ?_) #[true, true, true, false, false, false, false, false, false, false, false, false, false, false, false, false, false, false, false, false, false, false, false, false, false, false, false, false, false, false, false, false, false] rfl rfl (any_of HT_.out (by kernel_rfl)) (fun _ _ _ h => h) (Or.inl ⟨by rfl, ?_⟩) ?_ ?_
                                      rotate_left
                                      · intro w'
                                        go_simp
                                        with_reducible rfl
                                      rotate_left
                                      · simp only [Act.put, List.setIfInBounds_toArray, List.set_cons_zero, List.set_cons_succ, i64_w, i32_w]
                                        rfl
                                      refine pure_ (i := 3) (N := some 92) (v := ?_) (a' := ?_) #[true, true, true, true, false, false, false, false, false, false, false, false, false, false, false, false, false, false, false, false, false, false, false, false, false, false, false, false, false, false, false, false, false] rfl rfl (any_of HT_.out (by kernel_rfl)) (fun _ _ _ h => h) (Or.inl ⟨by rfl, ?_⟩) ?_ ?_
                                      rotate_left
                                      · intro w'
                                        go_simp
                                        with_reducible rfl
                                      rotate_left
                                      · simp only [Act.put, List.setIfInBounds_toArray, List.set_cons_zero, List.set_cons_succ, i64_w, i32_w]
                                        rfl
                                      refine pure_ (i := 4) (N := some 93) (v := ?_) (a' := ?_) #[true, true, true, true, true, false, false, false, false, false, false, false, false, false, false, false, false, false, false, false, false, false, false, false, false, false, false, false, false, false, false, false, false] rfl rfl (any_of HT_.out (by kernel_rfl)) (fun _ _ _ h => h) (Or.inl ⟨by rfl, ?_⟩) ?_ ?_
                                      rotate_left
                                      · intro w'
                                        go_simp
                                        with_reducible rfl
                                      rotate_left
                                      · simp only [Act.put, List.setIfInBounds_toArray, List.set_cons_zero, List.set_cons_succ, i64_w, i32_w]
                                        rfl
                                      refine take_ (i := 5) (N := some 94) (v := ?_) (a' := ?_) #[true, true, true, true, true, true, false, false, false, false, false, false, false, false, false, false, false, false, false, false, false, false, false, false, false, false, false, false, false, false, false, false, false] rfl rfl (take_ofW HT_.out HW_.out (by kernel_rfl)) (fun _ _ _ h => h) (Or.inl ⟨by rfl, ?_⟩) hHeld ?_ ?_
                                      rotate_left
                                      · rintro w' ⟨s0, s1, s2, s3, s4, s5⟩
                                        go_simp
                                        with_reducible rfl
                                      rotate_left
                                      · simp only [Act.put, List.setIfInBounds_toArray, List.set_cons_zero, List.set_cons_succ, i64_w, i32_w]
                                        rfl
                                      refine pure_ (i := 6) (N := some 95) (v := ?_) (a' := ?_) #[true, true, true, true, true, true, true, false, false, false, false, false, false, false, false, false, false, false, false, false, false, false, false, false, false, false, false, false, false, false, false, false, false] rfl rfl (any_of HT_.out (by kernel_rfl)) (fun _ _ _ h => h) (Or.inl ⟨by rfl, ?_⟩) ?_ ?_
                                      rotate_left
                                      · intro w'
                                        go_simp
                                        with_reducible rfl
                                      rotate_left
                                      · simp only [Act.put, List.setIfInBounds_toArray, List.set_cons_zero, List.set_cons_succ, i64_w, i32_w]
                                        rfl
                                      refine pure_ (i := 7) (N := some 96) (v := ?_) (a' := ?_) #[true, true, true, true, true, true, true, true, false, false, false, false, false, false, false, false, false, false, false, false, false, false, false, false, false, false, false, false, false, false, false, false, false] rfl rfl (any_of HT_.out (by kernel_rfl)) (fun _ _ _ h => h) (Or.inl ⟨by rfl, ?_⟩) ?_ ?_
                                      rotate_left
                                      · intro w'
                                        go_simp
                                        with_reducible rfl
                                      rotate_left
                                      · simp only [Act.put, List.setIfInBounds_toArray, List.set_cons_zero, List.set_cons_succ, i64_w, i32_w]
                                        rfl
                                      refine pure_ (i := 8) (N := some 97) (v := ?_) (a' := ?_) #[true, true, true, true, true, true, true, true, true, false, false, false, false, false, false, false, false, false, false, false, false, false, false, false, false, false, false, false, false, false, false, false, false] rfl rfl (any_of HT_.out (by kernel_rfl)) (fun _ _ _ h => h) (Or.inl ⟨by rfl, ?_⟩) ?_ ?_
                                      rotate_left
                                      · intro w'
                                        go_simp
                                        with_reducible rfl
                                      rotate_left
                                      · simp only [Act.put, List.setIfInBounds_toArray, List.set_cons_zero, List.set_cons_succ, i64_w, i32_w]
                                        rfl
                                      refine pure_ (i := 9) (N := some 98) (v := ?_) (a' := ?_) #[true, true, true, true, true, true, true, true, true, true, false, false, false, false, false, false, false, false, false, false, false, false, false, false, false, false, false, false, false, false, false, false, false] rfl rfl (any_of HT_.out (by kernel_rfl)) (fun _ _ _ h => h) (Or.inl ⟨by rfl, ?_⟩) ?_ ?_
                                      rotate_left
                                      · intro w'
                                        go_simp
                                        with_reducible rfl
                                      rotate_left
                                      · simp only [Act.put, List.setIfInBounds_toArray, List.set_cons_zero, List.set_cons_succ, i64_w, i32_w]
                                        rfl
                                      refine pure_ (i := 10) (N := some 99) (v := ?_) (a' := ?_) #[true, true, true, true, true, true, true, true, true, true, true, false, false, false, false, false, false, false, false, false, false, false, false, false, false, false, false, false, false, false, false, false, false] rfl rfl (any_of HT_.out (by kernel_rfl)) (fun _ _ _ h => h) (Or.inl ⟨by rfl, ?_⟩) ?_ ?_
                                      rotate_left
                                      · intro w'
                                        go_simp
                                        with_reducible rfl
                                      rotate_left
                                      · simp only [Act.put, List.setIfInBounds_toArray, List.set_cons_zero, List.set_cons_succ, i64_w, i32_w]
                                        rfl
                                      refine pure_ (i := 11) (N := some 100) (v := ?_) (a' := ?_) #[true, true, true, true, true, true, true, true, true, true, true, true, false, false, false, false, false, false, false, false, false, false, false, false, false, false, false, false, false, false, false, false, false] rfl rfl (any_of HT_.out (by kernel_rfl)) (fun _ _ _ h => h) (Or.inl ⟨by rfl, ?_⟩) ?_ ?_
                                      rotate_left
                                      · intro w'
                                        go_simp
                                        with_reducible rfl
                                      rotate_left
                                      · simp only [Act.put, List.setIfInBounds_toArray, List.set_cons_zero, List.set_cons_succ, i64_w, i32_w]
                                        rfl
                                      refine pure_ (i := 12) (N := some 101) (v := ?_) (a' := ?_) #[true, true, true, true, true, true, true, true, true, true, true, true, true, false, false, false, false, false, false, false, false, false, false, false, false, false, false, false, false, false, false, false, false] rfl rfl (any_of HT_.out (by kernel_rfl)) (fun _ _ _ h => h) (Or.inl ⟨by rfl, ?_⟩) ?_ ?_
                                      rotate_left
                                      · intro w'
                                        go_simp
                                        with_reducible rfl
                                      rotate_left
                                      · simp only [Act.put, List.setIfInBounds_toArray, List.set_cons_zero, List.set_cons_succ, i64_w, i32_w]
                                        rfl
                                      refine pure_ (i := 13) (N := some 102) (v := ?_) (a' := ?_) #[true, true, true, true, true, true, true, true, true, true, true, true, true, true, false, false, false, false, false, false, false, false, false, false, false, false, false, false, false, false, false, false, false] rfl rfl (any_of HT_.out (by kernel_rfl)) (fun _ _ _ h => h) (Or.inl ⟨by rfl, ?_⟩) ?_ ?_
                                      rotate_left
                                      · intro w'
                                        go_simp
                                        with_reducible rfl
                                      rotate_left
                                      · simp only [Act.put, List.setIfInBounds_toArray, List.set_cons_zero, List.set_cons_succ, i64_w, i32_w]
                                        rfl
                                      refine take_ (i := 14) (N := some 103) (v := ?_) (a' := ?_) #[true, true, true, true, true, true, true, true, true, true, true, true, true, true, true, false, false, false, false, false, false, false, false, false, false, false, false, false, false, false, false, false, false] rfl rfl (take_ofW HT_.out HW_.out (by kernel_rfl)) (fun _ _ _ h => h) (Or.inl ⟨by rfl, ?_⟩) hHeld ?_ ?_
                                      rotate_left
                                      · rintro w' ⟨s0, s1, s2, s3, s4, s5⟩
                                        go_simp
                                        with_reducible rfl
                                      rotate_left
                                      · simp only [Act.put, List.setIfInBounds_toArray, List.set_cons_zero, List.set_cons_succ, i64_w, i32_w]
                                        rfl
                                      refine pure_ (i := 15) (N := some 104) (v := ?_) (a' := ?_) #[true, true, true, true, true, true, true, true, true, true, true, true, true, true, true, true, false, false, false, false, false, false, false, false, false, false, false, false, false, false, false, false, false] rfl rfl (any_of HT_.out (by kernel_rfl)) (fun _ _ _ h => h) (Or.inl ⟨by rfl, ?_⟩) ?_ ?_
                                      rotate_left
                                      · intro w'
                                        go_simp
                                        with_reducible rfl
                                      rotate_left
                                      · simp only [Act.put, List.setIfInBounds_toArray, List.set_cons_zero, List.set_cons_succ, i64_w, i32_w]
                                        rfl
                                      refine pure_ (i := 16) (N := some 105) (v := ?_) (a' := ?_) #[true, true, true, true, true, true, true, true, true, true, true, true, true, true, true, true, true, false, false, false, false, false, false, false, false, false, false, false, false, false, false, false, false] rfl rfl (any_of HT_.out (by kernel_rfl)) (fun _ _ _ h => h) (Or.inl ⟨by rfl, ?_⟩) ?_ ?_
                                      rotate_left
                                      · intro w'
                                        go_simp
                                        with_reducible rfl
                                      rotate_left
                                      · simp only [Act.put, List.setIfInBounds_toArray, List.set_cons_zero, List.set_cons_succ, i64_w, i32_w]
                                        rfl
                                      refine pure_ (i := 17) (N := some 106) (v := ?_) (a' := ?_) #[true, true, true, true, true, true, true, true, true, true, true, true, true, true, true, true, true, true, false, false, false, false, false, false, false, false, false, false, false, false, false, false, false] rfl rfl (any_of HT_.out (by kernel_rfl)) (fun _ _ _ h => h) (Or.inl ⟨by rfl, ?_⟩) ?_ ?_
                                      rotate_left
                                      · intro w'
                                        go_simp
                                        with_reducible rfl
                                      rotate_left
                                      · simp only [Act.put, List.setIfInBounds_toArray, List.set_cons_zero, List.set_cons_succ, i64_w, i32_w]
                                        rfl
                                      refine pure_ (i := 18) (N := some 107) (v := ?_) (a' := ?_) #[true, true, true, true, true, true, true, true, true, true, true, true, true, true, true, true, true, true, true, false, false, false, false, false, false, false, false, false, false, false, false, false, false] rfl rfl (any_of HT_.out (by kernel_rfl)) (fun _ _ _ h => h) (Or.inl ⟨by rfl, ?_⟩) ?_ ?_
                                      rotate_left
                                      · intro w'
                                        go_simp
                                        with_reducible rfl
                                      rotate_left
                                      · simp only [Act.put, List.setIfInBounds_toArray, List.set_cons_zero, List.set_cons_succ, i64_w, i32_w]
                                        rfl
                                      refine pure_ (i := 19) (N := some 108) (v := ?_) (a' := ?_) #[true, true, true, true, true, true, true, true, true, true, true, true, true, true, true, true, true, true, true, true, false, false, false, false, false, false, false, false, false, false, false, false, false] rfl rfl (any_of HT_.out (by kernel_rfl)) (fun _ _ _ h => h) (Or.inl ⟨by rfl, ?_⟩) ?_ ?_
                                      rotate_left
                                      · intro w'
                                        go_simp
                                        with_reducible rfl
                                      rotate_left
                                      · simp only [Act.put, List.setIfInBounds_toArray, List.set_cons_zero, List.set_cons_succ, i64_w, i32_w]
                                        rfl
                                      refine pure_ (i := 20) (N := some 109) (v := ?_) (a' := ?_) #[true, true, true, true, true, true, true, true, true, true, true, true, true, true, true, true, true, true, true, true, true, false, false, false, false, false, false, false, false, false, false, false, false] rfl rfl (any_of HT_.out (by kernel_rfl)) (fun _ _ _ h => h) (Or.inl ⟨by rfl, ?_⟩) ?_ ?_
                                      rotate_left
                                      · intro w'
                                        go_simp
                                        with_reducible rfl
                                      rotate_left
                                      · simp only [Act.put, List.setIfInBounds_toArray, List.set_cons_zero, List.set_cons_succ, i64_w, i32_w]
                                        rfl
                                      refine pure_ (i := 21) (N := some 110) (v := ?_) (a' := ?_) #[true, true, true, true, true, true, true, true, true, true, true, true, true, true, true, true, true, true, true, true, true, true, false, false, false, false, false, false, false, false, false, false, false] rfl rfl (any_of HT_.out (by kernel_rfl)) (fun _ _ _ h => h) (Or.inl ⟨by rfl, ?_⟩) ?_ ?_
                                      rotate_left
                                      · intro w'
                                        go_simp
                                        with_reducible rfl
                                      rotate_left
                                      · simp only [Act.put, List.setIfInBounds_toArray, List.set_cons_zero, List.set_cons_succ, i64_w, i32_w]
                                        rfl
                                      refine pure_ (i := 22) (N := some 111) (v := ?_) (a' := ?_) #[true, true, true, true, true, true, true, true, true, true, true, true, true, true, true, true, true, true, true, true, true, true, true, false, false, false, false, false, false, false, false, false, false] rfl rfl (any_of HT_.out (by kernel_rfl)) (fun _ _ _ h => h) (Or.inl ⟨by rfl, ?_⟩) ?_ ?_
                                      rotate_left
                                      · intro w'
                                        go_simp
                                        with_reducible rfl
                                      rotate_left
                                      · simp only [Act.put, List.setIfInBounds_toArray, List.set_cons_zero, List.set_cons_succ, i64_w, i32_w]
                                        rfl
                                      refine take_ (i := 23) (N := some 112) (v := ?_) (a' := ?_) #[true, true, true, true, true, true, true, true, true, true, true, true, true, true, true, true, true, true, true, true, true, true, true, true, false, false, false, false, false, false, false, false, false] rfl rfl (take_ofW HT_.out HW_.out (by kernel_rfl)) (fun _ _ _ h => h) (Or.inl ⟨by rfl, ?_⟩) hHeld ?_ ?_
                                      rotate_left
                                      · rintro w' ⟨s0, s1, s2, s3, s4, s5⟩
                                        go_simp
                                        with_reducible rfl
                                      rotate_left
                                      · simp only [Act.put, List.setIfInBounds_toArray, List.set_cons_zero, List.set_cons_succ, i64_w, i32_w]
                                        rfl
                                      refine pure_ (i := 24) (N := some 113) (v := ?_) (a' := ?_) #[true, true, true, true, true, true, true, true, true, true, true, true, true, true, true, true, true, true, true, true, true, true, true, true, true, false, false, false, false, false, false, false, false] rfl rfl (any_of HT_.out (by kernel_rfl)) (fun _ _ _ h => h) (Or.inl ⟨by rfl, ?_⟩) ?_ ?_
                                      rotate_left
                                      · intro w'
                                        go_simp
                                        with_reducible rfl
                                      rotate_left
                                      · simp only [Act.put, List.setIfInBounds_toArray, List.set_cons_zero, List.set_cons_succ, i64_w, i32_w]
                                        rfl
                                      refine take_ (i := 25) (N := some 114) (v := ?_) (a' := ?_) #[true, true, true, true, true, true, true, true, true, true, true, true, true, true, true, true, true, true, true, true, true, true, true, true, true, true, false, false, false, false, false, false, false] rfl rfl (take_ofW HT_.out HW_.out (by kernel_rfl)) (fun _ _ _ h => h) (Or.inl ⟨by rfl, ?_⟩) hHeld ?_ ?_
                                      rotate_left
                                      · rintro w' ⟨s0, s1, s2, s3, s4, s5⟩
                                        go_simp
                                        with_reducible rfl
                                      rotate_left
                                      · simp only [Act.put, List.setIfInBounds_toArray, List.set_cons_zero, List.set_cons_succ, i64_w, i32_w]
                                        rfl
                                      refine pure_ (i := 26) (N := some 115) (v := ?_) (a' := ?_) #[true, true, true, true, true, true, true, true, true, true, true, true, true, true, true, true, true, true, true, true, true, true, true, true, true, true, true, false, false, false, false, false, false] rfl rfl (any_of HT_.out (by kernel_rfl)) (fun _ _ _ h => h) (Or.inl ⟨by rfl, ?_⟩) ?_ ?_
                                      rotate_left
                                      · intro w'
                                        go_simp
                                        with_reducible rfl
                                      rotate_left
                                      · simp only [Act.put, List.setIfInBounds_toArray, List.set_cons_zero, List.set_cons_succ, i64_w, i32_w]
                                        rfl
                                      refine pure_ (i := 27) (N := some 116) (v := ?_) (a' := ?_) #[true, true, true, true, true, true, true, true, true, true, true, true, true, true, true, true, true, true, true, true, true, true, true, true, true, true, true, true, false, false, false, false, false] rfl rfl (any_of HT_.out (by kernel_rfl)) (fun _ _ _ h => h) (Or.inl ⟨by rfl, ?_⟩) ?_ ?_
                                      rotate_left
                                      · intro w'
                                        go_simp
                                        with_reducible rfl
                                      rotate_left
                                      · simp only [Act.put, List.setIfInBounds_toArray, List.set_cons_zero, List.set_cons_succ, i64_w, i32_w]
                                        rfl
                                      refine take_ (i := 28) (N := some 117) (v := ?_) (a' := ?_) #[true, true, true, true, true, true, true, true, true, true, true, true, true, true, true, true, true, true, true, true, true, true, true, true, true, true, true, true, true, false, false, false, false] rfl rfl (take_ofW HT_.out HW_.out (by kernel_rfl)) (fun _ _ _ h => h) (Or.inl ⟨by rfl, ?_⟩) hHeld ?_ ?_
                                      rotate_left
                                      · rintro w' ⟨s0, s1, s2, s3, s4, s5⟩
                                        go_simp
                                        with_reducible rfl
                                      rotate_left
                                      · simp only [Act.put, List.setIfInBounds_toArray, List.set_cons_zero, List.set_cons_succ, i64_w, i32_w]
                                        rfl
                                      refine take_ (i := 29) (N := some 118) (v := ?_) (a' := ?_) #[true, true, true, true, true, true, true, true, true, true, true, true, true, true, true, true, true, true, true, true, true, true, true, true, true, true, true, true, true, true, false, false, false] rfl rfl (take_ofW HT_.out HW_.out (by kernel_rfl)) (fun _ _ _ h => h) (Or.inl ⟨by rfl, ?_⟩) hHeld ?_ ?_
                                      rotate_left
                                      · rintro w' ⟨s0, s1, s2, s3, s4, s5⟩
                                        go_simp
                                        with_reducible rfl
                                      rotate_left
                                      · simp only [Act.put, List.setIfInBounds_toArray, List.set_cons_zero, List.set_cons_succ, i64_w, i32_w]
                                        rfl
                                      refine pure_ (i := 30) (N := some 119) (v := ?_) (a' := ?_) #[true, true, true, true, true, true, true, true, true, true, true, true, true, true, true, true, true, true, true, true, true, true, true, true, true, true, true, true, true, true, true, false, false] rfl rfl (any_of HT_.out (by kernel_rfl)) (fun _ _ _ h => h) (Or.inl ⟨by rfl, ?_⟩) ?_ ?_
                                      rotate_left
                                      · intro w'
                                        go_simp
                                        with_reducible rfl
                                      rotate_left
                                      · simp only [Act.put, List.setIfInBounds_toArray, List.set_cons_zero, List.set_cons_succ, i64_w, i32_w]
                                        rfl
                                      refine pure_ (i := 31) (N := some 120) (v := ?_) (a' := ?_) #[true, true, true, true, true, true, true, true, true, true, true, true, true, true, true, true, true, true, true, true, true, true, true, true, true, true, true, true, true, true, true, true, false] rfl rfl (any_of HT_.out (by kernel_rfl)) (fun _ _ _ h => h) (Or.inl ⟨by rfl, ?_⟩) ?_ ?_
                                      rotate_left
                                      · intro w'
                                        go_simp
                                        with_reducible rfl
                                      rotate_left
                                      · simp only [Act.put, List.setIfInBounds_toArray, List.set_cons_zero, List.set_cons_succ, i64_w, i32_w]
                                        rfl
                                      refine pure_ (i := 32) (N := some 4) (v := ?_) (a' := ?_) #[true, true, true, true, true, true, true, true, true, true, true, true, true, true, true, true, true, true, true, true, true, true, true, true, true, true, true, true, true, true, true, true, true] rfl rfl (any_of HT_.out (by kernel_rfl)) (fun _ _ _ h => h) (Or.inl ⟨by rfl, ?_⟩) ?_ ?_
                                      rotate_left
                                      · intro w'
                                        go_simp
                                        with_reducible rfl
                                      rotate_left
                                      · simp only [Act.put, List.setIfInBounds_toArray, List.set_cons_zero, List.set_cons_succ, i64_w, i32_w]
                                        rfl
                                      refine done_ (done_of HT_.out (by kernel_rfl)) ?_
                                      go_wp2
                                      go_ret
                                      exact ⟨by first | rfl | (simp [errW_none, errW_some] <;> rfl) | (simp only [← hji37, ← hji46]; first | rfl | (simp [errW_none, errW_some] <;> rfl)) | (simp [*, errW_none, errW_some] <;> rfl), by repeat (first | (with_reducible first | exact HB.out | apply below_alloc | apply pw_below_drewN | apply below_drew1 | refine below_set ?_ GE635.out) | exact HB.out)⟩
                                    · rw [if_neg c48] at H
                                      exact absurd H (by simp)
                                  · rw [if_neg c47] at H
                                    exact absurd H (by simp)
                                · rw [if_neg c45] at H
                                  exact absurd H (by simp)
                              · rw [if_neg c44] at H
                                exact absurd H (by simp)
                            · rw [if_neg c43] at H
                              exact absurd H (by simp)
                          · rw [if_neg c42] at H
                            exact absurd H (by simp)
                        · rw [if_neg c41] at H
                          exact absurd H (by simp)
                      · rw [if_neg c40] at H
                        exact absurd H (by simp)
                    · rw [if_neg c39] at H
                      exact absurd H (by simp)
                  · rw [if_neg c38] at H
                    exact absurd H (by simp)

end Go.Proofs.YtknkncdlcoglpaaDoor.PAll
