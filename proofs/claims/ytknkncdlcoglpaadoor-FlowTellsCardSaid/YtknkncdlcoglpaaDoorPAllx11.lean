-- Written by wip/tools/myprint.py, a program of the prover's own, over the kit's print; the contracts named 'HAND' there are typed by hand.
import Derived.Test.YtknkncdlcoglpaaDoorPAllx0
import Derived.Test.YtknkncdlcoglpaaDoorPAllx9
import Derived.Test.YtknkncdlcoglpaaDoorPAllx10
namespace Go.Proofs.YtknkncdlcoglpaaDoor.PAll
open Go.RowKit Go.Proofs.YtknkncdlcoglpaaDoorW.PrintWords Go.Proofs.YtknkncdlcoglpaaDoorW.PrintLast Go.Proofs.YtknkncdlcoglpaaDoorW.PrintMore
attribute [local go_sem] max2_int min2_int max_two min_two max_three min_three max_four min_four   -- for this text's walks alone
set_option linter.unusedVariables false
set_option linter.unusedSimpArgs false

theorem q1_11 {α : Type} (l : List α) (i : Nat) (a : α) : l.toArray.setIfInBounds i a = (l.set i a).toArray := List.setIfInBounds_toArray ..
theorem q2_11 {α : Type} (x : α) (l : List α) (a : α) : (x :: l).set 0 a = a :: l := rfl
theorem q3_11 {α : Type} (x : α) (l : List α) (i : Nat) (a : α) : (x :: l).set (i + 1) a = x :: l.set i a := rfl
abbrev t_11 : Bool := true
abbrev f_11 : Bool := false
/-! ### foliateref04_Get: function 15 -/
def foliateref04_Get.l0 : Nat → List Int → List (S50) → Int → Int → List (List Int) → Option (Int × (List (List Int)) × Int)
 | 0, _, _, _, _, _ => none
 | k + 1, x0, x4, x7, x355000, x355001 => if x7 < (x4.length : Int) then (if 0 ≤ x7 then ((foliateref01_Get.f k ((rd_T50 x4 x7).f1)).bind fun bt360 => (if x7 = 0 then (if 0 ≤ bt360.2 then (if bt360.2 ≤ (((rd_T50 x4 x7).f1).length : Int) then ((foliateref01_Get.f k (((rd_T50 x4 x7).f1).drop (bt360.2 : Int).toNat)).bind fun bt368 => (foliateref04_Get.l0 k x0 x4 (wrap64 (x7 + 1)) ((bt368.1) % 4294967296) x355001)) else (none)) else (none)) else (if x7 < (wrap64 ((x4.length : Int) - 1)) then (if 0 ≤ bt360.2 then (if bt360.2 ≤ (((rd_T50 x4 x7).f1).length : Int) then (if x355001.length < 5864062014805 then (foliateref04_Get.l0 k x0 x4 (wrap64 (x7 + 1)) x355000 (x355001 ++ [(((rd_T50 x4 x7).f1).drop (bt360.2 : Int).toNat)])) else (none)) else (none)) else (none)) else (foliateref04_Get.l0 k x0 x4 (wrap64 (x7 + 1)) x355000 x355001)))) else (none)) else ((foliateref04_Put.f k x355000 x355001).bind fun bt355 => (if bt355.2 = 0 then (if (strOfNums bt355.1).toList = (strOfNums x0).toList then (some (x355000, x355001, 0)) else (some (0, ([] : List (List Int)), 4))) else (some (0, ([] : List (List Int)), 4))))
def foliateref04_Get.f (k : Nat) (l0 : List Int) : Option (Int × (List (List Int)) × Int) := (foliateref03_All.f k l0).bind fun bt350 => (if bt350.2 = 0 then (foliateref04_Get.l0 k l0 bt350.1 0 0 ([] : List (List Int))) else (some (0, ([] : List (List Int)), bt350.2)))
def foliateref04_Get.T13 : Bool × List (List Nat × List Nat) := (true, [([], []), ([0], [0]), ([], []), ([], []), ([2, 3], [2, 3]), ([4], [4]), ([5], [5]), ([], []), ([6, 7], [6, 7]), ([8], [8]), ([1, 9], [1, 9]), ([0, 1, 2, 3, 4, 5, 6, 7, 8, 9, 10], []), ([11, 10, 10, 0, 1, 2, 3, 4, 5, 6, 7, 8, 9, 10], [10, 11])])
def foliateref04_Get.B13 : List Nat := [0, 1, 0, 0, 12, 28, 60, 0, 252, 508, 1023, 2047, 4095]
theorem foliateref04_Get.tab13 : rtab .any (opsOf Tryd.f15 13) = foliateref04_Get.T13 := by kernel_rfl
theorem foliateref04_Get.bits13 : waitsOk foliateref04_Get.T13.2 foliateref04_Get.B13 = true := by kernel_rfl
set_option maxHeartbeats 8000000 in
set_option maxRecDepth 100000 in
theorem foliateref04_Get.calls (k : Nat) (A0 : Option Addr) (c0 : Nat) (l0 : List Int) (r1 : Int) (r2 : List (List Int)) (r3 : Int) (w : World) (hr0 : Kd.C (Kd.int .u8) w A0 l0.length l0) (hc0 : l0.length ≤ c0) (h : foliateref04_Get.f k l0 = some (r1, r2, r3)) :
  Calls Tryd.prog 15 #[.slice A0 l0.length c0] w fun e w' => ∃ v1_ : Value, e = .returned (.tuple #[.agg #[.int .u32 r1, v1_], .int .i64 r3]) ∧ Kd.N (Kd.slice 5 (Kd.int .u8)) 26 w' w.heap.size (fun k_ => (w.heap.size ≤ k_)) v1_ r2 ∧ Below w.heap.size w w' := by
 have hu25 := Tryd.underlying25
 have HR0 := Aside0.mk hr0
 have HC0 := Aside0.mk hc0
 clear hr0 hc0
 have HB := Aside0.mk (Below.refl w.heap.size w)
 have H : ((foliateref03_All.f k l0).bind fun bt350 => (if bt350.2 = 0 then (foliateref04_Get.l0 k l0 bt350.1 0 0 ([] : List (List Int))) else (some (0, ([] : List (List Int)), bt350.2)))) = some (r1, r2, r3) := h
 clear h
 replace H := Option.bind_eq_some_iff.mp H
 obtain ⟨⟨t350, t351⟩, A20, H⟩ := H
 replace H : (if t351 = 0 then (foliateref04_Get.l0 k l0 t350 0 0 ([] : List (List Int))) else (some (0, ([] : List (List Int)), t351))) = some (r1, r2, r3) := H
 have A2 := Aside0.mk A20
 clear A20
 by_cases c3 : t351 = 0
 ·rw [if_pos c3] at H
  have c3b0 : (t351 == 0) = true := beq_iff_eq.mpr c3
  have c3b1 : (t351 != 0) = false := bne_eq_false_iff_eq.mpr c3
  clear c3
  have H' := Aside0.mk H
  clear H
  go_enter Tryd.func15, Tryd.ntmps15
  go_wp2_with (first | ((with_reducible refine gate_dst (N := 2) rfl ?_); refine box_event ?hg (N := 2) ?hd (cs := #[.int .u32 0, .slice none 0 0]) (t := 25) ?hr ?_; (case hd => rfl); (case hg => rfl); (case hr => first | (go_simp; done) | (go_simp; rfl)); intro gb349 hg w4 hbox hb; have n0_ := Aside0.mk (below_step (by repeat (first | exact HB.out | apply below_alloc | apply pw_below_drewN | apply below_drew1)) hb); have n1_ := Aside0.mk (hbox); have n2_ := Aside0.mk ((by rw [hg]; exact (below_size (by repeat (first | exact HB.out | apply below_alloc | apply pw_below_drewN | apply below_drew1))) : w.heap.size ≤ gb349)); have n3_ := Aside0.mk ((by rw [hg]; exact (below_size (by repeat (first | exact HB.out | apply below_alloc | apply pw_below_drewN | apply below_drew1))) : w.heap.size ≤ gb349)); clear HB; have HB := n0_; have BK349 := n1_; have GW349 := n2_; have GE349 := n3_; clear n0_ n1_ n2_ n3_; clear hb hbox hg) | ((with_reducible refine gate_callee (f := 31) rfl ?_); refine goesL_ (some 16) rfl rfl Tryd.func31 (by kernel_rfl) rfl #[.slice A0 l0.length c0] rfl (by (try simp only [List.map_toArray, List.map_cons, List.map_nil]); first | done | rfl | (simp only [List.length_drop, List.length_take]; rfl)) ?_; (with_reducible refine (foliateref03_All.calls k _ _ l0 t350 t351 _ ?side1 ?side2 A2.out).mono ?_); (case side1 => repeat (first | exact (Kd.C_below HR0.out HB.out) | (with_reducible refine Kd.C_alloc ?_ _) | (with_reducible refine Kd.C_drewN ?_ _) | (with_reducible refine Kd.C_drew ?_))); (case side2 => exact HC0.out); rintro e w5 ⟨v352, rfl, ho0, hb⟩; refine ⟨_, rfl, ?_⟩; have n0_ := Aside0.mk (Kd.N_lower (Kd.N_mono (ok' := fun k_ => (w.heap.size ≤ k_) ∧ k_ ≠ gb349) (Kd.S_N (Kd.S_bound ho0)) (fun k_ hk_ => ⟨(Nat.le_trans (below_size (by repeat (first | (with_reducible first | exact HB.out | apply below_alloc | apply pw_below_drewN | apply below_drew1 | refine below_set ?_ GE349.out) | exact HB.out))) hk_.2.1), (Kd.freshB (g := gb349) (o := .cells #[.int .u32 0, .slice none 0 0] 25 (0, 0)) (by (with_reducible repeat (first | refine blk_drewN ?_ _ | refine blk_drew ?_ | refine blk_alloc ?_ _)); exact BK349.out) k_ hk_.2.1)⟩)) (below_size (by repeat (first | (with_reducible first | exact HB.out | apply below_alloc | apply pw_below_drewN | apply below_drew1 | refine below_set ?_ GE349.out) | exact HB.out)))); have n1_ := Aside0.mk (blk_below (g := gb349) (o := .cells #[.int .u32 0, .slice none 0 0] 25 (0, 0)) (by (with_reducible repeat (first | refine blk_drewN ?_ _ | refine blk_drew ?_ | refine blk_alloc ?_ _)); exact BK349.out) hb); have n2_ := Aside0.mk (below_step (by repeat (first | (with_reducible first | exact HB.out | apply below_alloc | apply pw_below_drewN | apply below_drew1 | refine below_set ?_ GE349.out) | exact HB.out)) hb); clear BK349; clear HB; have HO353 := n0_; have BK349 := n1_; have HB := n2_; clear n0_ n1_ n2_; (try clear hb); (try clear hb2); (try clear hk); (try clear hi); (try clear ho0)) | ((with_reducible refine gate_dst (N := 6) rfl ?_); refine box_event ?hg (N := 6) ?hd (cs := #[.int .u32 0, .slice none 0 0]) (t := 25) ?hr ?_; (case hd => rfl); (case hg => rfl); (case hr => first | (go_simp; done) | (go_simp; rfl)); intro gb354 hg w6 hbox hb; have n0_ := Aside0.mk (Kd.N_below (Kd.N_elderB (by (with_reducible repeat (first | apply Kd.N_alloc | apply Kd.N_drewN | apply Kd.N_drew)); exact HO353.out) gb354 (Nat.le_of_eq hg.symm)) hb); have n1_ := Aside0.mk (blk_below (g := gb349) (o := .cells #[.int .u32 0, .slice none 0 0] 25 (0, 0)) (by (with_reducible repeat (first | refine blk_drewN ?_ _ | refine blk_drew ?_ | refine blk_alloc ?_ _)); exact BK349.out) hb); have n2_ := Aside0.mk (below_step (by repeat (first | (with_reducible first | exact HB.out | apply below_alloc | apply pw_below_drewN | apply below_drew1 | refine below_set ?_ GE349.out) | exact HB.out)) hb); have n3_ := Aside0.mk (hbox); have n4_ := Aside0.mk ((by rw [hg]; exact (below_size (by repeat (first | (with_reducible first | exact HB.out | apply below_alloc | apply pw_below_drewN | apply below_drew1 | refine below_set ?_ GE349.out) | exact HB.out))) : w.heap.size ≤ gb354)); have n5_ := Aside0.mk ((by rw [hg]; exact (below_size (by repeat (first | (with_reducible first | exact HB.out | apply below_alloc | apply pw_below_drewN | apply below_drew1 | refine below_set ?_ GE349.out) | exact HB.out))) : w.heap.size ≤ gb354)); have n6_ := Aside0.mk ((by rw [hg]; exact Nat.ne_of_lt (blk_lt (g := gb349) (o := .cells #[.int .u32 0, .slice none 0 0] 25 (0, 0)) (by (with_reducible repeat (first | refine blk_drewN ?_ _ | refine blk_drew ?_ | refine blk_alloc ?_ _)); exact BK349.out)) : gb349 ≠ gb354)); have n7_ := Aside0.mk ((by rw [hg]; exact Nat.ne_of_gt (blk_lt (g := gb349) (o := .cells #[.int .u32 0, .slice none 0 0] 25 (0, 0)) (by (with_reducible repeat (first | refine blk_drewN ?_ _ | refine blk_drew ?_ | refine blk_alloc ?_ _)); exact BK349.out)) : gb354 ≠ gb349)); clear HO353; clear BK349; clear HB; have HO353 := n0_; have BK349 := n1_; have HB := n2_; have BK354 := n3_; have GW354 := n4_; have GE354 := n5_; have NB349_354 := n6_; have NB354_349 := n7_; clear n0_ n1_ n2_ n3_ n4_ n5_ n6_ n7_; clear hb hbox hg))
  go_loopg [7] k (fun kq v7 w' => ∃ (x7_1 : Int) (x355000_1 : Int) (x355001_1 : List (List Int)) (u355001 : Value), v7 = .int .i64 x7_1 ∧ Aside0 (foliateref04_Get.l0 kq l0 t350 x7_1 x355000_1 x355001_1 = some (r1, r2, r3)) ∧ Aside0 (kq ≤ k) ∧ Aside0 (Kd.N k50 50 w' w.heap.size (fun k_ => (w.heap.size ≤ k_) ∧ some k_ ≠ (u355001 : Value).ownBlock ∧ k_ ≠ gb349 ∧ k_ ≠ gb354) v352 t350) ∧ Aside0 (Kd.N (Kd.slice 5 (Kd.int .u8)) 26 w' w.heap.size (fun k_ => (w.heap.size ≤ k_) ∧ some k_ ≠ (v352 : Value).ownBlock ∧ k_ ≠ gb349 ∧ k_ ≠ gb354) u355001 x355001_1) ∧ Aside0 (w'.heap[gb349]? = some (.cells #[.int .u32 0, (.slice none 0 0)] 25 (0, 0))) ∧ Aside0 (w'.heap[gb354]? = some (.cells #[.int .u32 x355000_1, u355001] 25 (0, 0))) ∧ Aside0 (Below w.heap.size w w'))
  case atStart => exact ⟨(0), (0), (([] : List (List Int))), (.slice none 0 0), (by first | rfl | (simp; done) | (simp [*]; done)), H', ⟨Nat.le_refl _⟩, ⟨by (with_reducible repeat (first | apply Kd.N_alloc | apply Kd.N_drewN | apply Kd.N_drew)); exact Kd.N_mono HO353.out (fun _ hk => ⟨hk.1.1, ⟨(by simp [Value.ownBlock]), ⟨hk.1.2, hk.2⟩⟩⟩)⟩, ⟨by first | exact Kd.S_nil _ _ _ _ _ | exact Kd.N_nil _ _ _ _ _ | exact Kd.V_nil _ _ _ _ _ | exact Kd.Q_nil _ _ _ _ _ | exact Kd.R_nil _ _ _ _ _⟩, ⟨by (with_reducible repeat (first | refine blk_drewN ?_ _ | refine blk_drew ?_ | refine blk_alloc ?_ _)); exact BK349.out⟩, ⟨by (with_reducible repeat (first | refine blk_drewN ?_ _ | refine blk_drew ?_ | refine blk_alloc ?_ _)); exact BK354.out⟩, ⟨by repeat (first | (with_reducible first | exact HB.out | apply below_alloc | apply pw_below_drewN | apply below_drew1 | refine below_set ?_ GE349.out | refine below_set ?_ GE354.out) | exact HB.out)⟩⟩
  case round =>
   clear H'
   try clear c1
   try clear p2
   try clear c3
   try clear c3b0
   try clear c3b1
   obtain ⟨x7_1, x355000_1, x355001_1, u355001, rfl, HA, HK1, HO_4, HO_355001, BK349, BK354, HB⟩ := hrel
   cases gk with
   | zero => exact absurd HA.out (by simp [foliateref04_Get.l0])
   | succ k1 =>
    have H := HA.out
    clear HA
    simp only [foliateref04_Get.l0] at H
    by_cases c7 : x7_1 < (t350.length : Int)
    ·rw [if_pos c7] at H
     have c7b0 : decide (x7_1 < (t350.length : Int)) = true := decide_eq_true c7
     clear c7
     by_cases c8 : 0 ≤ x7_1
     ·rw [if_pos c8] at H
      have c8b0 : decide (0 ≤ x7_1) = true := decide_eq_true c8
      clear c8
      replace H := Option.bind_eq_some_iff.mp H
      obtain ⟨⟨t360, t361⟩, A90, H⟩ := H
      replace H : (if x7_1 = 0 then (if 0 ≤ t361 then (if t361 ≤ (((rd_T50 t350 x7_1).f1).length : Int) then ((foliateref01_Get.f k1 (((rd_T50 t350 x7_1).f1).drop (t361 : Int).toNat)).bind fun bt368 => (foliateref04_Get.l0 k1 l0 t350 (wrap64 (x7_1 + 1)) ((bt368.1) % 4294967296) x355001_1)) else (none)) else (none)) else (if x7_1 < (wrap64 ((t350.length : Int) - 1)) then (if 0 ≤ t361 then (if t361 ≤ (((rd_T50 t350 x7_1).f1).length : Int) then (if x355001_1.length < 5864062014805 then (foliateref04_Get.l0 k1 l0 t350 (wrap64 (x7_1 + 1)) x355000_1 (x355001_1 ++ [(((rd_T50 t350 x7_1).f1).drop (t361 : Int).toNat)])) else (none)) else (none)) else (none)) else (foliateref04_Get.l0 k1 l0 t350 (wrap64 (x7_1 + 1)) x355000_1 x355001_1))) = some (r1, r2, r3) := H
      have A9 := Aside0.mk A90
      clear A90
      by_cases c10 : x7_1 = 0
      ·rw [if_pos c10] at H
       have c10b0 : (x7_1 == 0) = true := beq_iff_eq.mpr c10
       have c10b1 : (x7_1 != 0) = false := bne_eq_false_iff_eq.mpr c10
       clear c10
       by_cases c11 : 0 ≤ t361
       ·rw [if_pos c11] at H
        have c11b0 := eq_true c11
        have c11b1 : decide (0 ≤ t361) = true := decide_eq_true c11
        clear c11
        by_cases c12 : t361 ≤ (((rd_T50 t350 x7_1).f1).length : Int)
        ·rw [if_pos c12] at H
         have c12b0 := eq_true c12
         have c12b1 : decide (t361 ≤ (((rd_T50 t350 x7_1).f1).length : Int)) = true := decide_eq_true c12
         clear c12
         obtain ⟨y363, hy363⟩ : ∃ y_ : List Int, y_ = (((rd_T50 t350 x7_1).f1).drop (t361 : Int).toNat) := ⟨_, rfl⟩
         replace H : ((foliateref01_Get.f k1 y363).bind fun bt368 => (foliateref04_Get.l0 k1 l0 t350 (wrap64 (x7_1 + 1)) ((bt368.1) % 4294967296) x355001_1)) = some (r1, r2, r3) := by first | (rw [hy363]; with_reducible exact H) | (have H2_ := (Option.bind_some _ _).symm.trans H; rw [hy363]; with_reducible exact H2_) | (have H2_ := (Option.bind_some _ _).symm.trans H; with_reducible exact H2_) | with_reducible exact H | (rw [hy363]; exact H) | exact H
         have Ny363 := Aside0.mk hy363
         clear hy363
         replace H := Option.bind_eq_some_iff.mp H
         obtain ⟨⟨t368, t369⟩, A130, H⟩ := H
         replace H : (foliateref04_Get.l0 k1 l0 t350 (wrap64 (x7_1 + 1)) ((t368) % 4294967296) x355001_1) = some (r1, r2, r3) := H
         have A13 := Aside0.mk A130
         clear A130
         have H' := Aside0.mk H
         clear H
         obtain ⟨Ao14, co14, eo14⟩ := Kd.N_slice HO_4.out
         subst eo14
         have p359 : 0 ≤ (x7_1 : Int) := of_decide_eq_true (by first | (with_reducible assumption) | assumption)
         have q359 : x7_1 < (t350.length : Int) := of_decide_eq_true (by first | (with_reducible assumption) | assumption)
         obtain ⟨ad359, A359_1, c359_1, e359, hx359_0, hx359_1, hl359_1, hi359_1⟩ := at_T50 (Kd.N_reads' HO_4.out).2.2 x7_1 p359 q359
         cases e359
         obtain ⟨ce359, hce359, hMe359, hcc359⟩ := Kd.N_get HO_4.out z50 x7_1 p359 (by first | exact q359 | exact of_decide_eq_true (by first | (with_reducible assumption) | assumption) | (have e_ := (Kd.N_reads' HO_4.out).1; omega))
         obtain ⟨ua359_1, uc359_1, rfl, ul359_1, ge359_1⟩ := k50_openF hMe359
         have hv359_1 := hcc359 1 _ rfl
         rw [add_field _ _ 1 (by omega)] at hv359_1
         replace hv359_1 := Option.some.inj (hv359_1.symm.trans hx359_1)
         injection hv359_1 with hva_ hvn_ hvc_
         rw [hva_] at ge359_1
         rw [hvc_] at ul359_1
         have HL359_1 := Aside0.mk (show Kd.V (Kd.int .u8) 5 _ w.heap.size _ _ ((rd_T50 t350 x7_1).f1) from Kd.V_mk ul359_1 ge359_1)
         clear hva_ hvn_ hvc_ ge359_1 ul359_1
         clear hcc359 hce359
         have HR359_1 := Aside0.mk hi359_1
         have HC359_1 := Aside0.mk hl359_1
         clear hi359_1 hl359_1
         replace p359 := eq_true p359
         replace q359 := eq_true q359
         go_wp2_with (first | ((with_reducible refine gate_callee (f := 32) rfl ?_); refine goesL_ (some 35) rfl rfl Tryd.func32 (by kernel_rfl) rfl #[.slice A359_1 ((rd_T50 t350 x7_1).f1).length c359_1] rfl (by (try simp only [List.map_toArray, List.map_cons, List.map_nil]); first | done | rfl | (simp only [List.length_drop, List.length_take]; rfl)) ?_; (with_reducible refine (foliateref01_Get.calls k1 _ _ ((rd_T50 t350 x7_1).f1) t360 t361 _ ?side1 ?side2 A9.out).mono ?_); (case side1 => repeat (first | exact (by repeat (first | (with_reducible exact HR359_1.out) | (with_reducible refine Kd.C_alloc ?_ _) | (with_reducible refine Kd.C_drewN ?_ _) | (with_reducible refine Kd.C_drew ?_) | exact HR359_1.out)) | (with_reducible refine Kd.C_alloc ?_ _) | (with_reducible refine Kd.C_drewN ?_ _) | (with_reducible refine Kd.C_drew ?_))); (case side2 => exact HC359_1.out); rintro e w15 ⟨rfl, hb⟩; refine ⟨_, rfl, ?_⟩; have n0_ := Aside0.mk (Kd.N_below (by (with_reducible repeat (first | apply Kd.N_alloc | apply Kd.N_drewN | apply Kd.N_drew)); exact HO_4.out) hb); have n1_ := Aside0.mk (Kd.N_below (by (with_reducible repeat (first | apply Kd.N_alloc | apply Kd.N_drewN | apply Kd.N_drew)); exact HO_355001.out) hb); have n2_ := Aside0.mk (Kd.V_below (by (with_reducible repeat (first | apply Kd.V_alloc | apply Kd.V_drewN | apply Kd.V_drew)); exact HL359_1.out) hb); have n3_ := Aside0.mk (blk_below (g := gb349) (o := .cells #[.int .u32 0, .slice none 0 0] 25 (0, 0)) (by (with_reducible repeat (first | refine blk_drewN ?_ _ | refine blk_drew ?_ | refine blk_alloc ?_ _)); exact BK349.out) hb); have n4_ := Aside0.mk (blk_below (g := gb354) (o := .cells #[.int .u32 x355000_1, u355001] 25 (0, 0)) (by (with_reducible repeat (first | refine blk_drewN ?_ _ | refine blk_drew ?_ | refine blk_alloc ?_ _)); exact BK354.out) hb); have n5_ := Aside0.mk (Kd.C_below (by repeat (first | (with_reducible exact HR359_1.out) | (with_reducible refine Kd.C_alloc ?_ _) | (with_reducible refine Kd.C_drewN ?_ _) | (with_reducible refine Kd.C_drew ?_) | exact HR359_1.out)) hb); have n6_ := Aside0.mk (below_step (by repeat (first | (with_reducible first | exact HB.out | apply below_alloc | apply pw_below_drewN | apply below_drew1 | refine below_set ?_ GE349.out | refine below_set ?_ GE354.out) | exact HB.out)) hb); clear HO_4; clear HO_355001; clear HL359_1; clear BK349; clear BK354; clear HR359_1; clear HB; have HO_4 := n0_; have HO_355001 := n1_; have HL359_1 := n2_; have BK349 := n3_; have BK354 := n4_; have HR359_1 := n5_; have HB := n6_; clear n0_ n1_ n2_ n3_ n4_ n5_ n6_; (try clear hb); (try clear hb2); (try clear hk); (try clear hi); have p362 : 0 ≤ (x7_1 : Int) := of_decide_eq_true (by first | (with_reducible assumption) | assumption); have q362 : x7_1 < (t350.length : Int) := of_decide_eq_true (by first | (with_reducible assumption) | assumption); obtain ⟨ad362, A362_1, c362_1, e362, hx362_0, hx362_1, hl362_1, hi362_1⟩ := at_T50 (Kd.N_reads' HO_4.out).2.2 x7_1 p362 q362; obtain rfl : ad359 = ad362 := (by injection e362); obtain ⟨ce362, hce362, hMe362, hcc362⟩ := Kd.N_get HO_4.out z50 x7_1 p362 (by first | exact q362 | exact of_decide_eq_true (by first | (with_reducible assumption) | assumption) | (have e_ := (Kd.N_reads' HO_4.out).1; omega)); obtain ⟨ua362_1, uc362_1, rfl, ul362_1, ge362_1⟩ := k50_openF hMe362; have hv362_1 := hcc362 1 _ rfl; rw [add_field _ _ 1 (by omega)] at hv362_1; replace hv362_1 := Option.some.inj (hv362_1.symm.trans hx362_1); injection hv362_1 with hva_ hvn_ hvc_; rw [hva_] at ge362_1; rw [hvc_] at ul362_1; have HL362_1 := Aside0.mk (show Kd.V (Kd.int .u8) 5 _ w.heap.size _ _ ((rd_T50 t350 x7_1).f1) from Kd.V_mk ul362_1 ge362_1); clear hva_ hvn_ hvc_ ge362_1 ul362_1; clear hcc362 hce362; have HR362_1 := Aside0.mk hi362_1; have HC362_1 := Aside0.mk hl362_1; clear hi362_1 hl362_1; replace p362 := eq_true p362; replace q362 := eq_true q362; have q16 : (t361 : Int) ≤ ((((rd_T50 t350 x7_1).f1).length : Int) : Int) := of_decide_eq_true (by first | (with_reducible assumption) | assumption); obtain ⟨i016, hi016, _, hsz16, _⟩ := info_parts info5; have hroom16 : ((rd_T50 t350 x7_1).f1).length ≤ c362_1 := HC362_1.out; have hC16 : Kd.F (Kd.int .u8) _ _ A362_1 ((rd_T50 t350 x7_1).f1).length ((rd_T50 t350 x7_1).f1) := (Kd.V_at (base := w.heap.size) HL362_1.out).2.2; have q016 : (0 : Int) ≤ (t361 : Int) := of_decide_eq_true (by first | (with_reducible assumption) | assumption); have hcut16 := cut_from (P := Tryd.prog) 26 5 .i64 Tryd.underlying26 hi016 1 hsz16 A362_1 ((rd_T50 t350 x7_1).f1).length c362_1 t361 q016 q16; have hr16 := Kd.F_cut (m := (t361 : Int).toNat) (c := c362_1) hC16 (by omega) hroom16; obtain ⟨A16, hA16⟩ : ∃ A1, A1 = (if c362_1 = (t361 : Int).toNat then A362_1 else (A362_1 : Option Addr).map (·.add ((t361 : Int).toNat * 1))) := ⟨_, rfl⟩; obtain ⟨c16, hc16⟩ : ∃ c1, c1 = c362_1 - (t361 : Int).toNat := ⟨_, rfl⟩; have hy16 : y363.length = ((rd_T50 t350 x7_1).f1).length - (t361 : Int).toNat := (by rw [Ny363.out, List.length_drop] <;> omega); rw [show ((rd_T50 t350 x7_1).f1).drop (t361 : Int).toNat = y363 from Ny363.out.symm] at hr16; replace hr16 : Kd.F (Kd.int .u8) _ _ A16 y363.length y363 := (by rw [hA16]; exact hr16); rw [← hy16, ← hA16, ← hc16] at hcut16; have HO367 := Aside0.mk (show Kd.V (Kd.int .u8) 5 _ w.heap.size _ (.slice A16 y363.length c16) y363 from Kd.V_mk (by rw [hy16, hc16]; exact Nat.sub_le_sub_right hroom16 _) hr16); have HC367 := Aside0.mk (show y363.length ≤ c16 from by rw [hy16, hc16]; exact Nat.sub_le_sub_right hroom16 _); clear hr16 hC16 hroom16 hi016 hsz16 hc16; have KY16 := Aside0.mk hy16; have KA16 := Aside0.mk hA16; clear hy16 hA16; replace q16 := eq_true q16) | ((with_reducible refine gate_callee (f := 32) rfl ?_); refine goesL_ (some 48) rfl rfl Tryd.func32 (by kernel_rfl) rfl #[.slice A16 y363.length c16] rfl (by (try simp only [List.map_toArray, List.map_cons, List.map_nil]); first | done | rfl | (simp only [List.length_drop, List.length_take]; rfl)) ?_; (with_reducible refine (foliateref01_Get.calls k1 _ _ y363 t368 t369 _ ?side1 ?side2 A13.out).mono ?_); (case side1 => repeat (first | exact (Kd.V_reads' HO367.out).2.2 | (with_reducible refine Kd.C_alloc ?_ _) | (with_reducible refine Kd.C_drewN ?_ _) | (with_reducible refine Kd.C_drew ?_))); (case side2 => exact (Kd.V_reads' HO367.out).2.1); rintro e w17 ⟨rfl, hb⟩; refine ⟨_, rfl, ?_⟩; have n0_ := Aside0.mk (Kd.N_below (by (with_reducible repeat (first | apply Kd.N_alloc | apply Kd.N_drewN | apply Kd.N_drew)); exact HO_4.out) hb); have n1_ := Aside0.mk (Kd.N_below (by (with_reducible repeat (first | apply Kd.N_alloc | apply Kd.N_drewN | apply Kd.N_drew)); exact HO_355001.out) hb); have n2_ := Aside0.mk (Kd.V_below (by (with_reducible repeat (first | apply Kd.V_alloc | apply Kd.V_drewN | apply Kd.V_drew)); exact HL359_1.out) hb); have n3_ := Aside0.mk (Kd.V_below (by (with_reducible repeat (first | apply Kd.V_alloc | apply Kd.V_drewN | apply Kd.V_drew)); exact HL362_1.out) hb); have n4_ := Aside0.mk (Kd.V_below (by (with_reducible repeat (first | apply Kd.V_alloc | apply Kd.V_drewN | apply Kd.V_drew)); exact HO367.out) hb); have n5_ := Aside0.mk (blk_below (g := gb349) (o := .cells #[.int .u32 0, .slice none 0 0] 25 (0, 0)) (by (with_reducible repeat (first | refine blk_drewN ?_ _ | refine blk_drew ?_ | refine blk_alloc ?_ _)); exact BK349.out) hb); have n6_ := Aside0.mk (blk_below (g := gb354) (o := .cells #[.int .u32 x355000_1, u355001] 25 (0, 0)) (by (with_reducible repeat (first | refine blk_drewN ?_ _ | refine blk_drew ?_ | refine blk_alloc ?_ _)); exact BK354.out) hb); have n7_ := Aside0.mk (Kd.C_below (by repeat (first | (with_reducible exact HR359_1.out) | (with_reducible refine Kd.C_alloc ?_ _) | (with_reducible refine Kd.C_drewN ?_ _) | (with_reducible refine Kd.C_drew ?_) | exact HR359_1.out)) hb); have n8_ := Aside0.mk (Kd.C_below (by repeat (first | (with_reducible exact HR362_1.out) | (with_reducible refine Kd.C_alloc ?_ _) | (with_reducible refine Kd.C_drewN ?_ _) | (with_reducible refine Kd.C_drew ?_) | exact HR362_1.out)) hb); have n9_ := Aside0.mk (below_step (by repeat (first | (with_reducible first | exact HB.out | apply below_alloc | apply pw_below_drewN | apply below_drew1 | refine below_set ?_ GE349.out | refine below_set ?_ GE354.out) | exact HB.out)) hb); clear HO_4; clear HO_355001; clear HL359_1; clear HL362_1; clear HO367; clear BK349; clear BK354; clear HR359_1; clear HR362_1; clear HB; have HO_4 := n0_; have HO_355001 := n1_; have HL359_1 := n2_; have HL362_1 := n3_; have HO367 := n4_; have BK349 := n5_; have BK354 := n6_; have HR359_1 := n7_; have HR362_1 := n8_; have HB := n9_; clear n0_ n1_ n2_ n3_ n4_ n5_ n6_ n7_ n8_ n9_; (try clear hb); (try clear hb2); (try clear hk); (try clear hi); have hnb18 := NB354_349.out; have hnc18 := NB349_354.out; have hcz19_0 : w17.cell? ⟨gb354, 0, none⟩ = some (.int .u32 x355000_1) := (blk_cell BK354.out 0).trans rfl; have hcz19_1 : w17.cell? ⟨gb354, 1, none⟩ = some (u355001) := (blk_cell BK354.out 1).trans rfl; have hfz19_0 := blk_frozen BK354.out 0; have hfz19_1 := blk_frozen BK354.out 1))
         go_roundg k1
         case measure => have := HK1.out; omega
         case rel => exact ⟨(wrap64 (x7_1 + 1)), ((t368) % 4294967296), (x355001_1), (u355001), (by first | rfl | (simp; done) | (simp [*]; done)), H', ⟨by have := HK1.out; omega⟩, ⟨by (with_reducible repeat (first | apply Kd.N_alloc | apply Kd.N_drewN | apply Kd.N_drew)); exact Kd.N_mono (Kd.N_far (p := ⟨gb354, 0, none⟩) (Kd.N_mono HO_4.out (fun k_ hk => (⟨hk, hk.2.2.2⟩ : _ ∧ k_ ≠ gb354))) (fun _ h => by first | exact h.2 | exact h | trivial) (.int .u32 ((t368) % 4294967296))) (fun _ hk => ⟨hk.1.1, ⟨hk.1.2.1, ⟨hk.1.2.2.1, hk.1.2.2.2⟩⟩⟩)⟩, ⟨by (with_reducible repeat (first | apply Kd.N_alloc | apply Kd.N_drewN | apply Kd.N_drew)); exact Kd.N_mono (Kd.N_far (p := ⟨gb354, 0, none⟩) (Kd.N_mono HO_355001.out (fun k_ hk => (⟨hk, hk.2.2.2⟩ : _ ∧ k_ ≠ gb354))) (fun _ h => by first | exact h.2 | exact h | trivial) (.int .u32 ((t368) % 4294967296))) (fun _ hk => ⟨hk.1.1, ⟨hk.1.2.1, ⟨hk.1.2.2.1, hk.1.2.2.2⟩⟩⟩)⟩, ⟨by (with_reducible repeat (first | refine blk_drewN ?_ _ | refine blk_drew ?_ | refine blk_alloc ?_ _)); refine blk_far ?_ NB349_354.out _; (with_reducible repeat (first | refine blk_drewN ?_ _ | refine blk_drew ?_ | refine blk_alloc ?_ _)); exact BK349.out⟩, ⟨by (with_reducible repeat (first | refine blk_drewN ?_ _ | refine blk_drew ?_ | refine blk_alloc ?_ _)); refine blk_put (cs := #[.int .u32 x355000_1, u355001]) ?_ 0 _ rfl; (with_reducible repeat (first | refine blk_drewN ?_ _ | refine blk_drew ?_ | refine blk_alloc ?_ _)); exact BK354.out⟩, ⟨by repeat (first | (with_reducible first | exact HB.out | apply below_alloc | apply pw_below_drewN | apply below_drew1 | refine below_set ?_ GE349.out | refine below_set ?_ GE354.out) | exact HB.out)⟩⟩
        ·rw [if_neg c12] at H
         exact absurd H (by simp)
       ·rw [if_neg c11] at H
        exact absurd H (by simp)
      ·rw [if_neg c10] at H
       have c10b0 : (x7_1 == 0) = false := beq_eq_false_iff_ne.mpr c10
       have c10b1 : (x7_1 != 0) = true := bne_iff_ne.mpr c10
       by_cases c20 : x7_1 < (wrap64 ((t350.length : Int) - 1))
       ·rw [if_pos c20] at H
        have c20b0 : decide (x7_1 < (wrap64 ((t350.length : Int) - 1))) = true := decide_eq_true c20
        clear c20
        by_cases c21 : 0 ≤ t361
        ·rw [if_pos c21] at H
         have c21b0 := eq_true c21
         have c21b1 : decide (0 ≤ t361) = true := decide_eq_true c21
         clear c21
         by_cases c22 : t361 ≤ (((rd_T50 t350 x7_1).f1).length : Int)
         ·rw [if_pos c22] at H
          have c22b0 := eq_true c22
          have c22b1 : decide (t361 ≤ (((rd_T50 t350 x7_1).f1).length : Int)) = true := decide_eq_true c22
          clear c22
          obtain ⟨y371, hy371⟩ : ∃ y_ : List Int, y_ = (((rd_T50 t350 x7_1).f1).drop (t361 : Int).toNat) := ⟨_, rfl⟩
          replace H : (if x355001_1.length < 5864062014805 then (foliateref04_Get.l0 k1 l0 t350 (wrap64 (x7_1 + 1)) x355000_1 (x355001_1 ++ [y371])) else (none)) = some (r1, r2, r3) := by first | (rw [hy371]; with_reducible exact H) | (have H2_ := (Option.bind_some _ _).symm.trans H; rw [hy371]; with_reducible exact H2_) | (have H2_ := (Option.bind_some _ _).symm.trans H; with_reducible exact H2_) | with_reducible exact H | (rw [hy371]; exact H) | exact H
          have Ny371 := Aside0.mk hy371
          clear hy371
          by_cases c23 : x355001_1.length < 5864062014805
          ·rw [if_pos c23] at H
           have LMc23 := Aside0.mk c23
           clear c23
           obtain ⟨y376, hy376⟩ : ∃ y_ : List (List Int), y_ = (x355001_1 ++ [y371]) := ⟨_, rfl⟩
           replace H : (foliateref04_Get.l0 k1 l0 t350 (wrap64 (x7_1 + 1)) x355000_1 y376) = some (r1, r2, r3) := by first | (rw [hy376]; with_reducible exact H) | (have H2_ := (Option.bind_some _ _).symm.trans H; rw [hy376]; with_reducible exact H2_) | (have H2_ := (Option.bind_some _ _).symm.trans H; with_reducible exact H2_) | with_reducible exact H | (rw [hy376]; exact H) | exact H
           have Ny376 := Aside0.mk hy376
           clear hy376
           have H' := Aside0.mk H
           clear H
           obtain ⟨Ao24, co24, eo24⟩ := Kd.N_slice HO_4.out
           subst eo24
           have p359 : 0 ≤ (x7_1 : Int) := of_decide_eq_true (by first | (with_reducible assumption) | assumption)
           have q359 : x7_1 < (t350.length : Int) := of_decide_eq_true (by first | (with_reducible assumption) | assumption)
           obtain ⟨ad359, A359_1, c359_1, e359, hx359_0, hx359_1, hl359_1, hi359_1⟩ := at_T50 (Kd.N_reads' HO_4.out).2.2 x7_1 p359 q359
           cases e359
           obtain ⟨ce359, hce359, hMe359, hcc359⟩ := Kd.N_get HO_4.out z50 x7_1 p359 (by first | exact q359 | exact of_decide_eq_true (by first | (with_reducible assumption) | assumption) | (have e_ := (Kd.N_reads' HO_4.out).1; omega))
           obtain ⟨ua359_1, uc359_1, rfl, ul359_1, ge359_1⟩ := k50_openF hMe359
           have hv359_1 := hcc359 1 _ rfl
           rw [add_field _ _ 1 (by omega)] at hv359_1
           replace hv359_1 := Option.some.inj (hv359_1.symm.trans hx359_1)
           injection hv359_1 with hva_ hvn_ hvc_
           rw [hva_] at ge359_1
           rw [hvc_] at ul359_1
           have HL359_1 := Aside0.mk (show Kd.V (Kd.int .u8) 5 _ w.heap.size _ _ ((rd_T50 t350 x7_1).f1) from Kd.V_mk ul359_1 ge359_1)
           clear hva_ hvn_ hvc_ ge359_1 ul359_1
           clear hcc359 hce359
           have HR359_1 := Aside0.mk hi359_1
           have HC359_1 := Aside0.mk hl359_1
           clear hi359_1 hl359_1
           replace p359 := eq_true p359
           replace q359 := eq_true q359
           try go_wp2_with (first | ((with_reducible refine gate_callee (f := 32) rfl ?_); refine goesL_ (some 35) rfl rfl Tryd.func32 (by kernel_rfl) rfl #[.slice A359_1 ((rd_T50 t350 x7_1).f1).length c359_1] rfl (by (try simp only [List.map_toArray, List.map_cons, List.map_nil]); first | done | rfl | (simp only [List.length_drop, List.length_take]; rfl)) ?_; (with_reducible refine (foliateref01_Get.calls k1 _ _ ((rd_T50 t350 x7_1).f1) t360 t361 _ ?side1 ?side2 A9.out).mono ?_); (case side1 => repeat (first | exact (by repeat (first | (with_reducible exact HR359_1.out) | (with_reducible refine Kd.C_alloc ?_ _) | (with_reducible refine Kd.C_drewN ?_ _) | (with_reducible refine Kd.C_drew ?_) | exact HR359_1.out)) | (with_reducible refine Kd.C_alloc ?_ _) | (with_reducible refine Kd.C_drewN ?_ _) | (with_reducible refine Kd.C_drew ?_))); (case side2 => exact HC359_1.out); rintro e w25 ⟨rfl, hb⟩; refine ⟨_, rfl, ?_⟩; have n0_ := Aside0.mk (Kd.N_below (by (with_reducible repeat (first | apply Kd.N_alloc | apply Kd.N_drewN | apply Kd.N_drew)); exact HO_4.out) hb); have n1_ := Aside0.mk (Kd.N_below (by (with_reducible repeat (first | apply Kd.N_alloc | apply Kd.N_drewN | apply Kd.N_drew)); exact HO_355001.out) hb); have n2_ := Aside0.mk (Kd.V_below (by (with_reducible repeat (first | apply Kd.V_alloc | apply Kd.V_drewN | apply Kd.V_drew)); exact HL359_1.out) hb); have n3_ := Aside0.mk (blk_below (g := gb349) (o := .cells #[.int .u32 0, .slice none 0 0] 25 (0, 0)) (by (with_reducible repeat (first | refine blk_drewN ?_ _ | refine blk_drew ?_ | refine blk_alloc ?_ _)); exact BK349.out) hb); have n4_ := Aside0.mk (blk_below (g := gb354) (o := .cells #[.int .u32 x355000_1, u355001] 25 (0, 0)) (by (with_reducible repeat (first | refine blk_drewN ?_ _ | refine blk_drew ?_ | refine blk_alloc ?_ _)); exact BK354.out) hb); have n5_ := Aside0.mk (Kd.C_below (by repeat (first | (with_reducible exact HR359_1.out) | (with_reducible refine Kd.C_alloc ?_ _) | (with_reducible refine Kd.C_drewN ?_ _) | (with_reducible refine Kd.C_drew ?_) | exact HR359_1.out)) hb); have n6_ := Aside0.mk (below_step (by repeat (first | (with_reducible first | exact HB.out | apply below_alloc | apply pw_below_drewN | apply below_drew1 | refine below_set ?_ GE349.out | refine below_set ?_ GE354.out) | exact HB.out)) hb); clear HO_4; clear HO_355001; clear HL359_1; clear BK349; clear BK354; clear HR359_1; clear HB; have HO_4 := n0_; have HO_355001 := n1_; have HL359_1 := n2_; have BK349 := n3_; have BK354 := n4_; have HR359_1 := n5_; have HB := n6_; clear n0_ n1_ n2_ n3_ n4_ n5_ n6_; (try clear hb); (try clear hb2); (try clear hk); (try clear hi)))
           have n0_ := Aside0.mk (Kd.N_drew HO_4.out)
           have n1_ := Aside0.mk (Kd.N_drew HO_355001.out)
           have n2_ := Aside0.mk (Kd.V_drew HL359_1.out)
           have n3_ := Aside0.mk (blk_drew BK349.out)
           have n4_ := Aside0.mk (blk_drew BK354.out)
           have n5_ := Aside0.mk (Kd.C_drew HR359_1.out)
           have n6_ := Aside0.mk (below_drew1 HB.out)
           clear HO_4
           clear HO_355001
           clear HL359_1
           clear BK349
           clear BK354
           clear HR359_1
           clear HB
           have HO_4 := n0_
           have HO_355001 := n1_
           have HL359_1 := n2_
           have BK349 := n3_
           have BK354 := n4_
           have HR359_1 := n5_
           have HB := n6_
           clear n0_ n1_ n2_ n3_ n4_ n5_ n6_
           have p370 : 0 ≤ (x7_1 : Int) := of_decide_eq_true (by first | (with_reducible assumption) | assumption)
           have q370 : x7_1 < (t350.length : Int) := of_decide_eq_true (by first | (with_reducible assumption) | assumption)
           obtain ⟨ad370, A370_1, c370_1, e370, hx370_0, hx370_1, hl370_1, hi370_1⟩ := at_T50 (Kd.N_reads' HO_4.out).2.2 x7_1 p370 q370
           obtain rfl : ad359 = ad370 := (by injection e370)
           obtain ⟨ce370, hce370, hMe370, hcc370⟩ := Kd.N_get HO_4.out z50 x7_1 p370 (by first | exact q370 | exact of_decide_eq_true (by first | (with_reducible assumption) | assumption) | (have e_ := (Kd.N_reads' HO_4.out).1; omega))
           obtain ⟨ua370_1, uc370_1, rfl, ul370_1, ge370_1⟩ := k50_openF hMe370
           have hv370_1 := hcc370 1 _ rfl
           rw [add_field _ _ 1 (by omega)] at hv370_1
           replace hv370_1 := Option.some.inj (hv370_1.symm.trans hx370_1)
           injection hv370_1 with hva_ hvn_ hvc_
           rw [hva_] at ge370_1
           rw [hvc_] at ul370_1
           have HL370_1 := Aside0.mk (show Kd.V (Kd.int .u8) 5 _ w.heap.size _ _ ((rd_T50 t350 x7_1).f1) from Kd.V_mk ul370_1 ge370_1)
           clear hva_ hvn_ hvc_ ge370_1 ul370_1
           clear hcc370 hce370
           have HR370_1 := Aside0.mk hi370_1
           have HC370_1 := Aside0.mk hl370_1
           clear hi370_1 hl370_1
           replace p370 := eq_true p370
           replace q370 := eq_true q370
           have q27 : (t361 : Int) ≤ ((((rd_T50 t350 x7_1).f1).length : Int) : Int) := of_decide_eq_true (by first | (with_reducible assumption) | assumption)
           obtain ⟨i027, hi027, _, hsz27, _⟩ := info_parts info5
           have hroom27 : ((rd_T50 t350 x7_1).f1).length ≤ c370_1 := HC370_1.out
           have hC27 : Kd.F (Kd.int .u8) _ _ A370_1 ((rd_T50 t350 x7_1).f1).length ((rd_T50 t350 x7_1).f1) := (Kd.V_at (base := w.heap.size) HL370_1.out).2.2
           have q027 : (0 : Int) ≤ (t361 : Int) := of_decide_eq_true (by first | (with_reducible assumption) | assumption)
           have hcut27 := cut_from (P := Tryd.prog) 26 5 .i64 Tryd.underlying26 hi027 1 hsz27 A370_1 ((rd_T50 t350 x7_1).f1).length c370_1 t361 q027 q27
           have hr27 := Kd.F_cut (m := (t361 : Int).toNat) (c := c370_1) hC27 (by omega) hroom27
           obtain ⟨A27, hA27⟩ : ∃ A1, A1 = (if c370_1 = (t361 : Int).toNat then A370_1 else (A370_1 : Option Addr).map (·.add ((t361 : Int).toNat * 1))) := ⟨_, rfl⟩
           obtain ⟨c27, hc27⟩ : ∃ c1, c1 = c370_1 - (t361 : Int).toNat := ⟨_, rfl⟩
           have hy27 : y371.length = ((rd_T50 t350 x7_1).f1).length - (t361 : Int).toNat := (by rw [Ny371.out, List.length_drop] <;> omega)
           rw [show ((rd_T50 t350 x7_1).f1).drop (t361 : Int).toNat = y371 from Ny371.out.symm] at hr27
           replace hr27 : Kd.F (Kd.int .u8) _ _ A27 y371.length y371 := (by rw [hA27]; exact hr27)
           rw [← hy27, ← hA27, ← hc27] at hcut27
           have HO375 := Aside0.mk (show Kd.V (Kd.int .u8) 5 _ w.heap.size _ (.slice A27 y371.length c27) y371 from Kd.V_mk (by rw [hy27, hc27]; exact Nat.sub_le_sub_right hroom27 _) hr27)
           have HC375 := Aside0.mk (show y371.length ≤ c27 from by rw [hy27, hc27]; exact Nat.sub_le_sub_right hroom27 _)
           clear hr27 hC27 hroom27 hi027 hsz27 hc27
           have KY27 := Aside0.mk hy27
           have KA27 := Aside0.mk hA27
           clear hy27 hA27
           replace q27 := eq_true q27
           refine start_ (n := 13) (S := fun w' => w'.cell? ⟨gb354, 0, none⟩ = some (.int .u32 x355000_1) ∧ w'.cell? ⟨gb354, 1, none⟩ = some (u355001) ∧ w'.cell? (ad359.add ((x7_1).toNat * 2)) = some (.int .i64 ((rd_T50 t350 x7_1).f0)) ∧ w'.cell? ⟨(ad359.add ((x7_1).toNat * 2)).block, (ad359.add ((x7_1).toNat * 2)).off + 1, none⟩ = some (.slice A370_1 ((rd_T50 t350 x7_1).f1).length c370_1)) (ds := [10, 12]) #[f_11,f_11,f_11,f_11,f_11,f_11,f_11,f_11,f_11,f_11,f_11,f_11,f_11] (by kernel_rfl) rfl rfl ⟨(blk_cell BK354.out 0).trans rfl, (blk_cell BK354.out 1).trans rfl, hx370_0, hx370_1⟩ (fun hHeld => ?_); refine with_tabW foliateref04_Get.tab13 foliateref04_Get.bits13 (fun HT_ HW_ => ?_)
           generalize w25.drew = w26 at HO_4 HO_355001 HL359_1 BK349 BK354 HR359_1 HB HL370_1 HO375 HR370_1 hx370_0 hx370_1 hHeld ⊢
           refine pure_ (i := 0) (N := some 59) (v := ?_) (a' := ?_) #[t_11,f_11,f_11,f_11,f_11,f_11,f_11,f_11,f_11,f_11,f_11,f_11,f_11] rfl rfl (any_of HT_.out (by kernel_rfl)) (fun _ _ _ h => h) (Or.inl ⟨by rfl, ?_⟩) ?_ ?_; rotate_left; (·intro w'; go_simp; with_reducible rfl); rotate_left; (·simp only [Act.put, q1_11, q2_11, q3_11, i64_w, i32_w]; rfl)
           refine pure_ (i := 2) (N := some 61) (v := ?_) (a' := ?_) #[t_11,f_11,t_11,f_11,f_11,f_11,f_11,f_11,f_11,f_11,f_11,f_11,f_11] rfl rfl (any_of HT_.out (by kernel_rfl)) (fun _ _ _ h => h) (Or.inl ⟨by rfl, ?_⟩) ?_ ?_; rotate_left; (·intro w'; go_simp; with_reducible rfl); rotate_left; (·simp only [Act.put, q1_11, q2_11, q3_11, i64_w, i32_w]; rfl)
           refine pure_ (i := 3) (N := some 62) (v := ?_) (a' := ?_) #[t_11,f_11,t_11,t_11,f_11,f_11,f_11,f_11,f_11,f_11,f_11,f_11,f_11] rfl rfl (any_of HT_.out (by kernel_rfl)) (fun _ _ _ h => h) (Or.inl ⟨by rfl, ?_⟩) ?_ ?_; rotate_left; (·intro w'; go_simp; with_reducible rfl); rotate_left; (·simp only [Act.put, q1_11, q2_11, q3_11, i64_w, i32_w]; rfl)
           refine pure_ (i := 4) (N := some 63) (v := ?_) (a' := ?_) #[t_11,f_11,t_11,t_11,t_11,f_11,f_11,f_11,f_11,f_11,f_11,f_11,f_11] rfl rfl (any_of HT_.out (by kernel_rfl)) (fun _ _ _ h => h) (Or.inl ⟨by rfl, ?_⟩) ?_ ?_; rotate_left; (·intro w'; go_simp; with_reducible rfl); rotate_left; (·simp only [Act.put, q1_11, q2_11, q3_11, i64_w, i32_w]; rfl)
           refine pure_ (i := 5) (N := some 64) (v := ?_) (a' := ?_) #[t_11,f_11,t_11,t_11,t_11,t_11,f_11,f_11,f_11,f_11,f_11,f_11,f_11] rfl rfl (any_of HT_.out (by kernel_rfl)) (fun _ _ _ h => h) (Or.inl ⟨by rfl, ?_⟩) ?_ ?_; rotate_left; (·intro w'; go_simp; with_reducible rfl); rotate_left; (·simp only [Act.put, q1_11, q2_11, q3_11, i64_w, i32_w]; rfl)
           refine pure_ (i := 7) (N := some 66) (v := ?_) (a' := ?_) #[t_11,f_11,t_11,t_11,t_11,t_11,f_11,t_11,f_11,f_11,f_11,f_11,f_11] rfl rfl (any_of HT_.out (by kernel_rfl)) (fun _ _ _ h => h) (Or.inl ⟨by rfl, ?_⟩) ?_ ?_; rotate_left; (·intro w'; go_simp; with_reducible rfl); rotate_left; (·simp only [Act.put, q1_11, q2_11, q3_11, i64_w, i32_w]; rfl)
           refine take_ (i := 1) (N := some 60) (v := ?_) (a' := ?_) #[t_11,t_11,t_11,t_11,t_11,t_11,f_11,t_11,f_11,f_11,f_11,f_11,f_11] rfl rfl (take_ofW HT_.out HW_.out (by kernel_rfl)) (fun _ _ _ h => h) (Or.inl ⟨by rfl, ?_⟩) hHeld ?_ ?_
           rotate_left
           ·rintro w' ⟨s0, s1, s2, s3⟩
            go_simp
            with_reducible rfl
           rotate_left
           ·simp only [Act.put, q1_11, q2_11, q3_11, i64_w, i32_w]
            rfl
           refine take_ (i := 6) (N := some 65) (v := ?_) (a' := ?_) #[t_11,t_11,t_11,t_11,t_11,t_11,t_11,t_11,f_11,f_11,f_11,f_11,f_11] rfl rfl (take_ofW HT_.out HW_.out (by kernel_rfl)) (fun _ _ _ h => h) (Or.inl ⟨by rfl, ?_⟩) hHeld ?_ ?_
           rotate_left
           ·rintro w' ⟨s0, s1, s2, s3⟩
            go_simp
            with_reducible rfl
           rotate_left
           ·simp only [Act.put, q1_11, q2_11, q3_11, i64_w, i32_w]
            rfl
           refine pure_ (i := 8) (N := some 67) (v := ?_) (a' := ?_) #[t_11,t_11,t_11,t_11,t_11,t_11,t_11,t_11,t_11,f_11,f_11,f_11,f_11] rfl rfl (any_of HT_.out (by kernel_rfl)) (fun _ _ _ h => h) (Or.inl ⟨by rfl, ?_⟩) ?_ ?_; rotate_left; (·intro w'; go_simp; with_reducible rfl); rotate_left; (·simp only [Act.put, q1_11, q2_11, q3_11, i64_w, i32_w]; rfl)
           refine one_ (i := 9) (N := some 68) #[t_11,t_11,t_11,t_11,t_11,t_11,t_11,t_11,t_11,t_11,f_11,f_11,f_11] rfl rfl (one_of HT_.out (by kernel_rfl)) (by decide) (fun K hK => ?_)
           refine value_ (w1 := ?_) (v := ?_) (by rfl) rfl ?_ ?_
           rotate_left 2
           ·go_simp
            constructor
            ·rfl
            ·rfl
           refine hK.out _ _ ⟨(blk_cell (blk_alloc BK354.out _) 0).trans rfl, (blk_cell (blk_alloc BK354.out _) 1).trans rfl, (World.cell?_alloc_lt _ _ _ (World.block_lt_of_cell? _ _ (hHeld.2.2.1))).trans (hHeld.2.2.1), (World.cell?_alloc_lt _ _ _ (World.block_lt_of_cell? _ _ (hHeld.2.2.2))).trans (hHeld.2.2.2)⟩ (fun hHeld => ?_)
           clear hK K
           refine norm_ (a' := ?_) ?_ ?_
           rotate_left
           ·show Act.put _ (some 68) _ = _
            simp only [Act.put, q1_11, q2_11, q3_11, i64_w, i32_w]
            rfl
           refine last_ (i := 10) (N := some 69) #[t_11,t_11,t_11,t_11,t_11,t_11,t_11,t_11,t_11,t_11,t_11,f_11,f_11] rfl rfl (one_of HT_.out (by kernel_rfl)) (by decide) (fun K hK => ?_)
           refine Kd.N_append_step (Kd.slice 5 (Kd.int .u8)) (w0 := w) w.heap.size (by rfl) (.tmp 60) (.tmp 68) 23 26 (.slice none 0 0) 24 rfl Tryd.underlying23 info26 rfl (by decide) (by omega) u355001 x355001_1 y371 [.slice A27 y371.length c27] (fun k_ => (w.heap.size ≤ k_) ∧ some k_ ≠ (.slice (some ad359) t350.length co24 : Value).ownBlock ∧ k_ ≠ gb349 ∧ k_ ≠ gb354) (fun k_ => ((fun k_ => (w.heap.size ≤ k_) ∧ some k_ ≠ (.slice (some ad359) t350.length co24 : Value).ownBlock ∧ k_ ≠ gb349 ∧ k_ ≠ gb354)) k_ ∧ some k_ ≠ (u355001 : Value).ownBlock) rfl rfl ?aP (fun _ hk => hk) ?aF ?aO ?aB ?aS ?aL ?_
           (case aP => exact (Kd.FK_slice_mk (Kd.V_reads' (Kd.V_mono (ok' := (fun k_ => ((fun k_ => (w.heap.size ≤ k_) ∧ some k_ ≠ (.slice (some ad359) t350.length co24 : Value).ownBlock ∧ k_ ≠ gb349 ∧ k_ ≠ gb354)) k_ ∧ some k_ ≠ (u355001 : Value).ownBlock)) (HO375.out) (fun k_ hk => ⟨⟨hk.1.1, ⟨hk.2, ⟨hk.1.2.2.1, hk.1.2.2.2⟩⟩⟩, hk.1.2.1⟩))).2.1 (Kd.V_F (Kd.V_mono (ok' := (fun k_ => ((fun k_ => (w.heap.size ≤ k_) ∧ some k_ ≠ (.slice (some ad359) t350.length co24 : Value).ownBlock ∧ k_ ≠ gb349 ∧ k_ ≠ gb354)) k_ ∧ some k_ ≠ (u355001 : Value).ownBlock)) (HO375.out) (fun k_ hk => ⟨⟨hk.1.1, ⟨hk.2, ⟨hk.1.2.2.1, hk.1.2.2.2⟩⟩⟩, hk.1.2.1⟩)))))
           (case aB => exact (by repeat (first | (with_reducible first | exact HB.out | apply below_alloc | apply pw_below_drewN | apply below_drew1 | refine below_set ?_ GE349.out | refine below_set ?_ GE354.out) | exact HB.out)))
           (case aF => exact (fun k_ hk => ⟨(Nat.le_trans (below_size (by repeat (first | (with_reducible first | exact HB.out | apply below_alloc | apply pw_below_drewN | apply below_drew1 | refine below_set ?_ GE349.out | refine below_set ?_ GE354.out) | exact HB.out))) hk), Kd.fresh' (Kd.N_lt (by (with_reducible repeat (first | apply Kd.N_alloc | apply Kd.N_drewN | apply Kd.N_drew)); exact HO_4.out)) k_ hk, Kd.freshB (g := gb349) (o := .cells #[.int .u32 0, .slice none 0 0] 25 (0, 0)) (by (with_reducible repeat (first | refine blk_drewN ?_ _ | refine blk_drew ?_ | refine blk_alloc ?_ _)); exact BK349.out) k_ hk, Kd.freshB (g := gb354) (o := .cells #[.int .u32 x355000_1, u355001] 25 (0, 0)) (by (with_reducible repeat (first | refine blk_drewN ?_ _ | refine blk_drew ?_ | refine blk_alloc ?_ _)); exact BK354.out) k_ hk⟩))
           (case aO => exact (by (with_reducible repeat (first | apply Kd.N_alloc | apply Kd.N_drewN | apply Kd.N_drew)); exact HO_355001.out))
           (case aS => exact (below_size (by repeat (first | (with_reducible first | exact HB.out | apply below_alloc | apply pw_below_drewN | apply below_drew1 | refine below_set ?_ GE349.out | refine below_set ?_ GE354.out) | exact HB.out))))
           (case aL => have := LMc23.out; omega)
           intro v377 w28 ho hb hg hat
           rw [← Ny376.out] at ho
           have n0_ := Aside0.mk (Kd.N_afterv (ok := (fun k_ => (w.heap.size ≤ k_) ∧ k_ ≠ gb349 ∧ k_ ≠ gb354)) (by (with_reducible repeat (first | apply Kd.N_alloc | apply Kd.N_drewN | apply Kd.N_drew)); exact Kd.N_mono HO_4.out (fun _ hk => ⟨⟨hk.1, ⟨hk.2.2.1, hk.2.2.2⟩⟩, hk.2.1⟩)) hg hat)
           have n1_ := Aside0.mk (blk_grown (g := gb349) (o := .cells #[.int .u32 0, .slice none 0 0] 25 (0, 0)) (by (with_reducible repeat (first | refine blk_drewN ?_ _ | refine blk_drew ?_ | refine blk_alloc ?_ _)); exact BK349.out) hg (Kd.N_ne HO_355001.out BK349.out (by decide)))
           have n2_ := Aside0.mk (blk_grown (g := gb354) (o := .cells #[.int .u32 x355000_1, u355001] 25 (0, 0)) (by (with_reducible repeat (first | refine blk_drewN ?_ _ | refine blk_drew ?_ | refine blk_alloc ?_ _)); exact BK354.out) hg (Kd.N_ne HO_355001.out BK354.out (by decide)))
           have n3_ := Aside0.mk (Kd.V_afterv (ok := (fun k_ => (w.heap.size ≤ k_) ∧ some k_ ≠ (.slice (some ad359) t350.length co24 : Value).ownBlock ∧ k_ ≠ gb349 ∧ k_ ≠ gb354)) (by (with_reducible repeat (first | apply Kd.V_alloc | apply Kd.V_drewN | apply Kd.V_drew)); exact Kd.V_mono HL359_1.out (fun _ hk => ⟨⟨hk.1.1, ⟨hk.2, ⟨hk.1.2.2.1, hk.1.2.2.2⟩⟩⟩, hk.1.2.1⟩)) hg hat)
           have n4_ := Aside0.mk (Kd.V_afterv (ok := (fun k_ => (w.heap.size ≤ k_) ∧ some k_ ≠ (.slice (some ad359) t350.length co24 : Value).ownBlock ∧ k_ ≠ gb349 ∧ k_ ≠ gb354)) (by (with_reducible repeat (first | apply Kd.V_alloc | apply Kd.V_drewN | apply Kd.V_drew)); exact Kd.V_mono HL370_1.out (fun _ hk => ⟨⟨hk.1.1, ⟨hk.2, ⟨hk.1.2.2.1, hk.1.2.2.2⟩⟩⟩, hk.1.2.1⟩)) hg hat)
           have n5_ := Aside0.mk (Kd.V_afterv (ok := (fun k_ => (w.heap.size ≤ k_) ∧ some k_ ≠ (.slice (some ad359) t350.length co24 : Value).ownBlock ∧ k_ ≠ gb349 ∧ k_ ≠ gb354)) (by (with_reducible repeat (first | apply Kd.V_alloc | apply Kd.V_drewN | apply Kd.V_drew)); exact Kd.V_mono HO375.out (fun _ hk => ⟨⟨hk.1.1, ⟨hk.2, ⟨hk.1.2.2.1, hk.1.2.2.2⟩⟩⟩, hk.1.2.1⟩)) hg hat)
           have n6_ := Aside0.mk (hb)
           have n7_ := Aside0.mk (ho)
           clear HO_4
           clear BK349
           clear BK354
           clear HL359_1
           clear HL370_1
           clear HO375
           clear HB
           clear HO_355001
           have HO_4 := n0_
           have BK349 := n1_
           have BK354 := n2_
           have HL359_1 := n3_
           have HL370_1 := n4_
           have HO375 := n5_
           have HB := n6_
           have HO378 := n7_
           clear n0_ n1_ n2_ n3_ n4_ n5_ n6_ n7_
           clear ho hb hg hat
           obtain ⟨Ao29, co29, eo29⟩ := Kd.N_slice HO378.out
           (first | subst eo29 | (injection eo29 with f1_ f2_ f3_; have f4_ := f1_.symm; have f5_ := f3_.symm; clear f1_ f2_ f3_; subst f4_; subst f5_))
           refine hK.out _ _ ?_
           clear hK K
           refine norm_ (a' := ?_) ?_ ?_
           rotate_left
           ·show Act.put _ (some 69) _ = _
            simp only [Act.put, q1_11, q2_11, q3_11, i64_w, i32_w]
            rfl
           refine pure_ (i := 11) (N := some 70) (v := ?_) (a' := ?_) #[t_11,t_11,t_11,t_11,t_11,t_11,t_11,t_11,t_11,t_11,t_11,t_11,f_11] rfl rfl (any_of HT_.out (by kernel_rfl)) (fun _ _ _ h => h) (Or.inl ⟨by rfl, ?_⟩) ?_ ?_; rotate_left; (·intro w'; go_simp; with_reducible rfl); rotate_left; (·simp only [Act.put, q1_11, q2_11, q3_11, i64_w, i32_w]; rfl)
           refine last_ (i := 12) (N := none) #[t_11,t_11,t_11,t_11,t_11,t_11,t_11,t_11,t_11,t_11,t_11,t_11,t_11] rfl rfl (one_of HT_.out (by kernel_rfl)) (by decide) (fun K hK => ?_)
           have hs30 : w28.cell? ⟨gb354, 1, none⟩ = some (u355001) := (blk_cell BK354.out 1).trans rfl
           have hfs30 := blk_frozen BK354.out 1
           have hns30_0 := NB349_354.out
           have hms30_0 := NB354_349.out
           refine skip_ (w1 := ?_) (by rfl) rfl ?_ ?_
           rotate_left
           ·go_simp
            rfl
           refine hK.out _ _ ?_
           clear hK K
           refine done_ (done_of HT_.out (by kernel_rfl)) ?_
           try go_wp2
           go_roundg k1
           case measure => have := HK1.out; omega
           case rel => exact ⟨(wrap64 (x7_1 + 1)), (x355000_1), (y376), (.slice Ao29 y376.length co29), (by first | rfl | (simp; done) | (simp [*]; done)), H', ⟨by have := HK1.out; omega⟩, ⟨by (with_reducible repeat (first | apply Kd.N_alloc | apply Kd.N_drewN | apply Kd.N_drew)); exact Kd.N_mono (Kd.N_far (p := ⟨gb354, 1, none⟩) (Kd.N_mono HO_4.out (fun k_ hk => (⟨hk, hk.1.2.2⟩ : _ ∧ k_ ≠ gb354))) (fun _ h => by first | exact h.2 | exact h | trivial) (.slice Ao29 y376.length co29)) (fun _ hk => ⟨hk.1.1.1, ⟨hk.1.2, ⟨hk.1.1.2.1, hk.1.1.2.2⟩⟩⟩)⟩, ⟨by (with_reducible repeat (first | apply Kd.N_alloc | apply Kd.N_drewN | apply Kd.N_drew)); exact Kd.N_mono (Kd.N_far (p := ⟨gb354, 1, none⟩) (Kd.N_mono HO378.out (fun k_ hk => (⟨hk, hk.2.2.2⟩ : _ ∧ k_ ≠ gb354))) (fun _ h => by first | exact h.2 | exact h | trivial) (.slice Ao29 y376.length co29)) (fun _ hk => ⟨hk.1.1, ⟨hk.1.2.1, ⟨hk.1.2.2.1, hk.1.2.2.2⟩⟩⟩)⟩, ⟨by (with_reducible repeat (first | refine blk_drewN ?_ _ | refine blk_drew ?_ | refine blk_alloc ?_ _)); refine blk_far ?_ NB349_354.out _; (with_reducible repeat (first | refine blk_drewN ?_ _ | refine blk_drew ?_ | refine blk_alloc ?_ _)); exact BK349.out⟩, ⟨by (with_reducible repeat (first | refine blk_drewN ?_ _ | refine blk_drew ?_ | refine blk_alloc ?_ _)); refine blk_put (cs := #[.int .u32 x355000_1, u355001]) ?_ 1 _ rfl; (with_reducible repeat (first | refine blk_drewN ?_ _ | refine blk_drew ?_ | refine blk_alloc ?_ _)); exact BK354.out⟩, ⟨by repeat (first | (with_reducible first | exact HB.out | apply below_alloc | apply pw_below_drewN | apply below_drew1 | refine below_set ?_ GE349.out | refine below_set ?_ GE354.out) | exact HB.out)⟩⟩
          ·rw [if_neg c23] at H
           exact absurd H (by simp)
         ·rw [if_neg c22] at H
          exact absurd H (by simp)
        ·rw [if_neg c21] at H
         exact absurd H (by simp)
       ·rw [if_neg c20] at H
        have c20b0 : decide (x7_1 < (wrap64 ((t350.length : Int) - 1))) = false := decide_eq_false c20
        clear c20
        have H' := Aside0.mk H
        clear H
        obtain ⟨Ao31, co31, eo31⟩ := Kd.N_slice HO_4.out
        subst eo31
        have p359 : 0 ≤ (x7_1 : Int) := of_decide_eq_true (by first | (with_reducible assumption) | assumption)
        have q359 : x7_1 < (t350.length : Int) := of_decide_eq_true (by first | (with_reducible assumption) | assumption)
        obtain ⟨ad359, A359_1, c359_1, e359, hx359_0, hx359_1, hl359_1, hi359_1⟩ := at_T50 (Kd.N_reads' HO_4.out).2.2 x7_1 p359 q359
        cases e359
        obtain ⟨ce359, hce359, hMe359, hcc359⟩ := Kd.N_get HO_4.out z50 x7_1 p359 (by first | exact q359 | exact of_decide_eq_true (by first | (with_reducible assumption) | assumption) | (have e_ := (Kd.N_reads' HO_4.out).1; omega))
        obtain ⟨ua359_1, uc359_1, rfl, ul359_1, ge359_1⟩ := k50_openF hMe359
        have hv359_1 := hcc359 1 _ rfl
        rw [add_field _ _ 1 (by omega)] at hv359_1
        replace hv359_1 := Option.some.inj (hv359_1.symm.trans hx359_1)
        injection hv359_1 with hva_ hvn_ hvc_
        rw [hva_] at ge359_1
        rw [hvc_] at ul359_1
        have HL359_1 := Aside0.mk (show Kd.V (Kd.int .u8) 5 _ w.heap.size _ _ ((rd_T50 t350 x7_1).f1) from Kd.V_mk ul359_1 ge359_1)
        clear hva_ hvn_ hvc_ ge359_1 ul359_1
        clear hcc359 hce359
        have HR359_1 := Aside0.mk hi359_1
        have HC359_1 := Aside0.mk hl359_1
        clear hi359_1 hl359_1
        replace p359 := eq_true p359
        replace q359 := eq_true q359
        go_wp2_with (first | ((with_reducible refine gate_callee (f := 32) rfl ?_); refine goesL_ (some 35) rfl rfl Tryd.func32 (by kernel_rfl) rfl #[.slice A359_1 ((rd_T50 t350 x7_1).f1).length c359_1] rfl (by (try simp only [List.map_toArray, List.map_cons, List.map_nil]); first | done | rfl | (simp only [List.length_drop, List.length_take]; rfl)) ?_; (with_reducible refine (foliateref01_Get.calls k1 _ _ ((rd_T50 t350 x7_1).f1) t360 t361 _ ?side1 ?side2 A9.out).mono ?_); (case side1 => repeat (first | exact (by repeat (first | (with_reducible exact HR359_1.out) | (with_reducible refine Kd.C_alloc ?_ _) | (with_reducible refine Kd.C_drewN ?_ _) | (with_reducible refine Kd.C_drew ?_) | exact HR359_1.out)) | (with_reducible refine Kd.C_alloc ?_ _) | (with_reducible refine Kd.C_drewN ?_ _) | (with_reducible refine Kd.C_drew ?_))); (case side2 => exact HC359_1.out); rintro e w32 ⟨rfl, hb⟩; refine ⟨_, rfl, ?_⟩; have n0_ := Aside0.mk (Kd.N_below (by (with_reducible repeat (first | apply Kd.N_alloc | apply Kd.N_drewN | apply Kd.N_drew)); exact HO_4.out) hb); have n1_ := Aside0.mk (Kd.N_below (by (with_reducible repeat (first | apply Kd.N_alloc | apply Kd.N_drewN | apply Kd.N_drew)); exact HO_355001.out) hb); have n2_ := Aside0.mk (Kd.V_below (by (with_reducible repeat (first | apply Kd.V_alloc | apply Kd.V_drewN | apply Kd.V_drew)); exact HL359_1.out) hb); have n3_ := Aside0.mk (blk_below (g := gb349) (o := .cells #[.int .u32 0, .slice none 0 0] 25 (0, 0)) (by (with_reducible repeat (first | refine blk_drewN ?_ _ | refine blk_drew ?_ | refine blk_alloc ?_ _)); exact BK349.out) hb); have n4_ := Aside0.mk (blk_below (g := gb354) (o := .cells #[.int .u32 x355000_1, u355001] 25 (0, 0)) (by (with_reducible repeat (first | refine blk_drewN ?_ _ | refine blk_drew ?_ | refine blk_alloc ?_ _)); exact BK354.out) hb); have n5_ := Aside0.mk (Kd.C_below (by repeat (first | (with_reducible exact HR359_1.out) | (with_reducible refine Kd.C_alloc ?_ _) | (with_reducible refine Kd.C_drewN ?_ _) | (with_reducible refine Kd.C_drew ?_) | exact HR359_1.out)) hb); have n6_ := Aside0.mk (below_step (by repeat (first | (with_reducible first | exact HB.out | apply below_alloc | apply pw_below_drewN | apply below_drew1 | refine below_set ?_ GE349.out | refine below_set ?_ GE354.out) | exact HB.out)) hb); clear HO_4; clear HO_355001; clear HL359_1; clear BK349; clear BK354; clear HR359_1; clear HB; have HO_4 := n0_; have HO_355001 := n1_; have HL359_1 := n2_; have BK349 := n3_; have BK354 := n4_; have HR359_1 := n5_; have HB := n6_; clear n0_ n1_ n2_ n3_ n4_ n5_ n6_; (try clear hb); (try clear hb2); (try clear hk); (try clear hi)))
        go_roundg k1
        case measure => have := HK1.out; omega
        case rel => exact ⟨(wrap64 (x7_1 + 1)), (x355000_1), (x355001_1), (u355001), (by first | rfl | (simp; done) | (simp [*]; done)), H', ⟨by have := HK1.out; omega⟩, ⟨by (with_reducible repeat (first | apply Kd.N_alloc | apply Kd.N_drewN | apply Kd.N_drew)); exact HO_4.out⟩, ⟨by (with_reducible repeat (first | apply Kd.N_alloc | apply Kd.N_drewN | apply Kd.N_drew)); exact HO_355001.out⟩, ⟨by (with_reducible repeat (first | refine blk_drewN ?_ _ | refine blk_drew ?_ | refine blk_alloc ?_ _)); exact BK349.out⟩, ⟨by (with_reducible repeat (first | refine blk_drewN ?_ _ | refine blk_drew ?_ | refine blk_alloc ?_ _)); exact BK354.out⟩, ⟨by repeat (first | (with_reducible first | exact HB.out | apply below_alloc | apply pw_below_drewN | apply below_drew1 | refine below_set ?_ GE349.out | refine below_set ?_ GE354.out) | exact HB.out)⟩⟩
     ·rw [if_neg c8] at H
      exact absurd H (by simp)
    ·rw [if_neg c7] at H
     have c7b0 : decide (x7_1 < (t350.length : Int)) = false := decide_eq_false c7
     clear c7
     replace H := Option.bind_eq_some_iff.mp H
     obtain ⟨⟨t355, t358⟩, A330, H⟩ := H
     replace H : (if t358 = 0 then (if (strOfNums t355).toList = (strOfNums l0).toList then (some (x355000_1, x355001_1, 0)) else (some (0, ([] : List (List Int)), 4))) else (some (0, ([] : List (List Int)), 4))) = some (r1, r2, r3) := H
     have A33 := Aside0.mk A330
     clear A330
     by_cases c34 : t358 = 0
     ·rw [if_pos c34] at H
      have c34b0 : (t358 == 0) = true := beq_iff_eq.mpr c34
      have c34b1 : (t358 != 0) = false := bne_eq_false_iff_eq.mpr c34
      clear c34
      by_cases c35 : (strOfNums t355).toList = (strOfNums l0).toList
      ·rw [if_pos c35] at H
       have c35b0 : ((strOfNums t355).toList == (strOfNums l0).toList) = true := beq_iff_eq.mpr c35
       have c35b1 : ((strOfNums t355).toList != (strOfNums l0).toList) = false := bne_eq_false_iff_eq.mpr c35
       clear c35
       simp only [Option.some.injEq, Prod.mk.injEq] at H
       obtain ⟨rfl, rfl, rfl⟩ := H
       obtain ⟨Ao36, co36, eo36⟩ := Kd.N_slice HO_4.out
       subst eo36
       have hnb37 := NB354_349.out
       have hnc37 := NB349_354.out
       have hcz38_0 : wr.cell? ⟨gb354, 0, none⟩ = some (.int .u32 x355000_1) := (blk_cell BK354.out 0).trans rfl
       have hcz38_1 : wr.cell? ⟨gb354, 1, none⟩ = some (u355001) := (blk_cell BK354.out 1).trans rfl
       have hfz38_0 := blk_frozen BK354.out 0
       have hfz38_1 := blk_frozen BK354.out 1
       obtain ⟨Ao39, co39, eo39⟩ := Kd.N_slice HO_355001.out
       subst eo39
       go_wp2_with (first | ((with_reducible refine gate_callee (f := 13) rfl ?_); refine goesL_ (some 73) rfl rfl Tryd.func13 (by kernel_rfl) rfl #[.agg #[.int .u32 x355000_1, .slice Ao39 x355001_1.length co39]] rfl (by (try simp only [List.map_toArray, List.map_cons, List.map_nil]); first | done | rfl | (simp only [List.length_drop, List.length_take]; rfl)) ?_; (with_reducible refine (foliateref04_Put.calls k1 x355000_1 _ _ x355001_1 t355 t358 _ ?side1 ?side2 A33.out).mono ?_); (case side1 => repeat (first | exact (Kd.N_reads' HO_355001.out).2.2 | (with_reducible refine Kd.C_alloc ?_ _) | (with_reducible refine Kd.C_drewN ?_ _) | (with_reducible refine Kd.C_drew ?_))); (case side2 => exact (Kd.N_reads' HO_355001.out).2.1); rintro e w40 ⟨v356, rfl, ho0, hb⟩; refine ⟨_, rfl, ?_⟩; have n0_ := Aside0.mk (Kd.N_elder' (by (with_reducible repeat (first | apply Kd.N_alloc | apply Kd.N_drewN | apply Kd.N_drew)); exact HO_4.out) (Kd.R_base ho0) hb); have n1_ := Aside0.mk (Kd.N_elder' (by (with_reducible repeat (first | apply Kd.N_alloc | apply Kd.N_drewN | apply Kd.N_drew)); exact HO_355001.out) (Kd.R_base ho0) hb); have n2_ := Aside0.mk (Kd.R_lower (Kd.R_newM (M := fun k_ => (w.heap.size ≤ k_)) ho0 (below_size (by repeat (first | (with_reducible first | exact HB.out | apply below_alloc | apply pw_below_drewN | apply below_drew1 | refine below_set ?_ GE349.out | refine below_set ?_ GE354.out) | exact HB.out))) (fun k_ h_ => h_)) (below_size (by repeat (first | (with_reducible first | exact HB.out | apply below_alloc | apply pw_below_drewN | apply below_drew1 | refine below_set ?_ GE349.out | refine below_set ?_ GE354.out) | exact HB.out)))); have n3_ := Aside0.mk (blk_below (g := gb349) (o := .cells #[.int .u32 0, .slice none 0 0] 25 (0, 0)) (by (with_reducible repeat (first | refine blk_drewN ?_ _ | refine blk_drew ?_ | refine blk_alloc ?_ _)); exact BK349.out) hb); have n4_ := Aside0.mk (blk_below (g := gb354) (o := .cells #[.int .u32 x355000_1, .slice Ao39 x355001_1.length co39] 25 (0, 0)) (by (with_reducible repeat (first | refine blk_drewN ?_ _ | refine blk_drew ?_ | refine blk_alloc ?_ _)); exact BK354.out) hb); have n5_ := Aside0.mk (below_step (by repeat (first | (with_reducible first | exact HB.out | apply below_alloc | apply pw_below_drewN | apply below_drew1 | refine below_set ?_ GE349.out | refine below_set ?_ GE354.out) | exact HB.out)) hb); clear HO_4; clear HO_355001; clear BK349; clear BK354; clear HB; have HO_4 := n0_; have HO_355001 := n1_; have HO357 := n2_; have BK349 := n3_; have BK354 := n4_; have HB := n5_; clear n0_ n1_ n2_ n3_ n4_ n5_; (try clear hb); (try clear hb2); (try clear hk); (try clear hi); (try clear ho0); have hcv41 := own_string (P := Tryd.prog) Tryd.underlying26 Tryd.underlying5 Tryd.underlying9 (Kd.own_of_R HO357.out); have hcv42 := Kd.C_string (P := Tryd.prog) (A := A0) (c := c0) Tryd.underlying26 Tryd.underlying5 Tryd.underlying9 (Kd.C_below HR0.out HB.out); have hcz43_0 : w40.cell? ⟨gb354, 0, none⟩ = some (.int .u32 x355000_1) := (blk_cell BK354.out 0).trans rfl; have hcz43_1 : w40.cell? ⟨gb354, 1, none⟩ = some (.slice Ao39 x355001_1.length co39) := (blk_cell BK354.out 1).trans rfl; have hfz43_0 := blk_frozen BK354.out 0; have hfz43_1 := blk_frozen BK354.out 1; have hcz44_0 : w40.cell? ⟨gb349, 0, none⟩ = some (.int .u32 0) := (blk_cell BK349.out 0).trans rfl; have hcz44_1 : w40.cell? ⟨gb349, 1, none⟩ = some (.slice none 0 0) := (blk_cell BK349.out 1).trans rfl; have hfz44_0 := blk_frozen BK349.out 0; have hfz44_1 := blk_frozen BK349.out 1))
       refine bodyPost_ret (results_ct rfl _ _ gb349 25 #[.int .u32 x355000_1, .slice Ao39 x355001_1.length co39] (0, 0) _ rfl (by (with_reducible repeat (first | refine blk_drewN ?_ _ | refine blk_drew ?_ | refine blk_alloc ?_ _)); refine blk_put (cs := #[.int .u32 x355000_1, .slice none 0 0]) ?_ 1 _ rfl; (with_reducible repeat (first | refine blk_drewN ?_ _ | refine blk_drew ?_ | refine blk_alloc ?_ _)); refine blk_put (cs := #[.int .u32 0, .slice none 0 0]) ?_ 0 _ rfl; (with_reducible repeat (first | refine blk_drewN ?_ _ | refine blk_drew ?_ | refine blk_alloc ?_ _)); exact BK349.out) Tryd.underlying25 rfl (by kernel_rfl)) rfl ?_
       exact ⟨_, by first | rfl | (simp [errW_none, errW_some] <;> rfl) | (simp [*, errW_none, errW_some] <;> rfl), by (with_reducible repeat (first | apply Kd.N_alloc | apply Kd.N_drewN | apply Kd.N_drew)); exact Kd.N_mono (Kd.N_far (p := ⟨gb349, 1, none⟩) (Kd.N_far (p := ⟨gb349, 0, none⟩) (Kd.N_mono HO_355001.out (fun k_ hk => (⟨hk, hk.1.2.2.1⟩ : _ ∧ k_ ≠ gb349))) (fun _ h => by first | exact h.2 | exact h | trivial) (.int .u32 x355000_1)) (fun _ h => by first | exact h.2 | exact h | trivial) (.slice Ao39 x355001_1.length co39)) (fun _ hk => hk.1.1.1), by repeat (first | (with_reducible first | exact HB.out | apply below_alloc | apply pw_below_drewN | apply below_drew1 | refine below_set ?_ GE349.out | refine below_set ?_ GE354.out) | exact HB.out)⟩
      ·rw [if_neg c35] at H
       have c35b0 : ((strOfNums t355).toList == (strOfNums l0).toList) = false := beq_eq_false_iff_ne.mpr c35
       have c35b1 : ((strOfNums t355).toList != (strOfNums l0).toList) = true := bne_iff_ne.mpr c35
       simp only [Option.some.injEq, Prod.mk.injEq] at H
       obtain ⟨rfl, rfl, rfl⟩ := H
       obtain ⟨Ao45, co45, eo45⟩ := Kd.N_slice HO_4.out
       subst eo45
       have hnb46 := NB354_349.out
       have hnc46 := NB349_354.out
       have hcz47_0 : wr.cell? ⟨gb354, 0, none⟩ = some (.int .u32 x355000_1) := (blk_cell BK354.out 0).trans rfl
       have hcz47_1 : wr.cell? ⟨gb354, 1, none⟩ = some (u355001) := (blk_cell BK354.out 1).trans rfl
       have hfz47_0 := blk_frozen BK354.out 0
       have hfz47_1 := blk_frozen BK354.out 1
       obtain ⟨Ao48, co48, eo48⟩ := Kd.N_slice HO_355001.out
       subst eo48
       go_wp2_with (first | ((with_reducible refine gate_callee (f := 13) rfl ?_); refine goesL_ (some 73) rfl rfl Tryd.func13 (by kernel_rfl) rfl #[.agg #[.int .u32 x355000_1, .slice Ao48 x355001_1.length co48]] rfl (by (try simp only [List.map_toArray, List.map_cons, List.map_nil]); first | done | rfl | (simp only [List.length_drop, List.length_take]; rfl)) ?_; (with_reducible refine (foliateref04_Put.calls k1 x355000_1 _ _ x355001_1 t355 t358 _ ?side1 ?side2 A33.out).mono ?_); (case side1 => repeat (first | exact (Kd.N_reads' HO_355001.out).2.2 | (with_reducible refine Kd.C_alloc ?_ _) | (with_reducible refine Kd.C_drewN ?_ _) | (with_reducible refine Kd.C_drew ?_))); (case side2 => exact (Kd.N_reads' HO_355001.out).2.1); rintro e w49 ⟨v356, rfl, ho0, hb⟩; refine ⟨_, rfl, ?_⟩; have n0_ := Aside0.mk (Kd.N_elder' (by (with_reducible repeat (first | apply Kd.N_alloc | apply Kd.N_drewN | apply Kd.N_drew)); exact HO_4.out) (Kd.R_base ho0) hb); have n1_ := Aside0.mk (Kd.N_elder' (by (with_reducible repeat (first | apply Kd.N_alloc | apply Kd.N_drewN | apply Kd.N_drew)); exact HO_355001.out) (Kd.R_base ho0) hb); have n2_ := Aside0.mk (Kd.R_lower (Kd.R_newM (M := fun k_ => (w.heap.size ≤ k_)) ho0 (below_size (by repeat (first | (with_reducible first | exact HB.out | apply below_alloc | apply pw_below_drewN | apply below_drew1 | refine below_set ?_ GE349.out | refine below_set ?_ GE354.out) | exact HB.out))) (fun k_ h_ => h_)) (below_size (by repeat (first | (with_reducible first | exact HB.out | apply below_alloc | apply pw_below_drewN | apply below_drew1 | refine below_set ?_ GE349.out | refine below_set ?_ GE354.out) | exact HB.out)))); have n3_ := Aside0.mk (blk_below (g := gb349) (o := .cells #[.int .u32 0, .slice none 0 0] 25 (0, 0)) (by (with_reducible repeat (first | refine blk_drewN ?_ _ | refine blk_drew ?_ | refine blk_alloc ?_ _)); exact BK349.out) hb); have n4_ := Aside0.mk (blk_below (g := gb354) (o := .cells #[.int .u32 x355000_1, .slice Ao48 x355001_1.length co48] 25 (0, 0)) (by (with_reducible repeat (first | refine blk_drewN ?_ _ | refine blk_drew ?_ | refine blk_alloc ?_ _)); exact BK354.out) hb); have n5_ := Aside0.mk (below_step (by repeat (first | (with_reducible first | exact HB.out | apply below_alloc | apply pw_below_drewN | apply below_drew1 | refine below_set ?_ GE349.out | refine below_set ?_ GE354.out) | exact HB.out)) hb); clear HO_4; clear HO_355001; clear BK349; clear BK354; clear HB; have HO_4 := n0_; have HO_355001 := n1_; have HO357 := n2_; have BK349 := n3_; have BK354 := n4_; have HB := n5_; clear n0_ n1_ n2_ n3_ n4_ n5_; (try clear hb); (try clear hb2); (try clear hk); (try clear hi); (try clear ho0); have hcv50 := own_string (P := Tryd.prog) Tryd.underlying26 Tryd.underlying5 Tryd.underlying9 (Kd.own_of_R HO357.out); have hcv51 := Kd.C_string (P := Tryd.prog) (A := A0) (c := c0) Tryd.underlying26 Tryd.underlying5 Tryd.underlying9 (Kd.C_below HR0.out HB.out); have hcz52_0 : w49.cell? ⟨gb349, 0, none⟩ = some (.int .u32 0) := (blk_cell BK349.out 0).trans rfl; have hcz52_1 : w49.cell? ⟨gb349, 1, none⟩ = some (.slice none 0 0) := (blk_cell BK349.out 1).trans rfl; have hfz52_0 := blk_frozen BK349.out 0; have hfz52_1 := blk_frozen BK349.out 1))
       refine bodyPost_ret (results_ct rfl _ _ gb349 25 #[.int .u32 0, .slice none 0 0] (0, 0) _ rfl (by (with_reducible repeat (first | refine blk_drewN ?_ _ | refine blk_drew ?_ | refine blk_alloc ?_ _)); refine blk_put (cs := #[.int .u32 0, .slice none 0 0]) ?_ 1 _ rfl; (with_reducible repeat (first | refine blk_drewN ?_ _ | refine blk_drew ?_ | refine blk_alloc ?_ _)); refine blk_put (cs := #[.int .u32 0, .slice none 0 0]) ?_ 0 _ rfl; (with_reducible repeat (first | refine blk_drewN ?_ _ | refine blk_drew ?_ | refine blk_alloc ?_ _)); exact BK349.out) Tryd.underlying25 rfl (by kernel_rfl)) rfl ?_
       exact ⟨_, by first | rfl | (simp [errW_none, errW_some] <;> rfl) | (simp [*, errW_none, errW_some] <;> rfl), by first | exact Kd.S_nil _ _ _ _ _ | exact Kd.N_nil _ _ _ _ _ | exact Kd.V_nil _ _ _ _ _ | exact Kd.Q_nil _ _ _ _ _ | exact Kd.R_nil _ _ _ _ _, by repeat (first | (with_reducible first | exact HB.out | apply below_alloc | apply pw_below_drewN | apply below_drew1 | refine below_set ?_ GE349.out | refine below_set ?_ GE354.out) | exact HB.out)⟩
     ·rw [if_neg c34] at H
      have c34b0 : (t358 == 0) = false := beq_eq_false_iff_ne.mpr c34
      have c34b1 : (t358 != 0) = true := bne_iff_ne.mpr c34
      simp only [Option.some.injEq, Prod.mk.injEq] at H
      obtain ⟨rfl, rfl, rfl⟩ := H
      obtain ⟨Ao53, co53, eo53⟩ := Kd.N_slice HO_4.out
      subst eo53
      have hnb54 := NB354_349.out
      have hnc54 := NB349_354.out
      have hcz55_0 : wr.cell? ⟨gb354, 0, none⟩ = some (.int .u32 x355000_1) := (blk_cell BK354.out 0).trans rfl
      have hcz55_1 : wr.cell? ⟨gb354, 1, none⟩ = some (u355001) := (blk_cell BK354.out 1).trans rfl
      have hfz55_0 := blk_frozen BK354.out 0
      have hfz55_1 := blk_frozen BK354.out 1
      obtain ⟨Ao56, co56, eo56⟩ := Kd.N_slice HO_355001.out
      subst eo56
      go_wp2_with (first | ((with_reducible refine gate_callee (f := 13) rfl ?_); refine goesL_ (some 73) rfl rfl Tryd.func13 (by kernel_rfl) rfl #[.agg #[.int .u32 x355000_1, .slice Ao56 x355001_1.length co56]] rfl (by (try simp only [List.map_toArray, List.map_cons, List.map_nil]); first | done | rfl | (simp only [List.length_drop, List.length_take]; rfl)) ?_; (with_reducible refine (foliateref04_Put.calls k1 x355000_1 _ _ x355001_1 t355 t358 _ ?side1 ?side2 A33.out).mono ?_); (case side1 => repeat (first | exact (Kd.N_reads' HO_355001.out).2.2 | (with_reducible refine Kd.C_alloc ?_ _) | (with_reducible refine Kd.C_drewN ?_ _) | (with_reducible refine Kd.C_drew ?_))); (case side2 => exact (Kd.N_reads' HO_355001.out).2.1); rintro e w57 ⟨v356, rfl, ho0, hb⟩; refine ⟨_, rfl, ?_⟩; have n0_ := Aside0.mk (Kd.N_elder' (by (with_reducible repeat (first | apply Kd.N_alloc | apply Kd.N_drewN | apply Kd.N_drew)); exact HO_4.out) (Kd.R_base ho0) hb); have n1_ := Aside0.mk (Kd.N_elder' (by (with_reducible repeat (first | apply Kd.N_alloc | apply Kd.N_drewN | apply Kd.N_drew)); exact HO_355001.out) (Kd.R_base ho0) hb); have n2_ := Aside0.mk (Kd.R_lower (Kd.R_newM (M := fun k_ => (w.heap.size ≤ k_)) ho0 (below_size (by repeat (first | (with_reducible first | exact HB.out | apply below_alloc | apply pw_below_drewN | apply below_drew1 | refine below_set ?_ GE349.out | refine below_set ?_ GE354.out) | exact HB.out))) (fun k_ h_ => h_)) (below_size (by repeat (first | (with_reducible first | exact HB.out | apply below_alloc | apply pw_below_drewN | apply below_drew1 | refine below_set ?_ GE349.out | refine below_set ?_ GE354.out) | exact HB.out)))); have n3_ := Aside0.mk (blk_below (g := gb349) (o := .cells #[.int .u32 0, .slice none 0 0] 25 (0, 0)) (by (with_reducible repeat (first | refine blk_drewN ?_ _ | refine blk_drew ?_ | refine blk_alloc ?_ _)); exact BK349.out) hb); have n4_ := Aside0.mk (blk_below (g := gb354) (o := .cells #[.int .u32 x355000_1, .slice Ao56 x355001_1.length co56] 25 (0, 0)) (by (with_reducible repeat (first | refine blk_drewN ?_ _ | refine blk_drew ?_ | refine blk_alloc ?_ _)); exact BK354.out) hb); have n5_ := Aside0.mk (below_step (by repeat (first | (with_reducible first | exact HB.out | apply below_alloc | apply pw_below_drewN | apply below_drew1 | refine below_set ?_ GE349.out | refine below_set ?_ GE354.out) | exact HB.out)) hb); clear HO_4; clear HO_355001; clear BK349; clear BK354; clear HB; have HO_4 := n0_; have HO_355001 := n1_; have HO357 := n2_; have BK349 := n3_; have BK354 := n4_; have HB := n5_; clear n0_ n1_ n2_ n3_ n4_ n5_; (try clear hb); (try clear hb2); (try clear hk); (try clear hi); (try clear ho0); have hcz58_0 : w57.cell? ⟨gb349, 0, none⟩ = some (.int .u32 0) := (blk_cell BK349.out 0).trans rfl; have hcz58_1 : w57.cell? ⟨gb349, 1, none⟩ = some (.slice none 0 0) := (blk_cell BK349.out 1).trans rfl; have hfz58_0 := blk_frozen BK349.out 0; have hfz58_1 := blk_frozen BK349.out 1))
      refine bodyPost_ret (results_ct rfl _ _ gb349 25 #[.int .u32 0, .slice none 0 0] (0, 0) _ rfl (by (with_reducible repeat (first | refine blk_drewN ?_ _ | refine blk_drew ?_ | refine blk_alloc ?_ _)); refine blk_put (cs := #[.int .u32 0, .slice none 0 0]) ?_ 1 _ rfl; (with_reducible repeat (first | refine blk_drewN ?_ _ | refine blk_drew ?_ | refine blk_alloc ?_ _)); refine blk_put (cs := #[.int .u32 0, .slice none 0 0]) ?_ 0 _ rfl; (with_reducible repeat (first | refine blk_drewN ?_ _ | refine blk_drew ?_ | refine blk_alloc ?_ _)); exact BK349.out) Tryd.underlying25 rfl (by kernel_rfl)) rfl ?_
      exact ⟨_, by first | rfl | (simp [errW_none, errW_some] <;> rfl) | (simp [*, errW_none, errW_some] <;> rfl), by first | exact Kd.S_nil _ _ _ _ _ | exact Kd.N_nil _ _ _ _ _ | exact Kd.V_nil _ _ _ _ _ | exact Kd.Q_nil _ _ _ _ _ | exact Kd.R_nil _ _ _ _ _, by repeat (first | (with_reducible first | exact HB.out | apply below_alloc | apply pw_below_drewN | apply below_drew1 | refine below_set ?_ GE349.out | refine below_set ?_ GE354.out) | exact HB.out)⟩
 ·rw [if_neg c3] at H
  have c3b0 : (t351 == 0) = false := beq_eq_false_iff_ne.mpr c3
  have c3b1 : (t351 != 0) = true := bne_iff_ne.mpr c3
  simp only [Option.some.injEq, Prod.mk.injEq] at H
  obtain ⟨rfl, rfl, rfl⟩ := H
  go_enter Tryd.func15, Tryd.ntmps15
  go_wp2_with (first | ((with_reducible refine gate_dst (N := 2) rfl ?_); refine box_event ?hg (N := 2) ?hd (cs := #[.int .u32 0, .slice none 0 0]) (t := 25) ?hr ?_; (case hd => rfl); (case hg => rfl); (case hr => first | (go_simp; done) | (go_simp; rfl)); intro gb349 hg w59 hbox hb; have n0_ := Aside0.mk (below_step (by repeat (first | exact HB.out | apply below_alloc | apply pw_below_drewN | apply below_drew1)) hb); have n1_ := Aside0.mk (hbox); have n2_ := Aside0.mk ((by rw [hg]; exact (below_size (by repeat (first | exact HB.out | apply below_alloc | apply pw_below_drewN | apply below_drew1))) : w.heap.size ≤ gb349)); have n3_ := Aside0.mk ((by rw [hg]; exact (below_size (by repeat (first | exact HB.out | apply below_alloc | apply pw_below_drewN | apply below_drew1))) : w.heap.size ≤ gb349)); clear HB; have HB := n0_; have BK349 := n1_; have GW349 := n2_; have GE349 := n3_; clear n0_ n1_ n2_ n3_; clear hb hbox hg) | ((with_reducible refine gate_callee (f := 31) rfl ?_); refine goesL_ (some 16) rfl rfl Tryd.func31 (by kernel_rfl) rfl #[.slice A0 l0.length c0] rfl (by (try simp only [List.map_toArray, List.map_cons, List.map_nil]); first | done | rfl | (simp only [List.length_drop, List.length_take]; rfl)) ?_; (with_reducible refine (foliateref03_All.calls k _ _ l0 t350 t351 _ ?side1 ?side2 A2.out).mono ?_); (case side1 => repeat (first | exact (Kd.C_below HR0.out HB.out) | (with_reducible refine Kd.C_alloc ?_ _) | (with_reducible refine Kd.C_drewN ?_ _) | (with_reducible refine Kd.C_drew ?_))); (case side2 => exact HC0.out); rintro e w60 ⟨v352, rfl, ho0, hb⟩; refine ⟨_, rfl, ?_⟩; have n0_ := Aside0.mk (Kd.N_lower (Kd.N_mono (ok' := fun k_ => (w.heap.size ≤ k_) ∧ k_ ≠ gb349) (Kd.S_N (Kd.S_bound ho0)) (fun k_ hk_ => ⟨(Nat.le_trans (below_size (by repeat (first | (with_reducible first | exact HB.out | apply below_alloc | apply pw_below_drewN | apply below_drew1 | refine below_set ?_ GE349.out) | exact HB.out))) hk_.2.1), (Kd.freshB (g := gb349) (o := .cells #[.int .u32 0, .slice none 0 0] 25 (0, 0)) (by (with_reducible repeat (first | refine blk_drewN ?_ _ | refine blk_drew ?_ | refine blk_alloc ?_ _)); exact BK349.out) k_ hk_.2.1)⟩)) (below_size (by repeat (first | (with_reducible first | exact HB.out | apply below_alloc | apply pw_below_drewN | apply below_drew1 | refine below_set ?_ GE349.out) | exact HB.out)))); have n1_ := Aside0.mk (blk_below (g := gb349) (o := .cells #[.int .u32 0, .slice none 0 0] 25 (0, 0)) (by (with_reducible repeat (first | refine blk_drewN ?_ _ | refine blk_drew ?_ | refine blk_alloc ?_ _)); exact BK349.out) hb); have n2_ := Aside0.mk (below_step (by repeat (first | (with_reducible first | exact HB.out | apply below_alloc | apply pw_below_drewN | apply below_drew1 | refine below_set ?_ GE349.out) | exact HB.out)) hb); clear BK349; clear HB; have HO353 := n0_; have BK349 := n1_; have HB := n2_; clear n0_ n1_ n2_; (try clear hb); (try clear hb2); (try clear hk); (try clear hi); (try clear ho0); have hcz61_0 : w60.cell? ⟨gb349, 0, none⟩ = some (.int .u32 0) := (blk_cell BK349.out 0).trans rfl; have hcz61_1 : w60.cell? ⟨gb349, 1, none⟩ = some (.slice none 0 0) := (blk_cell BK349.out 1).trans rfl; have hfz61_0 := blk_frozen BK349.out 0; have hfz61_1 := blk_frozen BK349.out 1))
  refine bodyPost_ret (results_ct rfl _ _ gb349 25 #[.int .u32 0, .slice none 0 0] (0, 0) _ rfl (by (with_reducible repeat (first | refine blk_drewN ?_ _ | refine blk_drew ?_ | refine blk_alloc ?_ _)); refine blk_put (cs := #[.int .u32 0, .slice none 0 0]) ?_ 1 _ rfl; (with_reducible repeat (first | refine blk_drewN ?_ _ | refine blk_drew ?_ | refine blk_alloc ?_ _)); refine blk_put (cs := #[.int .u32 0, .slice none 0 0]) ?_ 0 _ rfl; (with_reducible repeat (first | refine blk_drewN ?_ _ | refine blk_drew ?_ | refine blk_alloc ?_ _)); exact BK349.out) Tryd.underlying25 rfl (by kernel_rfl)) rfl ?_
  exact ⟨_, by first | rfl | (simp [errW_none, errW_some] <;> rfl) | (simp [*, errW_none, errW_some] <;> rfl), by first | exact Kd.S_nil _ _ _ _ _ | exact Kd.N_nil _ _ _ _ _ | exact Kd.V_nil _ _ _ _ _ | exact Kd.Q_nil _ _ _ _ _ | exact Kd.R_nil _ _ _ _ _, by repeat (first | (with_reducible first | exact HB.out | apply below_alloc | apply pw_below_drewN | apply below_drew1 | refine below_set ?_ GE349.out) | exact HB.out)⟩

/-! ### foliateref04_Cuts: function 17 -/
def foliateref04_Cuts.l0 : Nat → List Int → Int → List (S50) → Int → Option (List Int × Bool)
 | 0, _, _, _, _ => none
 | k + 1, x6, x7, x8, x10 => if x10 < (x8.length : Int) then (if 0 ≤ x10 then (if x6.length < 17592186044416 then (foliateref04_Cuts.l0 k (x6 ++ [wrap64 ((wrap64 (x7 + (((rd_T50 x8 x10).f1).length : Int))) + 10)]) (wrap64 ((wrap64 (x7 + (((rd_T50 x8 x10).f1).length : Int))) + 10)) x8 (wrap64 (x10 + 1))) else (none)) else (none)) else (some (x6, true))
def foliateref04_Cuts.f (k : Nat) (l0 : List Int) : Option (List Int × Bool) := (foliateref04_Get.f k l0).bind fun bt379 => (if bt379.2.2 = 0 then ((foliateref03_All.f k l0).bind fun bt388 => (foliateref04_Cuts.l0 k (([0] : List Int)) 0 bt388.1 0)) else (some (([] : List Int), false)))
set_option maxHeartbeats 8000000 in
set_option maxRecDepth 100000 in
theorem foliateref04_Cuts.calls (k : Nat) (A0 : Option Addr) (c0 : Nat) (l0 : List Int) (r1 : List Int) (r2 : Bool) (w : World) (hr0 : Kd.C (Kd.int .u8) w A0 l0.length l0) (hc0 : l0.length ≤ c0) (h : foliateref04_Cuts.f k l0 = some (r1, r2)) :
  Calls Tryd.prog 17 #[.slice A0 l0.length c0] w fun e w' => ∃ v0_ : Value, e = .returned (.tuple #[v0_, .bool r2]) ∧ Kd.R (Kd.int .i64) 3 w' w.heap.size (fun _ => True) v0_ r1 ∧ Below w.heap.size w w' := by
 have hu25 := Tryd.underlying25
 have HR0 := Aside0.mk hr0
 have HC0 := Aside0.mk hc0
 clear hr0 hc0
 have HB := Aside0.mk (Below.refl w.heap.size w)
 have H : ((foliateref04_Get.f k l0).bind fun bt379 => (if bt379.2.2 = 0 then ((foliateref03_All.f k l0).bind fun bt388 => (foliateref04_Cuts.l0 k (([0] : List Int)) 0 bt388.1 0)) else (some (([] : List Int), false)))) = some (r1, r2) := h
 clear h
 replace H := Option.bind_eq_some_iff.mp H
 obtain ⟨⟨t379, t380, t383⟩, A20, H⟩ := H
 replace H : (if t383 = 0 then ((foliateref03_All.f k l0).bind fun bt388 => (foliateref04_Cuts.l0 k (([0] : List Int)) 0 bt388.1 0)) else (some (([] : List Int), false))) = some (r1, r2) := H
 have A2 := Aside0.mk A20
 clear A20
 by_cases c3 : t383 = 0
 ·rw [if_pos c3] at H
  have c3b0 : (t383 == 0) = true := beq_iff_eq.mpr c3
  have c3b1 : (t383 != 0) = false := bne_eq_false_iff_eq.mpr c3
  clear c3
  obtain ⟨y385, hy385⟩ : ∃ y_ : List Int, y_ = (([0] : List Int)) := ⟨_, rfl⟩
  replace H : ((foliateref03_All.f k l0).bind fun bt388 => (foliateref04_Cuts.l0 k y385 0 bt388.1 0)) = some (r1, r2) := by first | (rw [hy385]; with_reducible exact H) | (have H2_ := (Option.bind_some _ _).symm.trans H; rw [hy385]; with_reducible exact H2_) | (have H2_ := (Option.bind_some _ _).symm.trans H; with_reducible exact H2_) | with_reducible exact H | (rw [hy385]; exact H) | exact H
  have Ny385 := Aside0.mk hy385
  clear hy385
  replace H := Option.bind_eq_some_iff.mp H
  obtain ⟨⟨t388, t389⟩, A40, H⟩ := H
  replace H : (foliateref04_Cuts.l0 k y385 0 t388 0) = some (r1, r2) := H
  have A4 := Aside0.mk A40
  clear A40
  have H' := Aside0.mk H
  clear H
  go_enter Tryd.func17, Tryd.ntmps17
  go_wp2_with (first | ((with_reducible refine gate_callee (f := 15) rfl ?_); refine goesL_ (some 13) rfl rfl Tryd.func15 (by kernel_rfl) rfl #[.slice A0 l0.length c0] rfl (by (try simp only [List.map_toArray, List.map_cons, List.map_nil]); first | done | rfl | (simp only [List.length_drop, List.length_take]; rfl)) ?_; (with_reducible refine (foliateref04_Get.calls k _ _ l0 t379 t380 t383 _ ?side1 ?side2 A2.out).mono ?_); (case side1 => repeat (first | exact HR0.out | (with_reducible refine Kd.C_alloc ?_ _) | (with_reducible refine Kd.C_drewN ?_ _) | (with_reducible refine Kd.C_drew ?_))); (case side2 => exact HC0.out); rintro e w5 ⟨v381, rfl, ho0, hb⟩; refine ⟨_, rfl, ?_⟩; have n0_ := Aside0.mk (Kd.N_lower (Kd.N_mono (ok' := fun k_ => True) ho0 (fun k_ hk_ => trivial)) (below_size (by repeat (first | exact HB.out | apply below_alloc | apply pw_below_drewN | apply below_drew1)))); have n1_ := Aside0.mk (below_step (by repeat (first | exact HB.out | apply below_alloc | apply pw_below_drewN | apply below_drew1)) hb); clear HB; have HO382 := n0_; have HB := n1_; clear n0_ n1_; (try clear hb); (try clear hb2); (try clear hk); (try clear hi); (try clear ho0)) | ((with_reducible refine gate_dst (N := 4) rfl ?_); refine box_event ?hg (N := 4) ?hd (cs := #[.int .u32 0, .slice none 0 0]) (t := 25) ?hr ?_; (case hd => rfl); (case hg => rfl); (case hr => first | (go_simp; done) | (go_simp; rfl)); intro gb384 hg w6 hbox hb; have n0_ := Aside0.mk (Kd.N_below (Kd.N_elderB (by (with_reducible repeat (first | apply Kd.N_alloc | apply Kd.N_drewN | apply Kd.N_drew)); exact HO382.out) gb384 (Nat.le_of_eq hg.symm)) hb); have n1_ := Aside0.mk (below_step (by repeat (first | exact HB.out | apply below_alloc | apply pw_below_drewN | apply below_drew1)) hb); have n2_ := Aside0.mk (hbox); have n3_ := Aside0.mk ((by rw [hg]; exact (below_size (by repeat (first | exact HB.out | apply below_alloc | apply pw_below_drewN | apply below_drew1))) : w.heap.size ≤ gb384)); have n4_ := Aside0.mk ((by rw [hg]; exact (below_size (by repeat (first | exact HB.out | apply below_alloc | apply pw_below_drewN | apply below_drew1))) : w.heap.size ≤ gb384)); clear HO382; clear HB; have HO382 := n0_; have HB := n1_; have BK384 := n2_; have GW384 := n3_; have GE384 := n4_; clear n0_ n1_ n2_ n3_ n4_; clear hb hbox hg; have hcz7_0 : w6.cell? ⟨gb384, 0, none⟩ = some (.int .u32 0) := (blk_cell BK384.out 0).trans rfl; have hcz7_1 : w6.cell? ⟨gb384, 1, none⟩ = some (.slice none 0 0) := (blk_cell BK384.out 1).trans rfl; have hfz7_0 := blk_frozen BK384.out 0; have hfz7_1 := blk_frozen BK384.out 1; obtain ⟨Ao8, co8, eo8⟩ := Kd.N_slice HO382.out; subst eo8) | ((with_reducible refine gate_dst (N := 18) rfl ?_); refine Kd.R_lit (Kd.int .i64) _ 3 ?hg (N := 18) ?hd (xs := ([0] : List Int)) (inner := [.int .i64 0]) (ok := fun _ => True) (okp := fun _ => True) ?hr ?hp (fun _ hk => hk) trivial (Below.refl _ _) (Nat.le_refl _) (by simp) ?_; (case hd => rfl); (case hg => rfl); (case hr => first | (go_simp; done) | (go_simp; rfl)); (case hp => exact (Reps.one (show Kd.M (Kd.int .i64) _ _ _ 0 [.int .i64 0] from rfl) (Reps.none _ _))); intro v386 w9 ho10 hb hg_ hnew_; clear hg_ hnew_; (first | rw [← Ny385.out] at ho10 | (simp only [Int.reduceToNat] at ho10; rw [← Ny385.out] at ho10)); have n0_ := Aside0.mk (Kd.N_elder' (by (with_reducible repeat (first | apply Kd.N_alloc | apply Kd.N_drewN | apply Kd.N_drew)); exact (Kd.N_mono (Kd.N_far (p := ⟨gb384, 1, none⟩) (Kd.N_far (p := ⟨gb384, 0, none⟩) (Kd.N_mono HO382.out (fun k_ hk => (⟨hk, hk.2⟩ : _ ∧ k_ ≠ gb384))) (fun _ h => by first | exact h.2 | exact h | trivial) (.int .u32 t379)) (fun _ h => by first | exact h.2 | exact h | trivial) (.slice Ao8 t380.length co8)) (fun _ h_ => h_.1))) (Kd.R_base ho10) hb); have n1_ := Aside0.mk (Kd.R_lower ho10 (below_size (by repeat (first | (with_reducible first | exact HB.out | apply below_alloc | apply pw_below_drewN | apply below_drew1 | refine below_set ?_ GE384.out) | exact HB.out)))); have n2_ := Aside0.mk (blk_below (g := gb384) (o := .cells #[.int .u32 t379, .slice Ao8 t380.length co8] 25 (0, 0)) (by (with_reducible repeat (first | refine blk_drewN ?_ _ | refine blk_drew ?_ | refine blk_alloc ?_ _)); refine blk_put (cs := #[.int .u32 t379, .slice none 0 0]) ?_ 1 _ rfl; (with_reducible repeat (first | refine blk_drewN ?_ _ | refine blk_drew ?_ | refine blk_alloc ?_ _)); refine blk_put (cs := #[.int .u32 0, .slice none 0 0]) ?_ 0 _ rfl; (with_reducible repeat (first | refine blk_drewN ?_ _ | refine blk_drew ?_ | refine blk_alloc ?_ _)); exact BK384.out) hb); have n3_ := Aside0.mk (below_step (by repeat (first | (with_reducible first | exact HB.out | apply below_alloc | apply pw_below_drewN | apply below_drew1 | refine below_set ?_ GE384.out) | exact HB.out)) hb); clear HO382; clear BK384; clear HB; have HO382 := n0_; have HO387 := n1_; have BK384 := n2_; have HB := n3_; clear n0_ n1_ n2_ n3_; clear hb ho10) | ((with_reducible refine gate_callee (f := 31) rfl ?_); refine goesL_ (some 21) rfl rfl Tryd.func31 (by kernel_rfl) rfl #[.slice A0 l0.length c0] rfl (by (try simp only [List.map_toArray, List.map_cons, List.map_nil]); first | done | rfl | (simp only [List.length_drop, List.length_take]; rfl)) ?_; (with_reducible refine (foliateref03_All.calls k _ _ l0 t388 t389 _ ?side1 ?side2 A4.out).mono ?_); (case side1 => repeat (first | exact (Kd.C_below HR0.out HB.out) | (with_reducible refine Kd.C_alloc ?_ _) | (with_reducible refine Kd.C_drewN ?_ _) | (with_reducible refine Kd.C_drew ?_))); (case side2 => exact HC0.out); rintro e w11 ⟨v390, rfl, ho0, hb⟩; refine ⟨_, rfl, ?_⟩; have n0_ := Aside0.mk (Kd.N_elder' (by (with_reducible repeat (first | apply Kd.N_alloc | apply Kd.N_drewN | apply Kd.N_drew)); exact HO382.out) (by first | exact Kd.N_base ho0 | exact Kd.S_base ho0) hb); have n1_ := Aside0.mk (Kd.R_below (by (with_reducible repeat (first | apply Kd.R_alloc | apply Kd.R_drewN | apply Kd.R_drew)); exact HO387.out) hb); have n2_ := Aside0.mk (Kd.N_lower (Kd.N_mono (ok' := fun k_ => some k_ ≠ (.slice Ao8 t380.length co8 : Value).ownBlock ∧ some k_ ≠ (v386 : Value).ownBlock ∧ k_ ≠ gb384) (Kd.S_N (Kd.S_bound ho0)) (fun k_ hk_ => ⟨(Kd.fresh' (Kd.N_lt (by (with_reducible repeat (first | apply Kd.N_alloc | apply Kd.N_drewN | apply Kd.N_drew)); exact HO382.out)) k_ hk_.2.1), (Kd.fresh' (Kd.R_lt (by (with_reducible repeat (first | apply Kd.R_alloc | apply Kd.R_drewN | apply Kd.R_drew)); exact HO387.out)) k_ hk_.2.1), (Kd.freshB (g := gb384) (o := .cells #[.int .u32 t379, .slice Ao8 t380.length co8] 25 (0, 0)) (by (with_reducible repeat (first | refine blk_drewN ?_ _ | refine blk_drew ?_ | refine blk_alloc ?_ _)); exact BK384.out) k_ hk_.2.1)⟩)) (below_size (by repeat (first | (with_reducible first | exact HB.out | apply below_alloc | apply pw_below_drewN | apply below_drew1 | refine below_set ?_ GE384.out) | exact HB.out)))); have n3_ := Aside0.mk (blk_below (g := gb384) (o := .cells #[.int .u32 t379, .slice Ao8 t380.length co8] 25 (0, 0)) (by (with_reducible repeat (first | refine blk_drewN ?_ _ | refine blk_drew ?_ | refine blk_alloc ?_ _)); exact BK384.out) hb); have n4_ := Aside0.mk (below_step (by repeat (first | (with_reducible first | exact HB.out | apply below_alloc | apply pw_below_drewN | apply below_drew1 | refine below_set ?_ GE384.out) | exact HB.out)) hb); clear HO382; clear HO387; clear BK384; clear HB; have HO382 := n0_; have HO387 := n1_; have HO391 := n2_; have BK384 := n3_; have HB := n4_; clear n0_ n1_ n2_ n3_ n4_; (try clear hb); (try clear hb2); (try clear hk); (try clear hi); (try clear ho0)))
  go_loopg [6, 7, 10] k (fun kq v6 v7 v10 w' => ∃ (x6_1 : List Int) (x7_1 : Int) (x10_1 : Int), v7 = .int .i64 x7_1 ∧ v10 = .int .i64 x10_1 ∧ Aside0 (foliateref04_Cuts.l0 kq x6_1 x7_1 t388 x10_1 = some (r1, r2)) ∧ Aside0 (kq ≤ k) ∧ Aside0 (Kd.R (Kd.int .i64) 3 w' w.heap.size (fun _ => True) v6 x6_1) ∧ Aside0 (Kd.N k50 50 w' w.heap.size (fun k_ => some k_ ≠ (v6 : Value).ownBlock ∧ some k_ ≠ ((.slice Ao8 t380.length co8) : Value).ownBlock ∧ k_ ≠ gb384) v390 t388) ∧ Aside0 (Kd.N (Kd.slice 5 (Kd.int .u8)) 26 w' w.heap.size (fun k_ => some k_ ≠ (v6 : Value).ownBlock ∧ some k_ ≠ (v390 : Value).ownBlock ∧ k_ ≠ gb384) (.slice Ao8 t380.length co8) t380) ∧ Aside0 (w'.heap[gb384]? = some (.cells #[.int .u32 t379, (.slice Ao8 t380.length co8)] 25 (0, 0))) ∧ Aside0 (Below w.heap.size w w'))
  case atStart => exact ⟨(y385), (0), (0), (by first | rfl | (simp; done) | (simp [*]; done)), (by first | rfl | (simp; done) | (simp [*]; done)), H', ⟨Nat.le_refl _⟩, ⟨by (with_reducible repeat (first | apply Kd.R_alloc | apply Kd.R_drewN | apply Kd.R_drew)); exact HO387.out⟩, ⟨by (with_reducible repeat (first | apply Kd.N_alloc | apply Kd.N_drewN | apply Kd.N_drew)); exact Kd.N_mono HO391.out (fun _ hk => ⟨hk.2.1, ⟨hk.1, hk.2.2⟩⟩)⟩, ⟨by (with_reducible repeat (first | apply Kd.N_alloc | apply Kd.N_drewN | apply Kd.N_drew)); exact Kd.N_mono HO382.out (fun _ hk => ⟨hk.1.2, ⟨hk.2, hk.1.1.2⟩⟩)⟩, ⟨by (with_reducible repeat (first | refine blk_drewN ?_ _ | refine blk_drew ?_ | refine blk_alloc ?_ _)); exact BK384.out⟩, ⟨by repeat (first | (with_reducible first | exact HB.out | apply below_alloc | apply pw_below_drewN | apply below_drew1 | refine below_set ?_ GE384.out) | exact HB.out)⟩⟩
  case round =>
   clear H'
   try clear c1
   try clear p2
   try clear c3
   try clear c3b0
   try clear c3b1
   try clear hcz7_0
   try clear hcz7_1
   try clear hfz7_0
   try clear hfz7_1
   obtain ⟨x6_1, x7_1, x10_1, rfl, rfl, HA, HK1, HO_6, HO_8, HO_385001, BK384, HB⟩ := hrel
   cases gk with
   | zero => exact absurd HA.out (by simp [foliateref04_Cuts.l0])
   | succ k1 =>
    have H := HA.out
    clear HA
    simp only [foliateref04_Cuts.l0] at H
    by_cases c12 : x10_1 < (t388.length : Int)
    ·rw [if_pos c12] at H
     have c12b0 : decide (x10_1 < (t388.length : Int)) = true := decide_eq_true c12
     clear c12
     by_cases c13 : 0 ≤ x10_1
     ·rw [if_pos c13] at H
      have c13b0 : decide (0 ≤ x10_1) = true := decide_eq_true c13
      clear c13
      by_cases c14 : x6_1.length < 17592186044416
      ·rw [if_pos c14] at H
       have LMc14 := Aside0.mk c14
       clear c14
       obtain ⟨y393, hy393⟩ : ∃ y_ : List Int, y_ = (x6_1 ++ [wrap64 ((wrap64 (x7_1 + (((rd_T50 t388 x10_1).f1).length : Int))) + 10)]) := ⟨_, rfl⟩
       replace H : (foliateref04_Cuts.l0 k1 y393 (wrap64 ((wrap64 (x7_1 + (((rd_T50 t388 x10_1).f1).length : Int))) + 10)) t388 (wrap64 (x10_1 + 1))) = some (r1, r2) := by first | (rw [hy393]; with_reducible exact H) | (have H2_ := (Option.bind_some _ _).symm.trans H; rw [hy393]; with_reducible exact H2_) | (have H2_ := (Option.bind_some _ _).symm.trans H; with_reducible exact H2_) | with_reducible exact H | (rw [hy393]; exact H) | exact H
       have Ny393 := Aside0.mk hy393
       clear hy393
       have H' := Aside0.mk H
       clear H
       obtain ⟨Ao15, co15, eo15⟩ := Kd.N_slice HO_8.out
       subst eo15
       have p392 : 0 ≤ (x10_1 : Int) := of_decide_eq_true (by first | (with_reducible assumption) | assumption)
       have q392 : x10_1 < (t388.length : Int) := of_decide_eq_true (by first | (with_reducible assumption) | assumption)
       obtain ⟨ad392, A392_1, c392_1, e392, hx392_0, hx392_1, hl392_1, hi392_1⟩ := at_T50 (Kd.N_reads' HO_8.out).2.2 x10_1 p392 q392
       cases e392
       obtain ⟨ce392, hce392, hMe392, hcc392⟩ := Kd.N_get HO_8.out z50 x10_1 p392 (by first | exact q392 | exact of_decide_eq_true (by first | (with_reducible assumption) | assumption) | (have e_ := (Kd.N_reads' HO_8.out).1; omega))
       obtain ⟨ua392_1, uc392_1, rfl, ul392_1, ge392_1⟩ := k50_openF hMe392
       have hv392_1 := hcc392 1 _ rfl
       rw [add_field _ _ 1 (by omega)] at hv392_1
       replace hv392_1 := Option.some.inj (hv392_1.symm.trans hx392_1)
       injection hv392_1 with hva_ hvn_ hvc_
       rw [hva_] at ge392_1
       rw [hvc_] at ul392_1
       have HL392_1 := Aside0.mk (show Kd.V (Kd.int .u8) 5 _ w.heap.size _ _ ((rd_T50 t388 x10_1).f1) from Kd.V_mk ul392_1 ge392_1)
       clear hva_ hvn_ hvc_ ge392_1 ul392_1
       clear hcc392 hce392
       have HR392_1 := Aside0.mk hi392_1
       have HC392_1 := Aside0.mk hl392_1
       clear hi392_1 hl392_1
       replace p392 := eq_true p392
       replace q392 := eq_true q392
       go_wp2_with (first | ((with_reducible refine gate_builtin (b := .append) (xs := #[.tmp 39, .tmp 41]) rfl ?_); at_builtin; refine Kd.R_append (Kd.int .i64) (w0 := w) w.heap.size rfl (.tmp 39) (.tmp 41) 34 3 (.int .i64 0) 8 rfl Tryd.underlying34 info3 rfl (by decide) (by omega) u6 x6_1 (wrap64 ((wrap64 (x7_1 + (((rd_T50 t388 x10_1).f1).length : Int))) + 10)) [.int .i64 (wrap64 ((wrap64 (x7_1 + (((rd_T50 t388 x10_1).f1).length : Int))) + 10))] (fun _ => True) (fun _ => False) rfl rfl ?aP (fun _ hk => hk.elim) ?aF ?aO ?aB ?aS ?aL ?_; (case aP => exact rfl); (case aB => exact (by repeat (first | (with_reducible first | exact HB.out | apply below_alloc | apply pw_below_drewN | apply below_drew1 | refine below_set ?_ GE384.out) | exact HB.out))); (case aF => exact (fun _ _ => trivial)); (case aO => exact (by (with_reducible repeat (first | apply Kd.R_alloc | apply Kd.R_drewN | apply Kd.R_drew)); exact HO_6.out)); (case aS => exact (below_size (by repeat (first | (with_reducible first | exact HB.out | apply below_alloc | apply pw_below_drewN | apply below_drew1 | refine below_set ?_ GE384.out) | exact HB.out)))); (case aL => have := LMc14.out; omega); intro v394 w16 ho hb hg hat; rw [← Ny393.out] at ho; have n0_ := Aside0.mk (Kd.N_afterv (ok := (fun k_ => some k_ ≠ (.slice Ao8 t380.length co8 : Value).ownBlock ∧ k_ ≠ gb384)) (by (with_reducible repeat (first | apply Kd.N_alloc | apply Kd.N_drewN | apply Kd.N_drew)); exact Kd.N_mono HO_8.out (fun _ hk => ⟨⟨hk.2.1, hk.2.2⟩, hk.1⟩)) hg hat); have n1_ := Aside0.mk (Kd.N_afterv (ok := (fun k_ => some k_ ≠ (.slice (some ad392) t388.length co15 : Value).ownBlock ∧ k_ ≠ gb384)) (by (with_reducible repeat (first | apply Kd.N_alloc | apply Kd.N_drewN | apply Kd.N_drew)); exact Kd.N_mono HO_385001.out (fun _ hk => ⟨⟨hk.2.1, hk.2.2⟩, hk.1⟩)) hg hat); have n2_ := Aside0.mk (blk_grown (g := gb384) (o := .cells #[.int .u32 t379, .slice Ao8 t380.length co8] 25 (0, 0)) (by (with_reducible repeat (first | refine blk_drewN ?_ _ | refine blk_drew ?_ | refine blk_alloc ?_ _)); exact BK384.out) hg (Kd.R_ne HO_6.out BK384.out (by decide))); have n3_ := Aside0.mk (Kd.V_afterv (ok := (fun k_ => some k_ ≠ (.slice (some ad392) t388.length co15 : Value).ownBlock ∧ some k_ ≠ (.slice Ao8 t380.length co8 : Value).ownBlock ∧ k_ ≠ gb384)) (by (with_reducible repeat (first | apply Kd.V_alloc | apply Kd.V_drewN | apply Kd.V_drew)); exact Kd.V_mono HL392_1.out (fun _ hk => ⟨⟨hk.2, ⟨hk.1.2.1, hk.1.2.2⟩⟩, hk.1.1⟩)) hg hat); have n4_ := Aside0.mk (hb); have n5_ := Aside0.mk (ho); clear HO_8; clear HO_385001; clear BK384; clear HL392_1; clear HB; clear HO_6; have HO_8 := n0_; have HO_385001 := n1_; have BK384 := n2_; have HL392_1 := n3_; have HB := n4_; have HO395 := n5_; clear n0_ n1_ n2_ n3_ n4_ n5_; clear ho hb hg hat))
       go_roundg k1
       case measure => have := HK1.out; omega
       case rel => exact ⟨(y393), (wrap64 ((wrap64 (x7_1 + (((rd_T50 t388 x10_1).f1).length : Int))) + 10)), (wrap64 (x10_1 + 1)), (by first | rfl | (simp; done) | (simp [*]; done)), (by first | rfl | (simp; done) | (simp [*]; done)), H', ⟨by have := HK1.out; omega⟩, ⟨by (with_reducible repeat (first | apply Kd.R_alloc | apply Kd.R_drewN | apply Kd.R_drew)); exact HO395.out⟩, ⟨by (with_reducible repeat (first | apply Kd.N_alloc | apply Kd.N_drewN | apply Kd.N_drew)); exact Kd.N_mono HO_8.out (fun _ hk => ⟨hk.2, ⟨hk.1.1, hk.1.2⟩⟩)⟩, ⟨by (with_reducible repeat (first | apply Kd.N_alloc | apply Kd.N_drewN | apply Kd.N_drew)); exact Kd.N_mono HO_385001.out (fun _ hk => ⟨hk.2, ⟨hk.1.1, hk.1.2⟩⟩)⟩, ⟨by (with_reducible repeat (first | refine blk_drewN ?_ _ | refine blk_drew ?_ | refine blk_alloc ?_ _)); exact BK384.out⟩, ⟨by repeat (first | (with_reducible first | exact HB.out | apply below_alloc | apply pw_below_drewN | apply below_drew1 | refine below_set ?_ GE384.out) | exact HB.out)⟩⟩
      ·rw [if_neg c14] at H
       exact absurd H (by simp)
     ·rw [if_neg c13] at H
      exact absurd H (by simp)
    ·rw [if_neg c12] at H
     have c12b0 : decide (x10_1 < (t388.length : Int)) = false := decide_eq_false c12
     clear c12
     simp only [Option.some.injEq, Prod.mk.injEq] at H
     obtain ⟨rfl, rfl⟩ := H
     obtain ⟨Ao17, co17, eo17⟩ := Kd.N_slice HO_8.out
     subst eo17
     go_wp2
     go_ret2
     exact ⟨_, by first | rfl | (simp [errW_none, errW_some] <;> rfl) | (simp [*, errW_none, errW_some] <;> rfl), by (with_reducible repeat (first | apply Kd.R_alloc | apply Kd.R_drewN | apply Kd.R_drew)); exact HO_6.out, by repeat (first | (with_reducible first | exact HB.out | apply below_alloc | apply pw_below_drewN | apply below_drew1 | refine below_set ?_ GE384.out) | exact HB.out)⟩
 ·rw [if_neg c3] at H
  have c3b0 : (t383 == 0) = false := beq_eq_false_iff_ne.mpr c3
  have c3b1 : (t383 != 0) = true := bne_iff_ne.mpr c3
  simp only [Option.some.injEq, Prod.mk.injEq] at H
  obtain ⟨rfl, rfl⟩ := H
  go_enter Tryd.func17, Tryd.ntmps17
  go_wp2_with (first | ((with_reducible refine gate_callee (f := 15) rfl ?_); refine goesL_ (some 13) rfl rfl Tryd.func15 (by kernel_rfl) rfl #[.slice A0 l0.length c0] rfl (by (try simp only [List.map_toArray, List.map_cons, List.map_nil]); first | done | rfl | (simp only [List.length_drop, List.length_take]; rfl)) ?_; (with_reducible refine (foliateref04_Get.calls k _ _ l0 t379 t380 t383 _ ?side1 ?side2 A2.out).mono ?_); (case side1 => repeat (first | exact HR0.out | (with_reducible refine Kd.C_alloc ?_ _) | (with_reducible refine Kd.C_drewN ?_ _) | (with_reducible refine Kd.C_drew ?_))); (case side2 => exact HC0.out); rintro e w18 ⟨v381, rfl, ho0, hb⟩; refine ⟨_, rfl, ?_⟩; have n0_ := Aside0.mk (Kd.N_lower (Kd.N_mono (ok' := fun k_ => True) ho0 (fun k_ hk_ => trivial)) (below_size (by repeat (first | exact HB.out | apply below_alloc | apply pw_below_drewN | apply below_drew1)))); have n1_ := Aside0.mk (below_step (by repeat (first | exact HB.out | apply below_alloc | apply pw_below_drewN | apply below_drew1)) hb); clear HB; have HO382 := n0_; have HB := n1_; clear n0_ n1_; (try clear hb); (try clear hb2); (try clear hk); (try clear hi); (try clear ho0)) | ((with_reducible refine gate_dst (N := 4) rfl ?_); refine box_event ?hg (N := 4) ?hd (cs := #[.int .u32 0, .slice none 0 0]) (t := 25) ?hr ?_; (case hd => rfl); (case hg => rfl); (case hr => first | (go_simp; done) | (go_simp; rfl)); intro gb384 hg w19 hbox hb; have n0_ := Aside0.mk (Kd.N_below (Kd.N_elderB (by (with_reducible repeat (first | apply Kd.N_alloc | apply Kd.N_drewN | apply Kd.N_drew)); exact HO382.out) gb384 (Nat.le_of_eq hg.symm)) hb); have n1_ := Aside0.mk (below_step (by repeat (first | exact HB.out | apply below_alloc | apply pw_below_drewN | apply below_drew1)) hb); have n2_ := Aside0.mk (hbox); have n3_ := Aside0.mk ((by rw [hg]; exact (below_size (by repeat (first | exact HB.out | apply below_alloc | apply pw_below_drewN | apply below_drew1))) : w.heap.size ≤ gb384)); have n4_ := Aside0.mk ((by rw [hg]; exact (below_size (by repeat (first | exact HB.out | apply below_alloc | apply pw_below_drewN | apply below_drew1))) : w.heap.size ≤ gb384)); clear HO382; clear HB; have HO382 := n0_; have HB := n1_; have BK384 := n2_; have GW384 := n3_; have GE384 := n4_; clear n0_ n1_ n2_ n3_ n4_; clear hb hbox hg; have hcz20_0 : w19.cell? ⟨gb384, 0, none⟩ = some (.int .u32 0) := (blk_cell BK384.out 0).trans rfl; have hcz20_1 : w19.cell? ⟨gb384, 1, none⟩ = some (.slice none 0 0) := (blk_cell BK384.out 1).trans rfl; have hfz20_0 := blk_frozen BK384.out 0; have hfz20_1 := blk_frozen BK384.out 1; obtain ⟨Ao21, co21, eo21⟩ := Kd.N_slice HO382.out; subst eo21))
  go_ret2
  exact ⟨_, by first | rfl | (simp [errW_none, errW_some] <;> rfl) | (simp [*, errW_none, errW_some] <;> rfl), by first | exact Kd.R_nil _ _ _ _ _ | exact Kd.N_nil _ _ _ _ _ | exact Kd.V_nil _ _ _ _ _ | exact Kd.Q_nil _ _ _ _ _ | exact Kd.S_nil _ _ _ _ _, by repeat (first | (with_reducible first | exact HB.out | apply below_alloc | apply pw_below_drewN | apply below_drew1 | refine below_set ?_ GE384.out) | exact HB.out)⟩

end Go.Proofs.YtknkncdlcoglpaaDoor.PAll
