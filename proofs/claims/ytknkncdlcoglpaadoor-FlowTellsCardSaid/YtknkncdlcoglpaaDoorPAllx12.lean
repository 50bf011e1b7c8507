-- Written by wip/tools/myprint.py, a program of the prover's own, over the kit's print; the contracts named 'HAND' there are typed by hand.
import Derived.Test.YtknkncdlcoglpaaDoorPAllx0
import Derived.Test.YtknkncdlcoglpaaDoorPAllx1
import Derived.Test.YtknkncdlcoglpaaDoorPAllx2
import Derived.Test.YtknkncdlcoglpaaDoorPAllx6
import Derived.Test.YtknkncdlcoglpaaDoorPAllx7
import Derived.Test.YtknkncdlcoglpaaDoorPAllx9
import Derived.Test.YtknkncdlcoglpaaDoorPAllx11
namespace Go.Proofs.YtknkncdlcoglpaaDoor.PAll
open Go.RowKit Go.Proofs.YtknkncdlcoglpaaDoorW.PrintWords Go.Proofs.YtknkncdlcoglpaaDoorW.PrintLast Go.Proofs.YtknkncdlcoglpaaDoorW.PrintMore
attribute [local go_sem] max2_int min2_int max_two min_two max_three min_three max_four min_four   -- for this text's walks alone
set_option linter.unusedVariables false
set_option linter.unusedSimpArgs false

theorem q1_12 {α : Type} (l : List α) (i : Nat) (a : α) : l.toArray.setIfInBounds i a = (l.set i a).toArray := List.setIfInBounds_toArray ..
theorem q2_12 {α : Type} (x : α) (l : List α) (a : α) : (x :: l).set 0 a = a :: l := rfl
theorem q3_12 {α : Type} (x : α) (l : List α) (i : Nat) (a : α) : (x :: l).set (i + 1) a = x :: l.set i a := rfl
abbrev t_12 : Bool := true
abbrev f_12 : Bool := false
/-! ### foliateref04_Same: function 18 -/
mutual
def foliateref04_Same.j0 : Nat → Bool → Int → List (List Int) → Int → List (List Int) → Option (Bool)
 | 0, _, _, _, _, _ => none
 | k + 1, x19, x397000, x397001, x398000, x398001 => if x19 = true then (some false) else (foliateref04_Same.l0 k 0 x397000 x397001 x398000 x398001)
def foliateref04_Same.l0 : Nat → Int → Int → List (List Int) → Int → List (List Int) → Option (Bool)
 | 0, _, _, _, _, _ => none
 | k + 1, x5, x397000, x397001, x398000, x398001 => if x5 < (x397001.length : Int) then (if 0 ≤ x5 then (if x5 < (x398001.length : Int) then (if (strOfNums (rd_L2 x397001 x5)).toList = (strOfNums (rd_L2 x398001 x5)).toList then (foliateref04_Same.l0 k (wrap64 (x5 + 1)) x397000 x397001 x398000 x398001) else (some false)) else (none)) else (none)) else (some true)
end
def foliateref04_Same.f (k : Nat) (a0_0 : Int) (l0_1 : List (List Int)) (a1_0 : Int) (l1_1 : List (List Int)) : Option (Bool) := if a0_0 = a1_0 then (foliateref04_Same.j0 k ((l0_1.length : Int) != (l1_1.length : Int)) a0_0 l0_1 a1_0 l1_1) else (foliateref04_Same.j0 k true a0_0 l0_1 a1_0 l1_1)
def same6_T : Bool × List (List Nat × List Nat) := (true, [([], []), ([0], [0]), ([], []), ([1, 2], [1, 2]), ([3], [3]), ([4], [4]), ([], []), ([6], [6]), ([], []), ([7, 8], [7, 8]), ([9], [9]), ([10], [10]), ([5, 11], [5, 11])])
def same6_B : List Nat := [0, 1, 0, 7, 15, 31, 0, 64, 0, 448, 960, 1984, 4095]
theorem same6_tab : rtab .any (opsOf Tryd.f18 6) = same6_T := by kernel_rfl
theorem same6_bits : waitsOk same6_T.2 same6_B = true := by kernel_rfl
set_option maxHeartbeats 8000000 in
set_option maxRecDepth 100000 in
theorem foliateref04_Same.calls (k : Nat) (a0_0 : Int) (A0_1 : Option Addr) (c0_1 : Nat) (l0_1 : List (List Int)) (a1_0 : Int) (A1_1 : Option Addr) (c1_1 : Nat) (l1_1 : List (List Int)) (r : Bool) (w : World) (hr0_1 : Kd.C (Kd.slice 5 (Kd.int .u8)) w A0_1 l0_1.length l0_1) (hc0_1 : l0_1.length ≤ c0_1) (hr1_1 : Kd.C (Kd.slice 5 (Kd.int .u8)) w A1_1 l1_1.length l1_1) (hc1_1 : l1_1.length ≤ c1_1) (h : foliateref04_Same.f k a0_0 l0_1 a1_0 l1_1 = some r) :
  Calls Tryd.prog 18 #[.agg #[.int .u32 a0_0, .slice A0_1 l0_1.length c0_1], .agg #[.int .u32 a1_0, .slice A1_1 l1_1.length c1_1]] w fun e w' => e = .returned (.bool r) ∧ Below w.heap.size w w' := by
 have hu25 := Tryd.underlying25
 have HR0_1 := Aside0.mk hr0_1
 have HC0_1 := Aside0.mk hc0_1
 clear hr0_1 hc0_1
 have HR1_1 := Aside0.mk hr1_1
 have HC1_1 := Aside0.mk hc1_1
 clear hr1_1 hc1_1
 have HB := Aside0.mk (Below.refl w.heap.size w)
 have H : (if a0_0 = a1_0 then (foliateref04_Same.j0 k ((l0_1.length : Int) != (l1_1.length : Int)) a0_0 l0_1 a1_0 l1_1) else (foliateref04_Same.j0 k true a0_0 l0_1 a1_0 l1_1)) = some r := h
 clear h
 have HC3 := Aside0.mk H
 clear H
 go_enter Tryd.func18, Tryd.ntmps18
 go_upto_region 1 with (first | ((with_reducible refine gate_dst (N := 2) rfl ?_); (try (refine gate_guard (by rfl) ?_; dsimp only)); refine box_event ?hg (N := 2) ?hd (cs := #[.int .u32 a0_0, .slice A0_1 l0_1.length c0_1]) (t := 25) ?hr ?_; (case hd => rfl); (case hg => rfl); (case hr => first | (go_simp; done) | (go_simp; rfl)); intro gb396 hg w4 hbox hb; have n0_ := Aside0.mk (below_step (by repeat (first | exact HB.out | apply below_alloc | apply pw_below_drewN | apply below_drew1)) hb); have n1_ := Aside0.mk (hbox); have n2_ := Aside0.mk ((by rw [hg]; exact (below_size (by repeat (first | exact HB.out | apply below_alloc | apply pw_below_drewN | apply below_drew1))) : w.heap.size ≤ gb396)); have n3_ := Aside0.mk ((by rw [hg]; exact (below_size (by repeat (first | exact HB.out | apply below_alloc | apply pw_below_drewN | apply below_drew1))) : w.heap.size ≤ gb396)); clear HB; have HB := n0_; have BK396 := n1_; have GW396 := n2_; have GE396 := n3_; clear n0_ n1_ n2_ n3_; clear hb hbox hg) | ((with_reducible refine gate_dst (N := 3) rfl ?_); (try (refine gate_guard (by rfl) ?_; dsimp only)); refine box_event ?hg (N := 3) ?hd (cs := #[.int .u32 a1_0, .slice A1_1 l1_1.length c1_1]) (t := 25) ?hr ?_; (case hd => rfl); (case hg => rfl); (case hr => first | (go_simp; done) | (go_simp; rfl)); intro gb397 hg w5 hbox hb; have n0_ := Aside0.mk (blk_below (g := gb396) (o := .cells #[.int .u32 a0_0, .slice A0_1 l0_1.length c0_1] 25 (0, 0)) (by (with_reducible repeat (first | refine blk_drewN ?_ _ | refine blk_drew ?_ | refine blk_alloc ?_ _)); exact BK396.out) hb); have n1_ := Aside0.mk (below_step (by repeat (first | (with_reducible first | exact HB.out | apply below_alloc | apply pw_below_drewN | apply below_drew1 | refine below_set ?_ GE396.out) | exact HB.out)) hb); have n2_ := Aside0.mk (hbox); have n3_ := Aside0.mk ((by rw [hg]; exact (below_size (by repeat (first | (with_reducible first | exact HB.out | apply below_alloc | apply pw_below_drewN | apply below_drew1 | refine below_set ?_ GE396.out) | exact HB.out))) : w.heap.size ≤ gb397)); have n4_ := Aside0.mk ((by rw [hg]; exact (below_size (by repeat (first | (with_reducible first | exact HB.out | apply below_alloc | apply pw_below_drewN | apply below_drew1 | refine below_set ?_ GE396.out) | exact HB.out))) : w.heap.size ≤ gb397)); have n5_ := Aside0.mk ((by rw [hg]; exact Nat.ne_of_lt (blk_lt (g := gb396) (o := .cells #[.int .u32 a0_0, .slice A0_1 l0_1.length c0_1] 25 (0, 0)) (by (with_reducible repeat (first | refine blk_drewN ?_ _ | refine blk_drew ?_ | refine blk_alloc ?_ _)); exact BK396.out)) : gb396 ≠ gb397)); have n6_ := Aside0.mk ((by rw [hg]; exact Nat.ne_of_gt (blk_lt (g := gb396) (o := .cells #[.int .u32 a0_0, .slice A0_1 l0_1.length c0_1] 25 (0, 0)) (by (with_reducible repeat (first | refine blk_drewN ?_ _ | refine blk_drew ?_ | refine blk_alloc ?_ _)); exact BK396.out)) : gb397 ≠ gb396)); clear BK396; clear HB; have BK396 := n0_; have HB := n1_; have BK397 := n2_; have GW397 := n3_; have GE397 := n4_; have NB396_397 := n5_; have NB397_396 := n6_; clear n0_ n1_ n2_ n3_ n4_ n5_ n6_; clear hb hbox hg))
 repeat (go_quiet (first | ((with_reducible refine gate_dst (N := 2) rfl ?_); (try (refine gate_guard (by rfl) ?_; dsimp only)); refine box_event ?hg (N := 2) ?hd (cs := #[.int .u32 a0_0, .slice A0_1 l0_1.length c0_1]) (t := 25) ?hr ?_; (case hd => rfl); (case hg => rfl); (case hr => first | (go_simp; done) | (go_simp; rfl)); intro gb396 hg w4 hbox hb; have n0_ := Aside0.mk (below_step (by repeat (first | exact HB.out | apply below_alloc | apply pw_below_drewN | apply below_drew1)) hb); have n1_ := Aside0.mk (hbox); have n2_ := Aside0.mk ((by rw [hg]; exact (below_size (by repeat (first | exact HB.out | apply below_alloc | apply pw_below_drewN | apply below_drew1))) : w.heap.size ≤ gb396)); have n3_ := Aside0.mk ((by rw [hg]; exact (below_size (by repeat (first | exact HB.out | apply below_alloc | apply pw_below_drewN | apply below_drew1))) : w.heap.size ≤ gb396)); clear HB; have HB := n0_; have BK396 := n1_; have GW396 := n2_; have GE396 := n3_; clear n0_ n1_ n2_ n3_; clear hb hbox hg) | ((with_reducible refine gate_dst (N := 3) rfl ?_); (try (refine gate_guard (by rfl) ?_; dsimp only)); refine box_event ?hg (N := 3) ?hd (cs := #[.int .u32 a1_0, .slice A1_1 l1_1.length c1_1]) (t := 25) ?hr ?_; (case hd => rfl); (case hg => rfl); (case hr => first | (go_simp; done) | (go_simp; rfl)); intro gb397 hg w5 hbox hb; have n0_ := Aside0.mk (blk_below (g := gb396) (o := .cells #[.int .u32 a0_0, .slice A0_1 l0_1.length c0_1] 25 (0, 0)) (by (with_reducible repeat (first | refine blk_drewN ?_ _ | refine blk_drew ?_ | refine blk_alloc ?_ _)); exact BK396.out) hb); have n1_ := Aside0.mk (below_step (by repeat (first | (with_reducible first | exact HB.out | apply below_alloc | apply pw_below_drewN | apply below_drew1 | refine below_set ?_ GE396.out) | exact HB.out)) hb); have n2_ := Aside0.mk (hbox); have n3_ := Aside0.mk ((by rw [hg]; exact (below_size (by repeat (first | (with_reducible first | exact HB.out | apply below_alloc | apply pw_below_drewN | apply below_drew1 | refine below_set ?_ GE396.out) | exact HB.out))) : w.heap.size ≤ gb397)); have n4_ := Aside0.mk ((by rw [hg]; exact (below_size (by repeat (first | (with_reducible first | exact HB.out | apply below_alloc | apply pw_below_drewN | apply below_drew1 | refine below_set ?_ GE396.out) | exact HB.out))) : w.heap.size ≤ gb397)); have n5_ := Aside0.mk ((by rw [hg]; exact Nat.ne_of_lt (blk_lt (g := gb396) (o := .cells #[.int .u32 a0_0, .slice A0_1 l0_1.length c0_1] 25 (0, 0)) (by (with_reducible repeat (first | refine blk_drewN ?_ _ | refine blk_drew ?_ | refine blk_alloc ?_ _)); exact BK396.out)) : gb396 ≠ gb397)); have n6_ := Aside0.mk ((by rw [hg]; exact Nat.ne_of_gt (blk_lt (g := gb396) (o := .cells #[.int .u32 a0_0, .slice A0_1 l0_1.length c0_1] 25 (0, 0)) (by (with_reducible repeat (first | refine blk_drewN ?_ _ | refine blk_drew ?_ | refine blk_alloc ?_ _)); exact BK396.out)) : gb397 ≠ gb396)); clear BK396; clear HB; have BK396 := n0_; have HB := n1_; have BK397 := n2_; have GW397 := n3_; have GE397 := n4_; have NB396_397 := n5_; have NB397_396 := n6_; clear n0_ n1_ n2_ n3_ n4_ n5_ n6_; clear hb hbox hg)); go_upto_region 1 with (first | ((with_reducible refine gate_dst (N := 2) rfl ?_); (try (refine gate_guard (by rfl) ?_; dsimp only)); refine box_event ?hg (N := 2) ?hd (cs := #[.int .u32 a0_0, .slice A0_1 l0_1.length c0_1]) (t := 25) ?hr ?_; (case hd => rfl); (case hg => rfl); (case hr => first | (go_simp; done) | (go_simp; rfl)); intro gb396 hg w4 hbox hb; have n0_ := Aside0.mk (below_step (by repeat (first | exact HB.out | apply below_alloc | apply pw_below_drewN | apply below_drew1)) hb); have n1_ := Aside0.mk (hbox); have n2_ := Aside0.mk ((by rw [hg]; exact (below_size (by repeat (first | exact HB.out | apply below_alloc | apply pw_below_drewN | apply below_drew1))) : w.heap.size ≤ gb396)); have n3_ := Aside0.mk ((by rw [hg]; exact (below_size (by repeat (first | exact HB.out | apply below_alloc | apply pw_below_drewN | apply below_drew1))) : w.heap.size ≤ gb396)); clear HB; have HB := n0_; have BK396 := n1_; have GW396 := n2_; have GE396 := n3_; clear n0_ n1_ n2_ n3_; clear hb hbox hg) | ((with_reducible refine gate_dst (N := 3) rfl ?_); (try (refine gate_guard (by rfl) ?_; dsimp only)); refine box_event ?hg (N := 3) ?hd (cs := #[.int .u32 a1_0, .slice A1_1 l1_1.length c1_1]) (t := 25) ?hr ?_; (case hd => rfl); (case hg => rfl); (case hr => first | (go_simp; done) | (go_simp; rfl)); intro gb397 hg w5 hbox hb; have n0_ := Aside0.mk (blk_below (g := gb396) (o := .cells #[.int .u32 a0_0, .slice A0_1 l0_1.length c0_1] 25 (0, 0)) (by (with_reducible repeat (first | refine blk_drewN ?_ _ | refine blk_drew ?_ | refine blk_alloc ?_ _)); exact BK396.out) hb); have n1_ := Aside0.mk (below_step (by repeat (first | (with_reducible first | exact HB.out | apply below_alloc | apply pw_below_drewN | apply below_drew1 | refine below_set ?_ GE396.out) | exact HB.out)) hb); have n2_ := Aside0.mk (hbox); have n3_ := Aside0.mk ((by rw [hg]; exact (below_size (by repeat (first | (with_reducible first | exact HB.out | apply below_alloc | apply pw_below_drewN | apply below_drew1 | refine below_set ?_ GE396.out) | exact HB.out))) : w.heap.size ≤ gb397)); have n4_ := Aside0.mk ((by rw [hg]; exact (below_size (by repeat (first | (with_reducible first | exact HB.out | apply below_alloc | apply pw_below_drewN | apply below_drew1 | refine below_set ?_ GE396.out) | exact HB.out))) : w.heap.size ≤ gb397)); have n5_ := Aside0.mk ((by rw [hg]; exact Nat.ne_of_lt (blk_lt (g := gb396) (o := .cells #[.int .u32 a0_0, .slice A0_1 l0_1.length c0_1] 25 (0, 0)) (by (with_reducible repeat (first | refine blk_drewN ?_ _ | refine blk_drew ?_ | refine blk_alloc ?_ _)); exact BK396.out)) : gb396 ≠ gb397)); have n6_ := Aside0.mk ((by rw [hg]; exact Nat.ne_of_gt (blk_lt (g := gb396) (o := .cells #[.int .u32 a0_0, .slice A0_1 l0_1.length c0_1] 25 (0, 0)) (by (with_reducible repeat (first | refine blk_drewN ?_ _ | refine blk_drew ?_ | refine blk_alloc ?_ _)); exact BK396.out)) : gb397 ≠ gb396)); clear BK396; clear HB; have BK396 := n0_; have HB := n1_; have BK397 := n2_; have GW397 := n3_; have GE397 := n4_; have NB396_397 := n5_; have NB397_396 := n6_; clear n0_ n1_ n2_ n3_ n4_ n5_ n6_; clear hb hbox hg)))
 (try simp only [Act.put, q1_12, q2_12, q3_12])
 go_cut [19] (fun v19 wc => ∃ (kq : Nat) (x19_2 : Bool), v19 = .bool x19_2 ∧ Aside0 (foliateref04_Same.j0 kq x19_2 a0_0 l0_1 a1_0 l1_1 = some r) ∧ Aside0 (kq ≤ k) ∧ Aside0 (wc.heap[gb396]? = some (.cells #[.int .u32 a0_0, (.slice A0_1 l0_1.length c0_1)] 25 (0, 0))) ∧ Aside0 (wc.heap[gb397]? = some (.cells #[.int .u32 a1_0, (.slice A1_1 l1_1.length c1_1)] 25 (0, 0))) ∧ Aside0 (Below w.heap.size w wc))
 case first =>
  have H := HC3.out
  clear HC3
  by_cases c6 : a0_0 = a1_0
  ·rw [if_pos c6] at H
   have c6b0 : (a0_0 == a1_0) = true := beq_iff_eq.mpr c6
   have c6b1 : (a0_0 != a1_0) = false := bne_eq_false_iff_eq.mpr c6
   clear c6
   (first | rw [c6b0] | (simp only [i64_w, i32_w]; rw [c6b0]) | skip)
   have H' := Aside0.mk H
   clear H
   have hnb7 := NB396_397.out
   have hnc7 := NB397_396.out
   have hcz8_0 : w5.cell? ⟨gb396, 0, none⟩ = some (.int .u32 a0_0) := (blk_cell BK396.out 0).trans rfl
   have hcz8_1 : w5.cell? ⟨gb396, 1, none⟩ = some (.slice A0_1 l0_1.length c0_1) := (blk_cell BK396.out 1).trans rfl
   have hfz8_0 := blk_frozen BK396.out 0
   have hfz8_1 := blk_frozen BK396.out 1
   have hcz9_0 : w5.cell? ⟨gb397, 0, none⟩ = some (.int .u32 a1_0) := (blk_cell BK397.out 0).trans rfl
   have hcz9_1 : w5.cell? ⟨gb397, 1, none⟩ = some (.slice A1_1 l1_1.length c1_1) := (blk_cell BK397.out 1).trans rfl
   have hfz9_0 := blk_frozen BK397.out 0
   have hfz9_1 := blk_frozen BK397.out 1
   go_wp2
   repeat (go_quiet (fail); try go_wp2)
   go_meet
   case rel => exact ⟨_, (((l0_1.length : Int) != (l1_1.length : Int))), (by first | rfl | (simp; done) | (simp [*]; done)), H', ⟨by first | omega | exact Nat.le_refl _⟩, ⟨by (with_reducible repeat (first | refine blk_drewN ?_ _ | refine blk_drew ?_ | refine blk_alloc ?_ _)); exact BK396.out⟩, ⟨by (with_reducible repeat (first | refine blk_drewN ?_ _ | refine blk_drew ?_ | refine blk_alloc ?_ _)); exact BK397.out⟩, ⟨by repeat (first | (with_reducible first | exact HB.out | apply below_alloc | apply pw_below_drewN | apply below_drew1 | refine below_set ?_ GE396.out | refine below_set ?_ GE397.out) | exact HB.out)⟩⟩
  ·rw [if_neg c6] at H
   have c6b0 : (a0_0 == a1_0) = false := beq_eq_false_iff_ne.mpr c6
   have c6b1 : (a0_0 != a1_0) = true := bne_iff_ne.mpr c6
   (first | rw [c6b0] | (simp only [i64_w, i32_w]; rw [c6b0]) | skip)
   have H' := Aside0.mk H
   clear H
   have hnb10 := NB396_397.out
   have hnc10 := NB397_396.out
   have hcz11_0 : w5.cell? ⟨gb396, 0, none⟩ = some (.int .u32 a0_0) := (blk_cell BK396.out 0).trans rfl
   have hcz11_1 : w5.cell? ⟨gb396, 1, none⟩ = some (.slice A0_1 l0_1.length c0_1) := (blk_cell BK396.out 1).trans rfl
   have hfz11_0 := blk_frozen BK396.out 0
   have hfz11_1 := blk_frozen BK396.out 1
   have hcz12_0 : w5.cell? ⟨gb397, 0, none⟩ = some (.int .u32 a1_0) := (blk_cell BK397.out 0).trans rfl
   have hcz12_1 : w5.cell? ⟨gb397, 1, none⟩ = some (.slice A1_1 l1_1.length c1_1) := (blk_cell BK397.out 1).trans rfl
   have hfz12_0 := blk_frozen BK397.out 0
   have hfz12_1 := blk_frozen BK397.out 1
   go_wp2
   repeat (go_quiet (fail); try go_wp2)
   go_meet
   case rel => exact ⟨_, (true), (by first | rfl | (simp; done) | (simp [*]; done)), H', ⟨by first | omega | exact Nat.le_refl _⟩, ⟨by (with_reducible repeat (first | refine blk_drewN ?_ _ | refine blk_drew ?_ | refine blk_alloc ?_ _)); exact BK396.out⟩, ⟨by (with_reducible repeat (first | refine blk_drewN ?_ _ | refine blk_drew ?_ | refine blk_alloc ?_ _)); exact BK397.out⟩, ⟨by repeat (first | (with_reducible first | exact HB.out | apply below_alloc | apply pw_below_drewN | apply below_drew1 | refine below_set ?_ GE396.out | refine below_set ?_ GE397.out) | exact HB.out)⟩⟩
 case rest =>
  clear HC3
  try clear c1
  try clear p2
  try clear c6
  try clear c6b0
  try clear c6b1
  try clear c7
  try clear c10
  try clear hcz11_0
  try clear hcz11_1
  try clear hcz12_0
  try clear hcz12_1
  try clear hcz8_0
  try clear hcz8_1
  try clear hcz9_0
  try clear hcz9_1
  try clear hfz11_0
  try clear hfz11_1
  try clear hfz12_0
  try clear hfz12_1
  try clear hfz8_0
  try clear hfz8_1
  try clear hfz9_0
  try clear hfz9_1
  obtain ⟨kq, x19_2, rfl, HA, HJ2, BK396, BK397, HB⟩ := hcut
  cases kq with
  | zero => exact absurd HA.out (by simp [foliateref04_Same.j0])
  | succ kj2 =>
   have H := HA.out
   clear HA
   simp only [foliateref04_Same.j0] at H
   by_cases c13 : x19_2 = true
   ·subst c13
    have H1 : (some false) = some r := by rw [if_pos rfl] at H; exact H
    clear H
    have H := H1
    clear H1
    obtain rfl := Option.some.inj H
    go_wp2
    repeat (go_quiet (fail); try go_wp2)
    go_ret
    exact ⟨by first | rfl | (simp [errW_none, errW_some] <;> rfl) | (simp [*, errW_none, errW_some] <;> rfl), by repeat (first | (with_reducible first | exact HB.out | apply below_alloc | apply pw_below_drewN | apply below_drew1 | refine below_set ?_ GE396.out | refine below_set ?_ GE397.out) | exact HB.out)⟩
   ·replace c13 := Bool.eq_false_iff.mpr c13
    subst c13
    have H1 : (foliateref04_Same.l0 kj2 0 a0_0 l0_1 a1_0 l1_1) = some r := by rw [if_neg (show ¬ (false = true) by decide)] at H; exact H
    clear H
    have H := H1
    clear H1
    have H' := Aside0.mk H
    clear H
    go_wp2
    repeat (go_quiet (fail); try go_wp2)
    go_loopg [5] kj2 (fun kq v5 w' => ∃ (x5_2 : Int), v5 = .int .i64 x5_2 ∧ Aside0 (foliateref04_Same.l0 kq x5_2 a0_0 l0_1 a1_0 l1_1 = some r) ∧ Aside0 (kq ≤ kj2) ∧ Aside0 (w'.heap[gb396]? = some (.cells #[.int .u32 a0_0, (.slice A0_1 l0_1.length c0_1)] 25 (0, 0))) ∧ Aside0 (w'.heap[gb397]? = some (.cells #[.int .u32 a1_0, (.slice A1_1 l1_1.length c1_1)] 25 (0, 0))) ∧ Aside0 (Below w.heap.size w w'))
    case atStart => exact ⟨(0), (by first | rfl | (simp; done) | (simp [*]; done)), H', ⟨Nat.le_refl _⟩, ⟨by (with_reducible repeat (first | refine blk_drewN ?_ _ | refine blk_drew ?_ | refine blk_alloc ?_ _)); exact BK396.out⟩, ⟨by (with_reducible repeat (first | refine blk_drewN ?_ _ | refine blk_drew ?_ | refine blk_alloc ?_ _)); exact BK397.out⟩, ⟨by repeat (first | (with_reducible first | exact HB.out | apply below_alloc | apply pw_below_drewN | apply below_drew1 | refine below_set ?_ GE396.out | refine below_set ?_ GE397.out) | exact HB.out)⟩⟩
    case round =>
     clear H'
     try clear c1
     try clear p2
     try clear c6
     try clear c6b0
     try clear c6b1
     try clear c7
     try clear c10
     try clear c13
     try clear hcz11_0
     try clear hcz11_1
     try clear hcz12_0
     try clear hcz12_1
     try clear hcz8_0
     try clear hcz8_1
     try clear hcz9_0
     try clear hcz9_1
     try clear hfz11_0
     try clear hfz11_1
     try clear hfz12_0
     try clear hfz12_1
     try clear hfz8_0
     try clear hfz8_1
     try clear hfz9_0
     try clear hfz9_1
     try clear p2
     obtain ⟨x5_2, rfl, HA, HK2, BK396, BK397, HB⟩ := hrel
     cases gk with
     | zero => exact absurd HA.out (by simp [foliateref04_Same.l0])
     | succ k2 =>
      have H := HA.out
      clear HA
      simp only [foliateref04_Same.l0] at H
      by_cases c14 : x5_2 < (l0_1.length : Int)
      ·rw [if_pos c14] at H
       have c14b0 : decide (x5_2 < (l0_1.length : Int)) = true := decide_eq_true c14
       clear c14
       by_cases c15 : 0 ≤ x5_2
       ·rw [if_pos c15] at H
        have c15b0 : decide (0 ≤ x5_2) = true := decide_eq_true c15
        clear c15
        by_cases c16 : x5_2 < (l1_1.length : Int)
        ·rw [if_pos c16] at H
         have c16b0 : decide (x5_2 < (l1_1.length : Int)) = true := decide_eq_true c16
         clear c16
         by_cases c17 : (strOfNums (rd_L2 l0_1 x5_2)).toList = (strOfNums (rd_L2 l1_1 x5_2)).toList
         ·rw [if_pos c17] at H
          have c17b0 : ((strOfNums (rd_L2 l0_1 x5_2)).toList == (strOfNums (rd_L2 l1_1 x5_2)).toList) = true := beq_iff_eq.mpr c17
          have c17b1 : ((strOfNums (rd_L2 l0_1 x5_2)).toList != (strOfNums (rd_L2 l1_1 x5_2)).toList) = false := bne_eq_false_iff_eq.mpr c17
          clear c17
          have H' := Aside0.mk H
          clear H
          have hnb18 := NB396_397.out
          have hnc18 := NB397_396.out
          have hcz19_0 : wr.cell? ⟨gb396, 0, none⟩ = some (.int .u32 a0_0) := (blk_cell BK396.out 0).trans rfl
          have hcz19_1 : wr.cell? ⟨gb396, 1, none⟩ = some (.slice A0_1 l0_1.length c0_1) := (blk_cell BK396.out 1).trans rfl
          have hfz19_0 := blk_frozen BK396.out 0
          have hfz19_1 := blk_frozen BK396.out 1
          have p398 : 0 ≤ (x5_2 : Int) := of_decide_eq_true (by first | (with_reducible assumption) | assumption)
          have q398 : x5_2 < (l0_1.length : Int) := of_decide_eq_true (by first | (with_reducible assumption) | assumption)
          obtain ⟨ad398, A398_0, c398_0, e398, hx398_0, hl398_0, hi398_0⟩ := at_L2 HR0_1.out x5_2 p398 q398
          cases e398
          replace hx398_0 := (HB.out.cell (World.block_lt_of_cell? w _ hx398_0)).trans hx398_0
          have HR398_0 := Aside0.mk hi398_0
          have HC398_0 := Aside0.mk hl398_0
          clear hi398_0 hl398_0
          replace p398 := eq_true p398
          replace q398 := eq_true q398
          have hcv20 := Kd.C_string (P := Tryd.prog) (A := A398_0) (c := c398_0) Tryd.underlying26 Tryd.underlying5 Tryd.underlying9 (Kd.C_below HR398_0.out HB.out)
          have hcz21_0 : wr.cell? ⟨gb397, 0, none⟩ = some (.int .u32 a1_0) := (blk_cell BK397.out 0).trans rfl
          have hcz21_1 : wr.cell? ⟨gb397, 1, none⟩ = some (.slice A1_1 l1_1.length c1_1) := (blk_cell BK397.out 1).trans rfl
          have hfz21_0 := blk_frozen BK397.out 0
          have hfz21_1 := blk_frozen BK397.out 1
          have p399 : 0 ≤ (x5_2 : Int) := of_decide_eq_true (by first | (with_reducible assumption) | assumption)
          have q399 : x5_2 < (l1_1.length : Int) := of_decide_eq_true (by first | (with_reducible assumption) | assumption)
          obtain ⟨ad399, A399_0, c399_0, e399, hx399_0, hl399_0, hi399_0⟩ := at_L2 HR1_1.out x5_2 p399 q399
          cases e399
          replace hx399_0 := (HB.out.cell (World.block_lt_of_cell? w _ hx399_0)).trans hx399_0
          have HR399_0 := Aside0.mk hi399_0
          have HC399_0 := Aside0.mk hl399_0
          clear hi399_0 hl399_0
          replace p399 := eq_true p399
          replace q399 := eq_true q399
          have hcv22 := Kd.C_string (P := Tryd.prog) (A := A399_0) (c := c399_0) Tryd.underlying26 Tryd.underlying5 Tryd.underlying9 (Kd.C_below HR399_0.out HB.out)
          go_upto_region 6 with (fail)
          have hcd20 := Kd.C_string (P := Tryd.prog) (A := A398_0) (c := c398_0) Tryd.underlying26 Tryd.underlying5 Tryd.underlying9 (Kd.C_drew (Kd.C_below HR398_0.out HB.out))
          have hcd22 := Kd.C_string (P := Tryd.prog) (A := A399_0) (c := c399_0) Tryd.underlying26 Tryd.underlying5 Tryd.underlying9 (Kd.C_drew (Kd.C_below HR399_0.out HB.out))
          refine start_ (n := 13) (S := fun w' => w'.cell? ⟨gb396, 1, none⟩ = some (.slice (some ad398) l0_1.length c0_1) ∧ w'.cell? (ad398.add x5_2.toNat) = some (.slice A398_0 (rd_L2 l0_1 x5_2).length c398_0) ∧ (convert 26 9 (.slice A398_0 (rd_L2 l0_1 x5_2).length c398_0)).run Tryd.prog w' = .ok (.string (strOfNums (rd_L2 l0_1 x5_2))) w' ∧ w'.cell? ⟨gb397, 1, none⟩ = some (.slice (some ad399) l1_1.length c1_1) ∧ w'.cell? (ad399.add x5_2.toNat) = some (.slice A399_0 (rd_L2 l1_1 x5_2).length c399_0) ∧ (convert 26 9 (.slice A399_0 (rd_L2 l1_1 x5_2).length c399_0)).run Tryd.prog w' = .ok (.string (strOfNums (rd_L2 l1_1 x5_2))) w') (ds := []) #[f_12,f_12,f_12,f_12,f_12,f_12,f_12,f_12,f_12,f_12,f_12,f_12,f_12] (by kernel_rfl) rfl rfl ⟨hcz19_1, hx398_0, hcd20, hcz21_1, hx399_0, hcd22⟩ (fun hHeld => ?_)
          refine with_tabW same6_tab same6_bits (fun HT_ HW_ => ?_)
          refine pure_ (i := 0) (N := some 27) (v := ?_) (a' := ?_) #[t_12,f_12,f_12,f_12,f_12,f_12,f_12,f_12,f_12,f_12,f_12,f_12,f_12] rfl rfl (any_of HT_.out (by kernel_rfl)) (fun _ _ _ h => h) (Or.inl ⟨by rfl, ?_⟩) ?_ ?_; rotate_left; (·intro w'; go_simp; with_reducible rfl); rotate_left; (·simp only [Act.put, q1_12, q2_12, q3_12, i64_w, i32_w]; rfl)
          refine take_ (i := 1) (N := some 28) (v := ?_) (a' := ?_) #[t_12,t_12,f_12,f_12,f_12,f_12,f_12,f_12,f_12,f_12,f_12,f_12,f_12] rfl rfl (take_ofW HT_.out HW_.out (by kernel_rfl)) (fun _ _ _ h => h) (Or.inl ⟨by rfl, ?_⟩) hHeld ?_ ?_
          rotate_left
          ·rintro w' ⟨s0, s1, s2, s3, s4, s5⟩
           go_simp
           with_reducible rfl
          rotate_left
          ·simp only [Act.put, q1_12, q2_12, q3_12, i64_w, i32_w]
           rfl
          refine pure_ (i := 2) (N := some 29) (v := ?_) (a' := ?_) #[t_12,t_12,t_12,f_12,f_12,f_12,f_12,f_12,f_12,f_12,f_12,f_12,f_12] rfl rfl (any_of HT_.out (by kernel_rfl)) (fun _ _ _ h => h) (Or.inl ⟨by rfl, ?_⟩) ?_ ?_; rotate_left; (·intro w'; go_simp; with_reducible rfl); rotate_left; (·simp only [Act.put, q1_12, q2_12, q3_12, i64_w, i32_w]; rfl)
          refine pure_ (i := 3) (N := some 30) (v := ?_) (a' := ?_) #[t_12,t_12,t_12,t_12,f_12,f_12,f_12,f_12,f_12,f_12,f_12,f_12,f_12] rfl rfl (any_of HT_.out (by kernel_rfl)) (fun _ _ _ h => h) (Or.inl ⟨by rfl, ?_⟩) ?_ ?_; rotate_left; (·intro w'; go_simp; with_reducible rfl); rotate_left; (·simp only [Act.put, q1_12, q2_12, q3_12, i64_w, i32_w]; rfl)
          refine take_ (i := 4) (N := some 31) (v := ?_) (a' := ?_) #[t_12,t_12,t_12,t_12,t_12,f_12,f_12,f_12,f_12,f_12,f_12,f_12,f_12] rfl rfl (take_ofW HT_.out HW_.out (by kernel_rfl)) (fun _ _ _ h => h) (Or.inl ⟨by rfl, ?_⟩) hHeld ?_ ?_
          rotate_left
          ·rintro w' ⟨s0, s1, s2, s3, s4, s5⟩
           go_simp
           with_reducible rfl
          rotate_left
          ·simp only [Act.put, q1_12, q2_12, q3_12, i64_w, i32_w]
           rfl
          refine take_ (i := 5) (N := some 32) (v := ?_) (a' := ?_) #[t_12,t_12,t_12,t_12,t_12,t_12,f_12,f_12,f_12,f_12,f_12,f_12,f_12] rfl rfl (take_ofW HT_.out HW_.out (by kernel_rfl)) (fun _ _ _ h => h) (Or.inl ⟨by rfl, ?_⟩) hHeld ?_ ?_
          rotate_left
          ·rintro w' ⟨s0, s1, s2, s3, s4, s5⟩
           go_simp
           with_reducible rfl
          rotate_left
          ·simp only [Act.put, q1_12, q2_12, q3_12, i64_w, i32_w]
           rfl
          refine pure_ (i := 6) (N := some 33) (v := ?_) (a' := ?_) #[t_12,t_12,t_12,t_12,t_12,t_12,t_12,f_12,f_12,f_12,f_12,f_12,f_12] rfl rfl (any_of HT_.out (by kernel_rfl)) (fun _ _ _ h => h) (Or.inl ⟨by rfl, ?_⟩) ?_ ?_; rotate_left; (·intro w'; go_simp; with_reducible rfl); rotate_left; (·simp only [Act.put, q1_12, q2_12, q3_12, i64_w, i32_w]; rfl)
          refine take_ (i := 7) (N := some 34) (v := ?_) (a' := ?_) #[t_12,t_12,t_12,t_12,t_12,t_12,t_12,t_12,f_12,f_12,f_12,f_12,f_12] rfl rfl (take_ofW HT_.out HW_.out (by kernel_rfl)) (fun _ _ _ h => h) (Or.inl ⟨by rfl, ?_⟩) hHeld ?_ ?_
          rotate_left
          ·rintro w' ⟨s0, s1, s2, s3, s4, s5⟩
           go_simp
           with_reducible rfl
          rotate_left
          ·simp only [Act.put, q1_12, q2_12, q3_12, i64_w, i32_w]
           rfl
          refine pure_ (i := 8) (N := some 35) (v := ?_) (a' := ?_) #[t_12,t_12,t_12,t_12,t_12,t_12,t_12,t_12,t_12,f_12,f_12,f_12,f_12] rfl rfl (any_of HT_.out (by kernel_rfl)) (fun _ _ _ h => h) (Or.inl ⟨by rfl, ?_⟩) ?_ ?_; rotate_left; (·intro w'; go_simp; with_reducible rfl); rotate_left; (·simp only [Act.put, q1_12, q2_12, q3_12, i64_w, i32_w]; rfl)
          refine pure_ (i := 9) (N := some 36) (v := ?_) (a' := ?_) #[t_12,t_12,t_12,t_12,t_12,t_12,t_12,t_12,t_12,t_12,f_12,f_12,f_12] rfl rfl (any_of HT_.out (by kernel_rfl)) (fun _ _ _ h => h) (Or.inl ⟨by rfl, ?_⟩) ?_ ?_; rotate_left; (·intro w'; go_simp; with_reducible rfl); rotate_left; (·simp only [Act.put, q1_12, q2_12, q3_12, i64_w, i32_w]; rfl)
          refine take_ (i := 10) (N := some 37) (v := ?_) (a' := ?_) #[t_12,t_12,t_12,t_12,t_12,t_12,t_12,t_12,t_12,t_12,t_12,f_12,f_12] rfl rfl (take_ofW HT_.out HW_.out (by kernel_rfl)) (fun _ _ _ h => h) (Or.inl ⟨by rfl, ?_⟩) hHeld ?_ ?_
          rotate_left
          ·rintro w' ⟨s0, s1, s2, s3, s4, s5⟩
           go_simp
           with_reducible rfl
          rotate_left
          ·simp only [Act.put, q1_12, q2_12, q3_12, i64_w, i32_w]
           rfl
          refine take_ (i := 11) (N := some 38) (v := ?_) (a' := ?_) #[t_12,t_12,t_12,t_12,t_12,t_12,t_12,t_12,t_12,t_12,t_12,t_12,f_12] rfl rfl (take_ofW HT_.out HW_.out (by kernel_rfl)) (fun _ _ _ h => h) (Or.inl ⟨by rfl, ?_⟩) hHeld ?_ ?_
          rotate_left
          ·rintro w' ⟨s0, s1, s2, s3, s4, s5⟩
           go_simp
           with_reducible rfl
          rotate_left
          ·simp only [Act.put, q1_12, q2_12, q3_12, i64_w, i32_w]
           rfl
          refine pure_ (i := 12) (N := some 39) (v := ?_) (a' := ?_) #[t_12,t_12,t_12,t_12,t_12,t_12,t_12,t_12,t_12,t_12,t_12,t_12,t_12] rfl rfl (any_of HT_.out (by kernel_rfl)) (fun _ _ _ h => h) (Or.inl ⟨by rfl, ?_⟩) ?_ ?_; rotate_left; (·intro w'; go_simp; with_reducible rfl); rotate_left; (·simp only [Act.put, q1_12, q2_12, q3_12, i64_w, i32_w]; rfl)
          refine done_ (done_of HT_.out (by kernel_rfl)) ?_
          go_wp2
          go_roundg k2
          case measure => have := HJ2.out; have := HK2.out; omega
          case rel => exact ⟨(wrap64 (x5_2 + 1)), (by first | rfl | (simp; done) | (simp [*]; done)), H', ⟨by have := HJ2.out; have := HK2.out; omega⟩, ⟨by (with_reducible repeat (first | refine blk_drewN ?_ _ | refine blk_drew ?_ | refine blk_alloc ?_ _)); exact BK396.out⟩, ⟨by (with_reducible repeat (first | refine blk_drewN ?_ _ | refine blk_drew ?_ | refine blk_alloc ?_ _)); exact BK397.out⟩, ⟨by repeat (first | (with_reducible first | exact HB.out | apply below_alloc | apply pw_below_drewN | apply below_drew1 | refine below_set ?_ GE396.out | refine below_set ?_ GE397.out) | exact HB.out)⟩⟩
         ·rw [if_neg c17] at H
          have c17b0 : ((strOfNums (rd_L2 l0_1 x5_2)).toList == (strOfNums (rd_L2 l1_1 x5_2)).toList) = false := beq_eq_false_iff_ne.mpr c17
          have c17b1 : ((strOfNums (rd_L2 l0_1 x5_2)).toList != (strOfNums (rd_L2 l1_1 x5_2)).toList) = true := bne_iff_ne.mpr c17
          obtain rfl := Option.some.inj H
          have hnb23 := NB396_397.out
          have hnc23 := NB397_396.out
          have hcz24_0 : wr.cell? ⟨gb396, 0, none⟩ = some (.int .u32 a0_0) := (blk_cell BK396.out 0).trans rfl
          have hcz24_1 : wr.cell? ⟨gb396, 1, none⟩ = some (.slice A0_1 l0_1.length c0_1) := (blk_cell BK396.out 1).trans rfl
          have hfz24_0 := blk_frozen BK396.out 0
          have hfz24_1 := blk_frozen BK396.out 1
          have p398 : 0 ≤ (x5_2 : Int) := of_decide_eq_true (by first | (with_reducible assumption) | assumption)
          have q398 : x5_2 < (l0_1.length : Int) := of_decide_eq_true (by first | (with_reducible assumption) | assumption)
          obtain ⟨ad398, A398_0, c398_0, e398, hx398_0, hl398_0, hi398_0⟩ := at_L2 HR0_1.out x5_2 p398 q398
          cases e398
          replace hx398_0 := (HB.out.cell (World.block_lt_of_cell? w _ hx398_0)).trans hx398_0
          have HR398_0 := Aside0.mk hi398_0
          have HC398_0 := Aside0.mk hl398_0
          clear hi398_0 hl398_0
          replace p398 := eq_true p398
          replace q398 := eq_true q398
          have hcv25 := Kd.C_string (P := Tryd.prog) (A := A398_0) (c := c398_0) Tryd.underlying26 Tryd.underlying5 Tryd.underlying9 (Kd.C_below HR398_0.out HB.out)
          have hcz26_0 : wr.cell? ⟨gb397, 0, none⟩ = some (.int .u32 a1_0) := (blk_cell BK397.out 0).trans rfl
          have hcz26_1 : wr.cell? ⟨gb397, 1, none⟩ = some (.slice A1_1 l1_1.length c1_1) := (blk_cell BK397.out 1).trans rfl
          have hfz26_0 := blk_frozen BK397.out 0
          have hfz26_1 := blk_frozen BK397.out 1
          have p399 : 0 ≤ (x5_2 : Int) := of_decide_eq_true (by first | (with_reducible assumption) | assumption)
          have q399 : x5_2 < (l1_1.length : Int) := of_decide_eq_true (by first | (with_reducible assumption) | assumption)
          obtain ⟨ad399, A399_0, c399_0, e399, hx399_0, hl399_0, hi399_0⟩ := at_L2 HR1_1.out x5_2 p399 q399
          cases e399
          replace hx399_0 := (HB.out.cell (World.block_lt_of_cell? w _ hx399_0)).trans hx399_0
          have HR399_0 := Aside0.mk hi399_0
          have HC399_0 := Aside0.mk hl399_0
          clear hi399_0 hl399_0
          replace p399 := eq_true p399
          replace q399 := eq_true q399
          have hcv27 := Kd.C_string (P := Tryd.prog) (A := A399_0) (c := c399_0) Tryd.underlying26 Tryd.underlying5 Tryd.underlying9 (Kd.C_below HR399_0.out HB.out)
          go_upto_region 6 with (fail)
          have hcd25 := Kd.C_string (P := Tryd.prog) (A := A398_0) (c := c398_0) Tryd.underlying26 Tryd.underlying5 Tryd.underlying9 (Kd.C_drew (Kd.C_below HR398_0.out HB.out))
          have hcd27 := Kd.C_string (P := Tryd.prog) (A := A399_0) (c := c399_0) Tryd.underlying26 Tryd.underlying5 Tryd.underlying9 (Kd.C_drew (Kd.C_below HR399_0.out HB.out))
          refine start_ (n := 13) (S := fun w' => w'.cell? ⟨gb396, 1, none⟩ = some (.slice (some ad398) l0_1.length c0_1) ∧ w'.cell? (ad398.add x5_2.toNat) = some (.slice A398_0 (rd_L2 l0_1 x5_2).length c398_0) ∧ (convert 26 9 (.slice A398_0 (rd_L2 l0_1 x5_2).length c398_0)).run Tryd.prog w' = .ok (.string (strOfNums (rd_L2 l0_1 x5_2))) w' ∧ w'.cell? ⟨gb397, 1, none⟩ = some (.slice (some ad399) l1_1.length c1_1) ∧ w'.cell? (ad399.add x5_2.toNat) = some (.slice A399_0 (rd_L2 l1_1 x5_2).length c399_0) ∧ (convert 26 9 (.slice A399_0 (rd_L2 l1_1 x5_2).length c399_0)).run Tryd.prog w' = .ok (.string (strOfNums (rd_L2 l1_1 x5_2))) w') (ds := []) #[f_12,f_12,f_12,f_12,f_12,f_12,f_12,f_12,f_12,f_12,f_12,f_12,f_12] (by kernel_rfl) rfl rfl ⟨hcz24_1, hx398_0, hcd25, hcz26_1, hx399_0, hcd27⟩ (fun hHeld => ?_)
          refine with_tabW same6_tab same6_bits (fun HT_ HW_ => ?_)
          refine pure_ (i := 0) (N := some 27) (v := ?_) (a' := ?_) #[t_12,f_12,f_12,f_12,f_12,f_12,f_12,f_12,f_12,f_12,f_12,f_12,f_12] rfl rfl (any_of HT_.out (by kernel_rfl)) (fun _ _ _ h => h) (Or.inl ⟨by rfl, ?_⟩) ?_ ?_; rotate_left; (·intro w'; go_simp; with_reducible rfl); rotate_left; (·simp only [Act.put, q1_12, q2_12, q3_12, i64_w, i32_w]; rfl)
          refine take_ (i := 1) (N := some 28) (v := ?_) (a' := ?_) #[t_12,t_12,f_12,f_12,f_12,f_12,f_12,f_12,f_12,f_12,f_12,f_12,f_12] rfl rfl (take_ofW HT_.out HW_.out (by kernel_rfl)) (fun _ _ _ h => h) (Or.inl ⟨by rfl, ?_⟩) hHeld ?_ ?_
          rotate_left
          ·rintro w' ⟨s0, s1, s2, s3, s4, s5⟩
           go_simp
           with_reducible rfl
          rotate_left
          ·simp only [Act.put, q1_12, q2_12, q3_12, i64_w, i32_w]
           rfl
          refine pure_ (i := 2) (N := some 29) (v := ?_) (a' := ?_) #[t_12,t_12,t_12,f_12,f_12,f_12,f_12,f_12,f_12,f_12,f_12,f_12,f_12] rfl rfl (any_of HT_.out (by kernel_rfl)) (fun _ _ _ h => h) (Or.inl ⟨by rfl, ?_⟩) ?_ ?_; rotate_left; (·intro w'; go_simp; with_reducible rfl); rotate_left; (·simp only [Act.put, q1_12, q2_12, q3_12, i64_w, i32_w]; rfl)
          refine pure_ (i := 3) (N := some 30) (v := ?_) (a' := ?_) #[t_12,t_12,t_12,t_12,f_12,f_12,f_12,f_12,f_12,f_12,f_12,f_12,f_12] rfl rfl (any_of HT_.out (by kernel_rfl)) (fun _ _ _ h => h) (Or.inl ⟨by rfl, ?_⟩) ?_ ?_; rotate_left; (·intro w'; go_simp; with_reducible rfl); rotate_left; (·simp only [Act.put, q1_12, q2_12, q3_12, i64_w, i32_w]; rfl)
          refine take_ (i := 4) (N := some 31) (v := ?_) (a' := ?_) #[t_12,t_12,t_12,t_12,t_12,f_12,f_12,f_12,f_12,f_12,f_12,f_12,f_12] rfl rfl (take_ofW HT_.out HW_.out (by kernel_rfl)) (fun _ _ _ h => h) (Or.inl ⟨by rfl, ?_⟩) hHeld ?_ ?_
          rotate_left
          ·rintro w' ⟨s0, s1, s2, s3, s4, s5⟩
           go_simp
           with_reducible rfl
          rotate_left
          ·simp only [Act.put, q1_12, q2_12, q3_12, i64_w, i32_w]
           rfl
          refine take_ (i := 5) (N := some 32) (v := ?_) (a' := ?_) #[t_12,t_12,t_12,t_12,t_12,t_12,f_12,f_12,f_12,f_12,f_12,f_12,f_12] rfl rfl (take_ofW HT_.out HW_.out (by kernel_rfl)) (fun _ _ _ h => h) (Or.inl ⟨by rfl, ?_⟩) hHeld ?_ ?_
          rotate_left
          ·rintro w' ⟨s0, s1, s2, s3, s4, s5⟩
           go_simp
           with_reducible rfl
          rotate_left
          ·simp only [Act.put, q1_12, q2_12, q3_12, i64_w, i32_w]
           rfl
          refine pure_ (i := 6) (N := some 33) (v := ?_) (a' := ?_) #[t_12,t_12,t_12,t_12,t_12,t_12,t_12,f_12,f_12,f_12,f_12,f_12,f_12] rfl rfl (any_of HT_.out (by kernel_rfl)) (fun _ _ _ h => h) (Or.inl ⟨by rfl, ?_⟩) ?_ ?_; rotate_left; (·intro w'; go_simp; with_reducible rfl); rotate_left; (·simp only [Act.put, q1_12, q2_12, q3_12, i64_w, i32_w]; rfl)
          refine take_ (i := 7) (N := some 34) (v := ?_) (a' := ?_) #[t_12,t_12,t_12,t_12,t_12,t_12,t_12,t_12,f_12,f_12,f_12,f_12,f_12] rfl rfl (take_ofW HT_.out HW_.out (by kernel_rfl)) (fun _ _ _ h => h) (Or.inl ⟨by rfl, ?_⟩) hHeld ?_ ?_
          rotate_left
          ·rintro w' ⟨s0, s1, s2, s3, s4, s5⟩
           go_simp
           with_reducible rfl
          rotate_left
          ·simp only [Act.put, q1_12, q2_12, q3_12, i64_w, i32_w]
           rfl
          refine pure_ (i := 8) (N := some 35) (v := ?_) (a' := ?_) #[t_12,t_12,t_12,t_12,t_12,t_12,t_12,t_12,t_12,f_12,f_12,f_12,f_12] rfl rfl (any_of HT_.out (by kernel_rfl)) (fun _ _ _ h => h) (Or.inl ⟨by rfl, ?_⟩) ?_ ?_; rotate_left; (·intro w'; go_simp; with_reducible rfl); rotate_left; (·simp only [Act.put, q1_12, q2_12, q3_12, i64_w, i32_w]; rfl)
          refine pure_ (i := 9) (N := some 36) (v := ?_) (a' := ?_) #[t_12,t_12,t_12,t_12,t_12,t_12,t_12,t_12,t_12,t_12,f_12,f_12,f_12] rfl rfl (any_of HT_.out (by kernel_rfl)) (fun _ _ _ h => h) (Or.inl ⟨by rfl, ?_⟩) ?_ ?_; rotate_left; (·intro w'; go_simp; with_reducible rfl); rotate_left; (·simp only [Act.put, q1_12, q2_12, q3_12, i64_w, i32_w]; rfl)
          refine take_ (i := 10) (N := some 37) (v := ?_) (a' := ?_) #[t_12,t_12,t_12,t_12,t_12,t_12,t_12,t_12,t_12,t_12,t_12,f_12,f_12] rfl rfl (take_ofW HT_.out HW_.out (by kernel_rfl)) (fun _ _ _ h => h) (Or.inl ⟨by rfl, ?_⟩) hHeld ?_ ?_
          rotate_left
          ·rintro w' ⟨s0, s1, s2, s3, s4, s5⟩
           go_simp
           with_reducible rfl
          rotate_left
          ·simp only [Act.put, q1_12, q2_12, q3_12, i64_w, i32_w]
           rfl
          refine take_ (i := 11) (N := some 38) (v := ?_) (a' := ?_) #[t_12,t_12,t_12,t_12,t_12,t_12,t_12,t_12,t_12,t_12,t_12,t_12,f_12] rfl rfl (take_ofW HT_.out HW_.out (by kernel_rfl)) (fun _ _ _ h => h) (Or.inl ⟨by rfl, ?_⟩) hHeld ?_ ?_
          rotate_left
          ·rintro w' ⟨s0, s1, s2, s3, s4, s5⟩
           go_simp
           with_reducible rfl
          rotate_left
          ·simp only [Act.put, q1_12, q2_12, q3_12, i64_w, i32_w]
           rfl
          refine pure_ (i := 12) (N := some 39) (v := ?_) (a' := ?_) #[t_12,t_12,t_12,t_12,t_12,t_12,t_12,t_12,t_12,t_12,t_12,t_12,t_12] rfl rfl (any_of HT_.out (by kernel_rfl)) (fun _ _ _ h => h) (Or.inl ⟨by rfl, ?_⟩) ?_ ?_; rotate_left; (·intro w'; go_simp; with_reducible rfl); rotate_left; (·simp only [Act.put, q1_12, q2_12, q3_12, i64_w, i32_w]; rfl)
          refine done_ (done_of HT_.out (by kernel_rfl)) ?_
          go_wp2
          go_ret
          exact ⟨by first | rfl | (simp [errW_none, errW_some] <;> rfl) | (simp [*, errW_none, errW_some] <;> rfl), by repeat (first | (with_reducible first | exact HB.out | apply below_alloc | apply pw_below_drewN | apply below_drew1 | refine below_set ?_ GE396.out | refine below_set ?_ GE397.out) | exact HB.out)⟩
        ·rw [if_neg c16] at H
         exact absurd H (by simp)
       ·rw [if_neg c15] at H
        exact absurd H (by simp)
      ·rw [if_neg c14] at H
       have c14b0 : decide (x5_2 < (l0_1.length : Int)) = false := decide_eq_false c14
       clear c14
       obtain rfl := Option.some.inj H
       have hnb28 := NB396_397.out
       have hnc28 := NB397_396.out
       have hcz29_0 : wr.cell? ⟨gb396, 0, none⟩ = some (.int .u32 a0_0) := (blk_cell BK396.out 0).trans rfl
       have hcz29_1 : wr.cell? ⟨gb396, 1, none⟩ = some (.slice A0_1 l0_1.length c0_1) := (blk_cell BK396.out 1).trans rfl
       have hfz29_0 := blk_frozen BK396.out 0
       have hfz29_1 := blk_frozen BK396.out 1
       go_wp2
       repeat (go_quiet (fail); try go_wp2)
       go_ret
       exact ⟨by first | rfl | (simp [errW_none, errW_some] <;> rfl) | (simp [*, errW_none, errW_some] <;> rfl), by repeat (first | (with_reducible first | exact HB.out | apply below_alloc | apply pw_below_drewN | apply below_drew1 | refine below_set ?_ GE396.out | refine below_set ?_ GE397.out) | exact HB.out)⟩

/-! ### foliateref04_Ints: function 19 -/
def foliateref04_Ints.l0 : Nat → List Int → List Int → Int → Option (Bool)
 | 0, _, _, _ => none
 | k + 1, x0, x1, x5 => if x5 < (x0.length : Int) then (if 0 ≤ x5 then (if x5 < (x1.length : Int) then (if (rd x0 x5) = (rd x1 x5) then (foliateref04_Ints.l0 k x0 x1 (wrap64 (x5 + 1))) else (some false)) else (none)) else (none)) else (some true)
def foliateref04_Ints.f (k : Nat) (l0 : List Int) (l1 : List Int) : Option (Bool) := if (l0.length : Int) = (l1.length : Int) then (foliateref04_Ints.l0 k l0 l1 0) else (some false)
set_option maxHeartbeats 8000000 in
set_option maxRecDepth 100000 in
theorem foliateref04_Ints.calls (k : Nat) (A0 : Option Addr) (c0 : Nat) (l0 : List Int) (A1 : Option Addr) (c1 : Nat) (l1 : List Int) (r : Bool) (w : World) (hr0 : Kd.C (Kd.int .i64) w A0 l0.length l0) (hc0 : l0.length ≤ c0) (hr1 : Kd.C (Kd.int .i64) w A1 l1.length l1) (hc1 : l1.length ≤ c1) (h : foliateref04_Ints.f k l0 l1 = some r) :
  Calls Tryd.prog 19 #[.slice A0 l0.length c0, .slice A1 l1.length c1] w fun e w' => e = .returned (.bool r) ∧ Drawn0 w w' := by
 have HR0 := Aside0.mk hr0
 have HC0 := Aside0.mk hc0
 clear hr0 hc0
 have HR1 := Aside0.mk hr1
 have HC1 := Aside0.mk hc1
 clear hr1 hc1
 have H : (if (l0.length : Int) = (l1.length : Int) then (foliateref04_Ints.l0 k l0 l1 0) else (some false)) = some r := h
 clear h
 by_cases c3 : (l0.length : Int) = (l1.length : Int)
 ·rw [if_pos c3] at H
  have c3b0 : ((l0.length : Int) == (l1.length : Int)) = true := beq_iff_eq.mpr c3
  have c3b1 : ((l0.length : Int) != (l1.length : Int)) = false := bne_eq_false_iff_eq.mpr c3
  have c3b2 : (l0.length == l1.length) = true := by first | simpa using c3 | (simp at c3 ⊢; omega)
  clear c3
  have H' := Aside0.mk H
  clear H
  go_enter Tryd.func19, Tryd.ntmps19
  go_wp2
  repeat (go_quiet (fail); try go_wp2)
  go_loopg [5] k (fun kq v5 w' => ∃ (x5_1 : Int), v5 = .int .i64 x5_1 ∧ Aside0 (foliateref04_Ints.l0 kq l0 l1 x5_1 = some r) ∧ Aside0 (kq ≤ k) ∧ Drawn0 w w')
  case atStart => exact ⟨(0), (by first | rfl | (simp; done) | (simp [*]; done)), H', ⟨Nat.le_refl _⟩, by repeat (first | exact Drawn0.refl _ | apply Drawn0.step)⟩
  case round =>
   clear H'
   try clear c1
   try clear p2
   try clear c3
   try clear c3b0
   try clear c3b1
   try clear c3b2
   obtain ⟨x5_1, rfl, HA, HK1, ⟨m1, rfl⟩⟩ := hrel
   cases gk with
   | zero => exact absurd HA.out (by simp [foliateref04_Ints.l0])
   | succ k1 =>
    have H := HA.out
    clear HA
    simp only [foliateref04_Ints.l0] at H
    by_cases c4 : x5_1 < (l0.length : Int)
    ·rw [if_pos c4] at H
     have c4b0 : decide (x5_1 < (l0.length : Int)) = true := decide_eq_true c4
     clear c4
     by_cases c5 : 0 ≤ x5_1
     ·rw [if_pos c5] at H
      have c5b0 : decide (0 ≤ x5_1) = true := decide_eq_true c5
      clear c5
      by_cases c6 : x5_1 < (l1.length : Int)
      ·rw [if_pos c6] at H
       have c6b0 : decide (x5_1 < (l1.length : Int)) = true := decide_eq_true c6
       clear c6
       by_cases c7 : (rd l0 x5_1) = (rd l1 x5_1)
       ·rw [if_pos c7] at H
        have c7b0 : ((rd l0 x5_1) == (rd l1 x5_1)) = true := beq_iff_eq.mpr c7
        have c7b1 : ((rd l0 x5_1) != (rd l1 x5_1)) = false := bne_eq_false_iff_eq.mpr c7
        clear c7
        have H' := Aside0.mk H
        clear H
        have p400 : 0 ≤ (x5_1 : Int) := of_decide_eq_true (by first | (with_reducible assumption) | assumption)
        have q400 : x5_1 < (l0.length : Int) := of_decide_eq_true (by first | (with_reducible assumption) | assumption)
        obtain ⟨ad400, e400, hx400_0⟩ := Kd.at_int HR0.out x5_1 p400 q400
        cases e400
        replace p400 := eq_true p400
        replace q400 := eq_true q400
        have p401 : 0 ≤ (x5_1 : Int) := of_decide_eq_true (by first | (with_reducible assumption) | assumption)
        have q401 : x5_1 < (l1.length : Int) := of_decide_eq_true (by first | (with_reducible assumption) | assumption)
        obtain ⟨ad401, e401, hx401_0⟩ := Kd.at_int HR1.out x5_1 p401 q401
        cases e401
        replace p401 := eq_true p401
        replace q401 := eq_true q401
        go_wp2
        repeat (go_quiet (fail); try go_wp2)
        go_roundg k1
        case measure => have := HK1.out; omega
        case rel => exact ⟨(wrap64 (x5_1 + 1)), (by first | rfl | (simp; done) | (simp [*]; done)), H', ⟨by have := HK1.out; omega⟩, by repeat (first | exact Drawn0.refl _ | apply Drawn0.step)⟩
       ·rw [if_neg c7] at H
        have c7b0 : ((rd l0 x5_1) == (rd l1 x5_1)) = false := beq_eq_false_iff_ne.mpr c7
        have c7b1 : ((rd l0 x5_1) != (rd l1 x5_1)) = true := bne_iff_ne.mpr c7
        obtain rfl := Option.some.inj H
        have p400 : 0 ≤ (x5_1 : Int) := of_decide_eq_true (by first | (with_reducible assumption) | assumption)
        have q400 : x5_1 < (l0.length : Int) := of_decide_eq_true (by first | (with_reducible assumption) | assumption)
        obtain ⟨ad400, e400, hx400_0⟩ := Kd.at_int HR0.out x5_1 p400 q400
        cases e400
        replace p400 := eq_true p400
        replace q400 := eq_true q400
        have p401 : 0 ≤ (x5_1 : Int) := of_decide_eq_true (by first | (with_reducible assumption) | assumption)
        have q401 : x5_1 < (l1.length : Int) := of_decide_eq_true (by first | (with_reducible assumption) | assumption)
        obtain ⟨ad401, e401, hx401_0⟩ := Kd.at_int HR1.out x5_1 p401 q401
        cases e401
        replace p401 := eq_true p401
        replace q401 := eq_true q401
        go_wp2
        repeat (go_quiet (fail); try go_wp2)
        go_ret
        exact ⟨by first | rfl | (simp; done) | (simp [*]; done), by repeat (first | exact Drawn0.refl _ | apply Drawn0.step)⟩
      ·rw [if_neg c6] at H
       exact absurd H (by simp)
     ·rw [if_neg c5] at H
      exact absurd H (by simp)
    ·rw [if_neg c4] at H
     have c4b0 : decide (x5_1 < (l0.length : Int)) = false := decide_eq_false c4
     clear c4
     obtain rfl := Option.some.inj H
     go_wp2
     repeat (go_quiet (fail); try go_wp2)
     go_ret
     exact ⟨by first | rfl | (simp; done) | (simp [*]; done), by repeat (first | exact Drawn0.refl _ | apply Drawn0.step)⟩
 ·rw [if_neg c3] at H
  have c3b0 : ((l0.length : Int) == (l1.length : Int)) = false := beq_eq_false_iff_ne.mpr c3
  have c3b1 : ((l0.length : Int) != (l1.length : Int)) = true := bne_iff_ne.mpr c3
  have c3b2 : (l0.length == l1.length) = false := by first | simpa using c3 | (simp at c3 ⊢; omega)
  obtain rfl := Option.some.inj H
  go_enter Tryd.func19, Tryd.ntmps19
  go_wp2
  repeat (go_quiet (fail); try go_wp2)
  go_ret
  exact ⟨by first | rfl | (simp; done) | (simp [*]; done), by repeat (first | exact Drawn0.refl _ | apply Drawn0.step)⟩

/-! ### foliatelaw04_FlowTells: function 3 -/
def foliatelaw04_FlowTells.j0 : Nat → List Int → Bool → Bool → Int → List (List Int) → Int → List (List Int) → Option (Bool)
 | 0, _, _, _, _, _, _, _ => none
 | k + 1, x2, x7, x45, x403000, x403001, x404000, x404001 => if x45 = true then (some x7) else ((flow_Put.f k x403000 x403001).bind fun bt407 => ((foliateref04_Put.f k x403000 x403001).bind fun bt411 => ((flow_Get.f k x2).bind fun bt415 => ((foliateref04_Get.f k x2).bind fun bt421 => ((flow_Cuts.f k x2).bind fun bt427 => ((foliateref04_Cuts.f k x2).bind fun bt431 => ((foliateref04_Same.f k bt415.1 bt415.2.1 bt421.1 bt421.2.1).bind fun t435 => ((foliateref04_Ints.f k bt427.1 bt431.1).bind fun t436 => ((foliateref04_May.f k x403000 x403001).bind fun t437 => ((foliateref04_Same.f k x403000 x403001 x404000 x404001).bind fun t438 => (if (strOfNums bt407.1).toList = (strOfNums bt411.1).toList then (if bt407.2 = bt411.2 then (if t435 = true then (if bt415.2.2 = bt421.2.2 then (if t436 = true then (if (bt427.2 == bt431.2) = true then ((flow_May.f x403000 x403001).bind fun t439 => (if (t439 == t437) = true then ((flow_Same.f k x403000 x403001 x404000 x404001).bind fun t440 => (some (t440 == t438))) else (none))) else (none)) else (none)) else (none)) else (none)) else (none)) else (none))))))))))))
def foliatelaw04_FlowTells.f (k : Nat) (a0_0 : Int) (l0_1 : List (List Int)) (a1_0 : Int) (l1_1 : List (List Int)) (l2 : List Int) : Option (Bool) := (foliatelaw04_awake.f k).bind fun t404 => ((foliatelaw04_Few.f k a0_0 l0_1 60).bind fun t405 => ((foliatelaw04_Few.f k a1_0 l1_1 60).bind fun t406 => (if t404 = true then (if t405 = true then (if t406 = true then (foliatelaw04_FlowTells.j0 k l2 t404 (decide ((l2.length : Int) > 2000)) a0_0 l0_1 a1_0 l1_1) else (foliatelaw04_FlowTells.j0 k l2 t404 true a0_0 l0_1 a1_0 l1_1)) else (foliatelaw04_FlowTells.j0 k l2 t404 true a0_0 l0_1 a1_0 l1_1)) else (foliatelaw04_FlowTells.j0 k l2 t404 true a0_0 l0_1 a1_0 l1_1))))
set_option maxHeartbeats 8000000 in
set_option maxRecDepth 100000 in
theorem foliatelaw04_FlowTells.calls (k : Nat) (a0_0 : Int) (A0_1 : Option Addr) (c0_1 : Nat) (l0_1 : List (List Int)) (a1_0 : Int) (A1_1 : Option Addr) (c1_1 : Nat) (l1_1 : List (List Int)) (A2 : Option Addr) (c2 : Nat) (l2 : List Int) (r : Bool) (w : World) (hr0_1 : Kd.C (Kd.slice 5 (Kd.int .u8)) w A0_1 l0_1.length l0_1) (hc0_1 : l0_1.length ≤ c0_1) (hr1_1 : Kd.C (Kd.slice 5 (Kd.int .u8)) w A1_1 l1_1.length l1_1) (hc1_1 : l1_1.length ≤ c1_1) (hr2 : Kd.C (Kd.int .u8) w A2 l2.length l2) (hc2 : l2.length ≤ c2) (h : foliatelaw04_FlowTells.f k a0_0 l0_1 a1_0 l1_1 l2 = some r) (hE : errT w) :
  Calls Tryd.prog 3 #[.agg #[.int .u32 a0_0, .slice A0_1 l0_1.length c0_1], .agg #[.int .u32 a1_0, .slice A1_1 l1_1.length c1_1], .slice A2 l2.length c2] w fun e w' => e = .returned (.bool r) ∧ Below w.heap.size w w' := by
 have HE := Aside0.mk hE
 clear hE
 have hu25 := Tryd.underlying25
 have HR0_1 := Aside0.mk hr0_1
 have HC0_1 := Aside0.mk hc0_1
 clear hr0_1 hc0_1
 have HR1_1 := Aside0.mk hr1_1
 have HC1_1 := Aside0.mk hc1_1
 clear hr1_1 hc1_1
 have HR2 := Aside0.mk hr2
 have HC2 := Aside0.mk hc2
 clear hr2 hc2
 have HB := Aside0.mk (Below.refl w.heap.size w)
 have H : ((foliatelaw04_awake.f k).bind fun t404 => ((foliatelaw04_Few.f k a0_0 l0_1 60).bind fun t405 => ((foliatelaw04_Few.f k a1_0 l1_1 60).bind fun t406 => (if t404 = true then (if t405 = true then (if t406 = true then (foliatelaw04_FlowTells.j0 k l2 t404 (decide ((l2.length : Int) > 2000)) a0_0 l0_1 a1_0 l1_1) else (foliatelaw04_FlowTells.j0 k l2 t404 true a0_0 l0_1 a1_0 l1_1)) else (foliatelaw04_FlowTells.j0 k l2 t404 true a0_0 l0_1 a1_0 l1_1)) else (foliatelaw04_FlowTells.j0 k l2 t404 true a0_0 l0_1 a1_0 l1_1))))) = some r := h
 clear h
 replace H := Option.bind_eq_some_iff.mp H
 obtain ⟨t404, A40, H⟩ := H
 replace H : ((foliatelaw04_Few.f k a0_0 l0_1 60).bind fun t405 => ((foliatelaw04_Few.f k a1_0 l1_1 60).bind fun t406 => (if t404 = true then (if t405 = true then (if t406 = true then (foliatelaw04_FlowTells.j0 k l2 t404 (decide ((l2.length : Int) > 2000)) a0_0 l0_1 a1_0 l1_1) else (foliatelaw04_FlowTells.j0 k l2 t404 true a0_0 l0_1 a1_0 l1_1)) else (foliatelaw04_FlowTells.j0 k l2 t404 true a0_0 l0_1 a1_0 l1_1)) else (foliatelaw04_FlowTells.j0 k l2 t404 true a0_0 l0_1 a1_0 l1_1)))) = some r := H
 have A4 := Aside0.mk A40
 clear A40
 replace H := Option.bind_eq_some_iff.mp H
 obtain ⟨t405, A50, H⟩ := H
 replace H : ((foliatelaw04_Few.f k a1_0 l1_1 60).bind fun t406 => (if t404 = true then (if t405 = true then (if t406 = true then (foliatelaw04_FlowTells.j0 k l2 t404 (decide ((l2.length : Int) > 2000)) a0_0 l0_1 a1_0 l1_1) else (foliatelaw04_FlowTells.j0 k l2 t404 true a0_0 l0_1 a1_0 l1_1)) else (foliatelaw04_FlowTells.j0 k l2 t404 true a0_0 l0_1 a1_0 l1_1)) else (foliatelaw04_FlowTells.j0 k l2 t404 true a0_0 l0_1 a1_0 l1_1))) = some r := H
 have A5 := Aside0.mk A50
 clear A50
 replace H := Option.bind_eq_some_iff.mp H
 obtain ⟨t406, A60, H⟩ := H
 replace H : (if t404 = true then (if t405 = true then (if t406 = true then (foliatelaw04_FlowTells.j0 k l2 t404 (decide ((l2.length : Int) > 2000)) a0_0 l0_1 a1_0 l1_1) else (foliatelaw04_FlowTells.j0 k l2 t404 true a0_0 l0_1 a1_0 l1_1)) else (foliatelaw04_FlowTells.j0 k l2 t404 true a0_0 l0_1 a1_0 l1_1)) else (foliatelaw04_FlowTells.j0 k l2 t404 true a0_0 l0_1 a1_0 l1_1)) = some r := H
 have A6 := Aside0.mk A60
 clear A60
 have HC7 := Aside0.mk H
 clear H
 go_enter Tryd.func3, Tryd.ntmps3
 go_upto_region 4 with (first | ((with_reducible refine gate_dst (N := 3) rfl ?_); (try (refine gate_guard (by rfl) ?_; dsimp only)); refine box_event ?hg (N := 3) ?hd (cs := #[.int .u32 a0_0, .slice A0_1 l0_1.length c0_1]) (t := 25) ?hr ?_; (case hd => rfl); (case hg => rfl); (case hr => first | (go_simp; done) | (go_simp; rfl)); intro gb402 hg w8 hbox hb; have n0_ := Aside0.mk (below_step (by repeat (first | exact HB.out | apply below_alloc | apply pw_below_drewN | apply below_drew1)) hb); have n1_ := Aside0.mk (hbox); have n2_ := Aside0.mk ((by rw [hg]; exact (below_size (by repeat (first | exact HB.out | apply below_alloc | apply pw_below_drewN | apply below_drew1))) : w.heap.size ≤ gb402)); have n3_ := Aside0.mk ((by rw [hg]; exact (below_size (by repeat (first | exact HB.out | apply below_alloc | apply pw_below_drewN | apply below_drew1))) : w.heap.size ≤ gb402)); clear HB; have HB := n0_; have BK402 := n1_; have GW402 := n2_; have GE402 := n3_; clear n0_ n1_ n2_ n3_; clear hb hbox hg) | ((with_reducible refine gate_dst (N := 4) rfl ?_); (try (refine gate_guard (by rfl) ?_; dsimp only)); refine box_event ?hg (N := 4) ?hd (cs := #[.int .u32 a1_0, .slice A1_1 l1_1.length c1_1]) (t := 25) ?hr ?_; (case hd => rfl); (case hg => rfl); (case hr => first | (go_simp; done) | (go_simp; rfl)); intro gb403 hg w9 hbox hb; have n0_ := Aside0.mk (blk_below (g := gb402) (o := .cells #[.int .u32 a0_0, .slice A0_1 l0_1.length c0_1] 25 (0, 0)) (by (with_reducible repeat (first | refine blk_drewN ?_ _ | refine blk_drew ?_ | refine blk_alloc ?_ _)); exact BK402.out) hb); have n1_ := Aside0.mk (below_step (by repeat (first | (with_reducible first | exact HB.out | apply below_alloc | apply pw_below_drewN | apply below_drew1 | refine below_set ?_ GE402.out) | exact HB.out)) hb); have n2_ := Aside0.mk (hbox); have n3_ := Aside0.mk ((by rw [hg]; exact (below_size (by repeat (first | (with_reducible first | exact HB.out | apply below_alloc | apply pw_below_drewN | apply below_drew1 | refine below_set ?_ GE402.out) | exact HB.out))) : w.heap.size ≤ gb403)); have n4_ := Aside0.mk ((by rw [hg]; exact (below_size (by repeat (first | (with_reducible first | exact HB.out | apply below_alloc | apply pw_below_drewN | apply below_drew1 | refine below_set ?_ GE402.out) | exact HB.out))) : w.heap.size ≤ gb403)); have n5_ := Aside0.mk ((by rw [hg]; exact Nat.ne_of_lt (blk_lt (g := gb402) (o := .cells #[.int .u32 a0_0, .slice A0_1 l0_1.length c0_1] 25 (0, 0)) (by (with_reducible repeat (first | refine blk_drewN ?_ _ | refine blk_drew ?_ | refine blk_alloc ?_ _)); exact BK402.out)) : gb402 ≠ gb403)); have n6_ := Aside0.mk ((by rw [hg]; exact Nat.ne_of_gt (blk_lt (g := gb402) (o := .cells #[.int .u32 a0_0, .slice A0_1 l0_1.length c0_1] 25 (0, 0)) (by (with_reducible repeat (first | refine blk_drewN ?_ _ | refine blk_drew ?_ | refine blk_alloc ?_ _)); exact BK402.out)) : gb403 ≠ gb402)); clear BK402; clear HB; have BK402 := n0_; have HB := n1_; have BK403 := n2_; have GW403 := n3_; have GE403 := n4_; have NB402_403 := n5_; have NB403_402 := n6_; clear n0_ n1_ n2_ n3_ n4_ n5_ n6_; clear hb hbox hg) | ((with_reducible refine gate_callee (f := 10) rfl ?_); refine goesL_ (some 26) rfl rfl Tryd.func10 (by kernel_rfl) rfl #[] rfl (by (try simp only [List.map_toArray, List.map_cons, List.map_nil]); first | done | rfl | (simp only [List.length_drop, List.length_take]; rfl)) ?_; (with_reducible refine (foliatelaw04_awake.calls k  t404 _ A4.out ?errE).mono ?_); (case errE => exact errT_below HE.out (by repeat (first | (with_reducible first | exact HB.out | apply below_alloc | apply pw_below_drewN | apply below_drew1 | refine below_set ?_ GE402.out | refine below_set ?_ GE403.out) | exact HB.out)) (Nat.le_refl _)); rintro e w10 ⟨rfl, hb⟩; refine ⟨_, rfl, ?_⟩; have n0_ := Aside0.mk (blk_below (g := gb402) (o := .cells #[.int .u32 a0_0, .slice A0_1 l0_1.length c0_1] 25 (0, 0)) (by (with_reducible repeat (first | refine blk_drewN ?_ _ | refine blk_drew ?_ | refine blk_alloc ?_ _)); exact BK402.out) hb); have n1_ := Aside0.mk (blk_below (g := gb403) (o := .cells #[.int .u32 a1_0, .slice A1_1 l1_1.length c1_1] 25 (0, 0)) (by (with_reducible repeat (first | refine blk_drewN ?_ _ | refine blk_drew ?_ | refine blk_alloc ?_ _)); exact BK403.out) hb); have n2_ := Aside0.mk (below_step (by repeat (first | (with_reducible first | exact HB.out | apply below_alloc | apply pw_below_drewN | apply below_drew1 | refine below_set ?_ GE402.out | refine below_set ?_ GE403.out) | exact HB.out)) hb); clear BK402; clear BK403; clear HB; have BK402 := n0_; have BK403 := n1_; have HB := n2_; clear n0_ n1_ n2_; (try clear hb); (try clear hb2); (try clear hk); (try clear hi); have hnb11 := NB402_403.out; have hnc11 := NB403_402.out; have hcz12_0 : w10.cell? ⟨gb402, 0, none⟩ = some (.int .u32 a0_0) := (blk_cell BK402.out 0).trans rfl; have hcz12_1 : w10.cell? ⟨gb402, 1, none⟩ = some (.slice A0_1 l0_1.length c0_1) := (blk_cell BK402.out 1).trans rfl; have hfz12_0 := blk_frozen BK402.out 0; have hfz12_1 := blk_frozen BK402.out 1) | ((with_reducible refine gate_callee (f := 11) rfl ?_); refine goesL_ (some 28) rfl rfl Tryd.func11 (by kernel_rfl) rfl #[.agg #[.int .u32 a0_0, .slice A0_1 l0_1.length c0_1], .int .i64 60] rfl (by (try simp only [List.map_toArray, List.map_cons, List.map_nil]); first | done | rfl | (simp only [List.length_drop, List.length_take]; rfl)) ?_; (with_reducible refine (foliatelaw04_Few.calls k a0_0 _ _ l0_1 60 t405 _ ?side1 ?side2 A5.out).mono ?_); (case side1 => repeat (first | exact (Kd.C_below HR0_1.out HB.out) | (with_reducible refine Kd.C_alloc ?_ _) | (with_reducible refine Kd.C_drewN ?_ _) | (with_reducible refine Kd.C_drew ?_))); (case side2 => exact HC0_1.out); rintro e w13 ⟨rfl, hb⟩; refine ⟨_, rfl, ?_⟩; have n0_ := Aside0.mk (blk_below (g := gb402) (o := .cells #[.int .u32 a0_0, .slice A0_1 l0_1.length c0_1] 25 (0, 0)) (by (with_reducible repeat (first | refine blk_drewN ?_ _ | refine blk_drew ?_ | refine blk_alloc ?_ _)); exact BK402.out) hb); have n1_ := Aside0.mk (blk_below (g := gb403) (o := .cells #[.int .u32 a1_0, .slice A1_1 l1_1.length c1_1] 25 (0, 0)) (by (with_reducible repeat (first | refine blk_drewN ?_ _ | refine blk_drew ?_ | refine blk_alloc ?_ _)); exact BK403.out) hb); have n2_ := Aside0.mk (below_step (by repeat (first | (with_reducible first | exact HB.out | apply below_alloc | apply pw_below_drewN | apply below_drew1 | refine below_set ?_ GE402.out | refine below_set ?_ GE403.out) | exact HB.out)) hb); clear BK402; clear BK403; clear HB; have BK402 := n0_; have BK403 := n1_; have HB := n2_; clear n0_ n1_ n2_; (try clear hb); (try clear hb2); (try clear hk); (try clear hi); have hcz14_0 : w13.cell? ⟨gb403, 0, none⟩ = some (.int .u32 a1_0) := (blk_cell BK403.out 0).trans rfl; have hcz14_1 : w13.cell? ⟨gb403, 1, none⟩ = some (.slice A1_1 l1_1.length c1_1) := (blk_cell BK403.out 1).trans rfl; have hfz14_0 := blk_frozen BK403.out 0; have hfz14_1 := blk_frozen BK403.out 1) | ((with_reducible refine gate_callee (f := 11) rfl ?_); refine goesL_ (some 30) rfl rfl Tryd.func11 (by kernel_rfl) rfl #[.agg #[.int .u32 a1_0, .slice A1_1 l1_1.length c1_1], .int .i64 60] rfl (by (try simp only [List.map_toArray, List.map_cons, List.map_nil]); first | done | rfl | (simp only [List.length_drop, List.length_take]; rfl)) ?_; (with_reducible refine (foliatelaw04_Few.calls k a1_0 _ _ l1_1 60 t406 _ ?side1 ?side2 A6.out).mono ?_); (case side1 => repeat (first | exact (Kd.C_below HR1_1.out HB.out) | (with_reducible refine Kd.C_alloc ?_ _) | (with_reducible refine Kd.C_drewN ?_ _) | (with_reducible refine Kd.C_drew ?_))); (case side2 => exact HC1_1.out); rintro e w15 ⟨rfl, hb⟩; refine ⟨_, rfl, ?_⟩; have n0_ := Aside0.mk (blk_below (g := gb402) (o := .cells #[.int .u32 a0_0, .slice A0_1 l0_1.length c0_1] 25 (0, 0)) (by (with_reducible repeat (first | refine blk_drewN ?_ _ | refine blk_drew ?_ | refine blk_alloc ?_ _)); exact BK402.out) hb); have n1_ := Aside0.mk (blk_below (g := gb403) (o := .cells #[.int .u32 a1_0, .slice A1_1 l1_1.length c1_1] 25 (0, 0)) (by (with_reducible repeat (first | refine blk_drewN ?_ _ | refine blk_drew ?_ | refine blk_alloc ?_ _)); exact BK403.out) hb); have n2_ := Aside0.mk (below_step (by repeat (first | (with_reducible first | exact HB.out | apply below_alloc | apply pw_below_drewN | apply below_drew1 | refine below_set ?_ GE402.out | refine below_set ?_ GE403.out) | exact HB.out)) hb); clear BK402; clear BK403; clear HB; have BK402 := n0_; have BK403 := n1_; have HB := n2_; clear n0_ n1_ n2_; (try clear hb); (try clear hb2); (try clear hk); (try clear hi)))
 (try simp only [Act.put, q1_12, q2_12, q3_12])
 go_cut [45] (fun v45 wc => ∃ (kq : Nat) (x45_6 : Bool), v45 = .bool x45_6 ∧ Aside0 (foliatelaw04_FlowTells.j0 kq l2 t404 x45_6 a0_0 l0_1 a1_0 l1_1 = some r) ∧ Aside0 (kq ≤ k) ∧ Aside0 (wc.heap[gb402]? = some (.cells #[.int .u32 a0_0, (.slice A0_1 l0_1.length c0_1)] 25 (0, 0))) ∧ Aside0 (wc.heap[gb403]? = some (.cells #[.int .u32 a1_0, (.slice A1_1 l1_1.length c1_1)] 25 (0, 0))) ∧ Aside0 (Below w.heap.size w wc))
 case first =>
  have H := HC7.out
  clear HC7
  by_cases c16 : t404 = true
  ·subst c16
   have H1 : (if t405 = true then (if t406 = true then (foliatelaw04_FlowTells.j0 k l2 true (decide ((l2.length : Int) > 2000)) a0_0 l0_1 a1_0 l1_1) else (foliatelaw04_FlowTells.j0 k l2 true true a0_0 l0_1 a1_0 l1_1)) else (foliatelaw04_FlowTells.j0 k l2 true true a0_0 l0_1 a1_0 l1_1)) = some r := by rw [if_pos rfl] at H; exact H
   clear H
   have H := H1
   clear H1
   by_cases c17 : t405 = true
   ·subst c17
    have H1 : (if t406 = true then (foliatelaw04_FlowTells.j0 k l2 true (decide ((l2.length : Int) > 2000)) a0_0 l0_1 a1_0 l1_1) else (foliatelaw04_FlowTells.j0 k l2 true true a0_0 l0_1 a1_0 l1_1)) = some r := by rw [if_pos rfl] at H; exact H
    clear H
    have H := H1
    clear H1
    by_cases c18 : t406 = true
    ·subst c18
     have H1 : (foliatelaw04_FlowTells.j0 k l2 true (decide ((l2.length : Int) > 2000)) a0_0 l0_1 a1_0 l1_1) = some r := by rw [if_pos rfl] at H; exact H
     clear H
     have H := H1
     clear H1
     have H' := Aside0.mk H
     clear H
     go_wp2
     go_meet
     case rel => exact ⟨_, (decide ((l2.length : Int) > 2000)), (by first | rfl | (simp; done) | (simp [*]; done)), H', ⟨by first | omega | exact Nat.le_refl _⟩, ⟨by (with_reducible repeat (first | refine blk_drewN ?_ _ | refine blk_drew ?_ | refine blk_alloc ?_ _)); exact BK402.out⟩, ⟨by (with_reducible repeat (first | refine blk_drewN ?_ _ | refine blk_drew ?_ | refine blk_alloc ?_ _)); exact BK403.out⟩, ⟨by repeat (first | (with_reducible first | exact HB.out | apply below_alloc | apply pw_below_drewN | apply below_drew1 | refine below_set ?_ GE402.out | refine below_set ?_ GE403.out) | exact HB.out)⟩⟩
    ·replace c18 := Bool.eq_false_iff.mpr c18
     subst c18
     have H1 : (foliatelaw04_FlowTells.j0 k l2 true true a0_0 l0_1 a1_0 l1_1) = some r := by rw [if_neg (show ¬ (false = true) by decide)] at H; exact H
     clear H
     have H := H1
     clear H1
     have H' := Aside0.mk H
     clear H
     go_wp2
     go_meet
     case rel => exact ⟨_, (true), (by first | rfl | (simp; done) | (simp [*]; done)), H', ⟨by first | omega | exact Nat.le_refl _⟩, ⟨by (with_reducible repeat (first | refine blk_drewN ?_ _ | refine blk_drew ?_ | refine blk_alloc ?_ _)); exact BK402.out⟩, ⟨by (with_reducible repeat (first | refine blk_drewN ?_ _ | refine blk_drew ?_ | refine blk_alloc ?_ _)); exact BK403.out⟩, ⟨by repeat (first | (with_reducible first | exact HB.out | apply below_alloc | apply pw_below_drewN | apply below_drew1 | refine below_set ?_ GE402.out | refine below_set ?_ GE403.out) | exact HB.out)⟩⟩
   ·replace c17 := Bool.eq_false_iff.mpr c17
    subst c17
    have H1 : (foliatelaw04_FlowTells.j0 k l2 true true a0_0 l0_1 a1_0 l1_1) = some r := by rw [if_neg (show ¬ (false = true) by decide)] at H; exact H
    clear H
    have H := H1
    clear H1
    have H' := Aside0.mk H
    clear H
    go_wp2
    go_meet
    case rel => exact ⟨_, (true), (by first | rfl | (simp; done) | (simp [*]; done)), H', ⟨by first | omega | exact Nat.le_refl _⟩, ⟨by (with_reducible repeat (first | refine blk_drewN ?_ _ | refine blk_drew ?_ | refine blk_alloc ?_ _)); exact BK402.out⟩, ⟨by (with_reducible repeat (first | refine blk_drewN ?_ _ | refine blk_drew ?_ | refine blk_alloc ?_ _)); exact BK403.out⟩, ⟨by repeat (first | (with_reducible first | exact HB.out | apply below_alloc | apply pw_below_drewN | apply below_drew1 | refine below_set ?_ GE402.out | refine below_set ?_ GE403.out) | exact HB.out)⟩⟩
  ·replace c16 := Bool.eq_false_iff.mpr c16
   subst c16
   have H1 : (foliatelaw04_FlowTells.j0 k l2 false true a0_0 l0_1 a1_0 l1_1) = some r := by rw [if_neg (show ¬ (false = true) by decide)] at H; exact H
   clear H
   have H := H1
   clear H1
   have H' := Aside0.mk H
   clear H
   go_wp2
   go_meet
   case rel => exact ⟨_, (true), (by first | rfl | (simp; done) | (simp [*]; done)), H', ⟨by first | omega | exact Nat.le_refl _⟩, ⟨by (with_reducible repeat (first | refine blk_drewN ?_ _ | refine blk_drew ?_ | refine blk_alloc ?_ _)); exact BK402.out⟩, ⟨by (with_reducible repeat (first | refine blk_drewN ?_ _ | refine blk_drew ?_ | refine blk_alloc ?_ _)); exact BK403.out⟩, ⟨by repeat (first | (with_reducible first | exact HB.out | apply below_alloc | apply pw_below_drewN | apply below_drew1 | refine below_set ?_ GE402.out | refine below_set ?_ GE403.out) | exact HB.out)⟩⟩
 case rest =>
  clear HC7
  try clear c1
  try clear c2
  try clear p2
  try clear c3
  try clear c10
  try clear c11
  try clear c16
  try clear c17
  try clear c18
  try clear hcz12_0
  try clear hcz12_1
  try clear hcz14_0
  try clear hcz14_1
  try clear hfz12_0
  try clear hfz12_1
  try clear hfz14_0
  try clear hfz14_1
  obtain ⟨kq, x45_6, rfl, HA, HJ6, BK402, BK403, HB⟩ := hcut
  cases kq with
  | zero => exact absurd HA.out (by simp [foliatelaw04_FlowTells.j0])
  | succ kj6 =>
   have H := HA.out
   clear HA
   simp only [foliatelaw04_FlowTells.j0] at H
   by_cases c19 : x45_6 = true
   ·subst c19
    have H1 : (some t404) = some r := by rw [if_pos rfl] at H; exact H
    clear H
    have H := H1
    clear H1
    obtain rfl := Option.some.inj H
    go_wp2
    go_ret
    exact ⟨by first | rfl | (simp [errW_none, errW_some] <;> rfl) | (simp [*, errW_none, errW_some] <;> rfl), by repeat (first | (with_reducible first | exact HB.out | apply below_alloc | apply pw_below_drewN | apply below_drew1 | refine below_set ?_ GE402.out | refine below_set ?_ GE403.out) | exact HB.out)⟩
   ·replace c19 := Bool.eq_false_iff.mpr c19
    subst c19
    have H1 : ((flow_Put.f kj6 a0_0 l0_1).bind fun bt407 => ((foliateref04_Put.f kj6 a0_0 l0_1).bind fun bt411 => ((flow_Get.f kj6 l2).bind fun bt415 => ((foliateref04_Get.f kj6 l2).bind fun bt421 => ((flow_Cuts.f kj6 l2).bind fun bt427 => ((foliateref04_Cuts.f kj6 l2).bind fun bt431 => ((foliateref04_Same.f kj6 bt415.1 bt415.2.1 bt421.1 bt421.2.1).bind fun t435 => ((foliateref04_Ints.f kj6 bt427.1 bt431.1).bind fun t436 => ((foliateref04_May.f kj6 a0_0 l0_1).bind fun t437 => ((foliateref04_Same.f kj6 a0_0 l0_1 a1_0 l1_1).bind fun t438 => (if (strOfNums bt407.1).toList = (strOfNums bt411.1).toList then (if bt407.2 = bt411.2 then (if t435 = true then (if bt415.2.2 = bt421.2.2 then (if t436 = true then (if (bt427.2 == bt431.2) = true then ((flow_May.f a0_0 l0_1).bind fun t439 => (if (t439 == t437) = true then ((flow_Same.f kj6 a0_0 l0_1 a1_0 l1_1).bind fun t440 => (some (t440 == t438))) else (none))) else (none)) else (none)) else (none)) else (none)) else (none)) else (none)))))))))))) = some r := by rw [if_neg (show ¬ (false = true) by decide)] at H; exact H
    clear H
    have H := H1
    clear H1
    replace H := Option.bind_eq_some_iff.mp H
    obtain ⟨⟨t407, t410⟩, A200, H⟩ := H
    replace H : ((foliateref04_Put.f kj6 a0_0 l0_1).bind fun bt411 => ((flow_Get.f kj6 l2).bind fun bt415 => ((foliateref04_Get.f kj6 l2).bind fun bt421 => ((flow_Cuts.f kj6 l2).bind fun bt427 => ((foliateref04_Cuts.f kj6 l2).bind fun bt431 => ((foliateref04_Same.f kj6 bt415.1 bt415.2.1 bt421.1 bt421.2.1).bind fun t435 => ((foliateref04_Ints.f kj6 bt427.1 bt431.1).bind fun t436 => ((foliateref04_May.f kj6 a0_0 l0_1).bind fun t437 => ((foliateref04_Same.f kj6 a0_0 l0_1 a1_0 l1_1).bind fun t438 => (if (strOfNums t407).toList = (strOfNums bt411.1).toList then (if t410 = bt411.2 then (if t435 = true then (if bt415.2.2 = bt421.2.2 then (if t436 = true then (if (bt427.2 == bt431.2) = true then ((flow_May.f a0_0 l0_1).bind fun t439 => (if (t439 == t437) = true then ((flow_Same.f kj6 a0_0 l0_1 a1_0 l1_1).bind fun t440 => (some (t440 == t438))) else (none))) else (none)) else (none)) else (none)) else (none)) else (none)) else (none))))))))))) = some r := H
    have A20 := Aside0.mk A200
    clear A200
    replace H := Option.bind_eq_some_iff.mp H
    obtain ⟨⟨t411, t414⟩, A210, H⟩ := H
    replace H : ((flow_Get.f kj6 l2).bind fun bt415 => ((foliateref04_Get.f kj6 l2).bind fun bt421 => ((flow_Cuts.f kj6 l2).bind fun bt427 => ((foliateref04_Cuts.f kj6 l2).bind fun bt431 => ((foliateref04_Same.f kj6 bt415.1 bt415.2.1 bt421.1 bt421.2.1).bind fun t435 => ((foliateref04_Ints.f kj6 bt427.1 bt431.1).bind fun t436 => ((foliateref04_May.f kj6 a0_0 l0_1).bind fun t437 => ((foliateref04_Same.f kj6 a0_0 l0_1 a1_0 l1_1).bind fun t438 => (if (strOfNums t407).toList = (strOfNums t411).toList then (if t410 = t414 then (if t435 = true then (if bt415.2.2 = bt421.2.2 then (if t436 = true then (if (bt427.2 == bt431.2) = true then ((flow_May.f a0_0 l0_1).bind fun t439 => (if (t439 == t437) = true then ((flow_Same.f kj6 a0_0 l0_1 a1_0 l1_1).bind fun t440 => (some (t440 == t438))) else (none))) else (none)) else (none)) else (none)) else (none)) else (none)) else (none)))))))))) = some r := H
    have A21 := Aside0.mk A210
    clear A210
    replace H := Option.bind_eq_some_iff.mp H
    obtain ⟨⟨t415, t416, t419⟩, A220, H⟩ := H
    replace H : ((foliateref04_Get.f kj6 l2).bind fun bt421 => ((flow_Cuts.f kj6 l2).bind fun bt427 => ((foliateref04_Cuts.f kj6 l2).bind fun bt431 => ((foliateref04_Same.f kj6 t415 t416 bt421.1 bt421.2.1).bind fun t435 => ((foliateref04_Ints.f kj6 bt427.1 bt431.1).bind fun t436 => ((foliateref04_May.f kj6 a0_0 l0_1).bind fun t437 => ((foliateref04_Same.f kj6 a0_0 l0_1 a1_0 l1_1).bind fun t438 => (if (strOfNums t407).toList = (strOfNums t411).toList then (if t410 = t414 then (if t435 = true then (if t419 = bt421.2.2 then (if t436 = true then (if (bt427.2 == bt431.2) = true then ((flow_May.f a0_0 l0_1).bind fun t439 => (if (t439 == t437) = true then ((flow_Same.f kj6 a0_0 l0_1 a1_0 l1_1).bind fun t440 => (some (t440 == t438))) else (none))) else (none)) else (none)) else (none)) else (none)) else (none)) else (none))))))))) = some r := H
    have A22 := Aside0.mk A220
    clear A220
    replace H := Option.bind_eq_some_iff.mp H
    obtain ⟨⟨t421, t422, t425⟩, A230, H⟩ := H
    replace H : ((flow_Cuts.f kj6 l2).bind fun bt427 => ((foliateref04_Cuts.f kj6 l2).bind fun bt431 => ((foliateref04_Same.f kj6 t415 t416 t421 t422).bind fun t435 => ((foliateref04_Ints.f kj6 bt427.1 bt431.1).bind fun t436 => ((foliateref04_May.f kj6 a0_0 l0_1).bind fun t437 => ((foliateref04_Same.f kj6 a0_0 l0_1 a1_0 l1_1).bind fun t438 => (if (strOfNums t407).toList = (strOfNums t411).toList then (if t410 = t414 then (if t435 = true then (if t419 = t425 then (if t436 = true then (if (bt427.2 == bt431.2) = true then ((flow_May.f a0_0 l0_1).bind fun t439 => (if (t439 == t437) = true then ((flow_Same.f kj6 a0_0 l0_1 a1_0 l1_1).bind fun t440 => (some (t440 == t438))) else (none))) else (none)) else (none)) else (none)) else (none)) else (none)) else (none)))))))) = some r := H
    have A23 := Aside0.mk A230
    clear A230
    replace H := Option.bind_eq_some_iff.mp H
    obtain ⟨⟨t427, t428⟩, A240, H⟩ := H
    replace H : ((foliateref04_Cuts.f kj6 l2).bind fun bt431 => ((foliateref04_Same.f kj6 t415 t416 t421 t422).bind fun t435 => ((foliateref04_Ints.f kj6 t427 bt431.1).bind fun t436 => ((foliateref04_May.f kj6 a0_0 l0_1).bind fun t437 => ((foliateref04_Same.f kj6 a0_0 l0_1 a1_0 l1_1).bind fun t438 => (if (strOfNums t407).toList = (strOfNums t411).toList then (if t410 = t414 then (if t435 = true then (if t419 = t425 then (if t436 = true then (if (t428 == bt431.2) = true then ((flow_May.f a0_0 l0_1).bind fun t439 => (if (t439 == t437) = true then ((flow_Same.f kj6 a0_0 l0_1 a1_0 l1_1).bind fun t440 => (some (t440 == t438))) else (none))) else (none)) else (none)) else (none)) else (none)) else (none)) else (none))))))) = some r := H
    have A24 := Aside0.mk A240
    clear A240
    replace H := Option.bind_eq_some_iff.mp H
    obtain ⟨⟨t431, t432⟩, A250, H⟩ := H
    replace H : ((foliateref04_Same.f kj6 t415 t416 t421 t422).bind fun t435 => ((foliateref04_Ints.f kj6 t427 t431).bind fun t436 => ((foliateref04_May.f kj6 a0_0 l0_1).bind fun t437 => ((foliateref04_Same.f kj6 a0_0 l0_1 a1_0 l1_1).bind fun t438 => (if (strOfNums t407).toList = (strOfNums t411).toList then (if t410 = t414 then (if t435 = true then (if t419 = t425 then (if t436 = true then (if (t428 == t432) = true then ((flow_May.f a0_0 l0_1).bind fun t439 => (if (t439 == t437) = true then ((flow_Same.f kj6 a0_0 l0_1 a1_0 l1_1).bind fun t440 => (some (t440 == t438))) else (none))) else (none)) else (none)) else (none)) else (none)) else (none)) else (none)))))) = some r := H
    have A25 := Aside0.mk A250
    clear A250
    replace H := Option.bind_eq_some_iff.mp H
    obtain ⟨t435, A260, H⟩ := H
    replace H : ((foliateref04_Ints.f kj6 t427 t431).bind fun t436 => ((foliateref04_May.f kj6 a0_0 l0_1).bind fun t437 => ((foliateref04_Same.f kj6 a0_0 l0_1 a1_0 l1_1).bind fun t438 => (if (strOfNums t407).toList = (strOfNums t411).toList then (if t410 = t414 then (if t435 = true then (if t419 = t425 then (if t436 = true then (if (t428 == t432) = true then ((flow_May.f a0_0 l0_1).bind fun t439 => (if (t439 == t437) = true then ((flow_Same.f kj6 a0_0 l0_1 a1_0 l1_1).bind fun t440 => (some (t440 == t438))) else (none))) else (none)) else (none)) else (none)) else (none)) else (none)) else (none))))) = some r := H
    have A26 := Aside0.mk A260
    clear A260
    replace H := Option.bind_eq_some_iff.mp H
    obtain ⟨t436, A270, H⟩ := H
    replace H : ((foliateref04_May.f kj6 a0_0 l0_1).bind fun t437 => ((foliateref04_Same.f kj6 a0_0 l0_1 a1_0 l1_1).bind fun t438 => (if (strOfNums t407).toList = (strOfNums t411).toList then (if t410 = t414 then (if t435 = true then (if t419 = t425 then (if t436 = true then (if (t428 == t432) = true then ((flow_May.f a0_0 l0_1).bind fun t439 => (if (t439 == t437) = true then ((flow_Same.f kj6 a0_0 l0_1 a1_0 l1_1).bind fun t440 => (some (t440 == t438))) else (none))) else (none)) else (none)) else (none)) else (none)) else (none)) else (none)))) = some r := H
    have A27 := Aside0.mk A270
    clear A270
    replace H := Option.bind_eq_some_iff.mp H
    obtain ⟨t437, A280, H⟩ := H
    replace H : ((foliateref04_Same.f kj6 a0_0 l0_1 a1_0 l1_1).bind fun t438 => (if (strOfNums t407).toList = (strOfNums t411).toList then (if t410 = t414 then (if t435 = true then (if t419 = t425 then (if t436 = true then (if (t428 == t432) = true then ((flow_May.f a0_0 l0_1).bind fun t439 => (if (t439 == t437) = true then ((flow_Same.f kj6 a0_0 l0_1 a1_0 l1_1).bind fun t440 => (some (t440 == t438))) else (none))) else (none)) else (none)) else (none)) else (none)) else (none)) else (none))) = some r := H
    have A28 := Aside0.mk A280
    clear A280
    replace H := Option.bind_eq_some_iff.mp H
    obtain ⟨t438, A290, H⟩ := H
    replace H : (if (strOfNums t407).toList = (strOfNums t411).toList then (if t410 = t414 then (if t435 = true then (if t419 = t425 then (if t436 = true then (if (t428 == t432) = true then ((flow_May.f a0_0 l0_1).bind fun t439 => (if (t439 == t437) = true then ((flow_Same.f kj6 a0_0 l0_1 a1_0 l1_1).bind fun t440 => (some (t440 == t438))) else (none))) else (none)) else (none)) else (none)) else (none)) else (none)) else (none)) = some r := H
    have A29 := Aside0.mk A290
    clear A290
    by_cases c30 : (strOfNums t407).toList = (strOfNums t411).toList
    ·rw [if_pos c30] at H
     have c30b0 : ((strOfNums t407).toList == (strOfNums t411).toList) = true := beq_iff_eq.mpr c30
     have c30b1 : ((strOfNums t407).toList != (strOfNums t411).toList) = false := bne_eq_false_iff_eq.mpr c30
     clear c30
     by_cases c31 : t410 = t414
     ·rw [if_pos c31] at H
      have c31b0 : (t410 == t414) = true := beq_iff_eq.mpr c31
      have c31b1 : (t410 != t414) = false := bne_eq_false_iff_eq.mpr c31
      clear c31
      by_cases c32 : t435 = true
      ·subst c32
       have H1 : (if t419 = t425 then (if t436 = true then (if (t428 == t432) = true then ((flow_May.f a0_0 l0_1).bind fun t439 => (if (t439 == t437) = true then ((flow_Same.f kj6 a0_0 l0_1 a1_0 l1_1).bind fun t440 => (some (t440 == t438))) else (none))) else (none)) else (none)) else (none)) = some r := by rw [if_pos rfl] at H; exact H
       clear H
       have H := H1
       clear H1
       by_cases c33 : t419 = t425
       ·rw [if_pos c33] at H
        have c33b0 : (t419 == t425) = true := beq_iff_eq.mpr c33
        have c33b1 : (t419 != t425) = false := bne_eq_false_iff_eq.mpr c33
        clear c33
        by_cases c34 : t436 = true
        ·subst c34
         have H1 : (if (t428 == t432) = true then ((flow_May.f a0_0 l0_1).bind fun t439 => (if (t439 == t437) = true then ((flow_Same.f kj6 a0_0 l0_1 a1_0 l1_1).bind fun t440 => (some (t440 == t438))) else (none))) else (none)) = some r := by rw [if_pos rfl] at H; exact H
         clear H
         have H := H1
         clear H1
         by_cases c35 : (t428 == t432) = true
         ·rw [if_pos c35] at H
          have c35b0 : (t428 == t432) = true := c35
          (try (have c35b1 : decide (t428 = t432) = true := by simpa using c35))
          (try (have c35b2 : (t428 == t432) = true := by simpa using c35))
          clear c35
          replace H := Option.bind_eq_some_iff.mp H
          obtain ⟨t439, A360, H⟩ := H
          replace H : (if (t439 == t437) = true then ((flow_Same.f kj6 a0_0 l0_1 a1_0 l1_1).bind fun t440 => (some (t440 == t438))) else (none)) = some r := H
          have A36 := Aside0.mk A360
          clear A360
          by_cases c37 : (t439 == t437) = true
          ·rw [if_pos c37] at H
           have c37b0 : (t439 == t437) = true := c37
           (try (have c37b1 : decide (t439 = t437) = true := by simpa using c37))
           (try (have c37b2 : (t439 == t437) = true := by simpa using c37))
           clear c37
           replace H := Option.bind_eq_some_iff.mp H
           obtain ⟨t440, A380, H⟩ := H
           replace H : (some (t440 == t438)) = some r := H
           have A38 := Aside0.mk A380
           clear A380
           obtain rfl := Option.some.inj H
           have hnb39 := NB402_403.out
           have hnc39 := NB403_402.out
           have hcz40_0 : wc.cell? ⟨gb402, 0, none⟩ = some (.int .u32 a0_0) := (blk_cell BK402.out 0).trans rfl
           have hcz40_1 : wc.cell? ⟨gb402, 1, none⟩ = some (.slice A0_1 l0_1.length c0_1) := (blk_cell BK402.out 1).trans rfl
           have hfz40_0 := blk_frozen BK402.out 0
           have hfz40_1 := blk_frozen BK402.out 1
           go_wp2_with (first | ((with_reducible refine gate_callee (f := 12) rfl ?_); refine goesL_ (some 49) rfl rfl Tryd.func12 (by kernel_rfl) rfl #[.agg #[.int .u32 a0_0, .slice A0_1 l0_1.length c0_1]] rfl (by (try simp only [List.map_toArray, List.map_cons, List.map_nil]); first | done | rfl | (simp only [List.length_drop, List.length_take]; rfl)) ?_; (with_reducible refine (flow_Put.calls kj6 a0_0 _ _ l0_1 t407 t410 _ ?side1 ?side2 A20.out).mono ?_); (case side1 => repeat (first | exact (Kd.C_below HR0_1.out HB.out) | (with_reducible refine Kd.C_alloc ?_ _) | (with_reducible refine Kd.C_drewN ?_ _) | (with_reducible refine Kd.C_drew ?_))); (case side2 => exact HC0_1.out); rintro e w41 ⟨v408, rfl, ho0, hb⟩; refine ⟨_, rfl, ?_⟩; have n0_ := Aside0.mk (Kd.R_lower ho0 (below_size (by repeat (first | (with_reducible first | exact HB.out | apply below_alloc | apply pw_below_drewN | apply below_drew1 | refine below_set ?_ GE402.out | refine below_set ?_ GE403.out) | exact HB.out)))); have n1_ := Aside0.mk (blk_below (g := gb402) (o := .cells #[.int .u32 a0_0, .slice A0_1 l0_1.length c0_1] 25 (0, 0)) (by (with_reducible repeat (first | refine blk_drewN ?_ _ | refine blk_drew ?_ | refine blk_alloc ?_ _)); exact BK402.out) hb); have n2_ := Aside0.mk (blk_below (g := gb403) (o := .cells #[.int .u32 a1_0, .slice A1_1 l1_1.length c1_1] 25 (0, 0)) (by (with_reducible repeat (first | refine blk_drewN ?_ _ | refine blk_drew ?_ | refine blk_alloc ?_ _)); exact BK403.out) hb); have n3_ := Aside0.mk (below_step (by repeat (first | (with_reducible first | exact HB.out | apply below_alloc | apply pw_below_drewN | apply below_drew1 | refine below_set ?_ GE402.out | refine below_set ?_ GE403.out) | exact HB.out)) hb); clear BK402; clear BK403; clear HB; have HO409 := n0_; have BK402 := n1_; have BK403 := n2_; have HB := n3_; clear n0_ n1_ n2_ n3_; (try clear hb); (try clear hb2); (try clear hk); (try clear hi); (try clear ho0); have hcz42_0 : w41.cell? ⟨gb402, 0, none⟩ = some (.int .u32 a0_0) := (blk_cell BK402.out 0).trans rfl; have hcz42_1 : w41.cell? ⟨gb402, 1, none⟩ = some (.slice A0_1 l0_1.length c0_1) := (blk_cell BK402.out 1).trans rfl; have hfz42_0 := blk_frozen BK402.out 0; have hfz42_1 := blk_frozen BK402.out 1) | ((with_reducible refine gate_callee (f := 13) rfl ?_); refine goesL_ (some 54) rfl rfl Tryd.func13 (by kernel_rfl) rfl #[.agg #[.int .u32 a0_0, .slice A0_1 l0_1.length c0_1]] rfl (by (try simp only [List.map_toArray, List.map_cons, List.map_nil]); first | done | rfl | (simp only [List.length_drop, List.length_take]; rfl)) ?_; (with_reducible refine (foliateref04_Put.calls kj6 a0_0 _ _ l0_1 t411 t414 _ ?side1 ?side2 A21.out).mono ?_); (case side1 => repeat (first | exact (Kd.C_below HR0_1.out HB.out) | (with_reducible refine Kd.C_alloc ?_ _) | (with_reducible refine Kd.C_drewN ?_ _) | (with_reducible refine Kd.C_drew ?_))); (case side2 => exact HC0_1.out); rintro e w43 ⟨v412, rfl, ho0, hb⟩; refine ⟨_, rfl, ?_⟩; have n0_ := Aside0.mk (Kd.R_elder' (by (with_reducible repeat (first | apply Kd.R_alloc | apply Kd.R_drewN | apply Kd.R_drew)); exact HO409.out) (Kd.R_base ho0) hb); have n1_ := Aside0.mk (Kd.R_lower (Kd.R_new' ho0 (Kd.R_lt (by (with_reducible repeat (first | apply Kd.R_alloc | apply Kd.R_drewN | apply Kd.R_drew)); exact HO409.out))) (below_size (by repeat (first | (with_reducible first | exact HB.out | apply below_alloc | apply pw_below_drewN | apply below_drew1 | refine below_set ?_ GE402.out | refine below_set ?_ GE403.out) | exact HB.out)))); have n2_ := Aside0.mk (blk_below (g := gb402) (o := .cells #[.int .u32 a0_0, .slice A0_1 l0_1.length c0_1] 25 (0, 0)) (by (with_reducible repeat (first | refine blk_drewN ?_ _ | refine blk_drew ?_ | refine blk_alloc ?_ _)); exact BK402.out) hb); have n3_ := Aside0.mk (blk_below (g := gb403) (o := .cells #[.int .u32 a1_0, .slice A1_1 l1_1.length c1_1] 25 (0, 0)) (by (with_reducible repeat (first | refine blk_drewN ?_ _ | refine blk_drew ?_ | refine blk_alloc ?_ _)); exact BK403.out) hb); have n4_ := Aside0.mk (below_step (by repeat (first | (with_reducible first | exact HB.out | apply below_alloc | apply pw_below_drewN | apply below_drew1 | refine below_set ?_ GE402.out | refine below_set ?_ GE403.out) | exact HB.out)) hb); clear HO409; clear BK402; clear BK403; clear HB; have HO409 := n0_; have HO413 := n1_; have BK402 := n2_; have BK403 := n3_; have HB := n4_; clear n0_ n1_ n2_ n3_ n4_; (try clear hb); (try clear hb2); (try clear hk); (try clear hi); (try clear ho0)) | ((with_reducible refine gate_callee (f := 14) rfl ?_); refine goesL_ (some 59) rfl rfl Tryd.func14 (by kernel_rfl) rfl #[.slice A2 l2.length c2] rfl (by (try simp only [List.map_toArray, List.map_cons, List.map_nil]); first | done | rfl | (simp only [List.length_drop, List.length_take]; rfl)) ?_; (with_reducible refine (flow_Get.calls kj6 _ _ l2 t415 t416 t419 _ ?side1 ?side2 A22.out ?errE).mono ?_); (case errE => exact errT_below HE.out (by repeat (first | (with_reducible first | exact HB.out | apply below_alloc | apply pw_below_drewN | apply below_drew1 | refine below_set ?_ GE402.out | refine below_set ?_ GE403.out) | exact HB.out)) (Nat.le_refl _)); (case side1 => repeat (first | exact (Kd.C_below HR2.out HB.out) | (with_reducible refine Kd.C_alloc ?_ _) | (with_reducible refine Kd.C_drewN ?_ _) | (with_reducible refine Kd.C_drew ?_))); (case side2 => exact HC2.out); rintro e w44 ⟨v417, rfl, ho0, hb⟩; refine ⟨_, rfl, ?_⟩; have n0_ := Aside0.mk (Kd.R_below (by (with_reducible repeat (first | apply Kd.R_alloc | apply Kd.R_drewN | apply Kd.R_drew)); exact HO409.out) hb); have n1_ := Aside0.mk (Kd.R_below (by (with_reducible repeat (first | apply Kd.R_alloc | apply Kd.R_drewN | apply Kd.R_drew)); exact HO413.out) hb); have n2_ := Aside0.mk (Kd.N_lower (Kd.N_mono (ok' := fun k_ => some k_ ≠ (v408 : Value).ownBlock ∧ some k_ ≠ (v412 : Value).ownBlock ∧ k_ ≠ gb402 ∧ k_ ≠ gb403) (Kd.S_N (Kd.S_bound ho0)) (fun k_ hk_ => ⟨(Kd.fresh' (Kd.R_lt (by (with_reducible repeat (first | apply Kd.R_alloc | apply Kd.R_drewN | apply Kd.R_drew)); exact HO409.out)) k_ hk_.2.1), (Kd.fresh' (Kd.R_lt (by (with_reducible repeat (first | apply Kd.R_alloc | apply Kd.R_drewN | apply Kd.R_drew)); exact HO413.out)) k_ hk_.2.1), (Kd.freshB (g := gb402) (o := .cells #[.int .u32 a0_0, .slice A0_1 l0_1.length c0_1] 25 (0, 0)) (by (with_reducible repeat (first | refine blk_drewN ?_ _ | refine blk_drew ?_ | refine blk_alloc ?_ _)); exact BK402.out) k_ hk_.2.1), (Kd.freshB (g := gb403) (o := .cells #[.int .u32 a1_0, .slice A1_1 l1_1.length c1_1] 25 (0, 0)) (by (with_reducible repeat (first | refine blk_drewN ?_ _ | refine blk_drew ?_ | refine blk_alloc ?_ _)); exact BK403.out) k_ hk_.2.1)⟩)) (below_size (by repeat (first | (with_reducible first | exact HB.out | apply below_alloc | apply pw_below_drewN | apply below_drew1 | refine below_set ?_ GE402.out | refine below_set ?_ GE403.out) | exact HB.out)))); have n3_ := Aside0.mk (blk_below (g := gb402) (o := .cells #[.int .u32 a0_0, .slice A0_1 l0_1.length c0_1] 25 (0, 0)) (by (with_reducible repeat (first | refine blk_drewN ?_ _ | refine blk_drew ?_ | refine blk_alloc ?_ _)); exact BK402.out) hb); have n4_ := Aside0.mk (blk_below (g := gb403) (o := .cells #[.int .u32 a1_0, .slice A1_1 l1_1.length c1_1] 25 (0, 0)) (by (with_reducible repeat (first | refine blk_drewN ?_ _ | refine blk_drew ?_ | refine blk_alloc ?_ _)); exact BK403.out) hb); have n5_ := Aside0.mk (below_step (by repeat (first | (with_reducible first | exact HB.out | apply below_alloc | apply pw_below_drewN | apply below_drew1 | refine below_set ?_ GE402.out | refine below_set ?_ GE403.out) | exact HB.out)) hb); clear HO409; clear HO413; clear BK402; clear BK403; clear HB; have HO409 := n0_; have HO413 := n1_; have HO418 := n2_; have BK402 := n3_; have BK403 := n4_; have HB := n5_; clear n0_ n1_ n2_ n3_ n4_ n5_; (try clear hb); (try clear hb2); (try clear hk); (try clear hi); (try clear ho0)) | ((with_reducible refine gate_dst (N := 14) rfl ?_); (try (refine gate_guard (by rfl) ?_; dsimp only)); refine box_event ?hg (N := 14) ?hd (cs := #[.int .u32 0, .slice none 0 0]) (t := 25) ?hr ?_; (case hd => rfl); (case hg => rfl); (case hr => first | (go_simp; done) | (go_simp; rfl)); intro gb420 hg w45 hbox hb; have n0_ := Aside0.mk (Kd.R_below (by (with_reducible repeat (first | apply Kd.R_alloc | apply Kd.R_drewN | apply Kd.R_drew)); exact HO409.out) hb); have n1_ := Aside0.mk (Kd.R_below (by (with_reducible repeat (first | apply Kd.R_alloc | apply Kd.R_drewN | apply Kd.R_drew)); exact HO413.out) hb); have n2_ := Aside0.mk (Kd.N_below (Kd.N_elderB (by (with_reducible repeat (first | apply Kd.N_alloc | apply Kd.N_drewN | apply Kd.N_drew)); exact HO418.out) gb420 (Nat.le_of_eq hg.symm)) hb); have n3_ := Aside0.mk (blk_below (g := gb402) (o := .cells #[.int .u32 a0_0, .slice A0_1 l0_1.length c0_1] 25 (0, 0)) (by (with_reducible repeat (first | refine blk_drewN ?_ _ | refine blk_drew ?_ | refine blk_alloc ?_ _)); exact BK402.out) hb); have n4_ := Aside0.mk (blk_below (g := gb403) (o := .cells #[.int .u32 a1_0, .slice A1_1 l1_1.length c1_1] 25 (0, 0)) (by (with_reducible repeat (first | refine blk_drewN ?_ _ | refine blk_drew ?_ | refine blk_alloc ?_ _)); exact BK403.out) hb); have n5_ := Aside0.mk (below_step (by repeat (first | (with_reducible first | exact HB.out | apply below_alloc | apply pw_below_drewN | apply below_drew1 | refine below_set ?_ GE402.out | refine below_set ?_ GE403.out) | exact HB.out)) hb); have n6_ := Aside0.mk (hbox); have n7_ := Aside0.mk ((by rw [hg]; exact (below_size (by repeat (first | (with_reducible first | exact HB.out | apply below_alloc | apply pw_below_drewN | apply below_drew1 | refine below_set ?_ GE402.out | refine below_set ?_ GE403.out) | exact HB.out))) : w.heap.size ≤ gb420)); have n8_ := Aside0.mk ((by rw [hg]; exact (below_size (by repeat (first | (with_reducible first | exact HB.out | apply below_alloc | apply pw_below_drewN | apply below_drew1 | refine below_set ?_ GE402.out | refine below_set ?_ GE403.out) | exact HB.out))) : w.heap.size ≤ gb420)); have n9_ := Aside0.mk ((by rw [hg]; exact Nat.ne_of_lt (blk_lt (g := gb402) (o := .cells #[.int .u32 a0_0, .slice A0_1 l0_1.length c0_1] 25 (0, 0)) (by (with_reducible repeat (first | refine blk_drewN ?_ _ | refine blk_drew ?_ | refine blk_alloc ?_ _)); exact BK402.out)) : gb402 ≠ gb420)); have n10_ := Aside0.mk ((by rw [hg]; exact Nat.ne_of_gt (blk_lt (g := gb402) (o := .cells #[.int .u32 a0_0, .slice A0_1 l0_1.length c0_1] 25 (0, 0)) (by (with_reducible repeat (first | refine blk_drewN ?_ _ | refine blk_drew ?_ | refine blk_alloc ?_ _)); exact BK402.out)) : gb420 ≠ gb402)); have n11_ := Aside0.mk ((by rw [hg]; exact Nat.ne_of_lt (blk_lt (g := gb403) (o := .cells #[.int .u32 a1_0, .slice A1_1 l1_1.length c1_1] 25 (0, 0)) (by (with_reducible repeat (first | refine blk_drewN ?_ _ | refine blk_drew ?_ | refine blk_alloc ?_ _)); exact BK403.out)) : gb403 ≠ gb420)); have n12_ := Aside0.mk ((by rw [hg]; exact Nat.ne_of_gt (blk_lt (g := gb403) (o := .cells #[.int .u32 a1_0, .slice A1_1 l1_1.length c1_1] 25 (0, 0)) (by (with_reducible repeat (first | refine blk_drewN ?_ _ | refine blk_drew ?_ | refine blk_alloc ?_ _)); exact BK403.out)) : gb420 ≠ gb403)); clear HO409; clear HO413; clear HO418; clear BK402; clear BK403; clear HB; have HO409 := n0_; have HO413 := n1_; have HO418 := n2_; have BK402 := n3_; have BK403 := n4_; have HB := n5_; have BK420 := n6_; have GW420 := n7_; have GE420 := n8_; have NB402_420 := n9_; have NB420_402 := n10_; have NB403_420 := n11_; have NB420_403 := n12_; clear n0_ n1_ n2_ n3_ n4_ n5_ n6_ n7_ n8_ n9_ n10_ n11_ n12_; clear hb hbox hg; have hnb46 := NB420_402.out; have hnc46 := NB402_420.out; have hnb47 := NB420_403.out; have hnc47 := NB403_420.out; have hcz48_0 : w45.cell? ⟨gb420, 0, none⟩ = some (.int .u32 0) := (blk_cell BK420.out 0).trans rfl; have hcz48_1 : w45.cell? ⟨gb420, 1, none⟩ = some (.slice none 0 0) := (blk_cell BK420.out 1).trans rfl; have hfz48_0 := blk_frozen BK420.out 0; have hfz48_1 := blk_frozen BK420.out 1; obtain ⟨Ao49, co49, eo49⟩ := Kd.N_slice HO418.out; subst eo49) | ((with_reducible refine gate_callee (f := 15) rfl ?_); refine goesL_ (some 64) rfl rfl Tryd.func15 (by kernel_rfl) rfl #[.slice A2 l2.length c2] rfl (by (try simp only [List.map_toArray, List.map_cons, List.map_nil]); first | done | rfl | (simp only [List.length_drop, List.length_take]; rfl)) ?_; (with_reducible refine (foliateref04_Get.calls kj6 _ _ l2 t421 t422 t425 _ ?side1 ?side2 A23.out).mono ?_); (case side1 => exact Kd.C_below HR2.out (by repeat (first | (with_reducible first | exact HB.out | apply below_alloc | apply pw_below_drewN | apply below_drew1 | refine below_set ?_ GE402.out | refine below_set ?_ GE403.out | refine below_set ?_ GE420.out) | exact HB.out))); (case side2 => exact HC2.out); rintro e w50 ⟨v423, rfl, ho0, hb⟩; refine ⟨_, rfl, ?_⟩; have n0_ := Aside0.mk (Kd.R_below (by (with_reducible repeat (first | apply Kd.R_alloc | apply Kd.R_drewN | apply Kd.R_drew)); exact (Kd.R_mono (Kd.R_far (p := ⟨gb420, 1, none⟩) (Kd.R_far (p := ⟨gb420, 0, none⟩) (Kd.R_types HO409.out BK420.out (by decide)) (fun _ h => by first | exact h.2 | exact h | trivial) (.int .u32 t415)) (fun _ h => by first | exact h.2 | exact h | trivial) (.slice Ao49 t416.length co49)) (fun _ h_ => h_.1))) hb); have n1_ := Aside0.mk (Kd.R_below (by (with_reducible repeat (first | apply Kd.R_alloc | apply Kd.R_drewN | apply Kd.R_drew)); exact (Kd.R_mono (Kd.R_far (p := ⟨gb420, 1, none⟩) (Kd.R_far (p := ⟨gb420, 0, none⟩) (Kd.R_types HO413.out BK420.out (by decide)) (fun _ h => by first | exact h.2 | exact h | trivial) (.int .u32 t415)) (fun _ h => by first | exact h.2 | exact h | trivial) (.slice Ao49 t416.length co49)) (fun _ h_ => h_.1))) hb); have n2_ := Aside0.mk (Kd.N_elder' (by (with_reducible repeat (first | apply Kd.N_alloc | apply Kd.N_drewN | apply Kd.N_drew)); exact (Kd.N_mono (Kd.N_far (p := ⟨gb420, 1, none⟩) (Kd.N_far (p := ⟨gb420, 0, none⟩) (Kd.N_mono HO418.out (fun k_ hk => (⟨hk, hk.2⟩ : _ ∧ k_ ≠ gb420))) (fun _ h => by first | exact h.2 | exact h | trivial) (.int .u32 t415)) (fun _ h => by first | exact h.2 | exact h | trivial) (.slice Ao49 t416.length co49)) (fun _ h_ => h_.1))) (by first | exact Kd.N_base ho0 | exact Kd.S_base ho0) hb); have n3_ := Aside0.mk (Kd.N_lower (Kd.N_mono (ok' := fun k_ => some k_ ≠ (v408 : Value).ownBlock ∧ some k_ ≠ (v412 : Value).ownBlock ∧ some k_ ≠ (.slice Ao49 t416.length co49 : Value).ownBlock ∧ k_ ≠ gb402 ∧ k_ ≠ gb403 ∧ k_ ≠ gb420) ho0 (fun k_ hk_ => ⟨(Kd.fresh' (Kd.R_lt (by (with_reducible repeat (first | apply Kd.R_alloc | apply Kd.R_drewN | apply Kd.R_drew)); exact (Kd.R_mono (Kd.R_far (p := ⟨gb420, 1, none⟩) (Kd.R_far (p := ⟨gb420, 0, none⟩) (Kd.R_types HO409.out BK420.out (by decide)) (fun _ h => by first | exact h.2 | exact h | trivial) (.int .u32 t415)) (fun _ h => by first | exact h.2 | exact h | trivial) (.slice Ao49 t416.length co49)) (fun _ h_ => h_.1)))) k_ hk_), (Kd.fresh' (Kd.R_lt (by (with_reducible repeat (first | apply Kd.R_alloc | apply Kd.R_drewN | apply Kd.R_drew)); exact (Kd.R_mono (Kd.R_far (p := ⟨gb420, 1, none⟩) (Kd.R_far (p := ⟨gb420, 0, none⟩) (Kd.R_types HO413.out BK420.out (by decide)) (fun _ h => by first | exact h.2 | exact h | trivial) (.int .u32 t415)) (fun _ h => by first | exact h.2 | exact h | trivial) (.slice Ao49 t416.length co49)) (fun _ h_ => h_.1)))) k_ hk_), (Kd.fresh' (Kd.N_lt (by (with_reducible repeat (first | apply Kd.N_alloc | apply Kd.N_drewN | apply Kd.N_drew)); exact (Kd.N_mono (Kd.N_far (p := ⟨gb420, 1, none⟩) (Kd.N_far (p := ⟨gb420, 0, none⟩) (Kd.N_mono HO418.out (fun k_ hk => (⟨hk, hk.2⟩ : _ ∧ k_ ≠ gb420))) (fun _ h => by first | exact h.2 | exact h | trivial) (.int .u32 t415)) (fun _ h => by first | exact h.2 | exact h | trivial) (.slice Ao49 t416.length co49)) (fun _ h_ => h_.1)))) k_ hk_), (Kd.freshB (g := gb402) (o := .cells #[.int .u32 a0_0, .slice A0_1 l0_1.length c0_1] 25 (0, 0)) (by (with_reducible repeat (first | refine blk_drewN ?_ _ | refine blk_drew ?_ | refine blk_alloc ?_ _)); refine blk_far ?_ NB402_420.out _; (with_reducible repeat (first | refine blk_drewN ?_ _ | refine blk_drew ?_ | refine blk_alloc ?_ _)); refine blk_far ?_ NB402_420.out _; (with_reducible repeat (first | refine blk_drewN ?_ _ | refine blk_drew ?_ | refine blk_alloc ?_ _)); exact BK402.out) k_ hk_), (Kd.freshB (g := gb403) (o := .cells #[.int .u32 a1_0, .slice A1_1 l1_1.length c1_1] 25 (0, 0)) (by (with_reducible repeat (first | refine blk_drewN ?_ _ | refine blk_drew ?_ | refine blk_alloc ?_ _)); refine blk_far ?_ NB403_420.out _; (with_reducible repeat (first | refine blk_drewN ?_ _ | refine blk_drew ?_ | refine blk_alloc ?_ _)); refine blk_far ?_ NB403_420.out _; (with_reducible repeat (first | refine blk_drewN ?_ _ | refine blk_drew ?_ | refine blk_alloc ?_ _)); exact BK403.out) k_ hk_), (Kd.freshB (g := gb420) (o := .cells #[.int .u32 t415, .slice Ao49 t416.length co49] 25 (0, 0)) (by (with_reducible repeat (first | refine blk_drewN ?_ _ | refine blk_drew ?_ | refine blk_alloc ?_ _)); refine blk_put (cs := #[.int .u32 t415, .slice none 0 0]) ?_ 1 _ rfl; (with_reducible repeat (first | refine blk_drewN ?_ _ | refine blk_drew ?_ | refine blk_alloc ?_ _)); refine blk_put (cs := #[.int .u32 0, .slice none 0 0]) ?_ 0 _ rfl; (with_reducible repeat (first | refine blk_drewN ?_ _ | refine blk_drew ?_ | refine blk_alloc ?_ _)); exact BK420.out) k_ hk_)⟩)) (below_size (by repeat (first | (with_reducible first | exact HB.out | apply below_alloc | apply pw_below_drewN | apply below_drew1 | refine below_set ?_ GE402.out | refine below_set ?_ GE403.out | refine below_set ?_ GE420.out) | exact HB.out)))); have n4_ := Aside0.mk (blk_below (g := gb402) (o := .cells #[.int .u32 a0_0, .slice A0_1 l0_1.length c0_1] 25 (0, 0)) (by (with_reducible repeat (first | refine blk_drewN ?_ _ | refine blk_drew ?_ | refine blk_alloc ?_ _)); refine blk_far ?_ NB402_420.out _; (with_reducible repeat (first | refine blk_drewN ?_ _ | refine blk_drew ?_ | refine blk_alloc ?_ _)); refine blk_far ?_ NB402_420.out _; (with_reducible repeat (first | refine blk_drewN ?_ _ | refine blk_drew ?_ | refine blk_alloc ?_ _)); exact BK402.out) hb); have n5_ := Aside0.mk (blk_below (g := gb403) (o := .cells #[.int .u32 a1_0, .slice A1_1 l1_1.length c1_1] 25 (0, 0)) (by (with_reducible repeat (first | refine blk_drewN ?_ _ | refine blk_drew ?_ | refine blk_alloc ?_ _)); refine blk_far ?_ NB403_420.out _; (with_reducible repeat (first | refine blk_drewN ?_ _ | refine blk_drew ?_ | refine blk_alloc ?_ _)); refine blk_far ?_ NB403_420.out _; (with_reducible repeat (first | refine blk_drewN ?_ _ | refine blk_drew ?_ | refine blk_alloc ?_ _)); exact BK403.out) hb); have n6_ := Aside0.mk (blk_below (g := gb420) (o := .cells #[.int .u32 t415, .slice Ao49 t416.length co49] 25 (0, 0)) (by (with_reducible repeat (first | refine blk_drewN ?_ _ | refine blk_drew ?_ | refine blk_alloc ?_ _)); refine blk_put (cs := #[.int .u32 t415, .slice none 0 0]) ?_ 1 _ rfl; (with_reducible repeat (first | refine blk_drewN ?_ _ | refine blk_drew ?_ | refine blk_alloc ?_ _)); refine blk_put (cs := #[.int .u32 0, .slice none 0 0]) ?_ 0 _ rfl; (with_reducible repeat (first | refine blk_drewN ?_ _ | refine blk_drew ?_ | refine blk_alloc ?_ _)); exact BK420.out) hb); have n7_ := Aside0.mk (below_step (by repeat (first | (with_reducible first | exact HB.out | apply below_alloc | apply pw_below_drewN | apply below_drew1 | refine below_set ?_ GE402.out | refine below_set ?_ GE403.out | refine below_set ?_ GE420.out) | exact HB.out)) hb); clear HO409; clear HO413; clear HO418; clear BK402; clear BK403; clear BK420; clear HB; have HO409 := n0_; have HO413 := n1_; have HO418 := n2_; have HO424 := n3_; have BK402 := n4_; have BK403 := n5_; have BK420 := n6_; have HB := n7_; clear n0_ n1_ n2_ n3_ n4_ n5_ n6_ n7_; (try clear hb); (try clear hb2); (try clear hk); (try clear hi); (try clear ho0)) | ((with_reducible refine gate_dst (N := 16) rfl ?_); (try (refine gate_guard (by rfl) ?_; dsimp only)); refine box_event ?hg (N := 16) ?hd (cs := #[.int .u32 0, .slice none 0 0]) (t := 25) ?hr ?_; (case hd => rfl); (case hg => rfl); (case hr => first | (go_simp; done) | (go_simp; rfl)); intro gb426 hg w51 hbox hb; have n0_ := Aside0.mk (Kd.R_below (by (with_reducible repeat (first | apply Kd.R_alloc | apply Kd.R_drewN | apply Kd.R_drew)); exact HO409.out) hb); have n1_ := Aside0.mk (Kd.R_below (by (with_reducible repeat (first | apply Kd.R_alloc | apply Kd.R_drewN | apply Kd.R_drew)); exact HO413.out) hb); have n2_ := Aside0.mk (Kd.N_below (Kd.N_elderB (by (with_reducible repeat (first | apply Kd.N_alloc | apply Kd.N_drewN | apply Kd.N_drew)); exact HO418.out) gb426 (Nat.le_of_eq hg.symm)) hb); have n3_ := Aside0.mk (Kd.N_below (Kd.N_elderB (by (with_reducible repeat (first | apply Kd.N_alloc | apply Kd.N_drewN | apply Kd.N_drew)); exact HO424.out) gb426 (Nat.le_of_eq hg.symm)) hb); have n4_ := Aside0.mk (blk_below (g := gb402) (o := .cells #[.int .u32 a0_0, .slice A0_1 l0_1.length c0_1] 25 (0, 0)) (by (with_reducible repeat (first | refine blk_drewN ?_ _ | refine blk_drew ?_ | refine blk_alloc ?_ _)); exact BK402.out) hb); have n5_ := Aside0.mk (blk_below (g := gb403) (o := .cells #[.int .u32 a1_0, .slice A1_1 l1_1.length c1_1] 25 (0, 0)) (by (with_reducible repeat (first | refine blk_drewN ?_ _ | refine blk_drew ?_ | refine blk_alloc ?_ _)); exact BK403.out) hb); have n6_ := Aside0.mk (blk_below (g := gb420) (o := .cells #[.int .u32 t415, .slice Ao49 t416.length co49] 25 (0, 0)) (by (with_reducible repeat (first | refine blk_drewN ?_ _ | refine blk_drew ?_ | refine blk_alloc ?_ _)); exact BK420.out) hb); have n7_ := Aside0.mk (below_step (by repeat (first | (with_reducible first | exact HB.out | apply below_alloc | apply pw_below_drewN | apply below_drew1 | refine below_set ?_ GE402.out | refine below_set ?_ GE403.out | refine below_set ?_ GE420.out) | exact HB.out)) hb); have n8_ := Aside0.mk (hbox); have n9_ := Aside0.mk ((by rw [hg]; exact (below_size (by repeat (first | (with_reducible first | exact HB.out | apply below_alloc | apply pw_below_drewN | apply below_drew1 | refine below_set ?_ GE402.out | refine below_set ?_ GE403.out | refine below_set ?_ GE420.out) | exact HB.out))) : w.heap.size ≤ gb426)); have n10_ := Aside0.mk ((by rw [hg]; exact (below_size (by repeat (first | (with_reducible first | exact HB.out | apply below_alloc | apply pw_below_drewN | apply below_drew1 | refine below_set ?_ GE402.out | refine below_set ?_ GE403.out | refine below_set ?_ GE420.out) | exact HB.out))) : w.heap.size ≤ gb426)); have n11_ := Aside0.mk ((by rw [hg]; exact Nat.ne_of_lt (blk_lt (g := gb402) (o := .cells #[.int .u32 a0_0, .slice A0_1 l0_1.length c0_1] 25 (0, 0)) (by (with_reducible repeat (first | refine blk_drewN ?_ _ | refine blk_drew ?_ | refine blk_alloc ?_ _)); exact BK402.out)) : gb402 ≠ gb426)); have n12_ := Aside0.mk ((by rw [hg]; exact Nat.ne_of_gt (blk_lt (g := gb402) (o := .cells #[.int .u32 a0_0, .slice A0_1 l0_1.length c0_1] 25 (0, 0)) (by (with_reducible repeat (first | refine blk_drewN ?_ _ | refine blk_drew ?_ | refine blk_alloc ?_ _)); exact BK402.out)) : gb426 ≠ gb402)); have n13_ := Aside0.mk ((by rw [hg]; exact Nat.ne_of_lt (blk_lt (g := gb403) (o := .cells #[.int .u32 a1_0, .slice A1_1 l1_1.length c1_1] 25 (0, 0)) (by (with_reducible repeat (first | refine blk_drewN ?_ _ | refine blk_drew ?_ | refine blk_alloc ?_ _)); exact BK403.out)) : gb403 ≠ gb426)); have n14_ := Aside0.mk ((by rw [hg]; exact Nat.ne_of_gt (blk_lt (g := gb403) (o := .cells #[.int .u32 a1_0, .slice A1_1 l1_1.length c1_1] 25 (0, 0)) (by (with_reducible repeat (first | refine blk_drewN ?_ _ | refine blk_drew ?_ | refine blk_alloc ?_ _)); exact BK403.out)) : gb426 ≠ gb403)); have n15_ := Aside0.mk ((by rw [hg]; exact Nat.ne_of_lt (blk_lt (g := gb420) (o := .cells #[.int .u32 t415, .slice Ao49 t416.length co49] 25 (0, 0)) (by (with_reducible repeat (first | refine blk_drewN ?_ _ | refine blk_drew ?_ | refine blk_alloc ?_ _)); exact BK420.out)) : gb420 ≠ gb426)); have n16_ := Aside0.mk ((by rw [hg]; exact Nat.ne_of_gt (blk_lt (g := gb420) (o := .cells #[.int .u32 t415, .slice Ao49 t416.length co49] 25 (0, 0)) (by (with_reducible repeat (first | refine blk_drewN ?_ _ | refine blk_drew ?_ | refine blk_alloc ?_ _)); exact BK420.out)) : gb426 ≠ gb420)); clear HO409; clear HO413; clear HO418; clear HO424; clear BK402; clear BK403; clear BK420; clear HB; have HO409 := n0_; have HO413 := n1_; have HO418 := n2_; have HO424 := n3_; have BK402 := n4_; have BK403 := n5_; have BK420 := n6_; have HB := n7_; have BK426 := n8_; have GW426 := n9_; have GE426 := n10_; have NB402_426 := n11_; have NB426_402 := n12_; have NB403_426 := n13_; have NB426_403 := n14_; have NB420_426 := n15_; have NB426_420 := n16_; clear n0_ n1_ n2_ n3_ n4_ n5_ n6_ n7_ n8_ n9_ n10_ n11_ n12_ n13_ n14_ n15_ n16_; clear hb hbox hg; have hnb52 := NB426_402.out; have hnc52 := NB402_426.out; have hnb53 := NB426_403.out; have hnc53 := NB403_426.out; have hnb54 := NB426_420.out; have hnc54 := NB420_426.out; have hcz55_0 : w51.cell? ⟨gb426, 0, none⟩ = some (.int .u32 0) := (blk_cell BK426.out 0).trans rfl; have hcz55_1 : w51.cell? ⟨gb426, 1, none⟩ = some (.slice none 0 0) := (blk_cell BK426.out 1).trans rfl; have hfz55_0 := blk_frozen BK426.out 0; have hfz55_1 := blk_frozen BK426.out 1; obtain ⟨Ao56, co56, eo56⟩ := Kd.N_slice HO424.out; subst eo56) | ((with_reducible refine gate_callee (f := 16) rfl ?_); refine goesL_ (some 69) rfl rfl Tryd.func16 (by kernel_rfl) rfl #[.slice A2 l2.length c2] rfl (by (try simp only [List.map_toArray, List.map_cons, List.map_nil]); first | done | rfl | (simp only [List.length_drop, List.length_take]; rfl)) ?_; (with_reducible refine (flow_Cuts.calls kj6 _ _ l2 t427 t428 _ ?side1 ?side2 A24.out ?errE).mono ?_); (case errE => exact errT_below HE.out (by repeat (first | (with_reducible first | exact HB.out | apply below_alloc | apply pw_below_drewN | apply below_drew1 | refine below_set ?_ GE402.out | refine below_set ?_ GE403.out | refine below_set ?_ GE420.out | refine below_set ?_ GE426.out) | exact HB.out)) (Nat.le_refl _)); (case side1 => exact Kd.C_below HR2.out (by repeat (first | (with_reducible first | exact HB.out | apply below_alloc | apply pw_below_drewN | apply below_drew1 | refine below_set ?_ GE402.out | refine below_set ?_ GE403.out | refine below_set ?_ GE420.out | refine below_set ?_ GE426.out) | exact HB.out))); (case side2 => exact HC2.out); rintro e w57 ⟨v429, rfl, ho0, hb⟩; refine ⟨_, rfl, ?_⟩; have n0_ := Aside0.mk (Kd.R_below (by (with_reducible repeat (first | apply Kd.R_alloc | apply Kd.R_drewN | apply Kd.R_drew)); exact (Kd.R_mono (Kd.R_far (p := ⟨gb426, 1, none⟩) (Kd.R_far (p := ⟨gb426, 0, none⟩) (Kd.R_types HO409.out BK426.out (by decide)) (fun _ h => by first | exact h.2 | exact h | trivial) (.int .u32 t421)) (fun _ h => by first | exact h.2 | exact h | trivial) (.slice Ao56 t422.length co56)) (fun _ h_ => h_.1))) hb); have n1_ := Aside0.mk (Kd.R_below (by (with_reducible repeat (first | apply Kd.R_alloc | apply Kd.R_drewN | apply Kd.R_drew)); exact (Kd.R_mono (Kd.R_far (p := ⟨gb426, 1, none⟩) (Kd.R_far (p := ⟨gb426, 0, none⟩) (Kd.R_types HO413.out BK426.out (by decide)) (fun _ h => by first | exact h.2 | exact h | trivial) (.int .u32 t421)) (fun _ h => by first | exact h.2 | exact h | trivial) (.slice Ao56 t422.length co56)) (fun _ h_ => h_.1))) hb); have n2_ := Aside0.mk (Kd.N_elder' (by (with_reducible repeat (first | apply Kd.N_alloc | apply Kd.N_drewN | apply Kd.N_drew)); exact (Kd.N_mono (Kd.N_far (p := ⟨gb426, 1, none⟩) (Kd.N_far (p := ⟨gb426, 0, none⟩) (Kd.N_mono HO418.out (fun k_ hk => (⟨hk, hk.2⟩ : _ ∧ k_ ≠ gb426))) (fun _ h => by first | exact h.2 | exact h | trivial) (.int .u32 t421)) (fun _ h => by first | exact h.2 | exact h | trivial) (.slice Ao56 t422.length co56)) (fun _ h_ => h_.1))) (Kd.R_base ho0) hb); have n3_ := Aside0.mk (Kd.N_elder' (by (with_reducible repeat (first | apply Kd.N_alloc | apply Kd.N_drewN | apply Kd.N_drew)); exact (Kd.N_mono (Kd.N_far (p := ⟨gb426, 1, none⟩) (Kd.N_far (p := ⟨gb426, 0, none⟩) (Kd.N_mono HO424.out (fun k_ hk => (⟨hk, hk.2⟩ : _ ∧ k_ ≠ gb426))) (fun _ h => by first | exact h.2 | exact h | trivial) (.int .u32 t421)) (fun _ h => by first | exact h.2 | exact h | trivial) (.slice Ao56 t422.length co56)) (fun _ h_ => h_.1))) (Kd.R_base ho0) hb); have n4_ := Aside0.mk (Kd.R_lower ho0 (below_size (by repeat (first | (with_reducible first | exact HB.out | apply below_alloc | apply pw_below_drewN | apply below_drew1 | refine below_set ?_ GE402.out | refine below_set ?_ GE403.out | refine below_set ?_ GE420.out | refine below_set ?_ GE426.out) | exact HB.out)))); have n5_ := Aside0.mk (blk_below (g := gb402) (o := .cells #[.int .u32 a0_0, .slice A0_1 l0_1.length c0_1] 25 (0, 0)) (by (with_reducible repeat (first | refine blk_drewN ?_ _ | refine blk_drew ?_ | refine blk_alloc ?_ _)); refine blk_far ?_ NB402_426.out _; (with_reducible repeat (first | refine blk_drewN ?_ _ | refine blk_drew ?_ | refine blk_alloc ?_ _)); refine blk_far ?_ NB402_426.out _; (with_reducible repeat (first | refine blk_drewN ?_ _ | refine blk_drew ?_ | refine blk_alloc ?_ _)); exact BK402.out) hb); have n6_ := Aside0.mk (blk_below (g := gb403) (o := .cells #[.int .u32 a1_0, .slice A1_1 l1_1.length c1_1] 25 (0, 0)) (by (with_reducible repeat (first | refine blk_drewN ?_ _ | refine blk_drew ?_ | refine blk_alloc ?_ _)); refine blk_far ?_ NB403_426.out _; (with_reducible repeat (first | refine blk_drewN ?_ _ | refine blk_drew ?_ | refine blk_alloc ?_ _)); refine blk_far ?_ NB403_426.out _; (with_reducible repeat (first | refine blk_drewN ?_ _ | refine blk_drew ?_ | refine blk_alloc ?_ _)); exact BK403.out) hb); have n7_ := Aside0.mk (blk_below (g := gb420) (o := .cells #[.int .u32 t415, .slice Ao49 t416.length co49] 25 (0, 0)) (by (with_reducible repeat (first | refine blk_drewN ?_ _ | refine blk_drew ?_ | refine blk_alloc ?_ _)); refine blk_far ?_ NB420_426.out _; (with_reducible repeat (first | refine blk_drewN ?_ _ | refine blk_drew ?_ | refine blk_alloc ?_ _)); refine blk_far ?_ NB420_426.out _; (with_reducible repeat (first | refine blk_drewN ?_ _ | refine blk_drew ?_ | refine blk_alloc ?_ _)); exact BK420.out) hb); have n8_ := Aside0.mk (blk_below (g := gb426) (o := .cells #[.int .u32 t421, .slice Ao56 t422.length co56] 25 (0, 0)) (by (with_reducible repeat (first | refine blk_drewN ?_ _ | refine blk_drew ?_ | refine blk_alloc ?_ _)); refine blk_put (cs := #[.int .u32 t421, .slice none 0 0]) ?_ 1 _ rfl; (with_reducible repeat (first | refine blk_drewN ?_ _ | refine blk_drew ?_ | refine blk_alloc ?_ _)); refine blk_put (cs := #[.int .u32 0, .slice none 0 0]) ?_ 0 _ rfl; (with_reducible repeat (first | refine blk_drewN ?_ _ | refine blk_drew ?_ | refine blk_alloc ?_ _)); exact BK426.out) hb); have n9_ := Aside0.mk (below_step (by repeat (first | (with_reducible first | exact HB.out | apply below_alloc | apply pw_below_drewN | apply below_drew1 | refine below_set ?_ GE402.out | refine below_set ?_ GE403.out | refine below_set ?_ GE420.out | refine below_set ?_ GE426.out) | exact HB.out)) hb); clear HO409; clear HO413; clear HO418; clear HO424; clear BK402; clear BK403; clear BK420; clear BK426; clear HB; have HO409 := n0_; have HO413 := n1_; have HO418 := n2_; have HO424 := n3_; have HO430 := n4_; have BK402 := n5_; have BK403 := n6_; have BK420 := n7_; have BK426 := n8_; have HB := n9_; clear n0_ n1_ n2_ n3_ n4_ n5_ n6_ n7_ n8_ n9_; (try clear hb); (try clear hb2); (try clear hk); (try clear hi); (try clear ho0)) | ((with_reducible refine gate_callee (f := 17) rfl ?_); refine goesL_ (some 74) rfl rfl Tryd.func17 (by kernel_rfl) rfl #[.slice A2 l2.length c2] rfl (by (try simp only [List.map_toArray, List.map_cons, List.map_nil]); first | done | rfl | (simp only [List.length_drop, List.length_take]; rfl)) ?_; (with_reducible refine (foliateref04_Cuts.calls kj6 _ _ l2 t431 t432 _ ?side1 ?side2 A25.out).mono ?_); (case side1 => repeat (first | exact (Kd.C_below HR2.out HB.out) | (with_reducible refine Kd.C_alloc ?_ _) | (with_reducible refine Kd.C_drewN ?_ _) | (with_reducible refine Kd.C_drew ?_))); (case side2 => exact HC2.out); rintro e w58 ⟨v433, rfl, ho0, hb⟩; refine ⟨_, rfl, ?_⟩; have n0_ := Aside0.mk (Kd.R_below (by (with_reducible repeat (first | apply Kd.R_alloc | apply Kd.R_drewN | apply Kd.R_drew)); exact HO409.out) hb); have n1_ := Aside0.mk (Kd.R_below (by (with_reducible repeat (first | apply Kd.R_alloc | apply Kd.R_drewN | apply Kd.R_drew)); exact HO413.out) hb); have n2_ := Aside0.mk (Kd.N_elder' (by (with_reducible repeat (first | apply Kd.N_alloc | apply Kd.N_drewN | apply Kd.N_drew)); exact HO418.out) (Kd.R_base ho0) hb); have n3_ := Aside0.mk (Kd.N_elder' (by (with_reducible repeat (first | apply Kd.N_alloc | apply Kd.N_drewN | apply Kd.N_drew)); exact HO424.out) (Kd.R_base ho0) hb); have n4_ := Aside0.mk (Kd.R_elder' (by (with_reducible repeat (first | apply Kd.R_alloc | apply Kd.R_drewN | apply Kd.R_drew)); exact HO430.out) (Kd.R_base ho0) hb); have n5_ := Aside0.mk (Kd.R_lower (Kd.R_new' ho0 (Kd.R_lt (by (with_reducible repeat (first | apply Kd.R_alloc | apply Kd.R_drewN | apply Kd.R_drew)); exact HO430.out))) (below_size (by repeat (first | (with_reducible first | exact HB.out | apply below_alloc | apply pw_below_drewN | apply below_drew1 | refine below_set ?_ GE402.out | refine below_set ?_ GE403.out | refine below_set ?_ GE420.out | refine below_set ?_ GE426.out) | exact HB.out)))); have n6_ := Aside0.mk (blk_below (g := gb402) (o := .cells #[.int .u32 a0_0, .slice A0_1 l0_1.length c0_1] 25 (0, 0)) (by (with_reducible repeat (first | refine blk_drewN ?_ _ | refine blk_drew ?_ | refine blk_alloc ?_ _)); exact BK402.out) hb); have n7_ := Aside0.mk (blk_below (g := gb403) (o := .cells #[.int .u32 a1_0, .slice A1_1 l1_1.length c1_1] 25 (0, 0)) (by (with_reducible repeat (first | refine blk_drewN ?_ _ | refine blk_drew ?_ | refine blk_alloc ?_ _)); exact BK403.out) hb); have n8_ := Aside0.mk (blk_below (g := gb420) (o := .cells #[.int .u32 t415, .slice Ao49 t416.length co49] 25 (0, 0)) (by (with_reducible repeat (first | refine blk_drewN ?_ _ | refine blk_drew ?_ | refine blk_alloc ?_ _)); exact BK420.out) hb); have n9_ := Aside0.mk (blk_below (g := gb426) (o := .cells #[.int .u32 t421, .slice Ao56 t422.length co56] 25 (0, 0)) (by (with_reducible repeat (first | refine blk_drewN ?_ _ | refine blk_drew ?_ | refine blk_alloc ?_ _)); exact BK426.out) hb); have n10_ := Aside0.mk (below_step (by repeat (first | (with_reducible first | exact HB.out | apply below_alloc | apply pw_below_drewN | apply below_drew1 | refine below_set ?_ GE402.out | refine below_set ?_ GE403.out | refine below_set ?_ GE420.out | refine below_set ?_ GE426.out) | exact HB.out)) hb); clear HO409; clear HO413; clear HO418; clear HO424; clear HO430; clear BK402; clear BK403; clear BK420; clear BK426; clear HB; have HO409 := n0_; have HO413 := n1_; have HO418 := n2_; have HO424 := n3_; have HO430 := n4_; have HO434 := n5_; have BK402 := n6_; have BK403 := n7_; have BK420 := n8_; have BK426 := n9_; have HB := n10_; clear n0_ n1_ n2_ n3_ n4_ n5_ n6_ n7_ n8_ n9_ n10_; (try clear hb); (try clear hb2); (try clear hk); (try clear hi); (try clear ho0); have hcz59_0 : w58.cell? ⟨gb420, 0, none⟩ = some (.int .u32 t415) := (blk_cell BK420.out 0).trans rfl; have hcz59_1 : w58.cell? ⟨gb420, 1, none⟩ = some (.slice Ao49 t416.length co49) := (blk_cell BK420.out 1).trans rfl; have hfz59_0 := blk_frozen BK420.out 0; have hfz59_1 := blk_frozen BK420.out 1; have hcz60_0 : w58.cell? ⟨gb426, 0, none⟩ = some (.int .u32 t421) := (blk_cell BK426.out 0).trans rfl; have hcz60_1 : w58.cell? ⟨gb426, 1, none⟩ = some (.slice Ao56 t422.length co56) := (blk_cell BK426.out 1).trans rfl; have hfz60_0 := blk_frozen BK426.out 0; have hfz60_1 := blk_frozen BK426.out 1) | ((with_reducible refine gate_callee (f := 18) rfl ?_); refine goesL_ (some 79) rfl rfl Tryd.func18 (by kernel_rfl) rfl #[.agg #[.int .u32 t415, .slice Ao49 t416.length co49], .agg #[.int .u32 t421, .slice Ao56 t422.length co56]] rfl (by (try simp only [List.map_toArray, List.map_cons, List.map_nil]); first | done | rfl | (simp only [List.length_drop, List.length_take]; rfl)) ?_; (with_reducible refine (foliateref04_Same.calls kj6 t415 _ _ t416 t421 _ _ t422 true _ ?side1 ?side2 ?side3 ?side4 A26.out).mono ?_); (case side1 => repeat (first | exact (Kd.N_reads' HO418.out).2.2 | (with_reducible refine Kd.C_alloc ?_ _) | (with_reducible refine Kd.C_drewN ?_ _) | (with_reducible refine Kd.C_drew ?_))); (case side2 => exact (Kd.N_reads' HO418.out).2.1); (case side3 => repeat (first | exact (Kd.N_reads' HO424.out).2.2 | (with_reducible refine Kd.C_alloc ?_ _) | (with_reducible refine Kd.C_drewN ?_ _) | (with_reducible refine Kd.C_drew ?_))); (case side4 => exact (Kd.N_reads' HO424.out).2.1); rintro e w61 ⟨rfl, hb⟩; refine ⟨_, rfl, ?_⟩; have n0_ := Aside0.mk (Kd.R_below (by (with_reducible repeat (first | apply Kd.R_alloc | apply Kd.R_drewN | apply Kd.R_drew)); exact HO409.out) hb); have n1_ := Aside0.mk (Kd.R_below (by (with_reducible repeat (first | apply Kd.R_alloc | apply Kd.R_drewN | apply Kd.R_drew)); exact HO413.out) hb); have n2_ := Aside0.mk (Kd.N_below (by (with_reducible repeat (first | apply Kd.N_alloc | apply Kd.N_drewN | apply Kd.N_drew)); exact HO418.out) hb); have n3_ := Aside0.mk (Kd.N_below (by (with_reducible repeat (first | apply Kd.N_alloc | apply Kd.N_drewN | apply Kd.N_drew)); exact HO424.out) hb); have n4_ := Aside0.mk (Kd.R_below (by (with_reducible repeat (first | apply Kd.R_alloc | apply Kd.R_drewN | apply Kd.R_drew)); exact HO430.out) hb); have n5_ := Aside0.mk (Kd.R_below (by (with_reducible repeat (first | apply Kd.R_alloc | apply Kd.R_drewN | apply Kd.R_drew)); exact HO434.out) hb); have n6_ := Aside0.mk (blk_below (g := gb402) (o := .cells #[.int .u32 a0_0, .slice A0_1 l0_1.length c0_1] 25 (0, 0)) (by (with_reducible repeat (first | refine blk_drewN ?_ _ | refine blk_drew ?_ | refine blk_alloc ?_ _)); exact BK402.out) hb); have n7_ := Aside0.mk (blk_below (g := gb403) (o := .cells #[.int .u32 a1_0, .slice A1_1 l1_1.length c1_1] 25 (0, 0)) (by (with_reducible repeat (first | refine blk_drewN ?_ _ | refine blk_drew ?_ | refine blk_alloc ?_ _)); exact BK403.out) hb); have n8_ := Aside0.mk (blk_below (g := gb420) (o := .cells #[.int .u32 t415, .slice Ao49 t416.length co49] 25 (0, 0)) (by (with_reducible repeat (first | refine blk_drewN ?_ _ | refine blk_drew ?_ | refine blk_alloc ?_ _)); exact BK420.out) hb); have n9_ := Aside0.mk (blk_below (g := gb426) (o := .cells #[.int .u32 t421, .slice Ao56 t422.length co56] 25 (0, 0)) (by (with_reducible repeat (first | refine blk_drewN ?_ _ | refine blk_drew ?_ | refine blk_alloc ?_ _)); exact BK426.out) hb); have n10_ := Aside0.mk (below_step (by repeat (first | (with_reducible first | exact HB.out | apply below_alloc | apply pw_below_drewN | apply below_drew1 | refine below_set ?_ GE402.out | refine below_set ?_ GE403.out | refine below_set ?_ GE420.out | refine below_set ?_ GE426.out) | exact HB.out)) hb); clear HO409; clear HO413; clear HO418; clear HO424; clear HO430; clear HO434; clear BK402; clear BK403; clear BK420; clear BK426; clear HB; have HO409 := n0_; have HO413 := n1_; have HO418 := n2_; have HO424 := n3_; have HO430 := n4_; have HO434 := n5_; have BK402 := n6_; have BK403 := n7_; have BK420 := n8_; have BK426 := n9_; have HB := n10_; clear n0_ n1_ n2_ n3_ n4_ n5_ n6_ n7_ n8_ n9_ n10_; (try clear hb); (try clear hb2); (try clear hk); (try clear hi); obtain ⟨Ao62, co62, eo62⟩ := Kd.R_slice HO430.out; subst eo62; obtain ⟨Ao63, co63, eo63⟩ := Kd.R_slice HO434.out; subst eo63) | ((with_reducible refine gate_callee (f := 19) rfl ?_); refine goesL_ (some 82) rfl rfl Tryd.func19 (by kernel_rfl) rfl #[.slice Ao62 t427.length co62, .slice Ao63 t431.length co63] rfl (by (try simp only [List.map_toArray, List.map_cons, List.map_nil]); first | done | rfl | (simp only [List.length_drop, List.length_take]; rfl)) ?_; (with_reducible refine (foliateref04_Ints.calls kj6 _ _ t427 _ _ t431 true _ ?side1 ?side2 ?side3 ?side4 A27.out).mono ?_); (case side1 => repeat (first | exact (Kd.R_reads' HO430.out).2.2 | (with_reducible refine Kd.C_alloc ?_ _) | (with_reducible refine Kd.C_drewN ?_ _) | (with_reducible refine Kd.C_drew ?_))); (case side2 => exact (Kd.R_reads' HO430.out).2.1); (case side3 => repeat (first | exact (Kd.R_reads' HO434.out).2.2 | (with_reducible refine Kd.C_alloc ?_ _) | (with_reducible refine Kd.C_drewN ?_ _) | (with_reducible refine Kd.C_drew ?_))); (case side4 => exact (Kd.R_reads' HO434.out).2.1); rintro e w' ⟨rfl, ⟨nd, rfl⟩⟩; refine ⟨_, rfl, ?_⟩; have hcz64_0 : w61.cell? ⟨gb402, 0, none⟩ = some (.int .u32 a0_0) := (blk_cell BK402.out 0).trans rfl; have hcz64_1 : w61.cell? ⟨gb402, 1, none⟩ = some (.slice A0_1 l0_1.length c0_1) := (blk_cell BK402.out 1).trans rfl; have hfz64_0 := blk_frozen BK402.out 0; have hfz64_1 := blk_frozen BK402.out 1) | ((with_reducible refine gate_callee (f := 20) rfl ?_); refine goesL_ (some 84) rfl rfl Tryd.func20 (by kernel_rfl) rfl #[.agg #[.int .u32 a0_0, .slice A0_1 l0_1.length c0_1]] rfl (by (try simp only [List.map_toArray, List.map_cons, List.map_nil]); first | done | rfl | (simp only [List.length_drop, List.length_take]; rfl)) ?_; (with_reducible refine (foliateref04_May.calls kj6 a0_0 _ _ l0_1 t437 _ ?side1 ?side2 A28.out).mono ?_); (case side1 => repeat (first | exact (Kd.C_below HR0_1.out (by repeat (first | (with_reducible first | exact HB.out | apply below_alloc | apply pw_below_drewN | apply below_drew1 | refine below_set ?_ GE402.out | refine below_set ?_ GE403.out | refine below_set ?_ GE420.out | refine below_set ?_ GE426.out) | exact HB.out))) | (with_reducible refine Kd.C_alloc ?_ _) | (with_reducible refine Kd.C_drewN ?_ _) | (with_reducible refine Kd.C_drew ?_))); (case side2 => exact HC0_1.out); rintro e w65 ⟨rfl, hb⟩; refine ⟨_, rfl, ?_⟩; have n0_ := Aside0.mk (Kd.R_below (by (with_reducible repeat (first | apply Kd.R_alloc | apply Kd.R_drewN | apply Kd.R_drew)); exact HO409.out) hb); have n1_ := Aside0.mk (Kd.R_below (by (with_reducible repeat (first | apply Kd.R_alloc | apply Kd.R_drewN | apply Kd.R_drew)); exact HO413.out) hb); have n2_ := Aside0.mk (Kd.N_below (by (with_reducible repeat (first | apply Kd.N_alloc | apply Kd.N_drewN | apply Kd.N_drew)); exact HO418.out) hb); have n3_ := Aside0.mk (Kd.N_below (by (with_reducible repeat (first | apply Kd.N_alloc | apply Kd.N_drewN | apply Kd.N_drew)); exact HO424.out) hb); have n4_ := Aside0.mk (Kd.R_below (by (with_reducible repeat (first | apply Kd.R_alloc | apply Kd.R_drewN | apply Kd.R_drew)); exact HO430.out) hb); have n5_ := Aside0.mk (Kd.R_below (by (with_reducible repeat (first | apply Kd.R_alloc | apply Kd.R_drewN | apply Kd.R_drew)); exact HO434.out) hb); have n6_ := Aside0.mk (blk_below (g := gb402) (o := .cells #[.int .u32 a0_0, .slice A0_1 l0_1.length c0_1] 25 (0, 0)) (by (with_reducible repeat (first | refine blk_drewN ?_ _ | refine blk_drew ?_ | refine blk_alloc ?_ _)); exact BK402.out) hb); have n7_ := Aside0.mk (blk_below (g := gb403) (o := .cells #[.int .u32 a1_0, .slice A1_1 l1_1.length c1_1] 25 (0, 0)) (by (with_reducible repeat (first | refine blk_drewN ?_ _ | refine blk_drew ?_ | refine blk_alloc ?_ _)); exact BK403.out) hb); have n8_ := Aside0.mk (blk_below (g := gb420) (o := .cells #[.int .u32 t415, .slice Ao49 t416.length co49] 25 (0, 0)) (by (with_reducible repeat (first | refine blk_drewN ?_ _ | refine blk_drew ?_ | refine blk_alloc ?_ _)); exact BK420.out) hb); have n9_ := Aside0.mk (blk_below (g := gb426) (o := .cells #[.int .u32 t421, .slice Ao56 t422.length co56] 25 (0, 0)) (by (with_reducible repeat (first | refine blk_drewN ?_ _ | refine blk_drew ?_ | refine blk_alloc ?_ _)); exact BK426.out) hb); have n10_ := Aside0.mk (below_step (by repeat (first | (with_reducible first | exact HB.out | apply below_alloc | apply pw_below_drewN | apply below_drew1 | refine below_set ?_ GE402.out | refine below_set ?_ GE403.out | refine below_set ?_ GE420.out | refine below_set ?_ GE426.out) | exact HB.out)) hb); clear HO409; clear HO413; clear HO418; clear HO424; clear HO430; clear HO434; clear BK402; clear BK403; clear BK420; clear BK426; clear HB; have HO409 := n0_; have HO413 := n1_; have HO418 := n2_; have HO424 := n3_; have HO430 := n4_; have HO434 := n5_; have BK402 := n6_; have BK403 := n7_; have BK420 := n8_; have BK426 := n9_; have HB := n10_; clear n0_ n1_ n2_ n3_ n4_ n5_ n6_ n7_ n8_ n9_ n10_; (try clear hb); (try clear hb2); (try clear hk); (try clear hi); have hcz66_0 : w65.cell? ⟨gb402, 0, none⟩ = some (.int .u32 a0_0) := (blk_cell BK402.out 0).trans rfl; have hcz66_1 : w65.cell? ⟨gb402, 1, none⟩ = some (.slice A0_1 l0_1.length c0_1) := (blk_cell BK402.out 1).trans rfl; have hfz66_0 := blk_frozen BK402.out 0; have hfz66_1 := blk_frozen BK402.out 1; have hcz67_0 : w65.cell? ⟨gb403, 0, none⟩ = some (.int .u32 a1_0) := (blk_cell BK403.out 0).trans rfl; have hcz67_1 : w65.cell? ⟨gb403, 1, none⟩ = some (.slice A1_1 l1_1.length c1_1) := (blk_cell BK403.out 1).trans rfl; have hfz67_0 := blk_frozen BK403.out 0; have hfz67_1 := blk_frozen BK403.out 1) | ((with_reducible refine gate_callee (f := 18) rfl ?_); refine goesL_ (some 87) rfl rfl Tryd.func18 (by kernel_rfl) rfl #[.agg #[.int .u32 a0_0, .slice A0_1 l0_1.length c0_1], .agg #[.int .u32 a1_0, .slice A1_1 l1_1.length c1_1]] rfl (by (try simp only [List.map_toArray, List.map_cons, List.map_nil]); first | done | rfl | (simp only [List.length_drop, List.length_take]; rfl)) ?_; (with_reducible refine (foliateref04_Same.calls kj6 a0_0 _ _ l0_1 a1_0 _ _ l1_1 t438 _ ?side1 ?side2 ?side3 ?side4 A29.out).mono ?_); (case side1 => repeat (first | exact (Kd.C_below HR0_1.out HB.out) | (with_reducible refine Kd.C_alloc ?_ _) | (with_reducible refine Kd.C_drewN ?_ _) | (with_reducible refine Kd.C_drew ?_))); (case side2 => exact HC0_1.out); (case side3 => repeat (first | exact (Kd.C_below HR1_1.out HB.out) | (with_reducible refine Kd.C_alloc ?_ _) | (with_reducible refine Kd.C_drewN ?_ _) | (with_reducible refine Kd.C_drew ?_))); (case side4 => exact HC1_1.out); rintro e w68 ⟨rfl, hb⟩; refine ⟨_, rfl, ?_⟩; have n0_ := Aside0.mk (Kd.R_below (by (with_reducible repeat (first | apply Kd.R_alloc | apply Kd.R_drewN | apply Kd.R_drew)); exact HO409.out) hb); have n1_ := Aside0.mk (Kd.R_below (by (with_reducible repeat (first | apply Kd.R_alloc | apply Kd.R_drewN | apply Kd.R_drew)); exact HO413.out) hb); have n2_ := Aside0.mk (Kd.N_below (by (with_reducible repeat (first | apply Kd.N_alloc | apply Kd.N_drewN | apply Kd.N_drew)); exact HO418.out) hb); have n3_ := Aside0.mk (Kd.N_below (by (with_reducible repeat (first | apply Kd.N_alloc | apply Kd.N_drewN | apply Kd.N_drew)); exact HO424.out) hb); have n4_ := Aside0.mk (Kd.R_below (by (with_reducible repeat (first | apply Kd.R_alloc | apply Kd.R_drewN | apply Kd.R_drew)); exact HO430.out) hb); have n5_ := Aside0.mk (Kd.R_below (by (with_reducible repeat (first | apply Kd.R_alloc | apply Kd.R_drewN | apply Kd.R_drew)); exact HO434.out) hb); have n6_ := Aside0.mk (blk_below (g := gb402) (o := .cells #[.int .u32 a0_0, .slice A0_1 l0_1.length c0_1] 25 (0, 0)) (by (with_reducible repeat (first | refine blk_drewN ?_ _ | refine blk_drew ?_ | refine blk_alloc ?_ _)); exact BK402.out) hb); have n7_ := Aside0.mk (blk_below (g := gb403) (o := .cells #[.int .u32 a1_0, .slice A1_1 l1_1.length c1_1] 25 (0, 0)) (by (with_reducible repeat (first | refine blk_drewN ?_ _ | refine blk_drew ?_ | refine blk_alloc ?_ _)); exact BK403.out) hb); have n8_ := Aside0.mk (blk_below (g := gb420) (o := .cells #[.int .u32 t415, .slice Ao49 t416.length co49] 25 (0, 0)) (by (with_reducible repeat (first | refine blk_drewN ?_ _ | refine blk_drew ?_ | refine blk_alloc ?_ _)); exact BK420.out) hb); have n9_ := Aside0.mk (blk_below (g := gb426) (o := .cells #[.int .u32 t421, .slice Ao56 t422.length co56] 25 (0, 0)) (by (with_reducible repeat (first | refine blk_drewN ?_ _ | refine blk_drew ?_ | refine blk_alloc ?_ _)); exact BK426.out) hb); have n10_ := Aside0.mk (below_step (by repeat (first | (with_reducible first | exact HB.out | apply below_alloc | apply pw_below_drewN | apply below_drew1 | refine below_set ?_ GE402.out | refine below_set ?_ GE403.out | refine below_set ?_ GE420.out | refine below_set ?_ GE426.out) | exact HB.out)) hb); clear HO409; clear HO413; clear HO418; clear HO424; clear HO430; clear HO434; clear BK402; clear BK403; clear BK420; clear BK426; clear HB; have HO409 := n0_; have HO413 := n1_; have HO418 := n2_; have HO424 := n3_; have HO430 := n4_; have HO434 := n5_; have BK402 := n6_; have BK403 := n7_; have BK420 := n8_; have BK426 := n9_; have HB := n10_; clear n0_ n1_ n2_ n3_ n4_ n5_ n6_ n7_ n8_ n9_ n10_; (try clear hb); (try clear hb2); (try clear hk); (try clear hi); have hcv69 := own_string (P := Tryd.prog) Tryd.underlying26 Tryd.underlying5 Tryd.underlying9 (Kd.own_of_R HO409.out); have hcv70 := own_string (P := Tryd.prog) Tryd.underlying26 Tryd.underlying5 Tryd.underlying9 (Kd.own_of_R HO413.out); have hcz71_0 : w68.cell? ⟨gb402, 0, none⟩ = some (.int .u32 a0_0) := (blk_cell BK402.out 0).trans rfl; have hcz71_1 : w68.cell? ⟨gb402, 1, none⟩ = some (.slice A0_1 l0_1.length c0_1) := (blk_cell BK402.out 1).trans rfl; have hfz71_0 := blk_frozen BK402.out 0; have hfz71_1 := blk_frozen BK402.out 1) | (go_at_call 21; (with_reducible refine (flow_May.calls a0_0 _ _ l0_1 t439 _ ?side1 ?side2 A36.out).mono ?_); (case side1 => repeat (first | exact (Kd.C_below HR0_1.out HB.out) | (with_reducible refine Kd.C_alloc ?_ _) | (with_reducible refine Kd.C_drewN ?_ _) | (with_reducible refine Kd.C_drew ?_))); (case side2 => exact HC0_1.out); rintro e w72 ⟨rfl, hb⟩; have n0_ := Aside0.mk (Kd.R_below (by (with_reducible repeat (first | apply Kd.R_alloc | apply Kd.R_drewN | apply Kd.R_drew)); exact HO409.out) hb); have n1_ := Aside0.mk (Kd.R_below (by (with_reducible repeat (first | apply Kd.R_alloc | apply Kd.R_drewN | apply Kd.R_drew)); exact HO413.out) hb); have n2_ := Aside0.mk (Kd.N_below (by (with_reducible repeat (first | apply Kd.N_alloc | apply Kd.N_drewN | apply Kd.N_drew)); exact HO418.out) hb); have n3_ := Aside0.mk (Kd.N_below (by (with_reducible repeat (first | apply Kd.N_alloc | apply Kd.N_drewN | apply Kd.N_drew)); exact HO424.out) hb); have n4_ := Aside0.mk (Kd.R_below (by (with_reducible repeat (first | apply Kd.R_alloc | apply Kd.R_drewN | apply Kd.R_drew)); exact HO430.out) hb); have n5_ := Aside0.mk (Kd.R_below (by (with_reducible repeat (first | apply Kd.R_alloc | apply Kd.R_drewN | apply Kd.R_drew)); exact HO434.out) hb); have n6_ := Aside0.mk (blk_below (g := gb402) (o := .cells #[.int .u32 a0_0, .slice A0_1 l0_1.length c0_1] 25 (0, 0)) (by (with_reducible repeat (first | refine blk_drewN ?_ _ | refine blk_drew ?_ | refine blk_alloc ?_ _)); exact BK402.out) hb); have n7_ := Aside0.mk (blk_below (g := gb403) (o := .cells #[.int .u32 a1_0, .slice A1_1 l1_1.length c1_1] 25 (0, 0)) (by (with_reducible repeat (first | refine blk_drewN ?_ _ | refine blk_drew ?_ | refine blk_alloc ?_ _)); exact BK403.out) hb); have n8_ := Aside0.mk (blk_below (g := gb420) (o := .cells #[.int .u32 t415, .slice Ao49 t416.length co49] 25 (0, 0)) (by (with_reducible repeat (first | refine blk_drewN ?_ _ | refine blk_drew ?_ | refine blk_alloc ?_ _)); exact BK420.out) hb); have n9_ := Aside0.mk (blk_below (g := gb426) (o := .cells #[.int .u32 t421, .slice Ao56 t422.length co56] 25 (0, 0)) (by (with_reducible repeat (first | refine blk_drewN ?_ _ | refine blk_drew ?_ | refine blk_alloc ?_ _)); exact BK426.out) hb); have n10_ := Aside0.mk (below_step (by repeat (first | (with_reducible first | exact HB.out | apply below_alloc | apply pw_below_drewN | apply below_drew1 | refine below_set ?_ GE402.out | refine below_set ?_ GE403.out | refine below_set ?_ GE420.out | refine below_set ?_ GE426.out) | exact HB.out)) hb); clear HO409; clear HO413; clear HO418; clear HO424; clear HO430; clear HO434; clear BK402; clear BK403; clear BK420; clear BK426; clear HB; have HO409 := n0_; have HO413 := n1_; have HO418 := n2_; have HO424 := n3_; have HO430 := n4_; have HO434 := n5_; have BK402 := n6_; have BK403 := n7_; have BK420 := n8_; have BK426 := n9_; have HB := n10_; clear n0_ n1_ n2_ n3_ n4_ n5_ n6_ n7_ n8_ n9_ n10_; (try clear hb); (try clear hb2); (try clear hk); (try clear hi); have hcz73_0 : w72.cell? ⟨gb402, 0, none⟩ = some (.int .u32 a0_0) := (blk_cell BK402.out 0).trans rfl; have hcz73_1 : w72.cell? ⟨gb402, 1, none⟩ = some (.slice A0_1 l0_1.length c0_1) := (blk_cell BK402.out 1).trans rfl; have hfz73_0 := blk_frozen BK402.out 0; have hfz73_1 := blk_frozen BK402.out 1; have hcz74_0 : w72.cell? ⟨gb403, 0, none⟩ = some (.int .u32 a1_0) := (blk_cell BK403.out 0).trans rfl; have hcz74_1 : w72.cell? ⟨gb403, 1, none⟩ = some (.slice A1_1 l1_1.length c1_1) := (blk_cell BK403.out 1).trans rfl; have hfz74_0 := blk_frozen BK403.out 0; have hfz74_1 := blk_frozen BK403.out 1) | (go_at_call 22; (with_reducible refine (flow_Same.calls kj6 a0_0 _ _ l0_1 a1_0 _ _ l1_1 t440 _ ?side1 ?side2 ?side3 ?side4 A38.out).mono ?_); (case side1 => repeat (first | exact (Kd.C_below HR0_1.out HB.out) | (with_reducible refine Kd.C_alloc ?_ _) | (with_reducible refine Kd.C_drewN ?_ _) | (with_reducible refine Kd.C_drew ?_))); (case side2 => exact HC0_1.out); (case side3 => repeat (first | exact (Kd.C_below HR1_1.out HB.out) | (with_reducible refine Kd.C_alloc ?_ _) | (with_reducible refine Kd.C_drewN ?_ _) | (with_reducible refine Kd.C_drew ?_))); (case side4 => exact HC1_1.out); rintro e w75 ⟨rfl, hb⟩; have n0_ := Aside0.mk (Kd.R_below (by (with_reducible repeat (first | apply Kd.R_alloc | apply Kd.R_drewN | apply Kd.R_drew)); exact HO409.out) hb); have n1_ := Aside0.mk (Kd.R_below (by (with_reducible repeat (first | apply Kd.R_alloc | apply Kd.R_drewN | apply Kd.R_drew)); exact HO413.out) hb); have n2_ := Aside0.mk (Kd.N_below (by (with_reducible repeat (first | apply Kd.N_alloc | apply Kd.N_drewN | apply Kd.N_drew)); exact HO418.out) hb); have n3_ := Aside0.mk (Kd.N_below (by (with_reducible repeat (first | apply Kd.N_alloc | apply Kd.N_drewN | apply Kd.N_drew)); exact HO424.out) hb); have n4_ := Aside0.mk (Kd.R_below (by (with_reducible repeat (first | apply Kd.R_alloc | apply Kd.R_drewN | apply Kd.R_drew)); exact HO430.out) hb); have n5_ := Aside0.mk (Kd.R_below (by (with_reducible repeat (first | apply Kd.R_alloc | apply Kd.R_drewN | apply Kd.R_drew)); exact HO434.out) hb); have n6_ := Aside0.mk (blk_below (g := gb402) (o := .cells #[.int .u32 a0_0, .slice A0_1 l0_1.length c0_1] 25 (0, 0)) (by (with_reducible repeat (first | refine blk_drewN ?_ _ | refine blk_drew ?_ | refine blk_alloc ?_ _)); exact BK402.out) hb); have n7_ := Aside0.mk (blk_below (g := gb403) (o := .cells #[.int .u32 a1_0, .slice A1_1 l1_1.length c1_1] 25 (0, 0)) (by (with_reducible repeat (first | refine blk_drewN ?_ _ | refine blk_drew ?_ | refine blk_alloc ?_ _)); exact BK403.out) hb); have n8_ := Aside0.mk (blk_below (g := gb420) (o := .cells #[.int .u32 t415, .slice Ao49 t416.length co49] 25 (0, 0)) (by (with_reducible repeat (first | refine blk_drewN ?_ _ | refine blk_drew ?_ | refine blk_alloc ?_ _)); exact BK420.out) hb); have n9_ := Aside0.mk (blk_below (g := gb426) (o := .cells #[.int .u32 t421, .slice Ao56 t422.length co56] 25 (0, 0)) (by (with_reducible repeat (first | refine blk_drewN ?_ _ | refine blk_drew ?_ | refine blk_alloc ?_ _)); exact BK426.out) hb); have n10_ := Aside0.mk (below_step (by repeat (first | (with_reducible first | exact HB.out | apply below_alloc | apply pw_below_drewN | apply below_drew1 | refine below_set ?_ GE402.out | refine below_set ?_ GE403.out | refine below_set ?_ GE420.out | refine below_set ?_ GE426.out) | exact HB.out)) hb); clear HO409; clear HO413; clear HO418; clear HO424; clear HO430; clear HO434; clear BK402; clear BK403; clear BK420; clear BK426; clear HB; have HO409 := n0_; have HO413 := n1_; have HO418 := n2_; have HO424 := n3_; have HO430 := n4_; have HO434 := n5_; have BK402 := n6_; have BK403 := n7_; have BK420 := n8_; have BK426 := n9_; have HB := n10_; clear n0_ n1_ n2_ n3_ n4_ n5_ n6_ n7_ n8_ n9_ n10_; (try clear hb); (try clear hb2); (try clear hk); (try clear hi)))
           go_ret
           exact ⟨by first | rfl | (simp [errW_none, errW_some] <;> rfl) | (simp [*, errW_none, errW_some] <;> rfl), by repeat (first | (with_reducible first | exact HB.out | apply below_alloc | apply pw_below_drewN | apply below_drew1 | refine below_set ?_ GE402.out | refine below_set ?_ GE403.out | refine below_set ?_ GE420.out | refine below_set ?_ GE426.out) | exact HB.out)⟩
          ·rw [if_neg c37] at H
           exact absurd H (by simp)
         ·rw [if_neg c35] at H
          exact absurd H (by simp)
        ·replace c34 := Bool.eq_false_iff.mpr c34
         subst c34
         have H1 : (none) = some r := by rw [if_neg (show ¬ (false = true) by decide)] at H; exact H
         clear H
         have H := H1
         clear H1
         exact absurd H (by simp)
       ·rw [if_neg c33] at H
        exact absurd H (by simp)
      ·replace c32 := Bool.eq_false_iff.mpr c32
       subst c32
       have H1 : (none) = some r := by rw [if_neg (show ¬ (false = true) by decide)] at H; exact H
       clear H
       have H := H1
       clear H1
       exact absurd H (by simp)
     ·rw [if_neg c31] at H
      exact absurd H (by simp)
    ·rw [if_neg c30] at H
     exact absurd H (by simp)

end Go.Proofs.YtknkncdlcoglpaaDoor.PAll
