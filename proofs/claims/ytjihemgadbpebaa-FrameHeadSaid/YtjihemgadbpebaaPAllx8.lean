-- Written by wip/tools/myprint.py, a program of the prover's own, over the kit's print; the contracts named 'HAND' there are typed by hand.
import Derived.Test.YtjihemgadbpebaaPAllx0
import Derived.Test.YtjihemgadbpebaaPAllx1
import Derived.Test.YtjihemgadbpebaaPAllx3
namespace Go.Proofs.Ytjihemgadbpebaa.PAll
open Go.RowKit Go.Proofs.YtjihemgadbpebaaW.PrintWords Go.Proofs.YtjihemgadbpebaaW.PrintLast Go.Proofs.YtjihemgadbpebaaW.PrintMore
attribute [local go_sem] max2_int min2_int max_two min_two max_three min_three max_four min_four   -- for this text's walks alone
set_option linter.unusedVariables false
set_option linter.unusedSimpArgs false

/-! ### foliatelaw03_FrameHead: function 8 -/
mutual
def foliatelaw03_FrameHead.j0 : Nat → Int → Bool → Bool → Int → List Int → Option (Bool)
  | 0, _, _, _, _, _ => none
  | k + 1, x1, x5, x17, x349000, x349001 => if x17 = true then (some x5) else ((frame_Put.f k x349000 x349001).bind fun bt350 => (if x349000 ≥ 0 then (if x349000 ≤ 255 then (foliatelaw03_FrameHead.j1 k x1 bt350.1 bt350.2 (decide ((x349001.length : Int) ≤ 255)) x349000 x349001) else (foliatelaw03_FrameHead.j1 k x1 bt350.1 bt350.2 false x349000 x349001)) else (foliatelaw03_FrameHead.j1 k x1 bt350.1 bt350.2 false x349000 x349001)))
def foliatelaw03_FrameHead.j1 : Nat → Int → List Int → Int → Bool → Int → List Int → Option (Bool)
  | 0, _, _, _, _, _, _ => none
  | k + 1, x1, x6, x7, x8, x349000, x349001 => if x7 = 0 then (if x8 = true then (if (x6.length : Int) = (wrap64 ((x349001.length : Int) + 10)) then (if 0 < (x6.length : Int) then (if (wrap64 (rd x6 0)) = x349000 then (if 1 < (x6.length : Int) then (if (wrap64 (rd x6 1)) = (x349001.length : Int) then (if x1 < 0 then (some true) else (if x1 ≥ (x349001.length : Int) then (some true) else (if 0 ≤ (wrap64 (6 + x1)) then (if (wrap64 (6 + x1)) < (x6.length : Int) then (if 0 ≤ x1 then (if x1 < (x349001.length : Int) then (some ((rd x6 (wrap64 (6 + x1))) == (rd x349001 x1))) else (none)) else (none)) else (none)) else (none)))) else (some false)) else (none)) else (some false)) else (none)) else (some false)) else (some false)) else (if x7 = 1 then (if (x6.length : Int) = 0 then (some (!x8)) else (some false)) else (some false))
end
def foliatelaw03_FrameHead.f (k : Nat) (a0_0 : Int) (l0_1 : List Int) (a1 : Int) : Option (Bool) := (foliatelaw03_awake.f k).bind fun t349 => (if t349 = true then (foliatelaw03_FrameHead.j0 k a1 t349 (decide ((l0_1.length : Int) > 600)) a0_0 l0_1) else (foliatelaw03_FrameHead.j0 k a1 t349 true a0_0 l0_1))
theorem foliatelaw03_FrameHead.mono_l : ∀ k, (∀ y0 y1 y2 y3 y4, LeO (foliatelaw03_FrameHead.j0 k y0 y1 y2 y3 y4) (foliatelaw03_FrameHead.j0 (k + 1) y0 y1 y2 y3 y4)) ∧ (∀ y0 y1 y2 y3 y4 y5, LeO (foliatelaw03_FrameHead.j1 k y0 y1 y2 y3 y4 y5) (foliatelaw03_FrameHead.j1 (k + 1) y0 y1 y2 y3 y4 y5))
  | 0 => ⟨fun _ _ _ _ _ r h => by simp [foliatelaw03_FrameHead.j0] at h, fun _ _ _ _ _ _ r h => by simp [foliatelaw03_FrameHead.j1] at h⟩
  | k + 1 => by
    obtain ⟨ih0, ih1⟩ := foliatelaw03_FrameHead.mono_l k
    refine ⟨?_, ?_⟩
    · intro y0 y1 y2 y3 y4
      unfold foliatelaw03_FrameHead.j0
      repeat' first
      | (with_reducible exact ih0 _ _ _ _ _)
      | (with_reducible exact ih1 _ _ _ _ _ _)
      | (with_reducible exact foliatelaw03_awake.mono _)
      | (with_reducible exact frame_Put.mono _ _ _)
      | (with_reducible exact LeO.refl _)
      | (with_reducible exact LeO.none _)
      | (with_reducible refine LeO.ite ?_ ?_)
      | (with_reducible refine LeO.bind ?_ (fun _ => ?_))
      | exact ih0 _ _ _ _ _
      | exact ih1 _ _ _ _ _ _
      | exact foliatelaw03_awake.mono _
      | exact frame_Put.mono _ _ _
      | exact LeO.none _
      | refine LeO.ite ?_ ?_
      | refine LeO.bind ?_ (fun _ => ?_)
    · intro y0 y1 y2 y3 y4 y5
      unfold foliatelaw03_FrameHead.j1
      repeat' first
      | (with_reducible exact ih0 _ _ _ _ _)
      | (with_reducible exact ih1 _ _ _ _ _ _)
      | (with_reducible exact foliatelaw03_awake.mono _)
      | (with_reducible exact frame_Put.mono _ _ _)
      | (with_reducible exact LeO.refl _)
      | (with_reducible exact LeO.none _)
      | (with_reducible refine LeO.ite ?_ ?_)
      | (with_reducible refine LeO.bind ?_ (fun _ => ?_))
      | exact ih0 _ _ _ _ _
      | exact ih1 _ _ _ _ _ _
      | exact foliatelaw03_awake.mono _
      | exact frame_Put.mono _ _ _
      | exact LeO.none _
      | refine LeO.ite ?_ ?_
      | refine LeO.bind ?_ (fun _ => ?_)
theorem foliatelaw03_FrameHead.mono : ∀ a0 a1 a2 k, LeO (foliatelaw03_FrameHead.f k a0 a1 a2) (foliatelaw03_FrameHead.f (k + 1) a0 a1 a2) := by
  intro a0 a1 a2 k
  obtain ⟨ih0, ih1⟩ := foliatelaw03_FrameHead.mono_l k
  unfold foliatelaw03_FrameHead.f
  repeat' first
      | (with_reducible exact ih0 _ _ _ _ _)
      | (with_reducible exact ih1 _ _ _ _ _ _)
      | (with_reducible exact foliatelaw03_awake.mono _)
      | (with_reducible exact frame_Put.mono _ _ _)
      | (with_reducible exact LeO.refl _)
      | (with_reducible exact LeO.none _)
      | (with_reducible refine LeO.ite ?_ ?_)
      | (with_reducible refine LeO.bind ?_ (fun _ => ?_))
      | exact ih0 _ _ _ _ _
      | exact ih1 _ _ _ _ _ _
      | exact foliatelaw03_awake.mono _
      | exact frame_Put.mono _ _ _
      | exact LeO.none _
      | refine LeO.ite ?_ ?_
      | refine LeO.bind ?_ (fun _ => ?_)
set_option maxHeartbeats 8000000 in
set_option maxRecDepth 100000 in
theorem foliatelaw03_FrameHead.calls (k : Nat) (a0_0 : Int) (A0_1 : Option Addr) (c0_1 : Nat) (l0_1 : List Int) (a1 : Int) (r : Bool) (w : World) (hr0_1 : Kd.C (Kd.int .u8) w A0_1 l0_1.length l0_1) (hc0_1 : l0_1.length ≤ c0_1) (h : foliatelaw03_FrameHead.f k a0_0 l0_1 a1 = some r) :
    Calls Try.prog 8 #[.agg #[.int .i64 a0_0, .slice A0_1 l0_1.length c0_1], .int .i64 a1] w fun e w' => e = .returned (.bool r) ∧ Below w.heap.size w w' := by
  have hu24 := Try.underlying24
  have HR0_1 := Aside0.mk hr0_1
  have HC0_1 := Aside0.mk hc0_1
  clear hr0_1 hc0_1
  have HB := Aside0.mk (Below.refl w.heap.size w)
  have H : ((foliatelaw03_awake.f k).bind fun t349 => (if t349 = true then (foliatelaw03_FrameHead.j0 k a1 t349 (decide ((l0_1.length : Int) > 600)) a0_0 l0_1) else (foliatelaw03_FrameHead.j0 k a1 t349 true a0_0 l0_1))) = some r := h
  clear h
  replace H := Option.bind_eq_some_iff.mp H
  obtain ⟨t349, A30, H⟩ := H
  replace H : (if t349 = true then (foliatelaw03_FrameHead.j0 k a1 t349 (decide ((l0_1.length : Int) > 600)) a0_0 l0_1) else (foliatelaw03_FrameHead.j0 k a1 t349 true a0_0 l0_1)) = some r := H
  have A3 := Aside0.mk A30
  clear A30
  have HC4 := Aside0.mk H
  clear H
  go_enter Try.func8, Try.ntmps8
  go_upto_region 2 with (first | ((with_reducible refine gate_dst (N := 2) rfl ?_); (try (refine gate_guard (by rfl) ?_; dsimp only)); refine box_event ?hg (N := 2) ?hd (cs := #[.int .i64 a0_0, .slice A0_1 l0_1.length c0_1]) (t := 24) ?hr ?_; (case hd => rfl); (case hg => rfl); (case hr => first | (go_simp; done) | (go_simp; rfl)); intro gb348 hg w5 hbox hb; have n0_ := Aside0.mk (below_step (by repeat (first | (with_reducible first | exact HB.out | apply below_alloc | apply pw_below_drewN | apply below_drew1) | exact HB.out)) hb); have n1_ := Aside0.mk (hbox); have n2_ := Aside0.mk ((by rw [hg]; exact (below_size (by repeat (first | (with_reducible first | exact HB.out | apply below_alloc | apply pw_below_drewN | apply below_drew1) | exact HB.out))) : w.heap.size ≤ gb348)); have n3_ := Aside0.mk ((by rw [hg]; exact (below_size (by repeat (first | (with_reducible first | exact HB.out | apply below_alloc | apply pw_below_drewN | apply below_drew1) | exact HB.out))) : w.heap.size ≤ gb348)); clear HB; have HB := n0_; have BK348 := n1_; have GW348 := n2_; have GE348 := n3_; clear n0_ n1_ n2_ n3_; clear hb hbox hg) | (go_at_call 10; (with_reducible refine (foliatelaw03_awake.calls k  t349 _ A3.out).mono ?_); rintro e w6 ⟨rfl, hb⟩; have n0_ := Aside0.mk (blk_below (g := gb348) (o := .cells #[.int .i64 a0_0, .slice A0_1 l0_1.length c0_1] 24 (0, 0)) (by (with_reducible repeat (first | refine blk_drewN ?_ _ | refine blk_drew ?_ | refine blk_alloc ?_ _)); exact BK348.out) hb); have n1_ := Aside0.mk (below_step (by repeat (first | (with_reducible first | exact HB.out | apply below_alloc | apply pw_below_drewN | apply below_drew1 | refine below_set ?_ GE348.out) | exact HB.out)) hb); clear BK348; clear HB; have BK348 := n0_; have HB := n1_; clear n0_ n1_; (try clear hb); (try clear hb2); (try clear hk); (try clear hi)))
  repeat (go_quiet (first | ((with_reducible refine gate_dst (N := 2) rfl ?_); (try (refine gate_guard (by rfl) ?_; dsimp only)); refine box_event ?hg (N := 2) ?hd (cs := #[.int .i64 a0_0, .slice A0_1 l0_1.length c0_1]) (t := 24) ?hr ?_; (case hd => rfl); (case hg => rfl); (case hr => first | (go_simp; done) | (go_simp; rfl)); intro gb348 hg w5 hbox hb; have n0_ := Aside0.mk (below_step (by repeat (first | (with_reducible first | exact HB.out | apply below_alloc | apply pw_below_drewN | apply below_drew1) | exact HB.out)) hb); have n1_ := Aside0.mk (hbox); have n2_ := Aside0.mk ((by rw [hg]; exact (below_size (by repeat (first | (with_reducible first | exact HB.out | apply below_alloc | apply pw_below_drewN | apply below_drew1) | exact HB.out))) : w.heap.size ≤ gb348)); have n3_ := Aside0.mk ((by rw [hg]; exact (below_size (by repeat (first | (with_reducible first | exact HB.out | apply below_alloc | apply pw_below_drewN | apply below_drew1) | exact HB.out))) : w.heap.size ≤ gb348)); clear HB; have HB := n0_; have BK348 := n1_; have GW348 := n2_; have GE348 := n3_; clear n0_ n1_ n2_ n3_; clear hb hbox hg) | (go_at_call 10; (with_reducible refine (foliatelaw03_awake.calls k  t349 _ A3.out).mono ?_); rintro e w6 ⟨rfl, hb⟩; have n0_ := Aside0.mk (blk_below (g := gb348) (o := .cells #[.int .i64 a0_0, .slice A0_1 l0_1.length c0_1] 24 (0, 0)) (by (with_reducible repeat (first | refine blk_drewN ?_ _ | refine blk_drew ?_ | refine blk_alloc ?_ _)); exact BK348.out) hb); have n1_ := Aside0.mk (below_step (by repeat (first | (with_reducible first | exact HB.out | apply below_alloc | apply pw_below_drewN | apply below_drew1 | refine below_set ?_ GE348.out) | exact HB.out)) hb); clear BK348; clear HB; have BK348 := n0_; have HB := n1_; clear n0_ n1_; (try clear hb); (try clear hb2); (try clear hk); (try clear hi))); go_upto_region 2 with (first | ((with_reducible refine gate_dst (N := 2) rfl ?_); (try (refine gate_guard (by rfl) ?_; dsimp only)); refine box_event ?hg (N := 2) ?hd (cs := #[.int .i64 a0_0, .slice A0_1 l0_1.length c0_1]) (t := 24) ?hr ?_; (case hd => rfl); (case hg => rfl); (case hr => first | (go_simp; done) | (go_simp; rfl)); intro gb348 hg w5 hbox hb; have n0_ := Aside0.mk (below_step (by repeat (first | (with_reducible first | exact HB.out | apply below_alloc | apply pw_below_drewN | apply below_drew1) | exact HB.out)) hb); have n1_ := Aside0.mk (hbox); have n2_ := Aside0.mk ((by rw [hg]; exact (below_size (by repeat (first | (with_reducible first | exact HB.out | apply below_alloc | apply pw_below_drewN | apply below_drew1) | exact HB.out))) : w.heap.size ≤ gb348)); have n3_ := Aside0.mk ((by rw [hg]; exact (below_size (by repeat (first | (with_reducible first | exact HB.out | apply below_alloc | apply pw_below_drewN | apply below_drew1) | exact HB.out))) : w.heap.size ≤ gb348)); clear HB; have HB := n0_; have BK348 := n1_; have GW348 := n2_; have GE348 := n3_; clear n0_ n1_ n2_ n3_; clear hb hbox hg) | (go_at_call 10; (with_reducible refine (foliatelaw03_awake.calls k  t349 _ A3.out).mono ?_); rintro e w6 ⟨rfl, hb⟩; have n0_ := Aside0.mk (blk_below (g := gb348) (o := .cells #[.int .i64 a0_0, .slice A0_1 l0_1.length c0_1] 24 (0, 0)) (by (with_reducible repeat (first | refine blk_drewN ?_ _ | refine blk_drew ?_ | refine blk_alloc ?_ _)); exact BK348.out) hb); have n1_ := Aside0.mk (below_step (by repeat (first | (with_reducible first | exact HB.out | apply below_alloc | apply pw_below_drewN | apply below_drew1 | refine below_set ?_ GE348.out) | exact HB.out)) hb); clear BK348; clear HB; have BK348 := n0_; have HB := n1_; clear n0_ n1_; (try clear hb); (try clear hb2); (try clear hk); (try clear hi))))
  (try simp only [Act.put, List.setIfInBounds_toArray, List.set_cons_zero, List.set_cons_succ])
  go_cut [17] (fun v17 wc => ∃ (kq : Nat) (x17_3 : Bool), v17 = .bool x17_3 ∧ Aside0 (foliatelaw03_FrameHead.j0 kq a1 t349 x17_3 a0_0 l0_1 = some r) ∧ Aside0 (kq ≤ k) ∧ Aside0 (wc.heap[gb348]? = some (.cells #[.int .i64 a0_0, (.slice A0_1 l0_1.length c0_1)] 24 (0, 0))) ∧ Aside0 (Below w.heap.size w wc))
  case first =>
    have H := HC4.out
    clear HC4
    by_cases c7 : t349 = true
    · subst c7
      have H1 : (foliatelaw03_FrameHead.j0 k a1 true (decide ((l0_1.length : Int) > 600)) a0_0 l0_1) = some r := by rw [if_pos rfl] at H; exact H
      clear H
      have H := H1
      clear H1
      have H' := Aside0.mk H
      clear H
      have hcz8_0 : w6.cell? ⟨gb348, 0, none⟩ = some (.int .i64 a0_0) := (blk_cell BK348.out 0).trans rfl
      have hcz8_1 : w6.cell? ⟨gb348, 1, none⟩ = some (.slice A0_1 l0_1.length c0_1) := (blk_cell BK348.out 1).trans rfl
      have hfz8_0 := blk_frozen BK348.out 0
      have hfz8_1 := blk_frozen BK348.out 1
      go_wp2
      repeat (go_quiet (fail); try go_wp2)
      go_meet
      case rel => exact ⟨_, (decide ((l0_1.length : Int) > 600)), (by first | rfl | (simp; done) | (simp [*]; done)), H', ⟨by first | omega | exact Nat.le_refl _⟩, ⟨by (with_reducible repeat (first | refine blk_drewN ?_ _ | refine blk_drew ?_ | refine blk_alloc ?_ _)); exact BK348.out⟩, ⟨by repeat (first | (with_reducible first | exact HB.out | apply below_alloc | apply pw_below_drewN | apply below_drew1 | refine below_set ?_ GE348.out) | exact HB.out)⟩⟩
    · replace c7 := Bool.eq_false_iff.mpr c7
      subst c7
      have H1 : (foliatelaw03_FrameHead.j0 k a1 false true a0_0 l0_1) = some r := by rw [if_neg (show ¬ (false = true) by decide)] at H; exact H
      clear H
      have H := H1
      clear H1
      have H' := Aside0.mk H
      clear H
      go_wp2
      repeat (go_quiet (fail); try go_wp2)
      go_meet
      case rel => exact ⟨_, (true), (by first | rfl | (simp; done) | (simp [*]; done)), H', ⟨by first | omega | exact Nat.le_refl _⟩, ⟨by (with_reducible repeat (first | refine blk_drewN ?_ _ | refine blk_drew ?_ | refine blk_alloc ?_ _)); exact BK348.out⟩, ⟨by repeat (first | (with_reducible first | exact HB.out | apply below_alloc | apply pw_below_drewN | apply below_drew1 | refine below_set ?_ GE348.out) | exact HB.out)⟩⟩
  case rest =>
    clear HC4
    try clear p2
    try clear c7
    try clear c8
    try clear hcz8_0
    try clear hcz8_1
    try clear hfz8_0
    try clear hfz8_1
    obtain ⟨kq, x17_3, rfl, HA, HJ3, BK348, HB⟩ := hcut
    cases kq with
    | zero => exact absurd HA.out (by simp [foliatelaw03_FrameHead.j0])
    | succ kj3 =>
      have H := HA.out
      clear HA
      simp only [foliatelaw03_FrameHead.j0] at H
      by_cases c9 : x17_3 = true
      · subst c9
        have H1 : (some t349) = some r := by rw [if_pos rfl] at H; exact H
        clear H
        have H := H1
        clear H1
        obtain rfl := Option.some.inj H
        go_wp2
        repeat (go_quiet (fail); try go_wp2)
        go_ret
        exact ⟨by first | rfl | (simp [errW_none, errW_some] <;> rfl) | (simp [*, errW_none, errW_some] <;> rfl), by repeat (first | (with_reducible first | exact HB.out | apply below_alloc | apply pw_below_drewN | apply below_drew1 | refine below_set ?_ GE348.out) | exact HB.out)⟩
      · replace c9 := Bool.eq_false_iff.mpr c9
        subst c9
        have H1 : ((frame_Put.f kj3 a0_0 l0_1).bind fun bt350 => (if a0_0 ≥ 0 then (if a0_0 ≤ 255 then (foliatelaw03_FrameHead.j1 kj3 a1 bt350.1 bt350.2 (decide ((l0_1.length : Int) ≤ 255)) a0_0 l0_1) else (foliatelaw03_FrameHead.j1 kj3 a1 bt350.1 bt350.2 false a0_0 l0_1)) else (foliatelaw03_FrameHead.j1 kj3 a1 bt350.1 bt350.2 false a0_0 l0_1))) = some r := by rw [if_neg (show ¬ (false = true) by decide)] at H; exact H
        clear H
        have H := H1
        clear H1
        replace H := Option.bind_eq_some_iff.mp H
        obtain ⟨⟨t350, t353⟩, A100, H⟩ := H
        replace H : (if a0_0 ≥ 0 then (if a0_0 ≤ 255 then (foliatelaw03_FrameHead.j1 kj3 a1 t350 t353 (decide ((l0_1.length : Int) ≤ 255)) a0_0 l0_1) else (foliatelaw03_FrameHead.j1 kj3 a1 t350 t353 false a0_0 l0_1)) else (foliatelaw03_FrameHead.j1 kj3 a1 t350 t353 false a0_0 l0_1)) = some r := H
        have A10 := Aside0.mk A100
        clear A100
        have HC11 := Aside0.mk H
        clear H
        have hcz12_0 : wc.cell? ⟨gb348, 0, none⟩ = some (.int .i64 a0_0) := (blk_cell BK348.out 0).trans rfl
        have hcz12_1 : wc.cell? ⟨gb348, 1, none⟩ = some (.slice A0_1 l0_1.length c0_1) := (blk_cell BK348.out 1).trans rfl
        have hfz12_0 := blk_frozen BK348.out 0
        have hfz12_1 := blk_frozen BK348.out 1
        go_upto_region 5 with (first | (go_at_call 11; (with_reducible refine (frame_Put.calls kj3 a0_0 _ _ l0_1 t350 t353 _ ?side1 ?side2 A10.out).mono ?_); (case side1 => repeat (first | exact (Kd.C_below HR0_1.out HB.out) | (with_reducible refine Kd.C_alloc ?_ _) | (with_reducible refine Kd.C_drewN ?_ _) | (with_reducible refine Kd.C_drew ?_))); (case side2 => exact HC0_1.out); rintro e w13 ⟨v351, rfl, ho0, hb⟩; have n0_ := Aside0.mk (Kd.R_lower ho0 (below_size (by repeat (first | (with_reducible first | exact HB.out | apply below_alloc | apply pw_below_drewN | apply below_drew1 | refine below_set ?_ GE348.out) | exact HB.out)))); have n1_ := Aside0.mk (blk_below (g := gb348) (o := .cells #[.int .i64 a0_0, .slice A0_1 l0_1.length c0_1] 24 (0, 0)) (by (with_reducible repeat (first | refine blk_drewN ?_ _ | refine blk_drew ?_ | refine blk_alloc ?_ _)); exact BK348.out) hb); have n2_ := Aside0.mk (below_step (by repeat (first | (with_reducible first | exact HB.out | apply below_alloc | apply pw_below_drewN | apply below_drew1 | refine below_set ?_ GE348.out) | exact HB.out)) hb); clear BK348; clear HB; have HO352 := n0_; have BK348 := n1_; have HB := n2_; clear n0_ n1_ n2_; (try clear hb); (try clear hb2); (try clear hk); (try clear hi); (try clear ho0)))
        repeat (go_quiet (first | (go_at_call 11; (with_reducible refine (frame_Put.calls kj3 a0_0 _ _ l0_1 t350 t353 _ ?side1 ?side2 A10.out).mono ?_); (case side1 => repeat (first | exact (Kd.C_below HR0_1.out HB.out) | (with_reducible refine Kd.C_alloc ?_ _) | (with_reducible refine Kd.C_drewN ?_ _) | (with_reducible refine Kd.C_drew ?_))); (case side2 => exact HC0_1.out); rintro e w13 ⟨v351, rfl, ho0, hb⟩; have n0_ := Aside0.mk (Kd.R_lower ho0 (below_size (by repeat (first | (with_reducible first | exact HB.out | apply below_alloc | apply pw_below_drewN | apply below_drew1 | refine below_set ?_ GE348.out) | exact HB.out)))); have n1_ := Aside0.mk (blk_below (g := gb348) (o := .cells #[.int .i64 a0_0, .slice A0_1 l0_1.length c0_1] 24 (0, 0)) (by (with_reducible repeat (first | refine blk_drewN ?_ _ | refine blk_drew ?_ | refine blk_alloc ?_ _)); exact BK348.out) hb); have n2_ := Aside0.mk (below_step (by repeat (first | (with_reducible first | exact HB.out | apply below_alloc | apply pw_below_drewN | apply below_drew1 | refine below_set ?_ GE348.out) | exact HB.out)) hb); clear BK348; clear HB; have HO352 := n0_; have BK348 := n1_; have HB := n2_; clear n0_ n1_ n2_; (try clear hb); (try clear hb2); (try clear hk); (try clear hi); (try clear ho0))); go_upto_region 5 with (first | (go_at_call 11; (with_reducible refine (frame_Put.calls kj3 a0_0 _ _ l0_1 t350 t353 _ ?side1 ?side2 A10.out).mono ?_); (case side1 => repeat (first | exact (Kd.C_below HR0_1.out HB.out) | (with_reducible refine Kd.C_alloc ?_ _) | (with_reducible refine Kd.C_drewN ?_ _) | (with_reducible refine Kd.C_drew ?_))); (case side2 => exact HC0_1.out); rintro e w13 ⟨v351, rfl, ho0, hb⟩; have n0_ := Aside0.mk (Kd.R_lower ho0 (below_size (by repeat (first | (with_reducible first | exact HB.out | apply below_alloc | apply pw_below_drewN | apply below_drew1 | refine below_set ?_ GE348.out) | exact HB.out)))); have n1_ := Aside0.mk (blk_below (g := gb348) (o := .cells #[.int .i64 a0_0, .slice A0_1 l0_1.length c0_1] 24 (0, 0)) (by (with_reducible repeat (first | refine blk_drewN ?_ _ | refine blk_drew ?_ | refine blk_alloc ?_ _)); exact BK348.out) hb); have n2_ := Aside0.mk (below_step (by repeat (first | (with_reducible first | exact HB.out | apply below_alloc | apply pw_below_drewN | apply below_drew1 | refine below_set ?_ GE348.out) | exact HB.out)) hb); clear BK348; clear HB; have HO352 := n0_; have BK348 := n1_; have HB := n2_; clear n0_ n1_ n2_; (try clear hb); (try clear hb2); (try clear hk); (try clear hi); (try clear ho0))))
        (try simp only [Act.put, List.setIfInBounds_toArray, List.set_cons_zero, List.set_cons_succ])
        go_cut [8] (fun v8 wc => ∃ (kq : Nat) (x8_10 : Bool), v8 = .bool x8_10 ∧ Aside0 (foliatelaw03_FrameHead.j1 kq a1 t350 t353 x8_10 a0_0 l0_1 = some r) ∧ Aside0 (kq ≤ kj3) ∧ Aside0 (Kd.R (Kd.int .u8) 5 wc w.heap.size (fun _ => True) v351 t350) ∧ Aside0 (wc.heap[gb348]? = some (.cells #[.int .i64 a0_0, (.slice A0_1 l0_1.length c0_1)] 24 (0, 0))) ∧ Aside0 (Below w.heap.size w wc))
        case first =>
          have H := HC11.out
          clear HC11
          by_cases c14 : a0_0 ≥ 0
          · rw [if_pos c14] at H
            have c14b0 : decide (0 ≤ a0_0) = true := decide_eq_true c14
            clear c14
            (first | rw [c14b0] | (simp only [i64_w, i32_w]; rw [c14b0]) | skip)
            by_cases c15 : a0_0 ≤ 255
            · rw [if_pos c15] at H
              have c15b0 : decide (a0_0 ≤ 255) = true := decide_eq_true c15
              clear c15
              have H' := Aside0.mk H
              clear H
              have hcz16_0 : w13.cell? ⟨gb348, 0, none⟩ = some (.int .i64 a0_0) := (blk_cell BK348.out 0).trans rfl
              have hcz16_1 : w13.cell? ⟨gb348, 1, none⟩ = some (.slice A0_1 l0_1.length c0_1) := (blk_cell BK348.out 1).trans rfl
              have hfz16_0 := blk_frozen BK348.out 0
              have hfz16_1 := blk_frozen BK348.out 1
              go_wp2
              repeat (go_quiet (fail); try go_wp2)
              go_meet
              case rel => exact ⟨_, (decide ((l0_1.length : Int) ≤ 255)), (by first | rfl | (simp; done) | (simp [*]; done)), H', ⟨by have := HJ3.out; first | omega | exact Nat.le_refl _⟩, ⟨by (with_reducible repeat (first | apply Kd.R_alloc | apply Kd.R_drewN | apply Kd.R_drew)); exact HO352.out⟩, ⟨by (with_reducible repeat (first | refine blk_drewN ?_ _ | refine blk_drew ?_ | refine blk_alloc ?_ _)); exact BK348.out⟩, ⟨by repeat (first | (with_reducible first | exact HB.out | apply below_alloc | apply pw_below_drewN | apply below_drew1 | refine below_set ?_ GE348.out) | exact HB.out)⟩⟩
            · rw [if_neg c15] at H
              have c15b0 : decide (a0_0 ≤ 255) = false := decide_eq_false c15
              clear c15
              have H' := Aside0.mk H
              clear H
              have hcz17_0 : w13.cell? ⟨gb348, 0, none⟩ = some (.int .i64 a0_0) := (blk_cell BK348.out 0).trans rfl
              have hcz17_1 : w13.cell? ⟨gb348, 1, none⟩ = some (.slice A0_1 l0_1.length c0_1) := (blk_cell BK348.out 1).trans rfl
              have hfz17_0 := blk_frozen BK348.out 0
              have hfz17_1 := blk_frozen BK348.out 1
              go_wp2
              repeat (go_quiet (fail); try go_wp2)
              go_meet
              case rel => exact ⟨_, (false), (by first | rfl | (simp; done) | (simp [*]; done)), H', ⟨by have := HJ3.out; first | omega | exact Nat.le_refl _⟩, ⟨by (with_reducible repeat (first | apply Kd.R_alloc | apply Kd.R_drewN | apply Kd.R_drew)); exact HO352.out⟩, ⟨by (with_reducible repeat (first | refine blk_drewN ?_ _ | refine blk_drew ?_ | refine blk_alloc ?_ _)); exact BK348.out⟩, ⟨by repeat (first | (with_reducible first | exact HB.out | apply below_alloc | apply pw_below_drewN | apply below_drew1 | refine below_set ?_ GE348.out) | exact HB.out)⟩⟩
          · rw [if_neg c14] at H
            have c14b0 : decide (0 ≤ a0_0) = false := decide_eq_false c14
            clear c14
            (first | rw [c14b0] | (simp only [i64_w, i32_w]; rw [c14b0]) | skip)
            have H' := Aside0.mk H
            clear H
            have hcz18_0 : w13.cell? ⟨gb348, 0, none⟩ = some (.int .i64 a0_0) := (blk_cell BK348.out 0).trans rfl
            have hcz18_1 : w13.cell? ⟨gb348, 1, none⟩ = some (.slice A0_1 l0_1.length c0_1) := (blk_cell BK348.out 1).trans rfl
            have hfz18_0 := blk_frozen BK348.out 0
            have hfz18_1 := blk_frozen BK348.out 1
            go_wp2
            repeat (go_quiet (fail); try go_wp2)
            go_meet
            case rel => exact ⟨_, (false), (by first | rfl | (simp; done) | (simp [*]; done)), H', ⟨by have := HJ3.out; first | omega | exact Nat.le_refl _⟩, ⟨by (with_reducible repeat (first | apply Kd.R_alloc | apply Kd.R_drewN | apply Kd.R_drew)); exact HO352.out⟩, ⟨by (with_reducible repeat (first | refine blk_drewN ?_ _ | refine blk_drew ?_ | refine blk_alloc ?_ _)); exact BK348.out⟩, ⟨by repeat (first | (with_reducible first | exact HB.out | apply below_alloc | apply pw_below_drewN | apply below_drew1 | refine below_set ?_ GE348.out) | exact HB.out)⟩⟩
        case rest =>
          clear HC11
          try clear c1
          try clear p2
          try clear c7
          try clear c8
          try clear c9
          try clear c14
          try clear c14b0
          try clear c15
          try clear c15b0
          try clear hcz12_0
          try clear hcz12_1
          try clear hcz16_0
          try clear hcz16_1
          try clear hcz17_0
          try clear hcz17_1
          try clear hcz18_0
          try clear hcz18_1
          try clear hcz8_0
          try clear hcz8_1
          try clear hfz12_0
          try clear hfz12_1
          try clear hfz16_0
          try clear hfz16_1
          try clear hfz17_0
          try clear hfz17_1
          try clear hfz18_0
          try clear hfz18_1
          try clear hfz8_0
          try clear hfz8_1
          try clear p2
          obtain ⟨kq, x8_10, rfl, HA, HJ10, HO_6, BK348, HB⟩ := hcut
          cases kq with
          | zero => exact absurd HA.out (by simp [foliatelaw03_FrameHead.j1])
          | succ kj10 =>
            have H := HA.out
            clear HA
            simp only [foliatelaw03_FrameHead.j1] at H
            by_cases c19 : t353 = 0
            · rw [if_pos c19] at H
              have c19b0 : (t353 == 0) = true := beq_iff_eq.mpr c19
              have c19b1 : (t353 != 0) = false := bne_eq_false_iff_eq.mpr c19
              clear c19
              by_cases c20 : x8_10 = true
              · subst c20
                have H1 : (if (t350.length : Int) = (wrap64 ((l0_1.length : Int) + 10)) then (if 0 < (t350.length : Int) then (if (wrap64 (rd t350 0)) = a0_0 then (if 1 < (t350.length : Int) then (if (wrap64 (rd t350 1)) = (l0_1.length : Int) then (if a1 < 0 then (some true) else (if a1 ≥ (l0_1.length : Int) then (some true) else (if 0 ≤ (wrap64 (6 + a1)) then (if (wrap64 (6 + a1)) < (t350.length : Int) then (if 0 ≤ a1 then (if a1 < (l0_1.length : Int) then (some ((rd t350 (wrap64 (6 + a1))) == (rd l0_1 a1))) else (none)) else (none)) else (none)) else (none)))) else (some false)) else (none)) else (some false)) else (none)) else (some false)) = some r := by rw [if_pos rfl] at H; exact H
                clear H
                have H := H1
                clear H1
                by_cases c21 : (t350.length : Int) = (wrap64 ((l0_1.length : Int) + 10))
                · rw [if_pos c21] at H
                  have c21b0 : ((t350.length : Int) == (wrap64 ((l0_1.length : Int) + 10))) = true := beq_iff_eq.mpr c21
                  have c21b1 : ((t350.length : Int) != (wrap64 ((l0_1.length : Int) + 10))) = false := bne_eq_false_iff_eq.mpr c21
                  clear c21
                  by_cases c22 : 0 < (t350.length : Int)
                  · rw [if_pos c22] at H
                    have c22b0 : decide (0 < (t350.length : Int)) = true := decide_eq_true c22
                    have c22b1 : decide (0 < t350.length) = true := decide_eq_true (by omega)
                    clear c22
                    by_cases c23 : (wrap64 (rd t350 0)) = a0_0
                    · rw [if_pos c23] at H
                      have c23b0 : ((wrap64 (rd t350 0)) == a0_0) = true := beq_iff_eq.mpr c23
                      have c23b1 : ((wrap64 (rd t350 0)) != a0_0) = false := bne_eq_false_iff_eq.mpr c23
                      clear c23
                      by_cases c24 : 1 < (t350.length : Int)
                      · rw [if_pos c24] at H
                        have c24b0 : decide (1 < (t350.length : Int)) = true := decide_eq_true c24
                        have c24b1 : decide (1 < t350.length) = true := decide_eq_true (by omega)
                        clear c24
                        by_cases c25 : (wrap64 (rd t350 1)) = (l0_1.length : Int)
                        · rw [if_pos c25] at H
                          have c25b0 : ((wrap64 (rd t350 1)) == (l0_1.length : Int)) = true := beq_iff_eq.mpr c25
                          have c25b1 : ((wrap64 (rd t350 1)) != (l0_1.length : Int)) = false := bne_eq_false_iff_eq.mpr c25
                          clear c25
                          by_cases c26 : a1 < 0
                          · rw [if_pos c26] at H
                            have c26b0 : decide (a1 < 0) = true := decide_eq_true c26
                            clear c26
                            obtain rfl := Option.some.inj H
                            obtain ⟨Ao27, co27, eo27⟩ := Kd.R_slice HO_6.out
                            subst eo27
                            have hcz28_0 : wc.cell? ⟨gb348, 0, none⟩ = some (.int .i64 a0_0) := (blk_cell BK348.out 0).trans rfl
                            have hcz28_1 : wc.cell? ⟨gb348, 1, none⟩ = some (.slice A0_1 l0_1.length c0_1) := (blk_cell BK348.out 1).trans rfl
                            have hfz28_0 := blk_frozen BK348.out 0
                            have hfz28_1 := blk_frozen BK348.out 1
                            have p354 : 0 ≤ (0 : Int) := (by omega)
                            have q354 : 0 < (t350.length : Int) := of_decide_eq_true (by first | (with_reducible assumption) | assumption)
                            obtain ⟨ad354, e354, hx354_0⟩ := Kd.at_int (Kd.R_reads' HO_6.out).2.2 0 p354 q354
                            cases e354
                            have qi354 : (0 < t350.length) = True := eq_true (by omega)
                            (try rw [show ((0 : Int)).toNat = 0 from rfl] at hx354_0)
                            (try rw [Addr.add_zero'] at hx354_0)
                            replace p354 := eq_true p354
                            replace q354 := eq_true q354
                            have p355 : 0 ≤ (1 : Int) := (by omega)
                            have q355 : 1 < (t350.length : Int) := of_decide_eq_true (by first | (with_reducible assumption) | assumption)
                            obtain ⟨ad355, e355, hx355_0⟩ := Kd.at_int (Kd.R_reads' HO_6.out).2.2 1 p355 q355
                            obtain rfl : ad354 = ad355 := (by injection e355)
                            (try simp only [show (1 : Int).toNat = 1 from rfl, Nat.reduceMul, Nat.reduceEqDiff, Go.Addr.add, ↓reduceIte] at hx355_0)
                            have qi355 : (1 < t350.length) = True := eq_true (by omega)
                            (try rw [show ((1 : Int)).toNat = 1 from rfl] at hx355_0)
                            replace p355 := eq_true p355
                            replace q355 := eq_true q355
                            go_wp2
                            repeat (go_quiet (fail); try go_wp2)
                            go_ret
                            exact ⟨by first | rfl | (simp [errW_none, errW_some] <;> rfl) | (simp [*, errW_none, errW_some] <;> rfl), by repeat (first | (with_reducible first | exact HB.out | apply below_alloc | apply pw_below_drewN | apply below_drew1 | refine below_set ?_ GE348.out) | exact HB.out)⟩
                          · rw [if_neg c26] at H
                            have c26b0 : decide (a1 < 0) = false := decide_eq_false c26
                            clear c26
                            by_cases c29 : a1 ≥ (l0_1.length : Int)
                            · rw [if_pos c29] at H
                              have c29b0 : decide ((l0_1.length : Int) ≤ a1) = true := decide_eq_true c29
                              clear c29
                              obtain rfl := Option.some.inj H
                              obtain ⟨Ao30, co30, eo30⟩ := Kd.R_slice HO_6.out
                              subst eo30
                              have hcz31_0 : wc.cell? ⟨gb348, 0, none⟩ = some (.int .i64 a0_0) := (blk_cell BK348.out 0).trans rfl
                              have hcz31_1 : wc.cell? ⟨gb348, 1, none⟩ = some (.slice A0_1 l0_1.length c0_1) := (blk_cell BK348.out 1).trans rfl
                              have hfz31_0 := blk_frozen BK348.out 0
                              have hfz31_1 := blk_frozen BK348.out 1
                              have p354 : 0 ≤ (0 : Int) := (by omega)
                              have q354 : 0 < (t350.length : Int) := of_decide_eq_true (by first | (with_reducible assumption) | assumption)
                              obtain ⟨ad354, e354, hx354_0⟩ := Kd.at_int (Kd.R_reads' HO_6.out).2.2 0 p354 q354
                              cases e354
                              have qi354 : (0 < t350.length) = True := eq_true (by omega)
                              (try rw [show ((0 : Int)).toNat = 0 from rfl] at hx354_0)
                              (try rw [Addr.add_zero'] at hx354_0)
                              replace p354 := eq_true p354
                              replace q354 := eq_true q354
                              have p355 : 0 ≤ (1 : Int) := (by omega)
                              have q355 : 1 < (t350.length : Int) := of_decide_eq_true (by first | (with_reducible assumption) | assumption)
                              obtain ⟨ad355, e355, hx355_0⟩ := Kd.at_int (Kd.R_reads' HO_6.out).2.2 1 p355 q355
                              obtain rfl : ad354 = ad355 := (by injection e355)
                              (try simp only [show (1 : Int).toNat = 1 from rfl, Nat.reduceMul, Nat.reduceEqDiff, Go.Addr.add, ↓reduceIte] at hx355_0)
                              have qi355 : (1 < t350.length) = True := eq_true (by omega)
                              (try rw [show ((1 : Int)).toNat = 1 from rfl] at hx355_0)
                              replace p355 := eq_true p355
                              replace q355 := eq_true q355
                              go_wp2
                              repeat (go_quiet (fail); try go_wp2)
                              go_ret
                              exact ⟨by first | rfl | (simp [errW_none, errW_some] <;> rfl) | (simp [*, errW_none, errW_some] <;> rfl), by repeat (first | (with_reducible first | exact HB.out | apply below_alloc | apply pw_below_drewN | apply below_drew1 | refine below_set ?_ GE348.out) | exact HB.out)⟩
                            · rw [if_neg c29] at H
                              have c29b0 : decide ((l0_1.length : Int) ≤ a1) = false := decide_eq_false c29
                              clear c29
                              obtain ⟨ji32, hji32⟩ : ∃ j_ : Int, (wrap64 (6 + a1)) = j_ := ⟨_, rfl⟩
                              replace H : (if 0 ≤ (ji32) then (if (ji32) < (t350.length : Int) then (if 0 ≤ a1 then (if a1 < (l0_1.length : Int) then (some ((rd t350 (ji32)) == (rd l0_1 a1))) else (none)) else (none)) else (none)) else (none)) = some r := by first | (rw [hji32] at H; exact H) | (simp only [hji32] at H ⊢; exact H)
                              have hji32w : (IntKind.i64.wrap (6 + a1)) = ji32 := (i64_w _).trans hji32
                              by_cases c33 : 0 ≤ (ji32)
                              · rw [if_pos c33] at H
                                have c33b0 : decide (0 ≤ (ji32)) = true := decide_eq_true c33
                                clear c33
                                by_cases c34 : (ji32) < (t350.length : Int)
                                · rw [if_pos c34] at H
                                  have c34b0 : decide ((ji32) < (t350.length : Int)) = true := decide_eq_true c34
                                  clear c34
                                  by_cases c35 : 0 ≤ a1
                                  · rw [if_pos c35] at H
                                    have c35b0 : decide (0 ≤ a1) = true := decide_eq_true c35
                                    clear c35
                                    by_cases c36 : a1 < (l0_1.length : Int)
                                    · rw [if_pos c36] at H
                                      have c36b0 : decide (a1 < (l0_1.length : Int)) = true := decide_eq_true c36
                                      clear c36
                                      obtain rfl := Option.some.inj H
                                      obtain ⟨Ao37, co37, eo37⟩ := Kd.R_slice HO_6.out
                                      subst eo37
                                      have hcz38_0 : wc.cell? ⟨gb348, 0, none⟩ = some (.int .i64 a0_0) := (blk_cell BK348.out 0).trans rfl
                                      have hcz38_1 : wc.cell? ⟨gb348, 1, none⟩ = some (.slice A0_1 l0_1.length c0_1) := (blk_cell BK348.out 1).trans rfl
                                      have hfz38_0 := blk_frozen BK348.out 0
                                      have hfz38_1 := blk_frozen BK348.out 1
                                      have p354 : 0 ≤ (0 : Int) := (by omega)
                                      have q354 : 0 < (t350.length : Int) := of_decide_eq_true (by first | (with_reducible assumption) | assumption)
                                      obtain ⟨ad354, e354, hx354_0⟩ := Kd.at_int (Kd.R_reads' HO_6.out).2.2 0 p354 q354
                                      cases e354
                                      have qi354 : (0 < t350.length) = True := eq_true (by omega)
                                      (try rw [show ((0 : Int)).toNat = 0 from rfl] at hx354_0)
                                      (try rw [Addr.add_zero'] at hx354_0)
                                      replace p354 := eq_true p354
                                      replace q354 := eq_true q354
                                      have p355 : 0 ≤ (1 : Int) := (by omega)
                                      have q355 : 1 < (t350.length : Int) := of_decide_eq_true (by first | (with_reducible assumption) | assumption)
                                      obtain ⟨ad355, e355, hx355_0⟩ := Kd.at_int (Kd.R_reads' HO_6.out).2.2 1 p355 q355
                                      obtain rfl : ad354 = ad355 := (by injection e355)
                                      (try simp only [show (1 : Int).toNat = 1 from rfl, Nat.reduceMul, Nat.reduceEqDiff, Go.Addr.add, ↓reduceIte] at hx355_0)
                                      have qi355 : (1 < t350.length) = True := eq_true (by omega)
                                      (try rw [show ((1 : Int)).toNat = 1 from rfl] at hx355_0)
                                      replace p355 := eq_true p355
                                      replace q355 := eq_true q355
                                      have p356 : 0 ≤ ((ji32) : Int) := of_decide_eq_true (by first | (with_reducible assumption) | assumption)
                                      have q356 : (ji32) < (t350.length : Int) := of_decide_eq_true (by first | (with_reducible assumption) | assumption)
                                      obtain ⟨ad356, e356, hx356_0⟩ := Kd.at_int (Kd.R_reads' HO_6.out).2.2 (ji32) p356 q356
                                      obtain rfl : ad354 = ad356 := (by injection e356)
                                      replace p356 := eq_true p356
                                      replace q356 := eq_true q356
                                      have p357 : 0 ≤ (a1 : Int) := of_decide_eq_true (by first | (with_reducible assumption) | assumption)
                                      have q357 : a1 < (l0_1.length : Int) := of_decide_eq_true (by first | (with_reducible assumption) | assumption)
                                      obtain ⟨ad357, e357, hx357_0⟩ := Kd.at_int HR0_1.out a1 p357 q357
                                      cases e357
                                      replace hx357_0 := (HB.out.cell (World.block_lt_of_cell? w _ hx357_0)).trans hx357_0
                                      replace p357 := eq_true p357
                                      replace q357 := eq_true q357
                                      go_wp2
                                      repeat (go_quiet (fail); try go_wp2)
                                      go_ret
                                      exact ⟨by first | rfl | (simp [errW_none, errW_some] <;> rfl) | (simp only [← hji32]; first | rfl | (simp [errW_none, errW_some] <;> rfl)) | (simp [*, errW_none, errW_some] <;> rfl), by repeat (first | (with_reducible first | exact HB.out | apply below_alloc | apply pw_below_drewN | apply below_drew1 | refine below_set ?_ GE348.out) | exact HB.out)⟩
                                    · rw [if_neg c36] at H
                                      exact absurd H (by simp)
                                  · rw [if_neg c35] at H
                                    exact absurd H (by simp)
                                · rw [if_neg c34] at H
                                  exact absurd H (by simp)
                              · rw [if_neg c33] at H
                                exact absurd H (by simp)
                        · rw [if_neg c25] at H
                          have c25b0 : ((wrap64 (rd t350 1)) == (l0_1.length : Int)) = false := beq_eq_false_iff_ne.mpr c25
                          have c25b1 : ((wrap64 (rd t350 1)) != (l0_1.length : Int)) = true := bne_iff_ne.mpr c25
                          obtain rfl := Option.some.inj H
                          obtain ⟨Ao39, co39, eo39⟩ := Kd.R_slice HO_6.out
                          subst eo39
                          have hcz40_0 : wc.cell? ⟨gb348, 0, none⟩ = some (.int .i64 a0_0) := (blk_cell BK348.out 0).trans rfl
                          have hcz40_1 : wc.cell? ⟨gb348, 1, none⟩ = some (.slice A0_1 l0_1.length c0_1) := (blk_cell BK348.out 1).trans rfl
                          have hfz40_0 := blk_frozen BK348.out 0
                          have hfz40_1 := blk_frozen BK348.out 1
                          have p354 : 0 ≤ (0 : Int) := (by omega)
                          have q354 : 0 < (t350.length : Int) := of_decide_eq_true (by first | (with_reducible assumption) | assumption)
                          obtain ⟨ad354, e354, hx354_0⟩ := Kd.at_int (Kd.R_reads' HO_6.out).2.2 0 p354 q354
                          cases e354
                          have qi354 : (0 < t350.length) = True := eq_true (by omega)
                          (try rw [show ((0 : Int)).toNat = 0 from rfl] at hx354_0)
                          (try rw [Addr.add_zero'] at hx354_0)
                          replace p354 := eq_true p354
                          replace q354 := eq_true q354
                          have p355 : 0 ≤ (1 : Int) := (by omega)
                          have q355 : 1 < (t350.length : Int) := of_decide_eq_true (by first | (with_reducible assumption) | assumption)
                          obtain ⟨ad355, e355, hx355_0⟩ := Kd.at_int (Kd.R_reads' HO_6.out).2.2 1 p355 q355
                          obtain rfl : ad354 = ad355 := (by injection e355)
                          (try simp only [show (1 : Int).toNat = 1 from rfl, Nat.reduceMul, Nat.reduceEqDiff, Go.Addr.add, ↓reduceIte] at hx355_0)
                          have qi355 : (1 < t350.length) = True := eq_true (by omega)
                          (try rw [show ((1 : Int)).toNat = 1 from rfl] at hx355_0)
                          replace p355 := eq_true p355
                          replace q355 := eq_true q355
                          go_wp2
                          repeat (go_quiet (fail); try go_wp2)
                          go_ret
                          exact ⟨by first | rfl | (simp [errW_none, errW_some] <;> rfl) | (simp [*, errW_none, errW_some] <;> rfl), by repeat (first | (with_reducible first | exact HB.out | apply below_alloc | apply pw_below_drewN | apply below_drew1 | refine below_set ?_ GE348.out) | exact HB.out)⟩
                      · rw [if_neg c24] at H
                        exact absurd H (by simp)
                    · rw [if_neg c23] at H
                      have c23b0 : ((wrap64 (rd t350 0)) == a0_0) = false := beq_eq_false_iff_ne.mpr c23
                      have c23b1 : ((wrap64 (rd t350 0)) != a0_0) = true := bne_iff_ne.mpr c23
                      obtain rfl := Option.some.inj H
                      obtain ⟨Ao41, co41, eo41⟩ := Kd.R_slice HO_6.out
                      subst eo41
                      have hcz42_0 : wc.cell? ⟨gb348, 0, none⟩ = some (.int .i64 a0_0) := (blk_cell BK348.out 0).trans rfl
                      have hcz42_1 : wc.cell? ⟨gb348, 1, none⟩ = some (.slice A0_1 l0_1.length c0_1) := (blk_cell BK348.out 1).trans rfl
                      have hfz42_0 := blk_frozen BK348.out 0
                      have hfz42_1 := blk_frozen BK348.out 1
                      have p354 : 0 ≤ (0 : Int) := (by omega)
                      have q354 : 0 < (t350.length : Int) := of_decide_eq_true (by first | (with_reducible assumption) | assumption)
                      obtain ⟨ad354, e354, hx354_0⟩ := Kd.at_int (Kd.R_reads' HO_6.out).2.2 0 p354 q354
                      cases e354
                      have qi354 : (0 < t350.length) = True := eq_true (by omega)
                      (try rw [show ((0 : Int)).toNat = 0 from rfl] at hx354_0)
                      (try rw [Addr.add_zero'] at hx354_0)
                      replace p354 := eq_true p354
                      replace q354 := eq_true q354
                      go_wp2
                      repeat (go_quiet (fail); try go_wp2)
                      go_ret
                      exact ⟨by first | rfl | (simp [errW_none, errW_some] <;> rfl) | (simp [*, errW_none, errW_some] <;> rfl), by repeat (first | (with_reducible first | exact HB.out | apply below_alloc | apply pw_below_drewN | apply below_drew1 | refine below_set ?_ GE348.out) | exact HB.out)⟩
                  · rw [if_neg c22] at H
                    exact absurd H (by simp)
                · rw [if_neg c21] at H
                  have c21b0 : ((t350.length : Int) == (wrap64 ((l0_1.length : Int) + 10))) = false := beq_eq_false_iff_ne.mpr c21
                  have c21b1 : ((t350.length : Int) != (wrap64 ((l0_1.length : Int) + 10))) = true := bne_iff_ne.mpr c21
                  obtain rfl := Option.some.inj H
                  obtain ⟨Ao43, co43, eo43⟩ := Kd.R_slice HO_6.out
                  subst eo43
                  have hcz44_0 : wc.cell? ⟨gb348, 0, none⟩ = some (.int .i64 a0_0) := (blk_cell BK348.out 0).trans rfl
                  have hcz44_1 : wc.cell? ⟨gb348, 1, none⟩ = some (.slice A0_1 l0_1.length c0_1) := (blk_cell BK348.out 1).trans rfl
                  have hfz44_0 := blk_frozen BK348.out 0
                  have hfz44_1 := blk_frozen BK348.out 1
                  go_wp2
                  repeat (go_quiet (fail); try go_wp2)
                  go_ret
                  exact ⟨by first | rfl | (simp [errW_none, errW_some] <;> rfl) | (simp [*, errW_none, errW_some] <;> rfl), by repeat (first | (with_reducible first | exact HB.out | apply below_alloc | apply pw_below_drewN | apply below_drew1 | refine below_set ?_ GE348.out) | exact HB.out)⟩
              · replace c20 := Bool.eq_false_iff.mpr c20
                subst c20
                have H1 : (some false) = some r := by rw [if_neg (show ¬ (false = true) by decide)] at H; exact H
                clear H
                have H := H1
                clear H1
                obtain rfl := Option.some.inj H
                go_wp2
                repeat (go_quiet (fail); try go_wp2)
                go_ret
                exact ⟨by first | rfl | (simp [errW_none, errW_some] <;> rfl) | (simp [*, errW_none, errW_some] <;> rfl), by repeat (first | (with_reducible first | exact HB.out | apply below_alloc | apply pw_below_drewN | apply below_drew1 | refine below_set ?_ GE348.out) | exact HB.out)⟩
            · rw [if_neg c19] at H
              have c19b0 : (t353 == 0) = false := beq_eq_false_iff_ne.mpr c19
              have c19b1 : (t353 != 0) = true := bne_iff_ne.mpr c19
              by_cases c45 : t353 = 1
              · rw [if_pos c45] at H
                have c45b0 : (t353 == 1) = true := beq_iff_eq.mpr c45
                have c45b1 : (t353 != 1) = false := bne_eq_false_iff_eq.mpr c45
                clear c45
                by_cases c46 : (t350.length : Int) = 0
                · rw [if_pos c46] at H
                  have c46b0 : ((t350.length : Int) == 0) = true := beq_iff_eq.mpr c46
                  have c46b1 : ((t350.length : Int) != 0) = false := bne_eq_false_iff_eq.mpr c46
                  clear c46
                  obtain rfl := Option.some.inj H
                  obtain ⟨Ao47, co47, eo47⟩ := Kd.R_slice HO_6.out
                  subst eo47
                  go_wp2
                  repeat (go_quiet (fail); try go_wp2)
                  go_ret
                  exact ⟨by first | rfl | (simp [errW_none, errW_some] <;> rfl) | (simp [*, errW_none, errW_some] <;> rfl), by repeat (first | (with_reducible first | exact HB.out | apply below_alloc | apply pw_below_drewN | apply below_drew1 | refine below_set ?_ GE348.out) | exact HB.out)⟩
                · rw [if_neg c46] at H
                  have c46b0 : ((t350.length : Int) == 0) = false := beq_eq_false_iff_ne.mpr c46
                  have c46b1 : ((t350.length : Int) != 0) = true := bne_iff_ne.mpr c46
                  have c46b2 : ¬ (t350 = []) := fun h_ => c46 (by rw [h_]; rfl)
                  obtain rfl := Option.some.inj H
                  obtain ⟨Ao48, co48, eo48⟩ := Kd.R_slice HO_6.out
                  subst eo48
                  go_wp2
                  repeat (go_quiet (fail); try go_wp2)
                  go_ret
                  exact ⟨by first | rfl | (simp [errW_none, errW_some] <;> rfl) | (simp [*, errW_none, errW_some] <;> rfl), by repeat (first | (with_reducible first | exact HB.out | apply below_alloc | apply pw_below_drewN | apply below_drew1 | refine below_set ?_ GE348.out) | exact HB.out)⟩
              · rw [if_neg c45] at H
                have c45b0 : (t353 == 1) = false := beq_eq_false_iff_ne.mpr c45
                have c45b1 : (t353 != 1) = true := bne_iff_ne.mpr c45
                obtain rfl := Option.some.inj H
                go_wp2
                repeat (go_quiet (fail); try go_wp2)
                go_ret
                exact ⟨by first | rfl | (simp [errW_none, errW_some] <;> rfl) | (simp [*, errW_none, errW_some] <;> rfl), by repeat (first | (with_reducible first | exact HB.out | apply below_alloc | apply pw_below_drewN | apply below_drew1 | refine below_set ?_ GE348.out) | exact HB.out)⟩

end Go.Proofs.Ytjihemgadbpebaa.PAll
