-- Written by wip/tools/myprint.py, a program of the prover's own, over the kit's print; the contracts named 'HAND' there are typed by hand.
import Derived.Test.YtjihemgadbpebaaPTlx0
import Derived.Test.YtjihemgadbpebaaPTlx13
namespace Go.Proofs.Ytjihemgadbpebaa.PTl
open Go.RowKit Go.Proofs.YtjihemgadbpebaaW.PrintWords Go.Proofs.YtjihemgadbpebaaW.PrintLast Go.Proofs.YtjihemgadbpebaaW.PrintMore
attribute [local go_sem] max2_int min2_int max_two min_two max_three min_three max_four min_four   -- for this text's walks alone
set_option linter.unusedVariables false
set_option linter.unusedSimpArgs false

/-! ### foliateref03_Get: function 14 -/
def foliateref03_Get.f (k : Nat) (l0 : List Int) : Option (Int × List Int × Int × Int) := if (l0.length : Int) < 6 then (some (0, ([] : List Int), 0, 2)) else (if 6 ≤ (l0.length : Int) then ((foliateref02_Good.f k (l0.take 6)).bind fun t188 => (if t188 = true then (if 1 < (l0.length : Int) then (if (l0.length : Int) < (wrap64 ((wrap64 (6 + (wrap64 (rd l0 1)))) + 4)) then (some (0, ([] : List Int), 0, 2)) else (if 6 ≤ (wrap64 ((wrap64 (6 + (wrap64 (rd l0 1)))) + 4)) then (if (wrap64 ((wrap64 (6 + (wrap64 (rd l0 1)))) + 4)) ≤ (l0.length : Int) then ((foliateref02_Good.f k ((l0.take ((wrap64 ((wrap64 (6 + (wrap64 (rd l0 1)))) + 4)) : Int).toNat).drop 6)).bind fun t191 => (if t191 = true then (if 0 < (l0.length : Int) then (if 6 ≤ (wrap64 (6 + (wrap64 (rd l0 1)))) then (if (wrap64 (6 + (wrap64 (rd l0 1)))) ≤ (l0.length : Int) then (if ([] : List Int).length + ((l0.take ((wrap64 (6 + (wrap64 (rd l0 1)))) : Int).toNat).drop 6).length < 140737488355328 then (some (wrap64 (rd l0 0), (([] : List Int) ++ ((l0.take ((wrap64 (6 + (wrap64 (rd l0 1)))) : Int).toNat).drop 6)), wrap64 (10 + (wrap64 (rd l0 1))), 0)) else (none)) else (none)) else (none)) else (none)) else (some (0, ([] : List Int), 0, 3)))) else (none)) else (none))) else (none)) else (some (0, ([] : List Int), 0, 3)))) else (none))
theorem foliateref03_Get.mono : ∀ a0 k, LeO (foliateref03_Get.f k a0) (foliateref03_Get.f (k + 1) a0) := by
  intro a0 k
  unfold foliateref03_Get.f
  repeat' first
      | (with_reducible exact foliateref02_Good.mono _ _)
      | (with_reducible exact LeO.refl _)
      | (with_reducible exact LeO.none _)
      | (with_reducible refine LeO.ite ?_ ?_)
      | (with_reducible refine LeO.bind ?_ (fun _ => ?_))
      | exact foliateref02_Good.mono _ _
      | exact LeO.none _
      | refine LeO.ite ?_ ?_
      | refine LeO.bind ?_ (fun _ => ?_)
def foliateref03_Get.T12 : Bool × List (List Nat × List Nat) := (true, [([], []), ([0], [0]), ([1], [1]), ([2], [2]), ([], []), ([], []), ([5], [5]), ([4, 6], [4, 6]), ([7], [7]), ([3, 8], [3, 8]), ([], []), ([10], [10]), ([9, 8, 0, 1, 2, 3, 4, 5, 6, 7, 8, 9], [9]), ([11, 12, 0, 1, 2, 3, 4, 5, 6, 7, 8, 9, 10, 11, 12], [11]), ([13, 0, 1, 2, 3, 4, 5, 6, 7, 8, 9, 10, 11, 12, 13], [])])
def foliateref03_Get.B12 : List Nat := [0, 1, 3, 7, 0, 0, 32, 112, 240, 511, 0, 1024, 1023, 8191, 16383]
theorem foliateref03_Get.tab12 : rtab .any (opsOf Try.f14 12) = foliateref03_Get.T12 := by kernel_rfl
theorem foliateref03_Get.bits12 : waitsOk foliateref03_Get.T12.2 foliateref03_Get.B12 = true := by kernel_rfl
set_option maxHeartbeats 8000000 in
set_option maxRecDepth 100000 in
theorem foliateref03_Get.calls (k : Nat) (A0 : Option Addr) (c0 : Nat) (l0 : List Int) (r1 : Int) (r2 : List Int) (r3 : Int) (r4 : Int) (w : World) (hr0 : Kd.C (Kd.int .u8) w A0 l0.length l0) (hc0 : l0.length ≤ c0) (h : foliateref03_Get.f k l0 = some (r1, r2, r3, r4)) :
    Calls Try.prog 14 #[.slice A0 l0.length c0] w fun e w' => ∃ v1_ : Value, e = .returned (.tuple #[.agg #[.int .i64 r1, v1_], .int .i64 r3, .int .i64 r4]) ∧ Kd.R (Kd.int .u8) 5 w' w.heap.size (fun _ => True) v1_ r2 ∧ Below w.heap.size w w' := by
  have hu24 := Try.underlying24
  have HR0 := Aside0.mk hr0
  have HC0 := Aside0.mk hc0
  clear hr0 hc0
  have HB := Aside0.mk (Below.refl w.heap.size w)
  have H : (if (l0.length : Int) < 6 then (some (0, ([] : List Int), 0, 2)) else (if 6 ≤ (l0.length : Int) then ((foliateref02_Good.f k (l0.take 6)).bind fun t188 => (if t188 = true then (if 1 < (l0.length : Int) then (if (l0.length : Int) < (wrap64 ((wrap64 (6 + (wrap64 (rd l0 1)))) + 4)) then (some (0, ([] : List Int), 0, 2)) else (if 6 ≤ (wrap64 ((wrap64 (6 + (wrap64 (rd l0 1)))) + 4)) then (if (wrap64 ((wrap64 (6 + (wrap64 (rd l0 1)))) + 4)) ≤ (l0.length : Int) then ((foliateref02_Good.f k ((l0.take ((wrap64 ((wrap64 (6 + (wrap64 (rd l0 1)))) + 4)) : Int).toNat).drop 6)).bind fun t191 => (if t191 = true then (if 0 < (l0.length : Int) then (if 6 ≤ (wrap64 (6 + (wrap64 (rd l0 1)))) then (if (wrap64 (6 + (wrap64 (rd l0 1)))) ≤ (l0.length : Int) then (if ([] : List Int).length + ((l0.take ((wrap64 (6 + (wrap64 (rd l0 1)))) : Int).toNat).drop 6).length < 140737488355328 then (some (wrap64 (rd l0 0), (([] : List Int) ++ ((l0.take ((wrap64 (6 + (wrap64 (rd l0 1)))) : Int).toNat).drop 6)), wrap64 (10 + (wrap64 (rd l0 1))), 0)) else (none)) else (none)) else (none)) else (none)) else (some (0, ([] : List Int), 0, 3)))) else (none)) else (none))) else (none)) else (some (0, ([] : List Int), 0, 3)))) else (none))) = some (r1, r2, r3, r4) := h
  clear h
  by_cases c2 : (l0.length : Int) < 6
  · rw [if_pos c2] at H
    have c2b0 : decide ((l0.length : Int) < 6) = true := decide_eq_true c2
    have c2b1 : decide (l0.length < 6) = true := decide_eq_true (by omega)
    clear c2
    simp only [Option.some.injEq, Prod.mk.injEq] at H
    obtain ⟨rfl, rfl, rfl, rfl⟩ := H
    go_enter Try.func14, Try.ntmps14
    go_wp2_with (first | ((with_reducible refine gate_dst (N := 2) rfl ?_); refine box_event ?hg (N := 2) ?hd (cs := #[.int .i64 0, .slice none 0 0]) (t := 24) ?hr ?_; (case hd => rfl); (case hg => rfl); (case hr => first | (go_simp; done) | (go_simp; rfl)); intro gb186 hg w3 hbox hb; have n0_ := Aside0.mk (below_step (by repeat (first | (with_reducible first | exact HB.out | apply below_alloc | apply pw_below_drewN | apply below_drew1) | exact HB.out)) hb); have n1_ := Aside0.mk (hbox); have n2_ := Aside0.mk ((by rw [hg]; exact (below_size (by repeat (first | (with_reducible first | exact HB.out | apply below_alloc | apply pw_below_drewN | apply below_drew1) | exact HB.out))) : w.heap.size ≤ gb186)); have n3_ := Aside0.mk ((by rw [hg]; exact (below_size (by repeat (first | (with_reducible first | exact HB.out | apply below_alloc | apply pw_below_drewN | apply below_drew1) | exact HB.out))) : w.heap.size ≤ gb186)); clear HB; have HB := n0_; have BK186 := n1_; have GW186 := n2_; have GE186 := n3_; clear n0_ n1_ n2_ n3_; clear hb hbox hg; have hcz4_0 : w3.cell? ⟨gb186, 0, none⟩ = some (.int .i64 0) := (blk_cell BK186.out 0).trans rfl; have hcz4_1 : w3.cell? ⟨gb186, 1, none⟩ = some (.slice none 0 0) := (blk_cell BK186.out 1).trans rfl; have hfz4_0 := blk_frozen BK186.out 0; have hfz4_1 := blk_frozen BK186.out 1))
    refine bodyPost_ret (results_ctt rfl _ _ gb186 24 #[.int .i64 0, .slice none 0 0] (0, 0) _ rfl (by (with_reducible repeat (first | refine blk_drewN ?_ _ | refine blk_drew ?_ | refine blk_alloc ?_ _)); refine blk_put (cs := #[.int .i64 0, .slice none 0 0]) ?_ 1 _ rfl; (with_reducible repeat (first | refine blk_drewN ?_ _ | refine blk_drew ?_ | refine blk_alloc ?_ _)); refine blk_put (cs := #[.int .i64 0, .slice none 0 0]) ?_ 0 _ rfl; (with_reducible repeat (first | refine blk_drewN ?_ _ | refine blk_drew ?_ | refine blk_alloc ?_ _)); exact BK186.out) Try.underlying24 rfl (by kernel_rfl)) rfl ?_
    exact ⟨_, by first | rfl | (simp [errW_none, errW_some] <;> rfl) | (simp [*, errW_none, errW_some] <;> rfl), by first | exact Kd.R_nil _ _ _ _ _ | exact Kd.N_nil _ _ _ _ _ | exact Kd.V_nil _ _ _ _ _ | exact Kd.Q_nil _ _ _ _ _ | exact Kd.S_nil _ _ _ _ _, by repeat (first | (with_reducible first | exact HB.out | apply below_alloc | apply pw_below_drewN | apply below_drew1 | refine below_set ?_ GE186.out) | exact HB.out)⟩
  · rw [if_neg c2] at H
    have c2b0 : decide ((l0.length : Int) < 6) = false := decide_eq_false c2
    have c2b1 : decide (l0.length < 6) = false := decide_eq_false (by omega)
    clear c2
    by_cases c5 : 6 ≤ (l0.length : Int)
    · rw [if_pos c5] at H
      have c5b0 := eq_true c5
      have c5b1 : decide (6 ≤ (l0.length : Int)) = true := decide_eq_true c5
      clear c5
      replace H := Option.bind_eq_some_iff.mp H
      obtain ⟨t188, A60, H⟩ := H
      replace H : (if t188 = true then (if 1 < (l0.length : Int) then (if (l0.length : Int) < (wrap64 ((wrap64 (6 + (wrap64 (rd l0 1)))) + 4)) then (some (0, ([] : List Int), 0, 2)) else (if 6 ≤ (wrap64 ((wrap64 (6 + (wrap64 (rd l0 1)))) + 4)) then (if (wrap64 ((wrap64 (6 + (wrap64 (rd l0 1)))) + 4)) ≤ (l0.length : Int) then ((foliateref02_Good.f k ((l0.take ((wrap64 ((wrap64 (6 + (wrap64 (rd l0 1)))) + 4)) : Int).toNat).drop 6)).bind fun t191 => (if t191 = true then (if 0 < (l0.length : Int) then (if 6 ≤ (wrap64 (6 + (wrap64 (rd l0 1)))) then (if (wrap64 (6 + (wrap64 (rd l0 1)))) ≤ (l0.length : Int) then (if ([] : List Int).length + ((l0.take ((wrap64 (6 + (wrap64 (rd l0 1)))) : Int).toNat).drop 6).length < 140737488355328 then (some (wrap64 (rd l0 0), (([] : List Int) ++ ((l0.take ((wrap64 (6 + (wrap64 (rd l0 1)))) : Int).toNat).drop 6)), wrap64 (10 + (wrap64 (rd l0 1))), 0)) else (none)) else (none)) else (none)) else (none)) else (some (0, ([] : List Int), 0, 3)))) else (none)) else (none))) else (none)) else (some (0, ([] : List Int), 0, 3))) = some (r1, r2, r3, r4) := H
      have A6 := Aside0.mk A60
      clear A60
      by_cases c7 : t188 = true
      · subst c7
        have H1 : (if 1 < (l0.length : Int) then (if (l0.length : Int) < (wrap64 ((wrap64 (6 + (wrap64 (rd l0 1)))) + 4)) then (some (0, ([] : List Int), 0, 2)) else (if 6 ≤ (wrap64 ((wrap64 (6 + (wrap64 (rd l0 1)))) + 4)) then (if (wrap64 ((wrap64 (6 + (wrap64 (rd l0 1)))) + 4)) ≤ (l0.length : Int) then ((foliateref02_Good.f k ((l0.take ((wrap64 ((wrap64 (6 + (wrap64 (rd l0 1)))) + 4)) : Int).toNat).drop 6)).bind fun t191 => (if t191 = true then (if 0 < (l0.length : Int) then (if 6 ≤ (wrap64 (6 + (wrap64 (rd l0 1)))) then (if (wrap64 (6 + (wrap64 (rd l0 1)))) ≤ (l0.length : Int) then (if ([] : List Int).length + ((l0.take ((wrap64 (6 + (wrap64 (rd l0 1)))) : Int).toNat).drop 6).length < 140737488355328 then (some (wrap64 (rd l0 0), (([] : List Int) ++ ((l0.take ((wrap64 (6 + (wrap64 (rd l0 1)))) : Int).toNat).drop 6)), wrap64 (10 + (wrap64 (rd l0 1))), 0)) else (none)) else (none)) else (none)) else (none)) else (some (0, ([] : List Int), 0, 3)))) else (none)) else (none))) else (none)) = some (r1, r2, r3, r4) := by rw [if_pos rfl] at H; exact H
        clear H
        have H := H1
        clear H1
        by_cases c8 : 1 < (l0.length : Int)
        · rw [if_pos c8] at H
          have c8b0 : decide (1 < (l0.length : Int)) = true := decide_eq_true c8
          have c8b1 : decide (1 < l0.length) = true := decide_eq_true (by omega)
          clear c8
          by_cases c9 : (l0.length : Int) < (wrap64 ((wrap64 (6 + (wrap64 (rd l0 1)))) + 4))
          · rw [if_pos c9] at H
            have c9b0 : decide ((l0.length : Int) < (wrap64 ((wrap64 (6 + (wrap64 (rd l0 1)))) + 4))) = true := decide_eq_true c9
            clear c9
            simp only [Option.some.injEq, Prod.mk.injEq] at H
            obtain ⟨rfl, rfl, rfl, rfl⟩ := H
            go_enter Try.func14, Try.ntmps14
            go_wp2_with (first | ((with_reducible refine gate_dst (N := 2) rfl ?_); refine box_event ?hg (N := 2) ?hd (cs := #[.int .i64 0, .slice none 0 0]) (t := 24) ?hr ?_; (case hd => rfl); (case hg => rfl); (case hr => first | (go_simp; done) | (go_simp; rfl)); intro gb186 hg w10 hbox hb; have n0_ := Aside0.mk (below_step (by repeat (first | (with_reducible first | exact HB.out | apply below_alloc | apply pw_below_drewN | apply below_drew1) | exact HB.out)) hb); have n1_ := Aside0.mk (hbox); have n2_ := Aside0.mk ((by rw [hg]; exact (below_size (by repeat (first | (with_reducible first | exact HB.out | apply below_alloc | apply pw_below_drewN | apply below_drew1) | exact HB.out))) : w.heap.size ≤ gb186)); have n3_ := Aside0.mk ((by rw [hg]; exact (below_size (by repeat (first | (with_reducible first | exact HB.out | apply below_alloc | apply pw_below_drewN | apply below_drew1) | exact HB.out))) : w.heap.size ≤ gb186)); clear HB; have HB := n0_; have BK186 := n1_; have GW186 := n2_; have GE186 := n3_; clear n0_ n1_ n2_ n3_; clear hb hbox hg; obtain ⟨i011, hi011, _, hsz11, _⟩ := info_parts info5; obtain ⟨hcut11, hA11, hC11⟩ := print_take_of (P := Try.prog) (Value.int .u8) 0 22 5 .i64 Try.underlying22 hi011 hsz11 A0 c0 l0 6 (by omega) (of_decide_eq_true (by first | (with_reducible assumption) | assumption)) HC0.out; have HR187 := Aside0.mk (Kd.C_of_reads (h1 := fun _ => rfl) (hA11 _ (Kd.reads_of_C HR0.out))); have HC187 := Aside0.mk hC11; clear hA11 hC11 hi011 hsz11) | ((with_reducible refine gate_callee (f := 26) rfl ?_); refine goesL_ (some 14) rfl rfl Try.func26 (by kernel_rfl) rfl #[.slice A0 (l0.take 6).length c0] rfl (by (try simp only [List.map_toArray, List.map_cons, List.map_nil]); first | done | (rw [show (l0.take 6).length = 6 from (by rw [List.length_take]; have h_ : (6 : Int) ≤ (l0.length : Int) := of_decide_eq_true (by first | (with_reducible assumption) | assumption); omega)] <;> rfl) | rfl | (simp only [List.length_drop, List.length_take]; rfl)) ?_; (with_reducible refine (foliateref02_Good.calls k _ _ (l0.take 6) true _ ?side1 ?side2 A6.out).mono ?_); (case side1 => repeat (first | exact (Kd.C_below HR187.out HB.out) | (with_reducible refine Kd.C_alloc ?_ _) | (with_reducible refine Kd.C_drewN ?_ _) | (with_reducible refine Kd.C_drew ?_))); (case side2 => exact HC187.out); rintro e w12 ⟨rfl, hb⟩; refine ⟨_, rfl, ?_⟩; have n0_ := Aside0.mk (blk_below (g := gb186) (o := .cells #[.int .i64 0, .slice none 0 0] 24 (0, 0)) (by (with_reducible repeat (first | refine blk_drewN ?_ _ | refine blk_drew ?_ | refine blk_alloc ?_ _)); exact BK186.out) hb); have n1_ := Aside0.mk (below_step (by repeat (first | (with_reducible first | exact HB.out | apply below_alloc | apply pw_below_drewN | apply below_drew1 | refine below_set ?_ GE186.out) | exact HB.out)) hb); clear BK186; clear HB; have BK186 := n0_; have HB := n1_; clear n0_ n1_; (try clear hb); (try clear hb2); (try clear hk); (try clear hi); have p189 : 0 ≤ (1 : Int) := (by omega); have q189 : 1 < (l0.length : Int) := of_decide_eq_true (by first | (with_reducible assumption) | assumption); obtain ⟨ad189, e189, hx189_0⟩ := Kd.at_int HR0.out 1 p189 q189; cases e189; (try simp only [show (1 : Int).toNat = 1 from rfl, Nat.reduceMul, Nat.reduceEqDiff, Go.Addr.add, ↓reduceIte] at hx189_0); have qi189 : (1 < l0.length) = True := eq_true (by omega); (try rw [show ((1 : Int)).toNat = 1 from rfl] at hx189_0); replace hx189_0 := (HB.out.cell (World.block_lt_of_cell? w _ hx189_0)).trans hx189_0; replace p189 := eq_true p189; replace q189 := eq_true q189; have hcz13_0 : w12.cell? ⟨gb186, 0, none⟩ = some (.int .i64 0) := (blk_cell BK186.out 0).trans rfl; have hcz13_1 : w12.cell? ⟨gb186, 1, none⟩ = some (.slice none 0 0) := (blk_cell BK186.out 1).trans rfl; have hfz13_0 := blk_frozen BK186.out 0; have hfz13_1 := blk_frozen BK186.out 1))
            refine bodyPost_ret (results_ctt rfl _ _ gb186 24 #[.int .i64 0, .slice none 0 0] (0, 0) _ rfl (by (with_reducible repeat (first | refine blk_drewN ?_ _ | refine blk_drew ?_ | refine blk_alloc ?_ _)); refine blk_put (cs := #[.int .i64 0, .slice none 0 0]) ?_ 1 _ rfl; (with_reducible repeat (first | refine blk_drewN ?_ _ | refine blk_drew ?_ | refine blk_alloc ?_ _)); refine blk_put (cs := #[.int .i64 0, .slice none 0 0]) ?_ 0 _ rfl; (with_reducible repeat (first | refine blk_drewN ?_ _ | refine blk_drew ?_ | refine blk_alloc ?_ _)); exact BK186.out) Try.underlying24 rfl (by kernel_rfl)) rfl ?_
            exact ⟨_, by first | rfl | (simp [errW_none, errW_some] <;> rfl) | (simp [*, errW_none, errW_some] <;> rfl), by first | exact Kd.R_nil _ _ _ _ _ | exact Kd.N_nil _ _ _ _ _ | exact Kd.V_nil _ _ _ _ _ | exact Kd.Q_nil _ _ _ _ _ | exact Kd.S_nil _ _ _ _ _, by repeat (first | (with_reducible first | exact HB.out | apply below_alloc | apply pw_below_drewN | apply below_drew1 | refine below_set ?_ GE186.out) | exact HB.out)⟩
          · rw [if_neg c9] at H
            have c9b0 : decide ((l0.length : Int) < (wrap64 ((wrap64 (6 + (wrap64 (rd l0 1)))) + 4))) = false := decide_eq_false c9
            clear c9
            by_cases c14 : 6 ≤ (wrap64 ((wrap64 (6 + (wrap64 (rd l0 1)))) + 4))
            · rw [if_pos c14] at H
              have c14b0 := eq_true c14
              have c14b1 : decide (6 ≤ (wrap64 ((wrap64 (6 + (wrap64 (rd l0 1)))) + 4))) = true := decide_eq_true c14
              by_cases c15 : (wrap64 ((wrap64 (6 + (wrap64 (rd l0 1)))) + 4)) ≤ (l0.length : Int)
              · rw [if_pos c15] at H
                have c15b0 := eq_true c15
                have c15b1 : decide ((wrap64 ((wrap64 (6 + (wrap64 (rd l0 1)))) + 4)) ≤ (l0.length : Int)) = true := decide_eq_true c15
                replace H := Option.bind_eq_some_iff.mp H
                obtain ⟨t191, A160, H⟩ := H
                replace H : (if t191 = true then (if 0 < (l0.length : Int) then (if 6 ≤ (wrap64 (6 + (wrap64 (rd l0 1)))) then (if (wrap64 (6 + (wrap64 (rd l0 1)))) ≤ (l0.length : Int) then (if ([] : List Int).length + ((l0.take ((wrap64 (6 + (wrap64 (rd l0 1)))) : Int).toNat).drop 6).length < 140737488355328 then (some (wrap64 (rd l0 0), (([] : List Int) ++ ((l0.take ((wrap64 (6 + (wrap64 (rd l0 1)))) : Int).toNat).drop 6)), wrap64 (10 + (wrap64 (rd l0 1))), 0)) else (none)) else (none)) else (none)) else (none)) else (some (0, ([] : List Int), 0, 3))) = some (r1, r2, r3, r4) := H
                have A16 := Aside0.mk A160
                clear A160
                by_cases c17 : t191 = true
                · subst c17
                  have H1 : (if 0 < (l0.length : Int) then (if 6 ≤ (wrap64 (6 + (wrap64 (rd l0 1)))) then (if (wrap64 (6 + (wrap64 (rd l0 1)))) ≤ (l0.length : Int) then (if ([] : List Int).length + ((l0.take ((wrap64 (6 + (wrap64 (rd l0 1)))) : Int).toNat).drop 6).length < 140737488355328 then (some (wrap64 (rd l0 0), (([] : List Int) ++ ((l0.take ((wrap64 (6 + (wrap64 (rd l0 1)))) : Int).toNat).drop 6)), wrap64 (10 + (wrap64 (rd l0 1))), 0)) else (none)) else (none)) else (none)) else (none)) = some (r1, r2, r3, r4) := by rw [if_pos rfl] at H; exact H
                  clear H
                  have H := H1
                  clear H1
                  by_cases c18 : 0 < (l0.length : Int)
                  · rw [if_pos c18] at H
                    have c18b0 : decide (0 < (l0.length : Int)) = true := decide_eq_true c18
                    have c18b1 : decide (0 < l0.length) = true := decide_eq_true (by omega)
                    clear c18
                    by_cases c19 : 6 ≤ (wrap64 (6 + (wrap64 (rd l0 1))))
                    · rw [if_pos c19] at H
                      have c19b0 := eq_true c19
                      have c19b1 : decide (6 ≤ (wrap64 (6 + (wrap64 (rd l0 1))))) = true := decide_eq_true c19
                      by_cases c20 : (wrap64 (6 + (wrap64 (rd l0 1)))) ≤ (l0.length : Int)
                      · rw [if_pos c20] at H
                        have c20b0 := eq_true c20
                        have c20b1 : decide ((wrap64 (6 + (wrap64 (rd l0 1)))) ≤ (l0.length : Int)) = true := decide_eq_true c20
                        by_cases c21 : ([] : List Int).length + ((l0.take ((wrap64 (6 + (wrap64 (rd l0 1)))) : Int).toNat).drop 6).length < 140737488355328
                        · rw [if_pos c21] at H
                          have LMc21 := Aside0.mk c21
                          clear c21
                          obtain ⟨y194, hy194⟩ : ∃ y_ : List Int, y_ = (([] : List Int) ++ ((l0.take ((wrap64 (6 + (wrap64 (rd l0 1)))) : Int).toNat).drop 6)) := ⟨_, rfl⟩
                          replace H : (some (wrap64 (rd l0 0), y194, wrap64 (10 + (wrap64 (rd l0 1))), 0)) = some (r1, r2, r3, r4) := by first | (rw [hy194]; with_reducible exact H) | (have H2_ := (Option.bind_some _ _).symm.trans H; rw [hy194]; with_reducible exact H2_) | (have H2_ := (Option.bind_some _ _).symm.trans H; with_reducible exact H2_) | with_reducible exact H | (rw [hy194]; exact H) | exact H
                          have Ny194 := Aside0.mk hy194
                          clear hy194
                          simp only [Option.some.injEq, Prod.mk.injEq] at H
                          obtain ⟨rfl, rfl, rfl, rfl⟩ := H
                          go_enter Try.func14, Try.ntmps14
                          try go_wp2_with (first | ((with_reducible refine gate_dst (N := 2) rfl ?_); refine box_event ?hg (N := 2) ?hd (cs := #[.int .i64 0, .slice none 0 0]) (t := 24) ?hr ?_; (case hd => rfl); (case hg => rfl); (case hr => first | (go_simp; done) | (go_simp; rfl)); intro gb186 hg w22 hbox hb; have n0_ := Aside0.mk (below_step (by repeat (first | (with_reducible first | exact HB.out | apply below_alloc | apply pw_below_drewN | apply below_drew1) | exact HB.out)) hb); have n1_ := Aside0.mk (hbox); have n2_ := Aside0.mk ((by rw [hg]; exact (below_size (by repeat (first | (with_reducible first | exact HB.out | apply below_alloc | apply pw_below_drewN | apply below_drew1) | exact HB.out))) : w.heap.size ≤ gb186)); have n3_ := Aside0.mk ((by rw [hg]; exact (below_size (by repeat (first | (with_reducible first | exact HB.out | apply below_alloc | apply pw_below_drewN | apply below_drew1) | exact HB.out))) : w.heap.size ≤ gb186)); clear HB; have HB := n0_; have BK186 := n1_; have GW186 := n2_; have GE186 := n3_; clear n0_ n1_ n2_ n3_; clear hb hbox hg; obtain ⟨i023, hi023, _, hsz23, _⟩ := info_parts info5; obtain ⟨hcut23, hA23, hC23⟩ := print_take_of (P := Try.prog) (Value.int .u8) 0 22 5 .i64 Try.underlying22 hi023 hsz23 A0 c0 l0 6 (by omega) (of_decide_eq_true (by first | (with_reducible assumption) | assumption)) HC0.out; have HR187 := Aside0.mk (Kd.C_of_reads (h1 := fun _ => rfl) (hA23 _ (Kd.reads_of_C HR0.out))); have HC187 := Aside0.mk hC23; clear hA23 hC23 hi023 hsz23) | ((with_reducible refine gate_callee (f := 26) rfl ?_); refine goesL_ (some 14) rfl rfl Try.func26 (by kernel_rfl) rfl #[.slice A0 (l0.take 6).length c0] rfl (by (try simp only [List.map_toArray, List.map_cons, List.map_nil]); first | done | (rw [show (l0.take 6).length = 6 from (by rw [List.length_take]; have h_ : (6 : Int) ≤ (l0.length : Int) := of_decide_eq_true (by first | (with_reducible assumption) | assumption); omega)] <;> rfl) | rfl | (simp only [List.length_drop, List.length_take]; rfl)) ?_; (with_reducible refine (foliateref02_Good.calls k _ _ (l0.take 6) true _ ?side1 ?side2 A6.out).mono ?_); (case side1 => repeat (first | exact (Kd.C_below HR187.out HB.out) | (with_reducible refine Kd.C_alloc ?_ _) | (with_reducible refine Kd.C_drewN ?_ _) | (with_reducible refine Kd.C_drew ?_))); (case side2 => exact HC187.out); rintro e w24 ⟨rfl, hb⟩; refine ⟨_, rfl, ?_⟩; have n0_ := Aside0.mk (blk_below (g := gb186) (o := .cells #[.int .i64 0, .slice none 0 0] 24 (0, 0)) (by (with_reducible repeat (first | refine blk_drewN ?_ _ | refine blk_drew ?_ | refine blk_alloc ?_ _)); exact BK186.out) hb); have n1_ := Aside0.mk (below_step (by repeat (first | (with_reducible first | exact HB.out | apply below_alloc | apply pw_below_drewN | apply below_drew1 | refine below_set ?_ GE186.out) | exact HB.out)) hb); clear BK186; clear HB; have BK186 := n0_; have HB := n1_; clear n0_ n1_; (try clear hb); (try clear hb2); (try clear hk); (try clear hi); have p189 : 0 ≤ (1 : Int) := (by omega); have q189 : 1 < (l0.length : Int) := of_decide_eq_true (by first | (with_reducible assumption) | assumption); obtain ⟨ad189, e189, hx189_0⟩ := Kd.at_int HR0.out 1 p189 q189; cases e189; (try simp only [show (1 : Int).toNat = 1 from rfl, Nat.reduceMul, Nat.reduceEqDiff, Go.Addr.add, ↓reduceIte] at hx189_0); have qi189 : (1 < l0.length) = True := eq_true (by omega); (try rw [show ((1 : Int)).toNat = 1 from rfl] at hx189_0); replace hx189_0 := (HB.out.cell (World.block_lt_of_cell? w _ hx189_0)).trans hx189_0; replace p189 := eq_true p189; replace q189 := eq_true q189; obtain ⟨i025, hi025, _, hsz25, _⟩ := info_parts info5; obtain ⟨A25, hcut25, hA25, hC25⟩ := print_mid_of (P := Try.prog) (Value.int .u8) 0 22 5 .i64 .i64 Try.underlying22 hi025 hsz25 (some ad189) c0 l0 6 (wrap64 ((wrap64 (6 + (wrap64 (rd l0 1)))) + 4)) (by omega) (by first | omega | exact of_decide_eq_true (by first | (with_reducible assumption) | assumption)) (of_decide_eq_true (by first | (with_reducible assumption) | assumption)) HC0.out; have HR190 := Aside0.mk (Kd.C_of_reads (h1 := fun _ => rfl) (hA25 _ (Kd.reads_of_C HR0.out))); have HC190 := Aside0.mk hC25; clear hA25 hC25 hi025 hsz25) | ((with_reducible refine gate_callee (f := 26) rfl ?_); refine goesL_ (some 34) rfl rfl Try.func26 (by kernel_rfl) rfl #[.slice A25 ((l0.take ((wrap64 ((wrap64 (6 + (wrap64 (rd l0 1)))) + 4)) : Int).toNat).drop 6).length (c0 - 6)] rfl (by (try simp only [List.map_toArray, List.map_cons, List.map_nil]); first | done | (rw [show ((l0.take ((wrap64 ((wrap64 (6 + (wrap64 (rd l0 1)))) + 4)) : Int).toNat).drop 6).length = ((wrap64 ((wrap64 (6 + (wrap64 (rd l0 1)))) + 4)).toNat - 6) from (by rw [List.length_drop, List.length_take]; have h_ : ((wrap64 ((wrap64 (6 + (wrap64 (rd l0 1)))) + 4)) : Int) ≤ (l0.length : Int) := of_decide_eq_true (by first | (with_reducible assumption) | assumption); omega)] <;> rfl) | rfl | (simp only [List.length_drop, List.length_take]; rfl)) ?_; (with_reducible refine (foliateref02_Good.calls k _ _ ((l0.take ((wrap64 ((wrap64 (6 + (wrap64 (rd l0 1)))) + 4)) : Int).toNat).drop 6) true _ ?side1 ?side2 A16.out).mono ?_); (case side1 => repeat (first | exact (Kd.C_below HR190.out HB.out) | (with_reducible refine Kd.C_alloc ?_ _) | (with_reducible refine Kd.C_drewN ?_ _) | (with_reducible refine Kd.C_drew ?_))); (case side2 => exact HC190.out); rintro e w26 ⟨rfl, hb⟩; refine ⟨_, rfl, ?_⟩; have n0_ := Aside0.mk (blk_below (g := gb186) (o := .cells #[.int .i64 0, .slice none 0 0] 24 (0, 0)) (by (with_reducible repeat (first | refine blk_drewN ?_ _ | refine blk_drew ?_ | refine blk_alloc ?_ _)); exact BK186.out) hb); have n1_ := Aside0.mk (below_step (by repeat (first | (with_reducible first | exact HB.out | apply below_alloc | apply pw_below_drewN | apply below_drew1 | refine below_set ?_ GE186.out) | exact HB.out)) hb); clear BK186; clear HB; have BK186 := n0_; have HB := n1_; clear n0_ n1_; (try clear hb); (try clear hb2); (try clear hk); (try clear hi)))
                          have n0_ := Aside0.mk (blk_drew BK186.out)
                          have n1_ := Aside0.mk (below_drew1 HB.out)
                          clear BK186
                          clear HB
                          have BK186 := n0_
                          have HB := n1_
                          clear n0_ n1_
                          have p192 : 0 ≤ (0 : Int) := (by omega)
                          have q192 : 0 < (l0.length : Int) := of_decide_eq_true (by first | (with_reducible assumption) | assumption)
                          obtain ⟨ad192, e192, hx192_0⟩ := Kd.at_int HR0.out 0 p192 q192
                          have hw192_0 := hx192_0
                          (try rw [show ((0 : Int)).toNat = 0 from rfl] at hw192_0)
                          (try rw [show 0 * 1 = 0 from rfl] at hw192_0)
                          (try rw [Addr.add_zero'] at hw192_0)
                          obtain rfl : ad189 = ad192 := (by injection e192)
                          have qi192 : (0 < l0.length) = True := eq_true (by omega)
                          (try rw [show ((0 : Int)).toNat = 0 from rfl] at hx192_0)
                          (try rw [Addr.add_zero'] at hx192_0)
                          replace hx192_0 := (HB.out.cell (World.block_lt_of_cell? w _ hx192_0)).trans hx192_0
                          replace p192 := eq_true p192
                          replace q192 := eq_true q192
                          obtain ⟨i028, hi028, _, hsz28, _⟩ := info_parts info5
                          obtain ⟨A28, hcut28, hA28, hC28⟩ := print_mid_of (P := Try.prog) (Value.int .u8) 0 22 5 .i64 .i64 Try.underlying22 hi028 hsz28 (some ad189) c0 l0 6 (wrap64 (6 + (wrap64 (rd l0 1)))) (by omega) (by first | omega | exact of_decide_eq_true (by first | (with_reducible assumption) | assumption)) (of_decide_eq_true (by first | (with_reducible assumption) | assumption)) HC0.out
                          have HR193 := Aside0.mk (Kd.C_of_reads (h1 := fun _ => rfl) (hA28 _ (Kd.reads_of_C HR0.out)))
                          have HC193 := Aside0.mk hC28
                          clear hA28 hC28 hi028 hsz28
                          refine start_ (n := 15) (S := fun w' => w'.cell? ad189 = some (.int .u8 (rd l0 0))) (ds := []) #[false, false, false, false, false, false, false, false, false, false, false, false, false, false, false] (by kernel_rfl) rfl rfl (((HB.out.cell (World.block_lt_of_cell? w _ hw192_0)).trans hw192_0)) (fun hHeld => ?_); refine with_tabW foliateref03_Get.tab12 foliateref03_Get.bits12 (fun HT_ HW_ => ?_)
                          generalize w26.drew = w27 at BK186 HB HR193 hx192_0 hHeld ⊢
                          refine pure_ (i := 0) (N := some 38) (v := ?_) (a' := ?_) #[true, false, false, false, false, false, false, false, false, false, false, false, false, false, false] rfl rfl (any_of HT_.out (by kernel_rfl)) (fun _ _ _ h => h) (Or.inl ⟨by rfl, ?_⟩) ?_ ?_
                          rotate_left
                          · intro w'
                            go_simp
                            with_reducible rfl
                          rotate_left
                          · simp only [Act.put, List.setIfInBounds_toArray, List.set_cons_zero, List.set_cons_succ, i64_w, i32_w]
                            rfl
                          refine pure_ (i := 1) (N := some 39) (v := ?_) (a' := ?_) #[true, true, false, false, false, false, false, false, false, false, false, false, false, false, false] rfl rfl (any_of HT_.out (by kernel_rfl)) (fun _ _ _ h => h) (Or.inl ⟨by rfl, ?_⟩) ?_ ?_
                          rotate_left
                          · intro w'
                            go_simp
                            with_reducible rfl
                          rotate_left
                          · simp only [Act.put, List.setIfInBounds_toArray, List.set_cons_zero, List.set_cons_succ, i64_w, i32_w]
                            rfl
                          refine pure_ (i := 4) (N := some 42) (v := ?_) (a' := ?_) #[true, true, false, false, true, false, false, false, false, false, false, false, false, false, false] rfl rfl (any_of HT_.out (by kernel_rfl)) (fun _ _ _ h => h) (Or.inl ⟨by rfl, ?_⟩) ?_ ?_
                          rotate_left
                          · intro w'
                            go_simp
                            with_reducible rfl
                          rotate_left
                          · simp only [Act.put, List.setIfInBounds_toArray, List.set_cons_zero, List.set_cons_succ, i64_w, i32_w]
                            rfl
                          refine pure_ (i := 5) (N := some 43) (v := ?_) (a' := ?_) #[true, true, false, false, true, true, false, false, false, false, false, false, false, false, false] rfl rfl (any_of HT_.out (by kernel_rfl)) (fun _ _ _ h => h) (Or.inl ⟨by rfl, ?_⟩) ?_ ?_
                          rotate_left
                          · intro w'
                            go_simp
                            with_reducible rfl
                          rotate_left
                          · simp only [Act.put, List.setIfInBounds_toArray, List.set_cons_zero, List.set_cons_succ, i64_w, i32_w]
                            rfl
                          refine pure_ (i := 6) (N := some 44) (v := ?_) (a' := ?_) #[true, true, false, false, true, true, true, false, false, false, false, false, false, false, false] rfl rfl (any_of HT_.out (by kernel_rfl)) (fun _ _ _ h => h) (Or.inl ⟨by rfl, ?_⟩) ?_ ?_
                          rotate_left
                          · intro w'
                            go_simp
                            with_reducible rfl
                          rotate_left
                          · simp only [Act.put, List.setIfInBounds_toArray, List.set_cons_zero, List.set_cons_succ, i64_w, i32_w]
                            rfl
                          refine pure_ (i := 7) (N := some 45) (v := ?_) (a' := ?_) #[true, true, false, false, true, true, true, true, false, false, false, false, false, false, false] rfl rfl (any_of HT_.out (by kernel_rfl)) (fun _ _ _ h => h) (Or.inl ⟨by rfl, ?_⟩) ?_ ?_
                          rotate_left
                          · intro w'
                            go_simp
                            with_reducible rfl
                          rotate_left
                          · simp only [Act.put, List.setIfInBounds_toArray, List.set_cons_zero, List.set_cons_succ, i64_w, i32_w]
                            rfl
                          refine pure_ (i := 10) (N := some 48) (v := ?_) (a' := ?_) #[true, true, false, false, true, true, true, true, false, false, true, false, false, false, false] rfl rfl (any_of HT_.out (by kernel_rfl)) (fun _ _ _ h => h) (Or.inl ⟨by rfl, ?_⟩) ?_ ?_
                          rotate_left
                          · intro w'
                            go_simp
                            with_reducible rfl
                          rotate_left
                          · simp only [Act.put, List.setIfInBounds_toArray, List.set_cons_zero, List.set_cons_succ, i64_w, i32_w]
                            rfl
                          refine pure_ (i := 11) (N := some 49) (v := ?_) (a' := ?_) #[true, true, false, false, true, true, true, true, false, false, true, true, false, false, false] rfl rfl (any_of HT_.out (by kernel_rfl)) (fun _ _ _ h => h) (Or.inl ⟨by rfl, ?_⟩) ?_ ?_
                          rotate_left
                          · intro w'
                            go_simp
                            with_reducible rfl
                          rotate_left
                          · simp only [Act.put, List.setIfInBounds_toArray, List.set_cons_zero, List.set_cons_succ, i64_w, i32_w]
                            rfl
                          refine take_ (i := 2) (N := some 40) (v := ?_) (a' := ?_) #[true, true, true, false, true, true, true, true, false, false, true, true, false, false, false] rfl rfl (take_ofW HT_.out HW_.out (by kernel_rfl)) (fun _ _ _ h => h) (Or.inl ⟨by rfl, ?_⟩) hHeld ?_ ?_
                          rotate_left
                          · intro w' s0
                            go_simp
                            with_reducible rfl
                          rotate_left
                          · simp only [Act.put, List.setIfInBounds_toArray, List.set_cons_zero, List.set_cons_succ, i64_w, i32_w]
                            rfl
                          refine pure_ (i := 3) (N := some 41) (v := ?_) (a' := ?_) #[true, true, true, true, true, true, true, true, false, false, true, true, false, false, false] rfl rfl (any_of HT_.out (by kernel_rfl)) (fun _ _ _ h => h) (Or.inl ⟨by rfl, ?_⟩) ?_ ?_
                          rotate_left
                          · intro w'
                            go_simp
                            with_reducible rfl
                          rotate_left
                          · simp only [Act.put, List.setIfInBounds_toArray, List.set_cons_zero, List.set_cons_succ, i64_w, i32_w]
                            rfl
                          refine one_ (i := 8) (N := some 46) #[true, true, true, true, true, true, true, true, true, false, true, true, false, false, false] rfl rfl (one_of HT_.out (by kernel_rfl)) (by decide) (fun K hK => ?_)
                          refine Kd.R_append_rows_step (Kd.int .u8) (w0 := w) w.heap.size (by rfl) (.const (.slice none 0 0)) (.tmp 45) 22 5 (.int .u8 0) 1 rfl Try.underlying22 info5 rfl (by decide) (by omega) (.slice none 0 0) ([] : List Int) ((l0.take ((wrap64 (6 + (wrap64 (rd l0 1)))) : Int).toNat).drop 6) _ _ _ (fun _ => True) (fun _ => False) rfl rfl ?aO ?aR (fun _ _ h => h) (fun _ h => h.elim) ?aF ?aB ?aS ?aL ?_
                          (case aR => first | (rw [← show ((l0.take ((wrap64 (6 + (wrap64 (rd l0 1)))) : Int).toNat).drop 6).length = ((wrap64 (6 + (wrap64 (rd l0 1)))).toNat - 6) from (by rw [List.length_drop, List.length_take]; have h_ : ((wrap64 (6 + (wrap64 (rd l0 1)))) : Int) ≤ (l0.length : Int) := of_decide_eq_true (by first | (with_reducible assumption) | assumption); omega)]; repeat (first | exact (Kd.C_below HR193.out HB.out) | (with_reducible refine Kd.C_alloc ?_ _) | (with_reducible refine Kd.C_drewN ?_ _) | (with_reducible refine Kd.C_drew ?_))) | (repeat (first | exact (Kd.C_below HR193.out HB.out) | (with_reducible refine Kd.C_alloc ?_ _) | (with_reducible refine Kd.C_drewN ?_ _) | (with_reducible refine Kd.C_drew ?_))))
                          (case aB => exact (by repeat (first | (with_reducible first | exact HB.out | apply below_alloc | apply pw_below_drewN | apply below_drew1 | refine below_set ?_ GE186.out) | exact HB.out)))
                          (case aF => exact (fun _ _ => trivial))
                          (case aO => exact ((Kd.R_nil _ _ _ _ (fun _ => True))))
                          (case aS => exact (below_size (by repeat (first | (with_reducible first | exact HB.out | apply below_alloc | apply pw_below_drewN | apply below_drew1 | refine below_set ?_ GE186.out) | exact HB.out))))
                          (case aL => have := LMc21.out; have hlx_ := (show ((l0.take ((wrap64 (6 + (wrap64 (rd l0 1)))) : Int).toNat).drop 6).length = ((wrap64 (6 + (wrap64 (rd l0 1)))).toNat - 6) from (by rw [List.length_drop, List.length_take]; have h_ : ((wrap64 (6 + (wrap64 (rd l0 1)))) : Int) ≤ (l0.length : Int) := of_decide_eq_true (by first | (with_reducible assumption) | assumption); omega)); omega)
                          intro v195 w29 ho hb hg hat
                          rw [← Ny194.out] at ho
                          have n0_ := Aside0.mk (blk_grown (g := gb186) (o := .cells #[.int .i64 0, .slice none 0 0] 24 (0, 0)) (by (with_reducible repeat (first | refine blk_drewN ?_ _ | refine blk_drew ?_ | refine blk_alloc ?_ _)); exact BK186.out) hg (by simp [Value.ownBlock]))
                          have n1_ := Aside0.mk (hb)
                          have n2_ := Aside0.mk (ho)
                          clear BK186
                          clear HB
                          have BK186 := n0_
                          have HB := n1_
                          have HO196 := n2_
                          clear n0_ n1_ n2_
                          clear ho hb hg hat
                          obtain ⟨Ao30, co30, eo30⟩ := Kd.R_slice HO196.out
                          (first | subst eo30 | (injection eo30 with f1_ f2_ f3_; have f4_ := f1_.symm; have f5_ := f3_.symm; clear f1_ f2_ f3_; subst f4_; subst f5_))
                          refine hK.out _ _ (((HB.out.cell (World.block_lt_of_cell? w _ hw192_0)).trans hw192_0)) (fun hHeld => ?_)
                          clear hK K
                          refine norm_ (a' := ?_) ?_ ?_
                          rotate_left
                          · show Act.put _ (some 46) _ = _
                            simp only [Act.put, List.setIfInBounds_toArray, List.set_cons_zero, List.set_cons_succ, i64_w, i32_w]
                            rfl
                          refine pure_ (i := 9) (N := some 47) (v := ?_) (a' := ?_) #[true, true, true, true, true, true, true, true, true, true, true, true, false, false, false] rfl rfl (any_of HT_.out (by kernel_rfl)) (fun _ _ _ h => h) (Or.inl ⟨by rfl, ?_⟩) ?_ ?_
                          rotate_left
                          · intro w'
                            go_simp
                            with_reducible rfl
                          rotate_left
                          · simp only [Act.put, List.setIfInBounds_toArray, List.set_cons_zero, List.set_cons_succ, i64_w, i32_w]
                            rfl
                          refine one_ (i := 12) (N := none) #[true, true, true, true, true, true, true, true, true, true, true, true, true, false, false] rfl rfl (one_of HT_.out (by kernel_rfl)) (by decide) (fun K hK => ?_)
                          have hs31 : w29.cell? ⟨gb186, 0, none⟩ = some (.int .i64 0) := (blk_cell BK186.out 0).trans rfl
                          have hfs31 := blk_frozen BK186.out 0
                          have hs32 : w29.cell? ⟨gb186, 1, none⟩ = some (.slice none 0 0) := (blk_cell BK186.out 1).trans rfl
                          have hfs32 := blk_frozen BK186.out 1
                          refine skip_ (w1 := ?_) (by rfl) rfl ?_ ?_
                          rotate_left
                          · go_simp
                            rfl
                          refine hK.out _ _ (((cell_far (p := ⟨gb186, _, none⟩) (by first | exact Nat.ne_of_lt (Nat.lt_of_lt_of_le (by have := World.block_lt_of_cell? _ _ hw192_0; first | rwa [add_block] at this | exact this) GW186.out) | (rw [add_block]; exact Nat.ne_of_lt (Nat.lt_of_lt_of_le (by have := World.block_lt_of_cell? _ _ hw192_0; first | rwa [add_block] at this | exact this) GW186.out)) | (show (Addr.add _ _).block ≠ _; rw [add_block]; exact Nat.ne_of_lt (Nat.lt_of_lt_of_le (by have := World.block_lt_of_cell? _ _ hw192_0; first | rwa [add_block] at this | exact this) GW186.out)) | (dsimp only; exact Nat.ne_of_lt (Nat.lt_of_lt_of_le (by have := World.block_lt_of_cell? _ _ hw192_0; first | rwa [add_block] at this | exact this) GW186.out))) _).trans (((cell_far (p := ⟨gb186, _, none⟩) (by first | exact Nat.ne_of_lt (Nat.lt_of_lt_of_le (by have := World.block_lt_of_cell? _ _ hw192_0; first | rwa [add_block] at this | exact this) GW186.out) | (rw [add_block]; exact Nat.ne_of_lt (Nat.lt_of_lt_of_le (by have := World.block_lt_of_cell? _ _ hw192_0; first | rwa [add_block] at this | exact this) GW186.out)) | (show (Addr.add _ _).block ≠ _; rw [add_block]; exact Nat.ne_of_lt (Nat.lt_of_lt_of_le (by have := World.block_lt_of_cell? _ _ hw192_0; first | rwa [add_block] at this | exact this) GW186.out)) | (dsimp only; exact Nat.ne_of_lt (Nat.lt_of_lt_of_le (by have := World.block_lt_of_cell? _ _ hw192_0; first | rwa [add_block] at this | exact this) GW186.out))) _).trans (hHeld))))) (fun hHeld => ?_)
                          clear hK K
                          refine pure_ (i := 13) (N := some 3) (v := ?_) (a' := ?_) #[true, true, true, true, true, true, true, true, true, true, true, true, true, true, false] rfl rfl (any_of HT_.out (by kernel_rfl)) (fun _ _ _ h => h) (Or.inl ⟨by rfl, ?_⟩) ?_ ?_
                          rotate_left
                          · intro w'
                            go_simp
                            with_reducible rfl
                          rotate_left
                          · simp only [Act.put, List.setIfInBounds_toArray, List.set_cons_zero, List.set_cons_succ, i64_w, i32_w]
                            rfl
                          refine pure_ (i := 14) (N := some 4) (v := ?_) (a' := ?_) #[true, true, true, true, true, true, true, true, true, true, true, true, true, true, true] rfl rfl (any_of HT_.out (by kernel_rfl)) (fun _ _ _ h => h) (Or.inl ⟨by rfl, ?_⟩) ?_ ?_
                          rotate_left
                          · intro w'
                            go_simp
                            with_reducible rfl
                          rotate_left
                          · simp only [Act.put, List.setIfInBounds_toArray, List.set_cons_zero, List.set_cons_succ, i64_w, i32_w]
                            rfl
                          refine done_ (done_of HT_.out (by kernel_rfl)) ?_
                          try go_wp2
                          refine bodyPost_ret (results_ctt rfl _ _ gb186 24 #[.int .i64 (wrap64 (rd l0 0)), .slice Ao30 y194.length co30] (0, 0) _ rfl (by (with_reducible repeat (first | refine blk_drewN ?_ _ | refine blk_drew ?_ | refine blk_alloc ?_ _)); refine blk_put (cs := #[.int .i64 (wrap64 (rd l0 0)), .slice none 0 0]) ?_ 1 _ rfl; (with_reducible repeat (first | refine blk_drewN ?_ _ | refine blk_drew ?_ | refine blk_alloc ?_ _)); refine blk_put (cs := #[.int .i64 0, .slice none 0 0]) ?_ 0 _ rfl; (with_reducible repeat (first | refine blk_drewN ?_ _ | refine blk_drew ?_ | refine blk_alloc ?_ _)); exact BK186.out) Try.underlying24 rfl (by kernel_rfl)) rfl ?_
                          exact ⟨_, by first | rfl | (simp [errW_none, errW_some] <;> rfl) | (simp [*, errW_none, errW_some] <;> rfl), by (with_reducible repeat (first | apply Kd.R_alloc | apply Kd.R_drewN | apply Kd.R_drew)); exact Kd.R_mono (Kd.R_far (p := ⟨gb186, 1, none⟩) (Kd.R_far (p := ⟨gb186, 0, none⟩) (Kd.R_types HO196.out BK186.out (by decide)) (fun _ hk => hk.2) (.int .i64 (wrap64 (rd l0 0)))) (fun _ hk => hk.2) (.slice Ao30 y194.length co30)) (fun _ hk => trivial), by repeat (first | (with_reducible first | exact HB.out | apply below_alloc | apply pw_below_drewN | apply below_drew1 | refine below_set ?_ GE186.out) | exact HB.out)⟩
                        · rw [if_neg c21] at H
                          exact absurd H (by simp)
                      · rw [if_neg c20] at H
                        exact absurd H (by simp)
                    · rw [if_neg c19] at H
                      exact absurd H (by simp)
                  · rw [if_neg c18] at H
                    exact absurd H (by simp)
                · replace c17 := Bool.eq_false_iff.mpr c17
                  subst c17
                  have H1 : (some (0, ([] : List Int), 0, 3)) = some (r1, r2, r3, r4) := by rw [if_neg (show ¬ (false = true) by decide)] at H; exact H
                  clear H
                  have H := H1
                  clear H1
                  simp only [Option.some.injEq, Prod.mk.injEq] at H
                  obtain ⟨rfl, rfl, rfl, rfl⟩ := H
                  go_enter Try.func14, Try.ntmps14
                  go_wp2_with (first | ((with_reducible refine gate_dst (N := 2) rfl ?_); refine box_event ?hg (N := 2) ?hd (cs := #[.int .i64 0, .slice none 0 0]) (t := 24) ?hr ?_; (case hd => rfl); (case hg => rfl); (case hr => first | (go_simp; done) | (go_simp; rfl)); intro gb186 hg w33 hbox hb; have n0_ := Aside0.mk (below_step (by repeat (first | (with_reducible first | exact HB.out | apply below_alloc | apply pw_below_drewN | apply below_drew1) | exact HB.out)) hb); have n1_ := Aside0.mk (hbox); have n2_ := Aside0.mk ((by rw [hg]; exact (below_size (by repeat (first | (with_reducible first | exact HB.out | apply below_alloc | apply pw_below_drewN | apply below_drew1) | exact HB.out))) : w.heap.size ≤ gb186)); have n3_ := Aside0.mk ((by rw [hg]; exact (below_size (by repeat (first | (with_reducible first | exact HB.out | apply below_alloc | apply pw_below_drewN | apply below_drew1) | exact HB.out))) : w.heap.size ≤ gb186)); clear HB; have HB := n0_; have BK186 := n1_; have GW186 := n2_; have GE186 := n3_; clear n0_ n1_ n2_ n3_; clear hb hbox hg; obtain ⟨i034, hi034, _, hsz34, _⟩ := info_parts info5; obtain ⟨hcut34, hA34, hC34⟩ := print_take_of (P := Try.prog) (Value.int .u8) 0 22 5 .i64 Try.underlying22 hi034 hsz34 A0 c0 l0 6 (by omega) (of_decide_eq_true (by first | (with_reducible assumption) | assumption)) HC0.out; have HR187 := Aside0.mk (Kd.C_of_reads (h1 := fun _ => rfl) (hA34 _ (Kd.reads_of_C HR0.out))); have HC187 := Aside0.mk hC34; clear hA34 hC34 hi034 hsz34) | ((with_reducible refine gate_callee (f := 26) rfl ?_); refine goesL_ (some 14) rfl rfl Try.func26 (by kernel_rfl) rfl #[.slice A0 (l0.take 6).length c0] rfl (by (try simp only [List.map_toArray, List.map_cons, List.map_nil]); first | done | (rw [show (l0.take 6).length = 6 from (by rw [List.length_take]; have h_ : (6 : Int) ≤ (l0.length : Int) := of_decide_eq_true (by first | (with_reducible assumption) | assumption); omega)] <;> rfl) | rfl | (simp only [List.length_drop, List.length_take]; rfl)) ?_; (with_reducible refine (foliateref02_Good.calls k _ _ (l0.take 6) true _ ?side1 ?side2 A6.out).mono ?_); (case side1 => repeat (first | exact (Kd.C_below HR187.out HB.out) | (with_reducible refine Kd.C_alloc ?_ _) | (with_reducible refine Kd.C_drewN ?_ _) | (with_reducible refine Kd.C_drew ?_))); (case side2 => exact HC187.out); rintro e w35 ⟨rfl, hb⟩; refine ⟨_, rfl, ?_⟩; have n0_ := Aside0.mk (blk_below (g := gb186) (o := .cells #[.int .i64 0, .slice none 0 0] 24 (0, 0)) (by (with_reducible repeat (first | refine blk_drewN ?_ _ | refine blk_drew ?_ | refine blk_alloc ?_ _)); exact BK186.out) hb); have n1_ := Aside0.mk (below_step (by repeat (first | (with_reducible first | exact HB.out | apply below_alloc | apply pw_below_drewN | apply below_drew1 | refine below_set ?_ GE186.out) | exact HB.out)) hb); clear BK186; clear HB; have BK186 := n0_; have HB := n1_; clear n0_ n1_; (try clear hb); (try clear hb2); (try clear hk); (try clear hi); have p189 : 0 ≤ (1 : Int) := (by omega); have q189 : 1 < (l0.length : Int) := of_decide_eq_true (by first | (with_reducible assumption) | assumption); obtain ⟨ad189, e189, hx189_0⟩ := Kd.at_int HR0.out 1 p189 q189; cases e189; (try simp only [show (1 : Int).toNat = 1 from rfl, Nat.reduceMul, Nat.reduceEqDiff, Go.Addr.add, ↓reduceIte] at hx189_0); have qi189 : (1 < l0.length) = True := eq_true (by omega); (try rw [show ((1 : Int)).toNat = 1 from rfl] at hx189_0); replace hx189_0 := (HB.out.cell (World.block_lt_of_cell? w _ hx189_0)).trans hx189_0; replace p189 := eq_true p189; replace q189 := eq_true q189; obtain ⟨i036, hi036, _, hsz36, _⟩ := info_parts info5; obtain ⟨A36, hcut36, hA36, hC36⟩ := print_mid_of (P := Try.prog) (Value.int .u8) 0 22 5 .i64 .i64 Try.underlying22 hi036 hsz36 (some ad189) c0 l0 6 (wrap64 ((wrap64 (6 + (wrap64 (rd l0 1)))) + 4)) (by omega) (by first | omega | exact of_decide_eq_true (by first | (with_reducible assumption) | assumption)) (of_decide_eq_true (by first | (with_reducible assumption) | assumption)) HC0.out; have HR190 := Aside0.mk (Kd.C_of_reads (h1 := fun _ => rfl) (hA36 _ (Kd.reads_of_C HR0.out))); have HC190 := Aside0.mk hC36; clear hA36 hC36 hi036 hsz36) | ((with_reducible refine gate_callee (f := 26) rfl ?_); refine goesL_ (some 34) rfl rfl Try.func26 (by kernel_rfl) rfl #[.slice A36 ((l0.take ((wrap64 ((wrap64 (6 + (wrap64 (rd l0 1)))) + 4)) : Int).toNat).drop 6).length (c0 - 6)] rfl (by (try simp only [List.map_toArray, List.map_cons, List.map_nil]); first | done | (rw [show ((l0.take ((wrap64 ((wrap64 (6 + (wrap64 (rd l0 1)))) + 4)) : Int).toNat).drop 6).length = ((wrap64 ((wrap64 (6 + (wrap64 (rd l0 1)))) + 4)).toNat - 6) from (by rw [List.length_drop, List.length_take]; have h_ : ((wrap64 ((wrap64 (6 + (wrap64 (rd l0 1)))) + 4)) : Int) ≤ (l0.length : Int) := of_decide_eq_true (by first | (with_reducible assumption) | assumption); omega)] <;> rfl) | rfl | (simp only [List.length_drop, List.length_take]; rfl)) ?_; (with_reducible refine (foliateref02_Good.calls k _ _ ((l0.take ((wrap64 ((wrap64 (6 + (wrap64 (rd l0 1)))) + 4)) : Int).toNat).drop 6) false _ ?side1 ?side2 A16.out).mono ?_); (case side1 => repeat (first | exact (Kd.C_below HR190.out HB.out) | (with_reducible refine Kd.C_alloc ?_ _) | (with_reducible refine Kd.C_drewN ?_ _) | (with_reducible refine Kd.C_drew ?_))); (case side2 => exact HC190.out); rintro e w37 ⟨rfl, hb⟩; refine ⟨_, rfl, ?_⟩; have n0_ := Aside0.mk (blk_below (g := gb186) (o := .cells #[.int .i64 0, .slice none 0 0] 24 (0, 0)) (by (with_reducible repeat (first | refine blk_drewN ?_ _ | refine blk_drew ?_ | refine blk_alloc ?_ _)); exact BK186.out) hb); have n1_ := Aside0.mk (below_step (by repeat (first | (with_reducible first | exact HB.out | apply below_alloc | apply pw_below_drewN | apply below_drew1 | refine below_set ?_ GE186.out) | exact HB.out)) hb); clear BK186; clear HB; have BK186 := n0_; have HB := n1_; clear n0_ n1_; (try clear hb); (try clear hb2); (try clear hk); (try clear hi); have hcz38_0 : w37.cell? ⟨gb186, 0, none⟩ = some (.int .i64 0) := (blk_cell BK186.out 0).trans rfl; have hcz38_1 : w37.cell? ⟨gb186, 1, none⟩ = some (.slice none 0 0) := (blk_cell BK186.out 1).trans rfl; have hfz38_0 := blk_frozen BK186.out 0; have hfz38_1 := blk_frozen BK186.out 1))
                  refine bodyPost_ret (results_ctt rfl _ _ gb186 24 #[.int .i64 0, .slice none 0 0] (0, 0) _ rfl (by (with_reducible repeat (first | refine blk_drewN ?_ _ | refine blk_drew ?_ | refine blk_alloc ?_ _)); refine blk_put (cs := #[.int .i64 0, .slice none 0 0]) ?_ 1 _ rfl; (with_reducible repeat (first | refine blk_drewN ?_ _ | refine blk_drew ?_ | refine blk_alloc ?_ _)); refine blk_put (cs := #[.int .i64 0, .slice none 0 0]) ?_ 0 _ rfl; (with_reducible repeat (first | refine blk_drewN ?_ _ | refine blk_drew ?_ | refine blk_alloc ?_ _)); exact BK186.out) Try.underlying24 rfl (by kernel_rfl)) rfl ?_
                  exact ⟨_, by first | rfl | (simp [errW_none, errW_some] <;> rfl) | (simp [*, errW_none, errW_some] <;> rfl), by first | exact Kd.R_nil _ _ _ _ _ | exact Kd.N_nil _ _ _ _ _ | exact Kd.V_nil _ _ _ _ _ | exact Kd.Q_nil _ _ _ _ _ | exact Kd.S_nil _ _ _ _ _, by repeat (first | (with_reducible first | exact HB.out | apply below_alloc | apply pw_below_drewN | apply below_drew1 | refine below_set ?_ GE186.out) | exact HB.out)⟩
              · rw [if_neg c15] at H
                exact absurd H (by simp)
            · rw [if_neg c14] at H
              exact absurd H (by simp)
        · rw [if_neg c8] at H
          exact absurd H (by simp)
      · replace c7 := Bool.eq_false_iff.mpr c7
        subst c7
        have H1 : (some (0, ([] : List Int), 0, 3)) = some (r1, r2, r3, r4) := by rw [if_neg (show ¬ (false = true) by decide)] at H; exact H
        clear H
        have H := H1
        clear H1
        simp only [Option.some.injEq, Prod.mk.injEq] at H
        obtain ⟨rfl, rfl, rfl, rfl⟩ := H
        go_enter Try.func14, Try.ntmps14
        go_wp2_with (first | ((with_reducible refine gate_dst (N := 2) rfl ?_); refine box_event ?hg (N := 2) ?hd (cs := #[.int .i64 0, .slice none 0 0]) (t := 24) ?hr ?_; (case hd => rfl); (case hg => rfl); (case hr => first | (go_simp; done) | (go_simp; rfl)); intro gb186 hg w39 hbox hb; have n0_ := Aside0.mk (below_step (by repeat (first | (with_reducible first | exact HB.out | apply below_alloc | apply pw_below_drewN | apply below_drew1) | exact HB.out)) hb); have n1_ := Aside0.mk (hbox); have n2_ := Aside0.mk ((by rw [hg]; exact (below_size (by repeat (first | (with_reducible first | exact HB.out | apply below_alloc | apply pw_below_drewN | apply below_drew1) | exact HB.out))) : w.heap.size ≤ gb186)); have n3_ := Aside0.mk ((by rw [hg]; exact (below_size (by repeat (first | (with_reducible first | exact HB.out | apply below_alloc | apply pw_below_drewN | apply below_drew1) | exact HB.out))) : w.heap.size ≤ gb186)); clear HB; have HB := n0_; have BK186 := n1_; have GW186 := n2_; have GE186 := n3_; clear n0_ n1_ n2_ n3_; clear hb hbox hg; obtain ⟨i040, hi040, _, hsz40, _⟩ := info_parts info5; obtain ⟨hcut40, hA40, hC40⟩ := print_take_of (P := Try.prog) (Value.int .u8) 0 22 5 .i64 Try.underlying22 hi040 hsz40 A0 c0 l0 6 (by omega) (of_decide_eq_true (by first | (with_reducible assumption) | assumption)) HC0.out; have HR187 := Aside0.mk (Kd.C_of_reads (h1 := fun _ => rfl) (hA40 _ (Kd.reads_of_C HR0.out))); have HC187 := Aside0.mk hC40; clear hA40 hC40 hi040 hsz40) | ((with_reducible refine gate_callee (f := 26) rfl ?_); refine goesL_ (some 14) rfl rfl Try.func26 (by kernel_rfl) rfl #[.slice A0 (l0.take 6).length c0] rfl (by (try simp only [List.map_toArray, List.map_cons, List.map_nil]); first | done | (rw [show (l0.take 6).length = 6 from (by rw [List.length_take]; have h_ : (6 : Int) ≤ (l0.length : Int) := of_decide_eq_true (by first | (with_reducible assumption) | assumption); omega)] <;> rfl) | rfl | (simp only [List.length_drop, List.length_take]; rfl)) ?_; (with_reducible refine (foliateref02_Good.calls k _ _ (l0.take 6) false _ ?side1 ?side2 A6.out).mono ?_); (case side1 => repeat (first | exact (Kd.C_below HR187.out HB.out) | (with_reducible refine Kd.C_alloc ?_ _) | (with_reducible refine Kd.C_drewN ?_ _) | (with_reducible refine Kd.C_drew ?_))); (case side2 => exact HC187.out); rintro e w41 ⟨rfl, hb⟩; refine ⟨_, rfl, ?_⟩; have n0_ := Aside0.mk (blk_below (g := gb186) (o := .cells #[.int .i64 0, .slice none 0 0] 24 (0, 0)) (by (with_reducible repeat (first | refine blk_drewN ?_ _ | refine blk_drew ?_ | refine blk_alloc ?_ _)); exact BK186.out) hb); have n1_ := Aside0.mk (below_step (by repeat (first | (with_reducible first | exact HB.out | apply below_alloc | apply pw_below_drewN | apply below_drew1 | refine below_set ?_ GE186.out) | exact HB.out)) hb); clear BK186; clear HB; have BK186 := n0_; have HB := n1_; clear n0_ n1_; (try clear hb); (try clear hb2); (try clear hk); (try clear hi); have hcz42_0 : w41.cell? ⟨gb186, 0, none⟩ = some (.int .i64 0) := (blk_cell BK186.out 0).trans rfl; have hcz42_1 : w41.cell? ⟨gb186, 1, none⟩ = some (.slice none 0 0) := (blk_cell BK186.out 1).trans rfl; have hfz42_0 := blk_frozen BK186.out 0; have hfz42_1 := blk_frozen BK186.out 1))
        refine bodyPost_ret (results_ctt rfl _ _ gb186 24 #[.int .i64 0, .slice none 0 0] (0, 0) _ rfl (by (with_reducible repeat (first | refine blk_drewN ?_ _ | refine blk_drew ?_ | refine blk_alloc ?_ _)); refine blk_put (cs := #[.int .i64 0, .slice none 0 0]) ?_ 1 _ rfl; (with_reducible repeat (first | refine blk_drewN ?_ _ | refine blk_drew ?_ | refine blk_alloc ?_ _)); refine blk_put (cs := #[.int .i64 0, .slice none 0 0]) ?_ 0 _ rfl; (with_reducible repeat (first | refine blk_drewN ?_ _ | refine blk_drew ?_ | refine blk_alloc ?_ _)); exact BK186.out) Try.underlying24 rfl (by kernel_rfl)) rfl ?_
        exact ⟨_, by first | rfl | (simp [errW_none, errW_some] <;> rfl) | (simp [*, errW_none, errW_some] <;> rfl), by first | exact Kd.R_nil _ _ _ _ _ | exact Kd.N_nil _ _ _ _ _ | exact Kd.V_nil _ _ _ _ _ | exact Kd.Q_nil _ _ _ _ _ | exact Kd.S_nil _ _ _ _ _, by repeat (first | (with_reducible first | exact HB.out | apply below_alloc | apply pw_below_drewN | apply below_drew1 | refine below_set ?_ GE186.out) | exact HB.out)⟩
    · rw [if_neg c5] at H
      exact absurd H (by simp)

end Go.Proofs.Ytjihemgadbpebaa.PTl
