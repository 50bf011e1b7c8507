-- Written by wip/tools/myprint.py, a program of the prover's own, over the kit's print; the contracts named 'HAND' there are typed by hand.
import Derived.Test.YtepgcejgjfeolaaPTlx0
namespace Go.Proofs.Ytepgcejgjfeolaa.PTl
open Go.RowKit Go.Proofs.YtepgcejgjfeolaaW.PrintWords Go.Proofs.YtepgcejgjfeolaaW.PrintLast Go.Proofs.YtepgcejgjfeolaaW.PrintMore
attribute [local go_sem] max2_int min2_int max_two min_two max_three min_three max_four min_four   -- for this text's walks alone
set_option linter.unusedVariables false
set_option linter.unusedSimpArgs false

/-! ### foliateref07_Fits: function 15 -/
def foliateref07_Fits.j0 : Nat → Bool → ByteArray → Int → ByteArray → Int → ByteArray → Int → Option (Bool)
  | 0, _, _, _, _, _, _, _ => none
  | k + 1, x5, x143000, x143001, x143002, x144000, x144001, x144002 => if x143001 = 0 then (if x5 = true then (if x144000 ≥ (-128) then (some (decide (x144000 ≤ 127))) else (some false)) else (some false)) else (if x143001 = 1 then (if x5 = true then (if x144000 ≥ (-32768) then (some (decide (x144000 ≤ 32767))) else (some false)) else (some false)) else (if x143001 = 2 then (if x5 = true then (if x144000 ≥ (-2147483648) then (some (decide (x144000 ≤ 2147483647))) else (some false)) else (some false)) else (if x143001 = 3 then (some x5) else (if x143001 = 4 then (if (x144001.size : Int) ≤ 12 then (if x144000 = 0 then (some (x144002 == 0)) else (some false)) else (some false)) else (if x143001 = 5 then (if x144002 ≥ (-1) then (if x144002 ≤ 1073741824 then (if x144000 = 0 then (some (x144001.toList == ([] : List UInt8))) else (some false)) else (some false)) else (some false)) else (some false))))))
def foliateref07_Fits.f (k : Nat) (a0_0 : ByteArray) (a0_1 : Int) (a0_2 : ByteArray) (a1_0 : Int) (a1_1 : ByteArray) (a1_2 : Int) : Option (Bool) := if a1_1.toList = ([] : List UInt8) then (foliateref07_Fits.j0 k (a1_2 == 0) a0_0 a0_1 a0_2 a1_0 a1_1 a1_2) else (foliateref07_Fits.j0 k false a0_0 a0_1 a0_2 a1_0 a1_1 a1_2)
theorem foliateref07_Fits.mono_l : ∀ k, (∀ y0 y1 y2 y3 y4 y5 y6, LeO (foliateref07_Fits.j0 k y0 y1 y2 y3 y4 y5 y6) (foliateref07_Fits.j0 (k + 1) y0 y1 y2 y3 y4 y5 y6))
  | 0 => fun _ _ _ _ _ _ _ r h => by simp [foliateref07_Fits.j0] at h
  | k + 1 => by
    have ih0 := foliateref07_Fits.mono_l k
    · intro y0 y1 y2 y3 y4 y5 y6
      unfold foliateref07_Fits.j0
      repeat' first
      | (with_reducible exact ih0 _ _ _ _ _ _ _)
      | (with_reducible exact LeO.refl _)
      | (with_reducible exact LeO.none _)
      | (with_reducible refine LeO.ite ?_ ?_)
      | (with_reducible refine LeO.bind ?_ (fun _ => ?_))
      | exact ih0 _ _ _ _ _ _ _
      | exact LeO.none _
      | refine LeO.ite ?_ ?_
      | refine LeO.bind ?_ (fun _ => ?_)
theorem foliateref07_Fits.mono : ∀ a0 a1 a2 a3 a4 a5 k, LeO (foliateref07_Fits.f k a0 a1 a2 a3 a4 a5) (foliateref07_Fits.f (k + 1) a0 a1 a2 a3 a4 a5) := by
  intro a0 a1 a2 a3 a4 a5 k
  have ih0 := foliateref07_Fits.mono_l k
  unfold foliateref07_Fits.f
  repeat' first
      | (with_reducible exact ih0 _ _ _ _ _ _ _)
      | (with_reducible exact LeO.refl _)
      | (with_reducible exact LeO.none _)
      | (with_reducible refine LeO.ite ?_ ?_)
      | (with_reducible refine LeO.bind ?_ (fun _ => ?_))
      | exact ih0 _ _ _ _ _ _ _
      | exact LeO.none _
      | refine LeO.ite ?_ ?_
      | refine LeO.bind ?_ (fun _ => ?_)
set_option maxHeartbeats 8000000 in
set_option maxRecDepth 100000 in
theorem foliateref07_Fits.calls (k : Nat) (a0_0 : ByteArray) (a0_1 : Int) (a0_2 : ByteArray) (a1_0 : Int) (a1_1 : ByteArray) (a1_2 : Int) (r : Bool) (w : World) (h : foliateref07_Fits.f k a0_0 a0_1 a0_2 a1_0 a1_1 a1_2 = some r) :
    Calls Try.prog 15 #[.agg #[.string a0_0, .int .i64 a0_1, .string a0_2], .agg #[.int .i64 a1_0, .string a1_1, .int .i64 a1_2]] w fun e w' => e = .returned (.bool r) ∧ Below w.heap.size w w' := by
  have hu23 := Try.underlying23
  have hu25 := Try.underlying25
  have HB := Aside0.mk (Below.refl w.heap.size w)
  have H : (if a1_1.toList = ([] : List UInt8) then (foliateref07_Fits.j0 k (a1_2 == 0) a0_0 a0_1 a0_2 a1_0 a1_1 a1_2) else (foliateref07_Fits.j0 k false a0_0 a0_1 a0_2 a1_0 a1_1 a1_2)) = some r := h
  clear h
  have HC3 := Aside0.mk H
  clear H
  go_enter Try.func15, Try.ntmps15
  go_upto_region 1 with (first | ((with_reducible refine gate_dst (N := 2) rfl ?_); refine box_event ?hg (N := 2) ?hd (cs := #[.string a0_0, .int .i64 a0_1, .string a0_2]) (t := 23) ?hr ?_; (case hd => rfl); (case hg => rfl); (case hr => first | (go_simp; done) | (go_simp; rfl)); intro gb142 hg w4 hbox hb; have n0_ := Aside0.mk (below_step (by repeat (first | (with_reducible first | exact HB.out | apply below_alloc | apply pw_below_drewN | apply below_drew1) | exact HB.out)) hb); have n1_ := Aside0.mk (hbox); have n2_ := Aside0.mk ((by rw [hg]; exact (below_size (by repeat (first | (with_reducible first | exact HB.out | apply below_alloc | apply pw_below_drewN | apply below_drew1) | exact HB.out))) : w.heap.size ≤ gb142)); have n3_ := Aside0.mk ((by rw [hg]; exact (below_size (by repeat (first | (with_reducible first | exact HB.out | apply below_alloc | apply pw_below_drewN | apply below_drew1) | exact HB.out))) : w.heap.size ≤ gb142)); clear HB; have HB := n0_; have BK142 := n1_; have GW142 := n2_; have GE142 := n3_; clear n0_ n1_ n2_ n3_; clear hb hbox hg) | ((with_reducible refine gate_dst (N := 3) rfl ?_); refine box_event ?hg (N := 3) ?hd (cs := #[.int .i64 a1_0, .string a1_1, .int .i64 a1_2]) (t := 25) ?hr ?_; (case hd => rfl); (case hg => rfl); (case hr => first | (go_simp; done) | (go_simp; rfl)); intro gb143 hg w5 hbox hb; have n0_ := Aside0.mk (blk_below (g := gb142) (o := .cells #[.string a0_0, .int .i64 a0_1, .string a0_2] 23 (0, 0)) (by (with_reducible repeat (first | refine blk_drewN ?_ _ | refine blk_drew ?_ | refine blk_alloc ?_ _)); exact BK142.out) hb); have n1_ := Aside0.mk (below_step (by repeat (first | (with_reducible first | exact HB.out | apply below_alloc | apply pw_below_drewN | apply below_drew1 | refine below_set ?_ GE142.out) | exact HB.out)) hb); have n2_ := Aside0.mk (hbox); have n3_ := Aside0.mk ((by rw [hg]; exact (below_size (by repeat (first | (with_reducible first | exact HB.out | apply below_alloc | apply pw_below_drewN | apply below_drew1 | refine below_set ?_ GE142.out) | exact HB.out))) : w.heap.size ≤ gb143)); have n4_ := Aside0.mk ((by rw [hg]; exact (below_size (by repeat (first | (with_reducible first | exact HB.out | apply below_alloc | apply pw_below_drewN | apply below_drew1 | refine below_set ?_ GE142.out) | exact HB.out))) : w.heap.size ≤ gb143)); have n5_ := Aside0.mk ((by rw [hg]; exact Nat.ne_of_lt (blk_lt (g := gb142) (o := .cells #[.string a0_0, .int .i64 a0_1, .string a0_2] 23 (0, 0)) (by (with_reducible repeat (first | refine blk_drewN ?_ _ | refine blk_drew ?_ | refine blk_alloc ?_ _)); exact BK142.out)) : gb142 ≠ gb143)); have n6_ := Aside0.mk ((by rw [hg]; exact Nat.ne_of_gt (blk_lt (g := gb142) (o := .cells #[.string a0_0, .int .i64 a0_1, .string a0_2] 23 (0, 0)) (by (with_reducible repeat (first | refine blk_drewN ?_ _ | refine blk_drew ?_ | refine blk_alloc ?_ _)); exact BK142.out)) : gb143 ≠ gb142)); clear BK142; clear HB; have BK142 := n0_; have HB := n1_; have BK143 := n2_; have GW143 := n3_; have GE143 := n4_; have NB142_143 := n5_; have NB143_142 := n6_; clear n0_ n1_ n2_ n3_ n4_ n5_ n6_; clear hb hbox hg))
  (try simp only [Act.put, List.setIfInBounds_toArray, List.set_cons_zero, List.set_cons_succ])
  go_cut [5] (fun v5 wc => ∃ (kq : Nat) (x5_2 : Bool), v5 = .bool x5_2 ∧ Aside0 (foliateref07_Fits.j0 kq x5_2 a0_0 a0_1 a0_2 a1_0 a1_1 a1_2 = some r) ∧ Aside0 (kq ≤ k) ∧ Aside0 (wc.heap[gb142]? = some (.cells #[.string a0_0, .int .i64 a0_1, .string a0_2] 23 (0, 0))) ∧ Aside0 (wc.heap[gb143]? = some (.cells #[.int .i64 a1_0, .string a1_1, .int .i64 a1_2] 25 (0, 0))) ∧ Aside0 (Below w.heap.size w wc))
  case first =>
    have H := HC3.out
    clear HC3
    by_cases c6 : a1_1.toList = ([] : List UInt8)
    · rw [if_pos c6] at H
      have c6b0 : (a1_1.toList == ([] : List UInt8)) = true := beq_iff_eq.mpr c6
      have c6b1 : (a1_1.toList != ([] : List UInt8)) = false := bne_eq_false_iff_eq.mpr c6
      clear c6
      (first | rw [c6b0] | (simp only [i64_w, i32_w]; rw [c6b0]) | skip)
      have H' := Aside0.mk H
      clear H
      have hnb7 := NB143_142.out
      have hnc7 := NB142_143.out
      have hcz8_0 : w5.cell? ⟨gb143, 0, none⟩ = some (.int .i64 a1_0) := (blk_cell BK143.out 0).trans rfl
      have hcz8_1 : w5.cell? ⟨gb143, 1, none⟩ = some (.string a1_1) := (blk_cell BK143.out 1).trans rfl
      have hcz8_2 : w5.cell? ⟨gb143, 2, none⟩ = some (.int .i64 a1_2) := (blk_cell BK143.out 2).trans rfl
      have hfz8_0 := blk_frozen BK143.out 0
      have hfz8_1 := blk_frozen BK143.out 1
      have hfz8_2 := blk_frozen BK143.out 2
      go_wp2
      go_meet
      case rel => exact ⟨_, ((a1_2 == 0)), (by first | rfl | (simp; done) | (simp [*]; done)), H', ⟨by first | omega | exact Nat.le_refl _⟩, ⟨by (with_reducible repeat (first | refine blk_drewN ?_ _ | refine blk_drew ?_ | refine blk_alloc ?_ _)); exact BK142.out⟩, ⟨by (with_reducible repeat (first | refine blk_drewN ?_ _ | refine blk_drew ?_ | refine blk_alloc ?_ _)); exact BK143.out⟩, ⟨by repeat (first | (with_reducible first | exact HB.out | apply below_alloc | apply pw_below_drewN | apply below_drew1 | refine below_set ?_ GE142.out | refine below_set ?_ GE143.out) | exact HB.out)⟩⟩
    · rw [if_neg c6] at H
      have c6b0 : (a1_1.toList == ([] : List UInt8)) = false := beq_eq_false_iff_ne.mpr c6
      have c6b1 : (a1_1.toList != ([] : List UInt8)) = true := bne_iff_ne.mpr c6
      (first | rw [c6b0] | (simp only [i64_w, i32_w]; rw [c6b0]) | skip)
      have H' := Aside0.mk H
      clear H
      have hnb9 := NB143_142.out
      have hnc9 := NB142_143.out
      have hcz10_0 : w5.cell? ⟨gb143, 0, none⟩ = some (.int .i64 a1_0) := (blk_cell BK143.out 0).trans rfl
      have hcz10_1 : w5.cell? ⟨gb143, 1, none⟩ = some (.string a1_1) := (blk_cell BK143.out 1).trans rfl
      have hcz10_2 : w5.cell? ⟨gb143, 2, none⟩ = some (.int .i64 a1_2) := (blk_cell BK143.out 2).trans rfl
      have hfz10_0 := blk_frozen BK143.out 0
      have hfz10_1 := blk_frozen BK143.out 1
      have hfz10_2 := blk_frozen BK143.out 2
      go_wp2
      go_meet
      case rel => exact ⟨_, (false), (by first | rfl | (simp; done) | (simp [*]; done)), H', ⟨by first | omega | exact Nat.le_refl _⟩, ⟨by (with_reducible repeat (first | refine blk_drewN ?_ _ | refine blk_drew ?_ | refine blk_alloc ?_ _)); exact BK142.out⟩, ⟨by (with_reducible repeat (first | refine blk_drewN ?_ _ | refine blk_drew ?_ | refine blk_alloc ?_ _)); exact BK143.out⟩, ⟨by repeat (first | (with_reducible first | exact HB.out | apply below_alloc | apply pw_below_drewN | apply below_drew1 | refine below_set ?_ GE142.out | refine below_set ?_ GE143.out) | exact HB.out)⟩⟩
  case rest =>
    clear HC3
    try clear c1
    try clear p2
    try clear c6
    try clear c6b0
    try clear c6b1
    try clear c7
    try clear c9
    try clear hcz10_0
    try clear hcz10_1
    try clear hcz10_2
    try clear hcz8_0
    try clear hcz8_1
    try clear hcz8_2
    try clear hfz10_0
    try clear hfz10_1
    try clear hfz10_2
    try clear hfz8_0
    try clear hfz8_1
    try clear hfz8_2
    obtain ⟨kq, x5_2, rfl, HA, HJ2, BK142, BK143, HB⟩ := hcut
    cases kq with
    | zero => exact absurd HA.out (by simp [foliateref07_Fits.j0])
    | succ kj2 =>
      have H := HA.out
      clear HA
      simp only [foliateref07_Fits.j0] at H
      by_cases c11 : a0_1 = 0
      · rw [if_pos c11] at H
        have c11b0 : (a0_1 == 0) = true := beq_iff_eq.mpr c11
        have c11b1 : (a0_1 != 0) = false := bne_eq_false_iff_eq.mpr c11
        clear c11
        by_cases c12 : x5_2 = true
        · subst c12
          have H1 : (if a1_0 ≥ (-128) then (some (decide (a1_0 ≤ 127))) else (some false)) = some r := by rw [if_pos rfl] at H; exact H
          clear H
          have H := H1
          clear H1
          by_cases c13 : a1_0 ≥ (-128)
          · rw [if_pos c13] at H
            have c13b0 : decide ((-128) ≤ a1_0) = true := decide_eq_true c13
            clear c13
            obtain rfl := Option.some.inj H
            have hnb14 := NB142_143.out
            have hnc14 := NB143_142.out
            have hcz15_0 : wc.cell? ⟨gb142, 0, none⟩ = some (.string a0_0) := (blk_cell BK142.out 0).trans rfl
            have hcz15_1 : wc.cell? ⟨gb142, 1, none⟩ = some (.int .i64 a0_1) := (blk_cell BK142.out 1).trans rfl
            have hcz15_2 : wc.cell? ⟨gb142, 2, none⟩ = some (.string a0_2) := (blk_cell BK142.out 2).trans rfl
            have hfz15_0 := blk_frozen BK142.out 0
            have hfz15_1 := blk_frozen BK142.out 1
            have hfz15_2 := blk_frozen BK142.out 2
            have hcz16_0 : wc.cell? ⟨gb143, 0, none⟩ = some (.int .i64 a1_0) := (blk_cell BK143.out 0).trans rfl
            have hcz16_1 : wc.cell? ⟨gb143, 1, none⟩ = some (.string a1_1) := (blk_cell BK143.out 1).trans rfl
            have hcz16_2 : wc.cell? ⟨gb143, 2, none⟩ = some (.int .i64 a1_2) := (blk_cell BK143.out 2).trans rfl
            have hfz16_0 := blk_frozen BK143.out 0
            have hfz16_1 := blk_frozen BK143.out 1
            have hfz16_2 := blk_frozen BK143.out 2
            go_wp2
            go_ret
            exact ⟨by first | rfl | (simp [errW_none, errW_some] <;> rfl) | (simp [*, errW_none, errW_some] <;> rfl), by repeat (first | (with_reducible first | exact HB.out | apply below_alloc | apply pw_below_drewN | apply below_drew1 | refine below_set ?_ GE142.out | refine below_set ?_ GE143.out) | exact HB.out)⟩
          · rw [if_neg c13] at H
            have c13b0 : decide ((-128) ≤ a1_0) = false := decide_eq_false c13
            clear c13
            obtain rfl := Option.some.inj H
            have hnb17 := NB142_143.out
            have hnc17 := NB143_142.out
            have hcz18_0 : wc.cell? ⟨gb142, 0, none⟩ = some (.string a0_0) := (blk_cell BK142.out 0).trans rfl
            have hcz18_1 : wc.cell? ⟨gb142, 1, none⟩ = some (.int .i64 a0_1) := (blk_cell BK142.out 1).trans rfl
            have hcz18_2 : wc.cell? ⟨gb142, 2, none⟩ = some (.string a0_2) := (blk_cell BK142.out 2).trans rfl
            have hfz18_0 := blk_frozen BK142.out 0
            have hfz18_1 := blk_frozen BK142.out 1
            have hfz18_2 := blk_frozen BK142.out 2
            have hcz19_0 : wc.cell? ⟨gb143, 0, none⟩ = some (.int .i64 a1_0) := (blk_cell BK143.out 0).trans rfl
            have hcz19_1 : wc.cell? ⟨gb143, 1, none⟩ = some (.string a1_1) := (blk_cell BK143.out 1).trans rfl
            have hcz19_2 : wc.cell? ⟨gb143, 2, none⟩ = some (.int .i64 a1_2) := (blk_cell BK143.out 2).trans rfl
            have hfz19_0 := blk_frozen BK143.out 0
            have hfz19_1 := blk_frozen BK143.out 1
            have hfz19_2 := blk_frozen BK143.out 2
            go_wp2
            go_ret
            exact ⟨by first | rfl | (simp [errW_none, errW_some] <;> rfl) | (simp [*, errW_none, errW_some] <;> rfl), by repeat (first | (with_reducible first | exact HB.out | apply below_alloc | apply pw_below_drewN | apply below_drew1 | refine below_set ?_ GE142.out | refine below_set ?_ GE143.out) | exact HB.out)⟩
        · replace c12 := Bool.eq_false_iff.mpr c12
          subst c12
          have H1 : (some false) = some r := by rw [if_neg (show ¬ (false = true) by decide)] at H; exact H
          clear H
          have H := H1
          clear H1
          obtain rfl := Option.some.inj H
          have hnb20 := NB142_143.out
          have hnc20 := NB143_142.out
          have hcz21_0 : wc.cell? ⟨gb142, 0, none⟩ = some (.string a0_0) := (blk_cell BK142.out 0).trans rfl
          have hcz21_1 : wc.cell? ⟨gb142, 1, none⟩ = some (.int .i64 a0_1) := (blk_cell BK142.out 1).trans rfl
          have hcz21_2 : wc.cell? ⟨gb142, 2, none⟩ = some (.string a0_2) := (blk_cell BK142.out 2).trans rfl
          have hfz21_0 := blk_frozen BK142.out 0
          have hfz21_1 := blk_frozen BK142.out 1
          have hfz21_2 := blk_frozen BK142.out 2
          go_wp2
          go_ret
          exact ⟨by first | rfl | (simp [errW_none, errW_some] <;> rfl) | (simp [*, errW_none, errW_some] <;> rfl), by repeat (first | (with_reducible first | exact HB.out | apply below_alloc | apply pw_below_drewN | apply below_drew1 | refine below_set ?_ GE142.out | refine below_set ?_ GE143.out) | exact HB.out)⟩
      · rw [if_neg c11] at H
        have c11b0 : (a0_1 == 0) = false := beq_eq_false_iff_ne.mpr c11
        have c11b1 : (a0_1 != 0) = true := bne_iff_ne.mpr c11
        by_cases c22 : a0_1 = 1
        · rw [if_pos c22] at H
          have c22b0 : (a0_1 == 1) = true := beq_iff_eq.mpr c22
          have c22b1 : (a0_1 != 1) = false := bne_eq_false_iff_eq.mpr c22
          clear c22
          by_cases c23 : x5_2 = true
          · subst c23
            have H1 : (if a1_0 ≥ (-32768) then (some (decide (a1_0 ≤ 32767))) else (some false)) = some r := by rw [if_pos rfl] at H; exact H
            clear H
            have H := H1
            clear H1
            by_cases c24 : a1_0 ≥ (-32768)
            · rw [if_pos c24] at H
              have c24b0 : decide ((-32768) ≤ a1_0) = true := decide_eq_true c24
              clear c24
              obtain rfl := Option.some.inj H
              have hnb25 := NB142_143.out
              have hnc25 := NB143_142.out
              have hcz26_0 : wc.cell? ⟨gb142, 0, none⟩ = some (.string a0_0) := (blk_cell BK142.out 0).trans rfl
              have hcz26_1 : wc.cell? ⟨gb142, 1, none⟩ = some (.int .i64 a0_1) := (blk_cell BK142.out 1).trans rfl
              have hcz26_2 : wc.cell? ⟨gb142, 2, none⟩ = some (.string a0_2) := (blk_cell BK142.out 2).trans rfl
              have hfz26_0 := blk_frozen BK142.out 0
              have hfz26_1 := blk_frozen BK142.out 1
              have hfz26_2 := blk_frozen BK142.out 2
              have hcz27_0 : wc.cell? ⟨gb143, 0, none⟩ = some (.int .i64 a1_0) := (blk_cell BK143.out 0).trans rfl
              have hcz27_1 : wc.cell? ⟨gb143, 1, none⟩ = some (.string a1_1) := (blk_cell BK143.out 1).trans rfl
              have hcz27_2 : wc.cell? ⟨gb143, 2, none⟩ = some (.int .i64 a1_2) := (blk_cell BK143.out 2).trans rfl
              have hfz27_0 := blk_frozen BK143.out 0
              have hfz27_1 := blk_frozen BK143.out 1
              have hfz27_2 := blk_frozen BK143.out 2
              go_wp2
              go_ret
              exact ⟨by first | rfl | (simp [errW_none, errW_some] <;> rfl) | (simp [*, errW_none, errW_some] <;> rfl), by repeat (first | (with_reducible first | exact HB.out | apply below_alloc | apply pw_below_drewN | apply below_drew1 | refine below_set ?_ GE142.out | refine below_set ?_ GE143.out) | exact HB.out)⟩
            · rw [if_neg c24] at H
              have c24b0 : decide ((-32768) ≤ a1_0) = false := decide_eq_false c24
              clear c24
              obtain rfl := Option.some.inj H
              have hnb28 := NB142_143.out
              have hnc28 := NB143_142.out
              have hcz29_0 : wc.cell? ⟨gb142, 0, none⟩ = some (.string a0_0) := (blk_cell BK142.out 0).trans rfl
              have hcz29_1 : wc.cell? ⟨gb142, 1, none⟩ = some (.int .i64 a0_1) := (blk_cell BK142.out 1).trans rfl
              have hcz29_2 : wc.cell? ⟨gb142, 2, none⟩ = some (.string a0_2) := (blk_cell BK142.out 2).trans rfl
              have hfz29_0 := blk_frozen BK142.out 0
              have hfz29_1 := blk_frozen BK142.out 1
              have hfz29_2 := blk_frozen BK142.out 2
              have hcz30_0 : wc.cell? ⟨gb143, 0, none⟩ = some (.int .i64 a1_0) := (blk_cell BK143.out 0).trans rfl
              have hcz30_1 : wc.cell? ⟨gb143, 1, none⟩ = some (.string a1_1) := (blk_cell BK143.out 1).trans rfl
              have hcz30_2 : wc.cell? ⟨gb143, 2, none⟩ = some (.int .i64 a1_2) := (blk_cell BK143.out 2).trans rfl
              have hfz30_0 := blk_frozen BK143.out 0
              have hfz30_1 := blk_frozen BK143.out 1
              have hfz30_2 := blk_frozen BK143.out 2
              go_wp2
              go_ret
              exact ⟨by first | rfl | (simp [errW_none, errW_some] <;> rfl) | (simp [*, errW_none, errW_some] <;> rfl), by repeat (first | (with_reducible first | exact HB.out | apply below_alloc | apply pw_below_drewN | apply below_drew1 | refine below_set ?_ GE142.out | refine below_set ?_ GE143.out) | exact HB.out)⟩
          · replace c23 := Bool.eq_false_iff.mpr c23
            subst c23
            have H1 : (some false) = some r := by rw [if_neg (show ¬ (false = true) by decide)] at H; exact H
            clear H
            have H := H1
            clear H1
            obtain rfl := Option.some.inj H
            have hnb31 := NB142_143.out
            have hnc31 := NB143_142.out
            have hcz32_0 : wc.cell? ⟨gb142, 0, none⟩ = some (.string a0_0) := (blk_cell BK142.out 0).trans rfl
            have hcz32_1 : wc.cell? ⟨gb142, 1, none⟩ = some (.int .i64 a0_1) := (blk_cell BK142.out 1).trans rfl
            have hcz32_2 : wc.cell? ⟨gb142, 2, none⟩ = some (.string a0_2) := (blk_cell BK142.out 2).trans rfl
            have hfz32_0 := blk_frozen BK142.out 0
            have hfz32_1 := blk_frozen BK142.out 1
            have hfz32_2 := blk_frozen BK142.out 2
            go_wp2
            go_ret
            exact ⟨by first | rfl | (simp [errW_none, errW_some] <;> rfl) | (simp [*, errW_none, errW_some] <;> rfl), by repeat (first | (with_reducible first | exact HB.out | apply below_alloc | apply pw_below_drewN | apply below_drew1 | refine below_set ?_ GE142.out | refine below_set ?_ GE143.out) | exact HB.out)⟩
        · rw [if_neg c22] at H
          have c22b0 : (a0_1 == 1) = false := beq_eq_false_iff_ne.mpr c22
          have c22b1 : (a0_1 != 1) = true := bne_iff_ne.mpr c22
          by_cases c33 : a0_1 = 2
          · rw [if_pos c33] at H
            have c33b0 : (a0_1 == 2) = true := beq_iff_eq.mpr c33
            have c33b1 : (a0_1 != 2) = false := bne_eq_false_iff_eq.mpr c33
            clear c33
            by_cases c34 : x5_2 = true
            · subst c34
              have H1 : (if a1_0 ≥ (-2147483648) then (some (decide (a1_0 ≤ 2147483647))) else (some false)) = some r := by rw [if_pos rfl] at H; exact H
              clear H
              have H := H1
              clear H1
              by_cases c35 : a1_0 ≥ (-2147483648)
              · rw [if_pos c35] at H
                have c35b0 : decide ((-2147483648) ≤ a1_0) = true := decide_eq_true c35
                clear c35
                obtain rfl := Option.some.inj H
                have hnb36 := NB142_143.out
                have hnc36 := NB143_142.out
                have hcz37_0 : wc.cell? ⟨gb142, 0, none⟩ = some (.string a0_0) := (blk_cell BK142.out 0).trans rfl
                have hcz37_1 : wc.cell? ⟨gb142, 1, none⟩ = some (.int .i64 a0_1) := (blk_cell BK142.out 1).trans rfl
                have hcz37_2 : wc.cell? ⟨gb142, 2, none⟩ = some (.string a0_2) := (blk_cell BK142.out 2).trans rfl
                have hfz37_0 := blk_frozen BK142.out 0
                have hfz37_1 := blk_frozen BK142.out 1
                have hfz37_2 := blk_frozen BK142.out 2
                have hcz38_0 : wc.cell? ⟨gb143, 0, none⟩ = some (.int .i64 a1_0) := (blk_cell BK143.out 0).trans rfl
                have hcz38_1 : wc.cell? ⟨gb143, 1, none⟩ = some (.string a1_1) := (blk_cell BK143.out 1).trans rfl
                have hcz38_2 : wc.cell? ⟨gb143, 2, none⟩ = some (.int .i64 a1_2) := (blk_cell BK143.out 2).trans rfl
                have hfz38_0 := blk_frozen BK143.out 0
                have hfz38_1 := blk_frozen BK143.out 1
                have hfz38_2 := blk_frozen BK143.out 2
                go_wp2
                go_ret
                exact ⟨by first | rfl | (simp [errW_none, errW_some] <;> rfl) | (simp [*, errW_none, errW_some] <;> rfl), by repeat (first | (with_reducible first | exact HB.out | apply below_alloc | apply pw_below_drewN | apply below_drew1 | refine below_set ?_ GE142.out | refine below_set ?_ GE143.out) | exact HB.out)⟩
              · rw [if_neg c35] at H
                have c35b0 : decide ((-2147483648) ≤ a1_0) = false := decide_eq_false c35
                clear c35
                obtain rfl := Option.some.inj H
                have hnb39 := NB142_143.out
                have hnc39 := NB143_142.out
                have hcz40_0 : wc.cell? ⟨gb142, 0, none⟩ = some (.string a0_0) := (blk_cell BK142.out 0).trans rfl
                have hcz40_1 : wc.cell? ⟨gb142, 1, none⟩ = some (.int .i64 a0_1) := (blk_cell BK142.out 1).trans rfl
                have hcz40_2 : wc.cell? ⟨gb142, 2, none⟩ = some (.string a0_2) := (blk_cell BK142.out 2).trans rfl
                have hfz40_0 := blk_frozen BK142.out 0
                have hfz40_1 := blk_frozen BK142.out 1
                have hfz40_2 := blk_frozen BK142.out 2
                have hcz41_0 : wc.cell? ⟨gb143, 0, none⟩ = some (.int .i64 a1_0) := (blk_cell BK143.out 0).trans rfl
                have hcz41_1 : wc.cell? ⟨gb143, 1, none⟩ = some (.string a1_1) := (blk_cell BK143.out 1).trans rfl
                have hcz41_2 : wc.cell? ⟨gb143, 2, none⟩ = some (.int .i64 a1_2) := (blk_cell BK143.out 2).trans rfl
                have hfz41_0 := blk_frozen BK143.out 0
                have hfz41_1 := blk_frozen BK143.out 1
                have hfz41_2 := blk_frozen BK143.out 2
                go_wp2
                go_ret
                exact ⟨by first | rfl | (simp [errW_none, errW_some] <;> rfl) | (simp [*, errW_none, errW_some] <;> rfl), by repeat (first | (with_reducible first | exact HB.out | apply below_alloc | apply pw_below_drewN | apply below_drew1 | refine below_set ?_ GE142.out | refine below_set ?_ GE143.out) | exact HB.out)⟩
            · replace c34 := Bool.eq_false_iff.mpr c34
              subst c34
              have H1 : (some false) = some r := by rw [if_neg (show ¬ (false = true) by decide)] at H; exact H
              clear H
              have H := H1
              clear H1
              obtain rfl := Option.some.inj H
              have hnb42 := NB142_143.out
              have hnc42 := NB143_142.out
              have hcz43_0 : wc.cell? ⟨gb142, 0, none⟩ = some (.string a0_0) := (blk_cell BK142.out 0).trans rfl
              have hcz43_1 : wc.cell? ⟨gb142, 1, none⟩ = some (.int .i64 a0_1) := (blk_cell BK142.out 1).trans rfl
              have hcz43_2 : wc.cell? ⟨gb142, 2, none⟩ = some (.string a0_2) := (blk_cell BK142.out 2).trans rfl
              have hfz43_0 := blk_frozen BK142.out 0
              have hfz43_1 := blk_frozen BK142.out 1
              have hfz43_2 := blk_frozen BK142.out 2
              go_wp2
              go_ret
              exact ⟨by first | rfl | (simp [errW_none, errW_some] <;> rfl) | (simp [*, errW_none, errW_some] <;> rfl), by repeat (first | (with_reducible first | exact HB.out | apply below_alloc | apply pw_below_drewN | apply below_drew1 | refine below_set ?_ GE142.out | refine below_set ?_ GE143.out) | exact HB.out)⟩
          · rw [if_neg c33] at H
            have c33b0 : (a0_1 == 2) = false := beq_eq_false_iff_ne.mpr c33
            have c33b1 : (a0_1 != 2) = true := bne_iff_ne.mpr c33
            by_cases c44 : a0_1 = 3
            · rw [if_pos c44] at H
              have c44b0 : (a0_1 == 3) = true := beq_iff_eq.mpr c44
              have c44b1 : (a0_1 != 3) = false := bne_eq_false_iff_eq.mpr c44
              clear c44
              obtain rfl := Option.some.inj H
              have hnb45 := NB142_143.out
              have hnc45 := NB143_142.out
              have hcz46_0 : wc.cell? ⟨gb142, 0, none⟩ = some (.string a0_0) := (blk_cell BK142.out 0).trans rfl
              have hcz46_1 : wc.cell? ⟨gb142, 1, none⟩ = some (.int .i64 a0_1) := (blk_cell BK142.out 1).trans rfl
              have hcz46_2 : wc.cell? ⟨gb142, 2, none⟩ = some (.string a0_2) := (blk_cell BK142.out 2).trans rfl
              have hfz46_0 := blk_frozen BK142.out 0
              have hfz46_1 := blk_frozen BK142.out 1
              have hfz46_2 := blk_frozen BK142.out 2
              go_wp2
              go_ret
              exact ⟨by first | rfl | (simp [errW_none, errW_some] <;> rfl) | (simp [*, errW_none, errW_some] <;> rfl), by repeat (first | (with_reducible first | exact HB.out | apply below_alloc | apply pw_below_drewN | apply below_drew1 | refine below_set ?_ GE142.out | refine below_set ?_ GE143.out) | exact HB.out)⟩
            · rw [if_neg c44] at H
              have c44b0 : (a0_1 == 3) = false := beq_eq_false_iff_ne.mpr c44
              have c44b1 : (a0_1 != 3) = true := bne_iff_ne.mpr c44
              by_cases c47 : a0_1 = 4
              · rw [if_pos c47] at H
                have c47b0 : (a0_1 == 4) = true := beq_iff_eq.mpr c47
                have c47b1 : (a0_1 != 4) = false := bne_eq_false_iff_eq.mpr c47
                clear c47
                by_cases c48 : (a1_1.size : Int) ≤ 12
                · rw [if_pos c48] at H
                  have c48b0 : decide ((a1_1.size : Int) ≤ 12) = true := decide_eq_true c48
                  have c48b1 : decide (a1_1.size ≤ 12) = true := decide_eq_true (by omega)
                  clear c48
                  by_cases c49 : a1_0 = 0
                  · rw [if_pos c49] at H
                    have c49b0 : (a1_0 == 0) = true := beq_iff_eq.mpr c49
                    have c49b1 : (a1_0 != 0) = false := bne_eq_false_iff_eq.mpr c49
                    clear c49
                    obtain rfl := Option.some.inj H
                    have hnb50 := NB142_143.out
                    have hnc50 := NB143_142.out
                    have hcz51_0 : wc.cell? ⟨gb142, 0, none⟩ = some (.string a0_0) := (blk_cell BK142.out 0).trans rfl
                    have hcz51_1 : wc.cell? ⟨gb142, 1, none⟩ = some (.int .i64 a0_1) := (blk_cell BK142.out 1).trans rfl
                    have hcz51_2 : wc.cell? ⟨gb142, 2, none⟩ = some (.string a0_2) := (blk_cell BK142.out 2).trans rfl
                    have hfz51_0 := blk_frozen BK142.out 0
                    have hfz51_1 := blk_frozen BK142.out 1
                    have hfz51_2 := blk_frozen BK142.out 2
                    have hcz52_0 : wc.cell? ⟨gb143, 0, none⟩ = some (.int .i64 a1_0) := (blk_cell BK143.out 0).trans rfl
                    have hcz52_1 : wc.cell? ⟨gb143, 1, none⟩ = some (.string a1_1) := (blk_cell BK143.out 1).trans rfl
                    have hcz52_2 : wc.cell? ⟨gb143, 2, none⟩ = some (.int .i64 a1_2) := (blk_cell BK143.out 2).trans rfl
                    have hfz52_0 := blk_frozen BK143.out 0
                    have hfz52_1 := blk_frozen BK143.out 1
                    have hfz52_2 := blk_frozen BK143.out 2
                    go_wp2
                    go_ret
                    exact ⟨by first | rfl | (simp [errW_none, errW_some] <;> rfl) | (simp [*, errW_none, errW_some] <;> rfl), by repeat (first | (with_reducible first | exact HB.out | apply below_alloc | apply pw_below_drewN | apply below_drew1 | refine below_set ?_ GE142.out | refine below_set ?_ GE143.out) | exact HB.out)⟩
                  · rw [if_neg c49] at H
                    have c49b0 : (a1_0 == 0) = false := beq_eq_false_iff_ne.mpr c49
                    have c49b1 : (a1_0 != 0) = true := bne_iff_ne.mpr c49
                    obtain rfl := Option.some.inj H
                    have hnb53 := NB142_143.out
                    have hnc53 := NB143_142.out
                    have hcz54_0 : wc.cell? ⟨gb142, 0, none⟩ = some (.string a0_0) := (blk_cell BK142.out 0).trans rfl
                    have hcz54_1 : wc.cell? ⟨gb142, 1, none⟩ = some (.int .i64 a0_1) := (blk_cell BK142.out 1).trans rfl
                    have hcz54_2 : wc.cell? ⟨gb142, 2, none⟩ = some (.string a0_2) := (blk_cell BK142.out 2).trans rfl
                    have hfz54_0 := blk_frozen BK142.out 0
                    have hfz54_1 := blk_frozen BK142.out 1
                    have hfz54_2 := blk_frozen BK142.out 2
                    have hcz55_0 : wc.cell? ⟨gb143, 0, none⟩ = some (.int .i64 a1_0) := (blk_cell BK143.out 0).trans rfl
                    have hcz55_1 : wc.cell? ⟨gb143, 1, none⟩ = some (.string a1_1) := (blk_cell BK143.out 1).trans rfl
                    have hcz55_2 : wc.cell? ⟨gb143, 2, none⟩ = some (.int .i64 a1_2) := (blk_cell BK143.out 2).trans rfl
                    have hfz55_0 := blk_frozen BK143.out 0
                    have hfz55_1 := blk_frozen BK143.out 1
                    have hfz55_2 := blk_frozen BK143.out 2
                    go_wp2
                    go_ret
                    exact ⟨by first | rfl | (simp [errW_none, errW_some] <;> rfl) | (simp [*, errW_none, errW_some] <;> rfl), by repeat (first | (with_reducible first | exact HB.out | apply below_alloc | apply pw_below_drewN | apply below_drew1 | refine below_set ?_ GE142.out | refine below_set ?_ GE143.out) | exact HB.out)⟩
                · rw [if_neg c48] at H
                  have c48b0 : decide ((a1_1.size : Int) ≤ 12) = false := decide_eq_false c48
                  have c48b1 : decide (a1_1.size ≤ 12) = false := decide_eq_false (by omega)
                  clear c48
                  obtain rfl := Option.some.inj H
                  have hnb56 := NB142_143.out
                  have hnc56 := NB143_142.out
                  have hcz57_0 : wc.cell? ⟨gb142, 0, none⟩ = some (.string a0_0) := (blk_cell BK142.out 0).trans rfl
                  have hcz57_1 : wc.cell? ⟨gb142, 1, none⟩ = some (.int .i64 a0_1) := (blk_cell BK142.out 1).trans rfl
                  have hcz57_2 : wc.cell? ⟨gb142, 2, none⟩ = some (.string a0_2) := (blk_cell BK142.out 2).trans rfl
                  have hfz57_0 := blk_frozen BK142.out 0
                  have hfz57_1 := blk_frozen BK142.out 1
                  have hfz57_2 := blk_frozen BK142.out 2
                  have hcz58_0 : wc.cell? ⟨gb143, 0, none⟩ = some (.int .i64 a1_0) := (blk_cell BK143.out 0).trans rfl
                  have hcz58_1 : wc.cell? ⟨gb143, 1, none⟩ = some (.string a1_1) := (blk_cell BK143.out 1).trans rfl
                  have hcz58_2 : wc.cell? ⟨gb143, 2, none⟩ = some (.int .i64 a1_2) := (blk_cell BK143.out 2).trans rfl
                  have hfz58_0 := blk_frozen BK143.out 0
                  have hfz58_1 := blk_frozen BK143.out 1
                  have hfz58_2 := blk_frozen BK143.out 2
                  go_wp2
                  go_ret
                  exact ⟨by first | rfl | (simp [errW_none, errW_some] <;> rfl) | (simp [*, errW_none, errW_some] <;> rfl), by repeat (first | (with_reducible first | exact HB.out | apply below_alloc | apply pw_below_drewN | apply below_drew1 | refine below_set ?_ GE142.out | refine below_set ?_ GE143.out) | exact HB.out)⟩
              · rw [if_neg c47] at H
                have c47b0 : (a0_1 == 4) = false := beq_eq_false_iff_ne.mpr c47
                have c47b1 : (a0_1 != 4) = true := bne_iff_ne.mpr c47
                by_cases c59 : a0_1 = 5
                · rw [if_pos c59] at H
                  have c59b0 : (a0_1 == 5) = true := beq_iff_eq.mpr c59
                  have c59b1 : (a0_1 != 5) = false := bne_eq_false_iff_eq.mpr c59
                  clear c59
                  by_cases c60 : a1_2 ≥ (-1)
                  · rw [if_pos c60] at H
                    have c60b0 : decide ((-1) ≤ a1_2) = true := decide_eq_true c60
                    clear c60
                    by_cases c61 : a1_2 ≤ 1073741824
                    · rw [if_pos c61] at H
                      have c61b0 : decide (a1_2 ≤ 1073741824) = true := decide_eq_true c61
                      clear c61
                      by_cases c62 : a1_0 = 0
                      · rw [if_pos c62] at H
                        have c62b0 : (a1_0 == 0) = true := beq_iff_eq.mpr c62
                        have c62b1 : (a1_0 != 0) = false := bne_eq_false_iff_eq.mpr c62
                        clear c62
                        obtain rfl := Option.some.inj H
                        have hnb63 := NB142_143.out
                        have hnc63 := NB143_142.out
                        have hcz64_0 : wc.cell? ⟨gb142, 0, none⟩ = some (.string a0_0) := (blk_cell BK142.out 0).trans rfl
                        have hcz64_1 : wc.cell? ⟨gb142, 1, none⟩ = some (.int .i64 a0_1) := (blk_cell BK142.out 1).trans rfl
                        have hcz64_2 : wc.cell? ⟨gb142, 2, none⟩ = some (.string a0_2) := (blk_cell BK142.out 2).trans rfl
                        have hfz64_0 := blk_frozen BK142.out 0
                        have hfz64_1 := blk_frozen BK142.out 1
                        have hfz64_2 := blk_frozen BK142.out 2
                        have hcz65_0 : wc.cell? ⟨gb143, 0, none⟩ = some (.int .i64 a1_0) := (blk_cell BK143.out 0).trans rfl
                        have hcz65_1 : wc.cell? ⟨gb143, 1, none⟩ = some (.string a1_1) := (blk_cell BK143.out 1).trans rfl
                        have hcz65_2 : wc.cell? ⟨gb143, 2, none⟩ = some (.int .i64 a1_2) := (blk_cell BK143.out 2).trans rfl
                        have hfz65_0 := blk_frozen BK143.out 0
                        have hfz65_1 := blk_frozen BK143.out 1
                        have hfz65_2 := blk_frozen BK143.out 2
                        go_wp2
                        go_ret
                        exact ⟨by first | rfl | (simp [errW_none, errW_some] <;> rfl) | (simp [*, errW_none, errW_some] <;> rfl), by repeat (first | (with_reducible first | exact HB.out | apply below_alloc | apply pw_below_drewN | apply below_drew1 | refine below_set ?_ GE142.out | refine below_set ?_ GE143.out) | exact HB.out)⟩
                      · rw [if_neg c62] at H
                        have c62b0 : (a1_0 == 0) = false := beq_eq_false_iff_ne.mpr c62
                        have c62b1 : (a1_0 != 0) = true := bne_iff_ne.mpr c62
                        obtain rfl := Option.some.inj H
                        have hnb66 := NB142_143.out
                        have hnc66 := NB143_142.out
                        have hcz67_0 : wc.cell? ⟨gb142, 0, none⟩ = some (.string a0_0) := (blk_cell BK142.out 0).trans rfl
                        have hcz67_1 : wc.cell? ⟨gb142, 1, none⟩ = some (.int .i64 a0_1) := (blk_cell BK142.out 1).trans rfl
                        have hcz67_2 : wc.cell? ⟨gb142, 2, none⟩ = some (.string a0_2) := (blk_cell BK142.out 2).trans rfl
                        have hfz67_0 := blk_frozen BK142.out 0
                        have hfz67_1 := blk_frozen BK142.out 1
                        have hfz67_2 := blk_frozen BK142.out 2
                        have hcz68_0 : wc.cell? ⟨gb143, 0, none⟩ = some (.int .i64 a1_0) := (blk_cell BK143.out 0).trans rfl
                        have hcz68_1 : wc.cell? ⟨gb143, 1, none⟩ = some (.string a1_1) := (blk_cell BK143.out 1).trans rfl
                        have hcz68_2 : wc.cell? ⟨gb143, 2, none⟩ = some (.int .i64 a1_2) := (blk_cell BK143.out 2).trans rfl
                        have hfz68_0 := blk_frozen BK143.out 0
                        have hfz68_1 := blk_frozen BK143.out 1
                        have hfz68_2 := blk_frozen BK143.out 2
                        go_wp2
                        go_ret
                        exact ⟨by first | rfl | (simp [errW_none, errW_some] <;> rfl) | (simp [*, errW_none, errW_some] <;> rfl), by repeat (first | (with_reducible first | exact HB.out | apply below_alloc | apply pw_below_drewN | apply below_drew1 | refine below_set ?_ GE142.out | refine below_set ?_ GE143.out) | exact HB.out)⟩
                    · rw [if_neg c61] at H
                      have c61b0 : decide (a1_2 ≤ 1073741824) = false := decide_eq_false c61
                      clear c61
                      obtain rfl := Option.some.inj H
                      have hnb69 := NB142_143.out
                      have hnc69 := NB143_142.out
                      have hcz70_0 : wc.cell? ⟨gb142, 0, none⟩ = some (.string a0_0) := (blk_cell BK142.out 0).trans rfl
                      have hcz70_1 : wc.cell? ⟨gb142, 1, none⟩ = some (.int .i64 a0_1) := (blk_cell BK142.out 1).trans rfl
                      have hcz70_2 : wc.cell? ⟨gb142, 2, none⟩ = some (.string a0_2) := (blk_cell BK142.out 2).trans rfl
                      have hfz70_0 := blk_frozen BK142.out 0
                      have hfz70_1 := blk_frozen BK142.out 1
                      have hfz70_2 := blk_frozen BK142.out 2
                      have hcz71_0 : wc.cell? ⟨gb143, 0, none⟩ = some (.int .i64 a1_0) := (blk_cell BK143.out 0).trans rfl
                      have hcz71_1 : wc.cell? ⟨gb143, 1, none⟩ = some (.string a1_1) := (blk_cell BK143.out 1).trans rfl
                      have hcz71_2 : wc.cell? ⟨gb143, 2, none⟩ = some (.int .i64 a1_2) := (blk_cell BK143.out 2).trans rfl
                      have hfz71_0 := blk_frozen BK143.out 0
                      have hfz71_1 := blk_frozen BK143.out 1
                      have hfz71_2 := blk_frozen BK143.out 2
                      go_wp2
                      go_ret
                      exact ⟨by first | rfl | (simp [errW_none, errW_some] <;> rfl) | (simp [*, errW_none, errW_some] <;> rfl), by repeat (first | (with_reducible first | exact HB.out | apply below_alloc | apply pw_below_drewN | apply below_drew1 | refine below_set ?_ GE142.out | refine below_set ?_ GE143.out) | exact HB.out)⟩
                  · rw [if_neg c60] at H
                    have c60b0 : decide ((-1) ≤ a1_2) = false := decide_eq_false c60
                    clear c60
                    obtain rfl := Option.some.inj H
                    have hnb72 := NB142_143.out
                    have hnc72 := NB143_142.out
                    have hcz73_0 : wc.cell? ⟨gb142, 0, none⟩ = some (.string a0_0) := (blk_cell BK142.out 0).trans rfl
                    have hcz73_1 : wc.cell? ⟨gb142, 1, none⟩ = some (.int .i64 a0_1) := (blk_cell BK142.out 1).trans rfl
                    have hcz73_2 : wc.cell? ⟨gb142, 2, none⟩ = some (.string a0_2) := (blk_cell BK142.out 2).trans rfl
                    have hfz73_0 := blk_frozen BK142.out 0
                    have hfz73_1 := blk_frozen BK142.out 1
                    have hfz73_2 := blk_frozen BK142.out 2
                    have hcz74_0 : wc.cell? ⟨gb143, 0, none⟩ = some (.int .i64 a1_0) := (blk_cell BK143.out 0).trans rfl
                    have hcz74_1 : wc.cell? ⟨gb143, 1, none⟩ = some (.string a1_1) := (blk_cell BK143.out 1).trans rfl
                    have hcz74_2 : wc.cell? ⟨gb143, 2, none⟩ = some (.int .i64 a1_2) := (blk_cell BK143.out 2).trans rfl
                    have hfz74_0 := blk_frozen BK143.out 0
                    have hfz74_1 := blk_frozen BK143.out 1
                    have hfz74_2 := blk_frozen BK143.out 2
                    go_wp2
                    go_ret
                    exact ⟨by first | rfl | (simp [errW_none, errW_some] <;> rfl) | (simp [*, errW_none, errW_some] <;> rfl), by repeat (first | (with_reducible first | exact HB.out | apply below_alloc | apply pw_below_drewN | apply below_drew1 | refine below_set ?_ GE142.out | refine below_set ?_ GE143.out) | exact HB.out)⟩
                · rw [if_neg c59] at H
                  have c59b0 : (a0_1 == 5) = false := beq_eq_false_iff_ne.mpr c59
                  have c59b1 : (a0_1 != 5) = true := bne_iff_ne.mpr c59
                  obtain rfl := Option.some.inj H
                  have hnb75 := NB142_143.out
                  have hnc75 := NB143_142.out
                  have hcz76_0 : wc.cell? ⟨gb142, 0, none⟩ = some (.string a0_0) := (blk_cell BK142.out 0).trans rfl
                  have hcz76_1 : wc.cell? ⟨gb142, 1, none⟩ = some (.int .i64 a0_1) := (blk_cell BK142.out 1).trans rfl
                  have hcz76_2 : wc.cell? ⟨gb142, 2, none⟩ = some (.string a0_2) := (blk_cell BK142.out 2).trans rfl
                  have hfz76_0 := blk_frozen BK142.out 0
                  have hfz76_1 := blk_frozen BK142.out 1
                  have hfz76_2 := blk_frozen BK142.out 2
                  go_wp2
                  go_ret
                  exact ⟨by first | rfl | (simp [errW_none, errW_some] <;> rfl) | (simp [*, errW_none, errW_some] <;> rfl), by repeat (first | (with_reducible first | exact HB.out | apply below_alloc | apply pw_below_drewN | apply below_drew1 | refine below_set ?_ GE142.out | refine below_set ?_ GE143.out) | exact HB.out)⟩

end Go.Proofs.Ytepgcejgjfeolaa.PTl
