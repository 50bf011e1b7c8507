-- Written by wip/tools/myprint.py, a program of the prover's own, over the kit's print; the contracts named 'HAND' there are typed by hand.
import Derived.Test.YtepgcejgjfeolaaPAllx0
import Derived.Test.YtepgcejgjfeolaaPAllx3
import Derived.Test.YtepgcejgjfeolaaPAllx6
namespace Go.Proofs.Ytepgcejgjfeolaa.PAll
open Go.RowKit Go.Proofs.YtepgcejgjfeolaaW.PrintWords Go.Proofs.YtepgcejgjfeolaaW.PrintLast Go.Proofs.YtepgcejgjfeolaaW.PrintMore
attribute [local go_sem] max2_int min2_int max_two min_two max_three min_three max_four min_four   -- for this text's walks alone
set_option linter.unusedVariables false
set_option linter.unusedSimpArgs false

/-! ### foliatelaw07_ValueEnds: function 9 -/
mutual
def foliatelaw07_ValueEnds.j0 : Nat → Int → ByteArray → Bool → Bool → Option (Bool)
  | 0, _, _, _, _ => none
  | k + 1, x0, x1, x5, x17 => if x17 = true then (some x5) else ((value_Fits.f (⟨#[]⟩ : ByteArray) 0 (⟨#[]⟩ : ByteArray) x0 (⟨#[]⟩ : ByteArray) 0).bind fun t298 => (if x0 ≥ (-128) then (foliatelaw07_ValueEnds.j1 k x0 x1 (t298 == (decide (x0 ≤ 127))) x0 (⟨#[]⟩ : ByteArray) 0) else (foliatelaw07_ValueEnds.j1 k x0 x1 (t298 == false) x0 (⟨#[]⟩ : ByteArray) 0)))
def foliatelaw07_ValueEnds.j1 : Nat → Int → ByteArray → Bool → Int → ByteArray → Int → Option (Bool)
  | 0, _, _, _, _, _, _ => none
  | k + 1, x0, x1, x7, x298000, x298001, x298002 => (value_Fits.f (⟨#[]⟩ : ByteArray) 1 (⟨#[]⟩ : ByteArray) x298000 x298001 x298002).bind fun t299 => (if x0 ≥ (-32768) then ((value_Fits.f (⟨#[]⟩ : ByteArray) 2 (⟨#[]⟩ : ByteArray) x298000 x298001 x298002).bind fun t300 => (if x0 ≥ (-2147483648) then (if x7 = true then (if (t299 == (decide (x0 ≤ 32767))) = true then (if (t300 == (decide (x0 ≤ 2147483647))) = true then ((value_Fits.f (⟨#[]⟩ : ByteArray) 3 (⟨#[]⟩ : ByteArray) x298000 x298001 x298002).bind fun t301 => (if t301 = true then ((value_Fits.f (⟨#[]⟩ : ByteArray) 4 (⟨#[]⟩ : ByteArray) 0 x1 0).bind fun t302 => (some (t302 == (decide ((x1.size : Int) ≤ 12))))) else (some false))) else (some false)) else (some false)) else (some false)) else (if x7 = true then (if (t299 == (decide (x0 ≤ 32767))) = true then (if (t300 == false) = true then ((value_Fits.f (⟨#[]⟩ : ByteArray) 3 (⟨#[]⟩ : ByteArray) x298000 x298001 x298002).bind fun t303 => (if t303 = true then ((value_Fits.f (⟨#[]⟩ : ByteArray) 4 (⟨#[]⟩ : ByteArray) 0 x1 0).bind fun t304 => (some (t304 == (decide ((x1.size : Int) ≤ 12))))) else (some false))) else (some false)) else (some false)) else (some false)))) else ((value_Fits.f (⟨#[]⟩ : ByteArray) 2 (⟨#[]⟩ : ByteArray) x298000 x298001 x298002).bind fun t305 => (if x0 ≥ (-2147483648) then (if x7 = true then (if (t299 == false) = true then (if (t305 == (decide (x0 ≤ 2147483647))) = true then ((value_Fits.f (⟨#[]⟩ : ByteArray) 3 (⟨#[]⟩ : ByteArray) x298000 x298001 x298002).bind fun t306 => (if t306 = true then ((value_Fits.f (⟨#[]⟩ : ByteArray) 4 (⟨#[]⟩ : ByteArray) 0 x1 0).bind fun t307 => (some (t307 == (decide ((x1.size : Int) ≤ 12))))) else (some false))) else (some false)) else (some false)) else (some false)) else (if x7 = true then (if (t299 == false) = true then (if (t305 == false) = true then ((value_Fits.f (⟨#[]⟩ : ByteArray) 3 (⟨#[]⟩ : ByteArray) x298000 x298001 x298002).bind fun t308 => (if t308 = true then ((value_Fits.f (⟨#[]⟩ : ByteArray) 4 (⟨#[]⟩ : ByteArray) 0 x1 0).bind fun t309 => (some (t309 == (decide ((x1.size : Int) ≤ 12))))) else (some false))) else (some false)) else (some false)) else (some false)))))
end
def foliatelaw07_ValueEnds.f (k : Nat) (a0 : Int) (a1 : ByteArray) : Option (Bool) := (foliatelaw07_awake.f k).bind fun t296 => (if t296 = true then (foliatelaw07_ValueEnds.j0 k a0 a1 t296 (decide ((a1.size : Int) > 300))) else (foliatelaw07_ValueEnds.j0 k a0 a1 t296 true))
theorem foliatelaw07_ValueEnds.mono_l : ∀ k, (∀ y0 y1 y2 y3, LeO (foliatelaw07_ValueEnds.j0 k y0 y1 y2 y3) (foliatelaw07_ValueEnds.j0 (k + 1) y0 y1 y2 y3)) ∧ (∀ y0 y1 y2 y3 y4 y5, LeO (foliatelaw07_ValueEnds.j1 k y0 y1 y2 y3 y4 y5) (foliatelaw07_ValueEnds.j1 (k + 1) y0 y1 y2 y3 y4 y5))
  | 0 => ⟨fun _ _ _ _ r h => by simp [foliatelaw07_ValueEnds.j0] at h, fun _ _ _ _ _ _ r h => by simp [foliatelaw07_ValueEnds.j1] at h⟩
  | k + 1 => by
    obtain ⟨ih0, ih1⟩ := foliatelaw07_ValueEnds.mono_l k
    refine ⟨?_, ?_⟩
    · intro y0 y1 y2 y3
      unfold foliatelaw07_ValueEnds.j0
      repeat' first
      | (with_reducible exact ih0 _ _ _ _)
      | (with_reducible exact ih1 _ _ _ _ _ _)
      | (with_reducible exact foliatelaw07_awake.mono _)
      | (with_reducible exact LeO.refl _)
      | (with_reducible exact LeO.none _)
      | (with_reducible refine LeO.ite ?_ ?_)
      | (with_reducible refine LeO.bind ?_ (fun _ => ?_))
      | exact ih0 _ _ _ _
      | exact ih1 _ _ _ _ _ _
      | exact foliatelaw07_awake.mono _
      | exact LeO.none _
      | refine LeO.ite ?_ ?_
      | refine LeO.bind ?_ (fun _ => ?_)
    · intro y0 y1 y2 y3 y4 y5
      unfold foliatelaw07_ValueEnds.j1
      repeat' first
      | (with_reducible exact ih0 _ _ _ _)
      | (with_reducible exact ih1 _ _ _ _ _ _)
      | (with_reducible exact foliatelaw07_awake.mono _)
      | (with_reducible exact LeO.refl _)
      | (with_reducible exact LeO.none _)
      | (with_reducible refine LeO.ite ?_ ?_)
      | (with_reducible refine LeO.bind ?_ (fun _ => ?_))
      | exact ih0 _ _ _ _
      | exact ih1 _ _ _ _ _ _
      | exact foliatelaw07_awake.mono _
      | exact LeO.none _
      | refine LeO.ite ?_ ?_
      | refine LeO.bind ?_ (fun _ => ?_)
theorem foliatelaw07_ValueEnds.mono : ∀ a0 a1 k, LeO (foliatelaw07_ValueEnds.f k a0 a1) (foliatelaw07_ValueEnds.f (k + 1) a0 a1) := by
  intro a0 a1 k
  obtain ⟨ih0, ih1⟩ := foliatelaw07_ValueEnds.mono_l k
  unfold foliatelaw07_ValueEnds.f
  repeat' first
      | (with_reducible exact ih0 _ _ _ _)
      | (with_reducible exact ih1 _ _ _ _ _ _)
      | (with_reducible exact foliatelaw07_awake.mono _)
      | (with_reducible exact LeO.refl _)
      | (with_reducible exact LeO.none _)
      | (with_reducible refine LeO.ite ?_ ?_)
      | (with_reducible refine LeO.bind ?_ (fun _ => ?_))
      | exact ih0 _ _ _ _
      | exact ih1 _ _ _ _ _ _
      | exact foliatelaw07_awake.mono _
      | exact LeO.none _
      | refine LeO.ite ?_ ?_
      | refine LeO.bind ?_ (fun _ => ?_)
set_option maxHeartbeats 8000000 in
set_option maxRecDepth 100000 in
theorem foliatelaw07_ValueEnds.calls (k : Nat) (a0 : Int) (a1 : ByteArray) (r : Bool) (w : World) (h : foliatelaw07_ValueEnds.f k a0 a1 = some r) :
    Calls Try.prog 9 #[.int .i64 a0, .string a1] w fun e w' => e = .returned (.bool r) ∧ Below w.heap.size w w' := by
  have hu25 := Try.underlying25
  have hu23 := Try.underlying23
  have HB := Aside0.mk (Below.refl w.heap.size w)
  have H : ((foliatelaw07_awake.f k).bind fun t296 => (if t296 = true then (foliatelaw07_ValueEnds.j0 k a0 a1 t296 (decide ((a1.size : Int) > 300))) else (foliatelaw07_ValueEnds.j0 k a0 a1 t296 true))) = some r := h
  clear h
  replace H := Option.bind_eq_some_iff.mp H
  obtain ⟨t296, A30, H⟩ := H
  replace H : (if t296 = true then (foliatelaw07_ValueEnds.j0 k a0 a1 t296 (decide ((a1.size : Int) > 300))) else (foliatelaw07_ValueEnds.j0 k a0 a1 t296 true)) = some r := H
  have A3 := Aside0.mk A30
  clear A30
  have HC4 := Aside0.mk H
  clear H
  go_enter Try.func9, Try.ntmps9
  go_upto_region 2 with (first | ((with_reducible refine gate_callee (f := 10) rfl ?_); refine goesL_ (some 10) rfl rfl Try.func10 (by kernel_rfl) rfl #[] rfl (by (try simp only [List.map_toArray, List.map_cons, List.map_nil]); first | done | rfl | (simp only [List.length_drop, List.length_take]; rfl)) ?_; (with_reducible refine (foliatelaw07_awake.calls k  t296 _ A3.out).mono ?_); rintro e w5 ⟨rfl, hb⟩; refine ⟨_, rfl, ?_⟩; have n0_ := Aside0.mk (below_step (by repeat (first | (with_reducible first | exact HB.out | apply below_alloc | apply pw_below_drewN | apply below_drew1) | exact HB.out)) hb); clear HB; have HB := n0_; clear n0_; (try clear hb); (try clear hb2); (try clear hk); (try clear hi)))
  (try simp only [Act.put, List.setIfInBounds_toArray, List.set_cons_zero, List.set_cons_succ])
  go_cut [17] (fun v17 wc => ∃ (kq : Nat) (x17_3 : Bool), v17 = .bool x17_3 ∧ Aside0 (foliatelaw07_ValueEnds.j0 kq a0 a1 t296 x17_3 = some r) ∧ Aside0 (kq ≤ k) ∧ Aside0 (Below w.heap.size w wc))
  case first =>
    have H := HC4.out
    clear HC4
    by_cases c6 : t296 = true
    · subst c6
      have H1 : (foliatelaw07_ValueEnds.j0 k a0 a1 true (decide ((a1.size : Int) > 300))) = some r := by rw [if_pos rfl] at H; exact H
      clear H
      have H := H1
      clear H1
      have H' := Aside0.mk H
      clear H
      go_wp2
      go_meet
      case rel => exact ⟨_, (decide ((a1.size : Int) > 300)), (by first | rfl | (simp; done) | (simp [*]; done)), H', ⟨by first | omega | exact Nat.le_refl _⟩, ⟨by repeat (first | (with_reducible first | exact HB.out | apply below_alloc | apply pw_below_drewN | apply below_drew1) | exact HB.out)⟩⟩
    · replace c6 := Bool.eq_false_iff.mpr c6
      subst c6
      have H1 : (foliatelaw07_ValueEnds.j0 k a0 a1 false true) = some r := by rw [if_neg (show ¬ (false = true) by decide)] at H; exact H
      clear H
      have H := H1
      clear H1
      have H' := Aside0.mk H
      clear H
      go_wp2
      go_meet
      case rel => exact ⟨_, (true), (by first | rfl | (simp; done) | (simp [*]; done)), H', ⟨by first | omega | exact Nat.le_refl _⟩, ⟨by repeat (first | (with_reducible first | exact HB.out | apply below_alloc | apply pw_below_drewN | apply below_drew1) | exact HB.out)⟩⟩
  case rest =>
    clear HC4
    try clear c1
    try clear p2
    try clear c6
    obtain ⟨kq, x17_3, rfl, HA, HJ3, HB⟩ := hcut
    cases kq with
    | zero => exact absurd HA.out (by simp [foliatelaw07_ValueEnds.j0])
    | succ kj3 =>
      have H := HA.out
      clear HA
      simp only [foliatelaw07_ValueEnds.j0] at H
      by_cases c7 : x17_3 = true
      · subst c7
        have H1 : (some t296) = some r := by rw [if_pos rfl] at H; exact H
        clear H
        have H := H1
        clear H1
        obtain rfl := Option.some.inj H
        go_wp2
        go_ret
        exact ⟨by first | rfl | (simp [errW_none, errW_some] <;> rfl) | (simp [*, errW_none, errW_some] <;> rfl), by repeat (first | (with_reducible first | exact HB.out | apply below_alloc | apply pw_below_drewN | apply below_drew1) | exact HB.out)⟩
      · replace c7 := Bool.eq_false_iff.mpr c7
        subst c7
        have H1 : ((value_Fits.f (⟨#[]⟩ : ByteArray) 0 (⟨#[]⟩ : ByteArray) a0 (⟨#[]⟩ : ByteArray) 0).bind fun t298 => (if a0 ≥ (-128) then (foliatelaw07_ValueEnds.j1 kj3 a0 a1 (t298 == (decide (a0 ≤ 127))) a0 (⟨#[]⟩ : ByteArray) 0) else (foliatelaw07_ValueEnds.j1 kj3 a0 a1 (t298 == false) a0 (⟨#[]⟩ : ByteArray) 0))) = some r := by rw [if_neg (show ¬ (false = true) by decide)] at H; exact H
        clear H
        have H := H1
        clear H1
        have HC8 := Aside0.mk H
        clear H
        go_upto_region 5 with (first | ((with_reducible refine gate_dst (N := 6) rfl ?_); (try (refine gate_guard (by rfl) ?_; dsimp only)); refine box_event ?hg (N := 6) ?hd (cs := #[.int .i64 0, .string (⟨#[]⟩ : ByteArray), .int .i64 0]) (t := 25) ?hr ?_; (case hd => rfl); (case hg => rfl); (case hr => first | (go_simp; done) | (go_simp; rfl)); intro gb297 hg w9 hbox hb; have n0_ := Aside0.mk (below_step (by repeat (first | (with_reducible first | exact HB.out | apply below_alloc | apply pw_below_drewN | apply below_drew1) | exact HB.out)) hb); have n1_ := Aside0.mk (hbox); have n2_ := Aside0.mk ((by rw [hg]; exact (below_size (by repeat (first | (with_reducible first | exact HB.out | apply below_alloc | apply pw_below_drewN | apply below_drew1) | exact HB.out))) : w.heap.size ≤ gb297)); have n3_ := Aside0.mk ((by rw [hg]; exact (below_size (by repeat (first | (with_reducible first | exact HB.out | apply below_alloc | apply pw_below_drewN | apply below_drew1) | exact HB.out))) : w.heap.size ≤ gb297)); clear HB; have HB := n0_; have BK297 := n1_; have GW297 := n2_; have GE297 := n3_; clear n0_ n1_ n2_ n3_; clear hb hbox hg; have hcz10_0 : w9.cell? ⟨gb297, 0, none⟩ = some (.int .i64 0) := (blk_cell BK297.out 0).trans rfl; have hcz10_1 : w9.cell? ⟨gb297, 1, none⟩ = some (.string (⟨#[]⟩ : ByteArray)) := (blk_cell BK297.out 1).trans rfl; have hcz10_2 : w9.cell? ⟨gb297, 2, none⟩ = some (.int .i64 0) := (blk_cell BK297.out 2).trans rfl; have hfz10_0 := blk_frozen BK297.out 0; have hfz10_1 := blk_frozen BK297.out 1; have hfz10_2 := blk_frozen BK297.out 2))
        (try simp only [Act.put, List.setIfInBounds_toArray, List.set_cons_zero, List.set_cons_succ])
        go_cut [7] (fun v7 wc => ∃ (kq : Nat) (x7_7 : Bool), v7 = .bool x7_7 ∧ Aside0 (foliatelaw07_ValueEnds.j1 kq a0 a1 x7_7 a0 (⟨#[]⟩ : ByteArray) 0 = some r) ∧ Aside0 (kq ≤ kj3) ∧ Aside0 (wc.heap[gb297]? = some (.cells #[.int .i64 a0, .string (⟨#[]⟩ : ByteArray), .int .i64 0] 25 (0, 0))) ∧ Aside0 (Below w.heap.size w wc))
        case first =>
          have H := HC8.out
          clear HC8
          replace H := Option.bind_eq_some_iff.mp H
          obtain ⟨t298, A110, H⟩ := H
          replace H : (if a0 ≥ (-128) then (foliatelaw07_ValueEnds.j1 kj3 a0 a1 (t298 == (decide (a0 ≤ 127))) a0 (⟨#[]⟩ : ByteArray) 0) else (foliatelaw07_ValueEnds.j1 kj3 a0 a1 (t298 == false) a0 (⟨#[]⟩ : ByteArray) 0)) = some r := H
          have A11 := Aside0.mk A110
          clear A110
          by_cases c12 : a0 ≥ (-128)
          · rw [if_pos c12] at H
            have c12b0 : decide ((-128) ≤ a0) = true := decide_eq_true c12
            clear c12
            (first | rw [c12b0] | (simp only [i64_w, i32_w]; rw [c12b0]) | skip)
            have H' := Aside0.mk H
            clear H
            have hcz13_0 : w9.cell? ⟨gb297, 0, none⟩ = some (.int .i64 0) := (blk_cell BK297.out 0).trans rfl
            have hcz13_1 : w9.cell? ⟨gb297, 1, none⟩ = some (.string (⟨#[]⟩ : ByteArray)) := (blk_cell BK297.out 1).trans rfl
            have hcz13_2 : w9.cell? ⟨gb297, 2, none⟩ = some (.int .i64 0) := (blk_cell BK297.out 2).trans rfl
            have hfz13_0 := blk_frozen BK297.out 0
            have hfz13_1 := blk_frozen BK297.out 1
            have hfz13_2 := blk_frozen BK297.out 2
            go_wp2_with (first | ((with_reducible refine gate_callee (f := 16) rfl ?_); refine goesL_ (some 23) rfl rfl Try.func16 (by kernel_rfl) rfl #[.agg #[.string (⟨#[]⟩ : ByteArray), .int .i64 0, .string (⟨#[]⟩ : ByteArray)], .agg #[.int .i64 a0, .string (⟨#[]⟩ : ByteArray), .int .i64 0]] rfl (by (try simp only [List.map_toArray, List.map_cons, List.map_nil]); first | done | rfl | (simp only [List.length_drop, List.length_take]; rfl)) ?_; (with_reducible refine (value_Fits.calls (⟨#[]⟩ : ByteArray) 0 (⟨#[]⟩ : ByteArray) a0 (⟨#[]⟩ : ByteArray) 0 t298 _ A11.out).mono ?_); rintro e w14 ⟨rfl, hb⟩; refine ⟨_, rfl, ?_⟩; have n0_ := Aside0.mk (blk_below (g := gb297) (o := .cells #[.int .i64 a0, .string (⟨#[]⟩ : ByteArray), .int .i64 0] 25 (0, 0)) (by (with_reducible repeat (first | refine blk_drewN ?_ _ | refine blk_drew ?_ | refine blk_alloc ?_ _)); refine blk_put (cs := #[.int .i64 a0, .string (⟨#[]⟩ : ByteArray), .int .i64 0]) ?_ 2 _ rfl; (with_reducible repeat (first | refine blk_drewN ?_ _ | refine blk_drew ?_ | refine blk_alloc ?_ _)); refine blk_put (cs := #[.int .i64 a0, .string (⟨#[]⟩ : ByteArray), .int .i64 0]) ?_ 1 _ rfl; (with_reducible repeat (first | refine blk_drewN ?_ _ | refine blk_drew ?_ | refine blk_alloc ?_ _)); refine blk_put (cs := #[.int .i64 0, .string (⟨#[]⟩ : ByteArray), .int .i64 0]) ?_ 0 _ rfl; (with_reducible repeat (first | refine blk_drewN ?_ _ | refine blk_drew ?_ | refine blk_alloc ?_ _)); exact BK297.out) hb); have n1_ := Aside0.mk (below_step (by repeat (first | (with_reducible first | exact HB.out | apply below_alloc | apply pw_below_drewN | apply below_drew1 | refine below_set ?_ GE297.out) | exact HB.out)) hb); clear BK297; clear HB; have BK297 := n0_; have HB := n1_; clear n0_ n1_; (try clear hb); (try clear hb2); (try clear hk); (try clear hi)))
            go_meet
            case rel => exact ⟨_, ((t298 == (decide (a0 ≤ 127)))), (by first | rfl | (simp; done) | (simp [*]; done)), H', ⟨by have := HJ3.out; first | omega | exact Nat.le_refl _⟩, ⟨by (with_reducible repeat (first | refine blk_drewN ?_ _ | refine blk_drew ?_ | refine blk_alloc ?_ _)); exact BK297.out⟩, ⟨by repeat (first | (with_reducible first | exact HB.out | apply below_alloc | apply pw_below_drewN | apply below_drew1 | refine below_set ?_ GE297.out) | exact HB.out)⟩⟩
          · rw [if_neg c12] at H
            have c12b0 : decide ((-128) ≤ a0) = false := decide_eq_false c12
            clear c12
            (first | rw [c12b0] | (simp only [i64_w, i32_w]; rw [c12b0]) | skip)
            have H' := Aside0.mk H
            clear H
            have hcz15_0 : w9.cell? ⟨gb297, 0, none⟩ = some (.int .i64 0) := (blk_cell BK297.out 0).trans rfl
            have hcz15_1 : w9.cell? ⟨gb297, 1, none⟩ = some (.string (⟨#[]⟩ : ByteArray)) := (blk_cell BK297.out 1).trans rfl
            have hcz15_2 : w9.cell? ⟨gb297, 2, none⟩ = some (.int .i64 0) := (blk_cell BK297.out 2).trans rfl
            have hfz15_0 := blk_frozen BK297.out 0
            have hfz15_1 := blk_frozen BK297.out 1
            have hfz15_2 := blk_frozen BK297.out 2
            go_wp2_with (first | ((with_reducible refine gate_callee (f := 16) rfl ?_); refine goesL_ (some 23) rfl rfl Try.func16 (by kernel_rfl) rfl #[.agg #[.string (⟨#[]⟩ : ByteArray), .int .i64 0, .string (⟨#[]⟩ : ByteArray)], .agg #[.int .i64 a0, .string (⟨#[]⟩ : ByteArray), .int .i64 0]] rfl (by (try simp only [List.map_toArray, List.map_cons, List.map_nil]); first | done | rfl | (simp only [List.length_drop, List.length_take]; rfl)) ?_; (with_reducible refine (value_Fits.calls (⟨#[]⟩ : ByteArray) 0 (⟨#[]⟩ : ByteArray) a0 (⟨#[]⟩ : ByteArray) 0 t298 _ A11.out).mono ?_); rintro e w16 ⟨rfl, hb⟩; refine ⟨_, rfl, ?_⟩; have n0_ := Aside0.mk (blk_below (g := gb297) (o := .cells #[.int .i64 a0, .string (⟨#[]⟩ : ByteArray), .int .i64 0] 25 (0, 0)) (by (with_reducible repeat (first | refine blk_drewN ?_ _ | refine blk_drew ?_ | refine blk_alloc ?_ _)); refine blk_put (cs := #[.int .i64 a0, .string (⟨#[]⟩ : ByteArray), .int .i64 0]) ?_ 2 _ rfl; (with_reducible repeat (first | refine blk_drewN ?_ _ | refine blk_drew ?_ | refine blk_alloc ?_ _)); refine blk_put (cs := #[.int .i64 a0, .string (⟨#[]⟩ : ByteArray), .int .i64 0]) ?_ 1 _ rfl; (with_reducible repeat (first | refine blk_drewN ?_ _ | refine blk_drew ?_ | refine blk_alloc ?_ _)); refine blk_put (cs := #[.int .i64 0, .string (⟨#[]⟩ : ByteArray), .int .i64 0]) ?_ 0 _ rfl; (with_reducible repeat (first | refine blk_drewN ?_ _ | refine blk_drew ?_ | refine blk_alloc ?_ _)); exact BK297.out) hb); have n1_ := Aside0.mk (below_step (by repeat (first | (with_reducible first | exact HB.out | apply below_alloc | apply pw_below_drewN | apply below_drew1 | refine below_set ?_ GE297.out) | exact HB.out)) hb); clear BK297; clear HB; have BK297 := n0_; have HB := n1_; clear n0_ n1_; (try clear hb); (try clear hb2); (try clear hk); (try clear hi)))
            go_meet
            case rel => exact ⟨_, ((t298 == false)), (by first | rfl | (simp; done) | (simp [*]; done)), H', ⟨by have := HJ3.out; first | omega | exact Nat.le_refl _⟩, ⟨by (with_reducible repeat (first | refine blk_drewN ?_ _ | refine blk_drew ?_ | refine blk_alloc ?_ _)); exact BK297.out⟩, ⟨by repeat (first | (with_reducible first | exact HB.out | apply below_alloc | apply pw_below_drewN | apply below_drew1 | refine below_set ?_ GE297.out) | exact HB.out)⟩⟩
        case rest =>
          clear HC8
          try clear c1
          try clear p2
          try clear c6
          try clear c7
          try clear c9
          try clear c10
          try clear c12
          try clear c12b0
          try clear c16
          try clear hcz10_0
          try clear hcz10_1
          try clear hcz10_2
          try clear hcz13_0
          try clear hcz13_1
          try clear hcz13_2
          try clear hcz15_0
          try clear hcz15_1
          try clear hcz15_2
          try clear hfz10_0
          try clear hfz10_1
          try clear hfz10_2
          try clear hfz13_0
          try clear hfz13_1
          try clear hfz13_2
          try clear hfz15_0
          try clear hfz15_1
          try clear hfz15_2
          try clear p2
          obtain ⟨kq, x7_7, rfl, HA, HJ7, BK297, HB⟩ := hcut
          cases kq with
          | zero => exact absurd HA.out (by simp [foliatelaw07_ValueEnds.j1])
          | succ kj7 =>
            have H := HA.out
            clear HA
            simp only [foliatelaw07_ValueEnds.j1] at H
            replace H := Option.bind_eq_some_iff.mp H
            obtain ⟨t299, A170, H⟩ := H
            replace H : (if a0 ≥ (-32768) then ((value_Fits.f (⟨#[]⟩ : ByteArray) 2 (⟨#[]⟩ : ByteArray) a0 (⟨#[]⟩ : ByteArray) 0).bind fun t300 => (if a0 ≥ (-2147483648) then (if x7_7 = true then (if (t299 == (decide (a0 ≤ 32767))) = true then (if (t300 == (decide (a0 ≤ 2147483647))) = true then ((value_Fits.f (⟨#[]⟩ : ByteArray) 3 (⟨#[]⟩ : ByteArray) a0 (⟨#[]⟩ : ByteArray) 0).bind fun t301 => (if t301 = true then ((value_Fits.f (⟨#[]⟩ : ByteArray) 4 (⟨#[]⟩ : ByteArray) 0 a1 0).bind fun t302 => (some (t302 == (decide ((a1.size : Int) ≤ 12))))) else (some false))) else (some false)) else (some false)) else (some false)) else (if x7_7 = true then (if (t299 == (decide (a0 ≤ 32767))) = true then (if (t300 == false) = true then ((value_Fits.f (⟨#[]⟩ : ByteArray) 3 (⟨#[]⟩ : ByteArray) a0 (⟨#[]⟩ : ByteArray) 0).bind fun t303 => (if t303 = true then ((value_Fits.f (⟨#[]⟩ : ByteArray) 4 (⟨#[]⟩ : ByteArray) 0 a1 0).bind fun t304 => (some (t304 == (decide ((a1.size : Int) ≤ 12))))) else (some false))) else (some false)) else (some false)) else (some false)))) else ((value_Fits.f (⟨#[]⟩ : ByteArray) 2 (⟨#[]⟩ : ByteArray) a0 (⟨#[]⟩ : ByteArray) 0).bind fun t305 => (if a0 ≥ (-2147483648) then (if x7_7 = true then (if (t299 == false) = true then (if (t305 == (decide (a0 ≤ 2147483647))) = true then ((value_Fits.f (⟨#[]⟩ : ByteArray) 3 (⟨#[]⟩ : ByteArray) a0 (⟨#[]⟩ : ByteArray) 0).bind fun t306 => (if t306 = true then ((value_Fits.f (⟨#[]⟩ : ByteArray) 4 (⟨#[]⟩ : ByteArray) 0 a1 0).bind fun t307 => (some (t307 == (decide ((a1.size : Int) ≤ 12))))) else (some false))) else (some false)) else (some false)) else (some false)) else (if x7_7 = true then (if (t299 == false) = true then (if (t305 == false) = true then ((value_Fits.f (⟨#[]⟩ : ByteArray) 3 (⟨#[]⟩ : ByteArray) a0 (⟨#[]⟩ : ByteArray) 0).bind fun t308 => (if t308 = true then ((value_Fits.f (⟨#[]⟩ : ByteArray) 4 (⟨#[]⟩ : ByteArray) 0 a1 0).bind fun t309 => (some (t309 == (decide ((a1.size : Int) ≤ 12))))) else (some false))) else (some false)) else (some false)) else (some false))))) = some r := H
            have A17 := Aside0.mk A170
            clear A170
            by_cases c18 : a0 ≥ (-32768)
            · rw [if_pos c18] at H
              have c18b0 : decide ((-32768) ≤ a0) = true := decide_eq_true c18
              clear c18
              replace H := Option.bind_eq_some_iff.mp H
              obtain ⟨t300, A190, H⟩ := H
              replace H : (if a0 ≥ (-2147483648) then (if x7_7 = true then (if (t299 == (decide (a0 ≤ 32767))) = true then (if (t300 == (decide (a0 ≤ 2147483647))) = true then ((value_Fits.f (⟨#[]⟩ : ByteArray) 3 (⟨#[]⟩ : ByteArray) a0 (⟨#[]⟩ : ByteArray) 0).bind fun t301 => (if t301 = true then ((value_Fits.f (⟨#[]⟩ : ByteArray) 4 (⟨#[]⟩ : ByteArray) 0 a1 0).bind fun t302 => (some (t302 == (decide ((a1.size : Int) ≤ 12))))) else (some false))) else (some false)) else (some false)) else (some false)) else (if x7_7 = true then (if (t299 == (decide (a0 ≤ 32767))) = true then (if (t300 == false) = true then ((value_Fits.f (⟨#[]⟩ : ByteArray) 3 (⟨#[]⟩ : ByteArray) a0 (⟨#[]⟩ : ByteArray) 0).bind fun t303 => (if t303 = true then ((value_Fits.f (⟨#[]⟩ : ByteArray) 4 (⟨#[]⟩ : ByteArray) 0 a1 0).bind fun t304 => (some (t304 == (decide ((a1.size : Int) ≤ 12))))) else (some false))) else (some false)) else (some false)) else (some false))) = some r := H
              have A19 := Aside0.mk A190
              clear A190
              by_cases c20 : a0 ≥ (-2147483648)
              · rw [if_pos c20] at H
                have c20b0 : decide ((-2147483648) ≤ a0) = true := decide_eq_true c20
                clear c20
                by_cases c21 : x7_7 = true
                · subst c21
                  have H1 : (if (t299 == (decide (a0 ≤ 32767))) = true then (if (t300 == (decide (a0 ≤ 2147483647))) = true then ((value_Fits.f (⟨#[]⟩ : ByteArray) 3 (⟨#[]⟩ : ByteArray) a0 (⟨#[]⟩ : ByteArray) 0).bind fun t301 => (if t301 = true then ((value_Fits.f (⟨#[]⟩ : ByteArray) 4 (⟨#[]⟩ : ByteArray) 0 a1 0).bind fun t302 => (some (t302 == (decide ((a1.size : Int) ≤ 12))))) else (some false))) else (some false)) else (some false)) = some r := by rw [if_pos rfl] at H; exact H
                  clear H
                  have H := H1
                  clear H1
                  by_cases c22 : (t299 == (decide (a0 ≤ 32767))) = true
                  · rw [if_pos c22] at H
                    have c22b0 : (t299 == (decide (a0 ≤ 32767))) = true := c22
                    (try (have c22b1 : decide (t299 = (decide (a0 ≤ 32767))) = true := by simpa using c22))
                    (try (have c22b2 : (t299 == (decide (a0 ≤ 32767))) = true := by simpa using c22))
                    clear c22
                    by_cases c23 : (t300 == (decide (a0 ≤ 2147483647))) = true
                    · rw [if_pos c23] at H
                      have c23b0 : (t300 == (decide (a0 ≤ 2147483647))) = true := c23
                      (try (have c23b1 : decide (t300 = (decide (a0 ≤ 2147483647))) = true := by simpa using c23))
                      (try (have c23b2 : (t300 == (decide (a0 ≤ 2147483647))) = true := by simpa using c23))
                      clear c23
                      replace H := Option.bind_eq_some_iff.mp H
                      obtain ⟨t301, A240, H⟩ := H
                      replace H : (if t301 = true then ((value_Fits.f (⟨#[]⟩ : ByteArray) 4 (⟨#[]⟩ : ByteArray) 0 a1 0).bind fun t302 => (some (t302 == (decide ((a1.size : Int) ≤ 12))))) else (some false)) = some r := H
                      have A24 := Aside0.mk A240
                      clear A240
                      by_cases c25 : t301 = true
                      · subst c25
                        have H1 : ((value_Fits.f (⟨#[]⟩ : ByteArray) 4 (⟨#[]⟩ : ByteArray) 0 a1 0).bind fun t302 => (some (t302 == (decide ((a1.size : Int) ≤ 12))))) = some r := by rw [if_pos rfl] at H; exact H
                        clear H
                        have H := H1
                        clear H1
                        replace H := Option.bind_eq_some_iff.mp H
                        obtain ⟨t302, A260, H⟩ := H
                        replace H : (some (t302 == (decide ((a1.size : Int) ≤ 12)))) = some r := H
                        have A26 := Aside0.mk A260
                        clear A260
                        obtain rfl := Option.some.inj H
                        have hcz27_0 : wc.cell? ⟨gb297, 0, none⟩ = some (.int .i64 a0) := (blk_cell BK297.out 0).trans rfl
                        have hcz27_1 : wc.cell? ⟨gb297, 1, none⟩ = some (.string (⟨#[]⟩ : ByteArray)) := (blk_cell BK297.out 1).trans rfl
                        have hcz27_2 : wc.cell? ⟨gb297, 2, none⟩ = some (.int .i64 0) := (blk_cell BK297.out 2).trans rfl
                        have hfz27_0 := blk_frozen BK297.out 0
                        have hfz27_1 := blk_frozen BK297.out 1
                        have hfz27_2 := blk_frozen BK297.out 2
                        go_wp2_with (first | ((with_reducible refine gate_callee (f := 16) rfl ?_); refine goesL_ (some 33) rfl rfl Try.func16 (by kernel_rfl) rfl #[.agg #[.string (⟨#[]⟩ : ByteArray), .int .i64 1, .string (⟨#[]⟩ : ByteArray)], .agg #[.int .i64 a0, .string (⟨#[]⟩ : ByteArray), .int .i64 0]] rfl (by (try simp only [List.map_toArray, List.map_cons, List.map_nil]); first | done | rfl | (simp only [List.length_drop, List.length_take]; rfl)) ?_; (with_reducible refine (value_Fits.calls (⟨#[]⟩ : ByteArray) 1 (⟨#[]⟩ : ByteArray) a0 (⟨#[]⟩ : ByteArray) 0 t299 _ A17.out).mono ?_); rintro e w28 ⟨rfl, hb⟩; refine ⟨_, rfl, ?_⟩; have n0_ := Aside0.mk (blk_below (g := gb297) (o := .cells #[.int .i64 a0, .string (⟨#[]⟩ : ByteArray), .int .i64 0] 25 (0, 0)) (by (with_reducible repeat (first | refine blk_drewN ?_ _ | refine blk_drew ?_ | refine blk_alloc ?_ _)); exact BK297.out) hb); have n1_ := Aside0.mk (below_step (by repeat (first | (with_reducible first | exact HB.out | apply below_alloc | apply pw_below_drewN | apply below_drew1 | refine below_set ?_ GE297.out) | exact HB.out)) hb); clear BK297; clear HB; have BK297 := n0_; have HB := n1_; clear n0_ n1_; (try clear hb); (try clear hb2); (try clear hk); (try clear hi); have hcz29_0 : w28.cell? ⟨gb297, 0, none⟩ = some (.int .i64 a0) := (blk_cell BK297.out 0).trans rfl; have hcz29_1 : w28.cell? ⟨gb297, 1, none⟩ = some (.string (⟨#[]⟩ : ByteArray)) := (blk_cell BK297.out 1).trans rfl; have hcz29_2 : w28.cell? ⟨gb297, 2, none⟩ = some (.int .i64 0) := (blk_cell BK297.out 2).trans rfl; have hfz29_0 := blk_frozen BK297.out 0; have hfz29_1 := blk_frozen BK297.out 1; have hfz29_2 := blk_frozen BK297.out 2) | ((with_reducible refine gate_callee (f := 16) rfl ?_); refine goesL_ (some 43) rfl rfl Try.func16 (by kernel_rfl) rfl #[.agg #[.string (⟨#[]⟩ : ByteArray), .int .i64 2, .string (⟨#[]⟩ : ByteArray)], .agg #[.int .i64 a0, .string (⟨#[]⟩ : ByteArray), .int .i64 0]] rfl (by (try simp only [List.map_toArray, List.map_cons, List.map_nil]); first | done | rfl | (simp only [List.length_drop, List.length_take]; rfl)) ?_; (with_reducible refine (value_Fits.calls (⟨#[]⟩ : ByteArray) 2 (⟨#[]⟩ : ByteArray) a0 (⟨#[]⟩ : ByteArray) 0 t300 _ A19.out).mono ?_); rintro e w30 ⟨rfl, hb⟩; refine ⟨_, rfl, ?_⟩; have n0_ := Aside0.mk (blk_below (g := gb297) (o := .cells #[.int .i64 a0, .string (⟨#[]⟩ : ByteArray), .int .i64 0] 25 (0, 0)) (by (with_reducible repeat (first | refine blk_drewN ?_ _ | refine blk_drew ?_ | refine blk_alloc ?_ _)); exact BK297.out) hb); have n1_ := Aside0.mk (below_step (by repeat (first | (with_reducible first | exact HB.out | apply below_alloc | apply pw_below_drewN | apply below_drew1 | refine below_set ?_ GE297.out) | exact HB.out)) hb); clear BK297; clear HB; have BK297 := n0_; have HB := n1_; clear n0_ n1_; (try clear hb); (try clear hb2); (try clear hk); (try clear hi); have hcz31_0 : w30.cell? ⟨gb297, 0, none⟩ = some (.int .i64 a0) := (blk_cell BK297.out 0).trans rfl; have hcz31_1 : w30.cell? ⟨gb297, 1, none⟩ = some (.string (⟨#[]⟩ : ByteArray)) := (blk_cell BK297.out 1).trans rfl; have hcz31_2 : w30.cell? ⟨gb297, 2, none⟩ = some (.int .i64 0) := (blk_cell BK297.out 2).trans rfl; have hfz31_0 := blk_frozen BK297.out 0; have hfz31_1 := blk_frozen BK297.out 1; have hfz31_2 := blk_frozen BK297.out 2) | (go_at_call 16; (with_reducible refine (value_Fits.calls (⟨#[]⟩ : ByteArray) 3 (⟨#[]⟩ : ByteArray) a0 (⟨#[]⟩ : ByteArray) 0 true _ A24.out).mono ?_); rintro e w32 ⟨rfl, hb⟩; have n0_ := Aside0.mk (blk_below (g := gb297) (o := .cells #[.int .i64 a0, .string (⟨#[]⟩ : ByteArray), .int .i64 0] 25 (0, 0)) (by (with_reducible repeat (first | refine blk_drewN ?_ _ | refine blk_drew ?_ | refine blk_alloc ?_ _)); exact BK297.out) hb); have n1_ := Aside0.mk (below_step (by repeat (first | (with_reducible first | exact HB.out | apply below_alloc | apply pw_below_drewN | apply below_drew1 | refine below_set ?_ GE297.out) | exact HB.out)) hb); clear BK297; clear HB; have BK297 := n0_; have HB := n1_; clear n0_ n1_; (try clear hb); (try clear hb2); (try clear hk); (try clear hi)) | (go_at_call 16; (with_reducible refine (value_Fits.calls (⟨#[]⟩ : ByteArray) 4 (⟨#[]⟩ : ByteArray) 0 a1 0 t302 _ A26.out).mono ?_); rintro e w33 ⟨rfl, hb⟩; have n0_ := Aside0.mk (blk_below (g := gb297) (o := .cells #[.int .i64 a0, .string (⟨#[]⟩ : ByteArray), .int .i64 0] 25 (0, 0)) (by (with_reducible repeat (first | refine blk_drewN ?_ _ | refine blk_drew ?_ | refine blk_alloc ?_ _)); exact BK297.out) hb); have n1_ := Aside0.mk (below_step (by repeat (first | (with_reducible first | exact HB.out | apply below_alloc | apply pw_below_drewN | apply below_drew1 | refine below_set ?_ GE297.out) | exact HB.out)) hb); clear BK297; clear HB; have BK297 := n0_; have HB := n1_; clear n0_ n1_; (try clear hb); (try clear hb2); (try clear hk); (try clear hi)))
                        go_ret
                        exact ⟨by first | rfl | (simp [errW_none, errW_some] <;> rfl) | (simp [*, errW_none, errW_some] <;> rfl), by repeat (first | (with_reducible first | exact HB.out | apply below_alloc | apply pw_below_drewN | apply below_drew1 | refine below_set ?_ GE297.out) | exact HB.out)⟩
                      · replace c25 := Bool.eq_false_iff.mpr c25
                        subst c25
                        have H1 : (some false) = some r := by rw [if_neg (show ¬ (false = true) by decide)] at H; exact H
                        clear H
                        have H := H1
                        clear H1
                        obtain rfl := Option.some.inj H
                        have hcz34_0 : wc.cell? ⟨gb297, 0, none⟩ = some (.int .i64 a0) := (blk_cell BK297.out 0).trans rfl
                        have hcz34_1 : wc.cell? ⟨gb297, 1, none⟩ = some (.string (⟨#[]⟩ : ByteArray)) := (blk_cell BK297.out 1).trans rfl
                        have hcz34_2 : wc.cell? ⟨gb297, 2, none⟩ = some (.int .i64 0) := (blk_cell BK297.out 2).trans rfl
                        have hfz34_0 := blk_frozen BK297.out 0
                        have hfz34_1 := blk_frozen BK297.out 1
                        have hfz34_2 := blk_frozen BK297.out 2
                        go_wp2_with (first | ((with_reducible refine gate_callee (f := 16) rfl ?_); refine goesL_ (some 33) rfl rfl Try.func16 (by kernel_rfl) rfl #[.agg #[.string (⟨#[]⟩ : ByteArray), .int .i64 1, .string (⟨#[]⟩ : ByteArray)], .agg #[.int .i64 a0, .string (⟨#[]⟩ : ByteArray), .int .i64 0]] rfl (by (try simp only [List.map_toArray, List.map_cons, List.map_nil]); first | done | rfl | (simp only [List.length_drop, List.length_take]; rfl)) ?_; (with_reducible refine (value_Fits.calls (⟨#[]⟩ : ByteArray) 1 (⟨#[]⟩ : ByteArray) a0 (⟨#[]⟩ : ByteArray) 0 t299 _ A17.out).mono ?_); rintro e w35 ⟨rfl, hb⟩; refine ⟨_, rfl, ?_⟩; have n0_ := Aside0.mk (blk_below (g := gb297) (o := .cells #[.int .i64 a0, .string (⟨#[]⟩ : ByteArray), .int .i64 0] 25 (0, 0)) (by (with_reducible repeat (first | refine blk_drewN ?_ _ | refine blk_drew ?_ | refine blk_alloc ?_ _)); exact BK297.out) hb); have n1_ := Aside0.mk (below_step (by repeat (first | (with_reducible first | exact HB.out | apply below_alloc | apply pw_below_drewN | apply below_drew1 | refine below_set ?_ GE297.out) | exact HB.out)) hb); clear BK297; clear HB; have BK297 := n0_; have HB := n1_; clear n0_ n1_; (try clear hb); (try clear hb2); (try clear hk); (try clear hi); have hcz36_0 : w35.cell? ⟨gb297, 0, none⟩ = some (.int .i64 a0) := (blk_cell BK297.out 0).trans rfl; have hcz36_1 : w35.cell? ⟨gb297, 1, none⟩ = some (.string (⟨#[]⟩ : ByteArray)) := (blk_cell BK297.out 1).trans rfl; have hcz36_2 : w35.cell? ⟨gb297, 2, none⟩ = some (.int .i64 0) := (blk_cell BK297.out 2).trans rfl; have hfz36_0 := blk_frozen BK297.out 0; have hfz36_1 := blk_frozen BK297.out 1; have hfz36_2 := blk_frozen BK297.out 2) | ((with_reducible refine gate_callee (f := 16) rfl ?_); refine goesL_ (some 43) rfl rfl Try.func16 (by kernel_rfl) rfl #[.agg #[.string (⟨#[]⟩ : ByteArray), .int .i64 2, .string (⟨#[]⟩ : ByteArray)], .agg #[.int .i64 a0, .string (⟨#[]⟩ : ByteArray), .int .i64 0]] rfl (by (try simp only [List.map_toArray, List.map_cons, List.map_nil]); first | done | rfl | (simp only [List.length_drop, List.length_take]; rfl)) ?_; (with_reducible refine (value_Fits.calls (⟨#[]⟩ : ByteArray) 2 (⟨#[]⟩ : ByteArray) a0 (⟨#[]⟩ : ByteArray) 0 t300 _ A19.out).mono ?_); rintro e w37 ⟨rfl, hb⟩; refine ⟨_, rfl, ?_⟩; have n0_ := Aside0.mk (blk_below (g := gb297) (o := .cells #[.int .i64 a0, .string (⟨#[]⟩ : ByteArray), .int .i64 0] 25 (0, 0)) (by (with_reducible repeat (first | refine blk_drewN ?_ _ | refine blk_drew ?_ | refine blk_alloc ?_ _)); exact BK297.out) hb); have n1_ := Aside0.mk (below_step (by repeat (first | (with_reducible first | exact HB.out | apply below_alloc | apply pw_below_drewN | apply below_drew1 | refine below_set ?_ GE297.out) | exact HB.out)) hb); clear BK297; clear HB; have BK297 := n0_; have HB := n1_; clear n0_ n1_; (try clear hb); (try clear hb2); (try clear hk); (try clear hi); have hcz38_0 : w37.cell? ⟨gb297, 0, none⟩ = some (.int .i64 a0) := (blk_cell BK297.out 0).trans rfl; have hcz38_1 : w37.cell? ⟨gb297, 1, none⟩ = some (.string (⟨#[]⟩ : ByteArray)) := (blk_cell BK297.out 1).trans rfl; have hcz38_2 : w37.cell? ⟨gb297, 2, none⟩ = some (.int .i64 0) := (blk_cell BK297.out 2).trans rfl; have hfz38_0 := blk_frozen BK297.out 0; have hfz38_1 := blk_frozen BK297.out 1; have hfz38_2 := blk_frozen BK297.out 2) | (go_at_call 16; (with_reducible refine (value_Fits.calls (⟨#[]⟩ : ByteArray) 3 (⟨#[]⟩ : ByteArray) a0 (⟨#[]⟩ : ByteArray) 0 false _ A24.out).mono ?_); rintro e w39 ⟨rfl, hb⟩; have n0_ := Aside0.mk (blk_below (g := gb297) (o := .cells #[.int .i64 a0, .string (⟨#[]⟩ : ByteArray), .int .i64 0] 25 (0, 0)) (by (with_reducible repeat (first | refine blk_drewN ?_ _ | refine blk_drew ?_ | refine blk_alloc ?_ _)); exact BK297.out) hb); have n1_ := Aside0.mk (below_step (by repeat (first | (with_reducible first | exact HB.out | apply below_alloc | apply pw_below_drewN | apply below_drew1 | refine below_set ?_ GE297.out) | exact HB.out)) hb); clear BK297; clear HB; have BK297 := n0_; have HB := n1_; clear n0_ n1_; (try clear hb); (try clear hb2); (try clear hk); (try clear hi)))
                        go_ret
                        exact ⟨by first | rfl | (simp [errW_none, errW_some] <;> rfl) | (simp [*, errW_none, errW_some] <;> rfl), by repeat (first | (with_reducible first | exact HB.out | apply below_alloc | apply pw_below_drewN | apply below_drew1 | refine below_set ?_ GE297.out) | exact HB.out)⟩
                    · rw [if_neg c23] at H
                      have c23b0 : (t300 == (decide (a0 ≤ 2147483647))) = false := by simpa using c23
                      (try (have c23b1 : decide (t300 = (decide (a0 ≤ 2147483647))) = false := by simpa using c23))
                      (try (have c23b2 : (t300 == (decide (a0 ≤ 2147483647))) = false := by simpa using c23))
                      (try (have c23b3 : ¬ (t300 = (decide (a0 ≤ 2147483647))) := by simpa using c23))
                      clear c23
                      obtain rfl := Option.some.inj H
                      have hcz40_0 : wc.cell? ⟨gb297, 0, none⟩ = some (.int .i64 a0) := (blk_cell BK297.out 0).trans rfl
                      have hcz40_1 : wc.cell? ⟨gb297, 1, none⟩ = some (.string (⟨#[]⟩ : ByteArray)) := (blk_cell BK297.out 1).trans rfl
                      have hcz40_2 : wc.cell? ⟨gb297, 2, none⟩ = some (.int .i64 0) := (blk_cell BK297.out 2).trans rfl
                      have hfz40_0 := blk_frozen BK297.out 0
                      have hfz40_1 := blk_frozen BK297.out 1
                      have hfz40_2 := blk_frozen BK297.out 2
                      go_wp2_with (first | ((with_reducible refine gate_callee (f := 16) rfl ?_); refine goesL_ (some 33) rfl rfl Try.func16 (by kernel_rfl) rfl #[.agg #[.string (⟨#[]⟩ : ByteArray), .int .i64 1, .string (⟨#[]⟩ : ByteArray)], .agg #[.int .i64 a0, .string (⟨#[]⟩ : ByteArray), .int .i64 0]] rfl (by (try simp only [List.map_toArray, List.map_cons, List.map_nil]); first | done | rfl | (simp only [List.length_drop, List.length_take]; rfl)) ?_; (with_reducible refine (value_Fits.calls (⟨#[]⟩ : ByteArray) 1 (⟨#[]⟩ : ByteArray) a0 (⟨#[]⟩ : ByteArray) 0 t299 _ A17.out).mono ?_); rintro e w41 ⟨rfl, hb⟩; refine ⟨_, rfl, ?_⟩; have n0_ := Aside0.mk (blk_below (g := gb297) (o := .cells #[.int .i64 a0, .string (⟨#[]⟩ : ByteArray), .int .i64 0] 25 (0, 0)) (by (with_reducible repeat (first | refine blk_drewN ?_ _ | refine blk_drew ?_ | refine blk_alloc ?_ _)); exact BK297.out) hb); have n1_ := Aside0.mk (below_step (by repeat (first | (with_reducible first | exact HB.out | apply below_alloc | apply pw_below_drewN | apply below_drew1 | refine below_set ?_ GE297.out) | exact HB.out)) hb); clear BK297; clear HB; have BK297 := n0_; have HB := n1_; clear n0_ n1_; (try clear hb); (try clear hb2); (try clear hk); (try clear hi); have hcz42_0 : w41.cell? ⟨gb297, 0, none⟩ = some (.int .i64 a0) := (blk_cell BK297.out 0).trans rfl; have hcz42_1 : w41.cell? ⟨gb297, 1, none⟩ = some (.string (⟨#[]⟩ : ByteArray)) := (blk_cell BK297.out 1).trans rfl; have hcz42_2 : w41.cell? ⟨gb297, 2, none⟩ = some (.int .i64 0) := (blk_cell BK297.out 2).trans rfl; have hfz42_0 := blk_frozen BK297.out 0; have hfz42_1 := blk_frozen BK297.out 1; have hfz42_2 := blk_frozen BK297.out 2) | ((with_reducible refine gate_callee (f := 16) rfl ?_); refine goesL_ (some 43) rfl rfl Try.func16 (by kernel_rfl) rfl #[.agg #[.string (⟨#[]⟩ : ByteArray), .int .i64 2, .string (⟨#[]⟩ : ByteArray)], .agg #[.int .i64 a0, .string (⟨#[]⟩ : ByteArray), .int .i64 0]] rfl (by (try simp only [List.map_toArray, List.map_cons, List.map_nil]); first | done | rfl | (simp only [List.length_drop, List.length_take]; rfl)) ?_; (with_reducible refine (value_Fits.calls (⟨#[]⟩ : ByteArray) 2 (⟨#[]⟩ : ByteArray) a0 (⟨#[]⟩ : ByteArray) 0 t300 _ A19.out).mono ?_); rintro e w43 ⟨rfl, hb⟩; refine ⟨_, rfl, ?_⟩; have n0_ := Aside0.mk (blk_below (g := gb297) (o := .cells #[.int .i64 a0, .string (⟨#[]⟩ : ByteArray), .int .i64 0] 25 (0, 0)) (by (with_reducible repeat (first | refine blk_drewN ?_ _ | refine blk_drew ?_ | refine blk_alloc ?_ _)); exact BK297.out) hb); have n1_ := Aside0.mk (below_step (by repeat (first | (with_reducible first | exact HB.out | apply below_alloc | apply pw_below_drewN | apply below_drew1 | refine below_set ?_ GE297.out) | exact HB.out)) hb); clear BK297; clear HB; have BK297 := n0_; have HB := n1_; clear n0_ n1_; (try clear hb); (try clear hb2); (try clear hk); (try clear hi)))
                      go_ret
                      exact ⟨by first | rfl | (simp [errW_none, errW_some] <;> rfl) | (simp [*, errW_none, errW_some] <;> rfl), by repeat (first | (with_reducible first | exact HB.out | apply below_alloc | apply pw_below_drewN | apply below_drew1 | refine below_set ?_ GE297.out) | exact HB.out)⟩
                  · rw [if_neg c22] at H
                    have c22b0 : (t299 == (decide (a0 ≤ 32767))) = false := by simpa using c22
                    (try (have c22b1 : decide (t299 = (decide (a0 ≤ 32767))) = false := by simpa using c22))
                    (try (have c22b2 : (t299 == (decide (a0 ≤ 32767))) = false := by simpa using c22))
                    (try (have c22b3 : ¬ (t299 = (decide (a0 ≤ 32767))) := by simpa using c22))
                    clear c22
                    obtain rfl := Option.some.inj H
                    have hcz44_0 : wc.cell? ⟨gb297, 0, none⟩ = some (.int .i64 a0) := (blk_cell BK297.out 0).trans rfl
                    have hcz44_1 : wc.cell? ⟨gb297, 1, none⟩ = some (.string (⟨#[]⟩ : ByteArray)) := (blk_cell BK297.out 1).trans rfl
                    have hcz44_2 : wc.cell? ⟨gb297, 2, none⟩ = some (.int .i64 0) := (blk_cell BK297.out 2).trans rfl
                    have hfz44_0 := blk_frozen BK297.out 0
                    have hfz44_1 := blk_frozen BK297.out 1
                    have hfz44_2 := blk_frozen BK297.out 2
                    go_wp2_with (first | ((with_reducible refine gate_callee (f := 16) rfl ?_); refine goesL_ (some 33) rfl rfl Try.func16 (by kernel_rfl) rfl #[.agg #[.string (⟨#[]⟩ : ByteArray), .int .i64 1, .string (⟨#[]⟩ : ByteArray)], .agg #[.int .i64 a0, .string (⟨#[]⟩ : ByteArray), .int .i64 0]] rfl (by (try simp only [List.map_toArray, List.map_cons, List.map_nil]); first | done | rfl | (simp only [List.length_drop, List.length_take]; rfl)) ?_; (with_reducible refine (value_Fits.calls (⟨#[]⟩ : ByteArray) 1 (⟨#[]⟩ : ByteArray) a0 (⟨#[]⟩ : ByteArray) 0 t299 _ A17.out).mono ?_); rintro e w45 ⟨rfl, hb⟩; refine ⟨_, rfl, ?_⟩; have n0_ := Aside0.mk (blk_below (g := gb297) (o := .cells #[.int .i64 a0, .string (⟨#[]⟩ : ByteArray), .int .i64 0] 25 (0, 0)) (by (with_reducible repeat (first | refine blk_drewN ?_ _ | refine blk_drew ?_ | refine blk_alloc ?_ _)); exact BK297.out) hb); have n1_ := Aside0.mk (below_step (by repeat (first | (with_reducible first | exact HB.out | apply below_alloc | apply pw_below_drewN | apply below_drew1 | refine below_set ?_ GE297.out) | exact HB.out)) hb); clear BK297; clear HB; have BK297 := n0_; have HB := n1_; clear n0_ n1_; (try clear hb); (try clear hb2); (try clear hk); (try clear hi); have hcz46_0 : w45.cell? ⟨gb297, 0, none⟩ = some (.int .i64 a0) := (blk_cell BK297.out 0).trans rfl; have hcz46_1 : w45.cell? ⟨gb297, 1, none⟩ = some (.string (⟨#[]⟩ : ByteArray)) := (blk_cell BK297.out 1).trans rfl; have hcz46_2 : w45.cell? ⟨gb297, 2, none⟩ = some (.int .i64 0) := (blk_cell BK297.out 2).trans rfl; have hfz46_0 := blk_frozen BK297.out 0; have hfz46_1 := blk_frozen BK297.out 1; have hfz46_2 := blk_frozen BK297.out 2) | ((with_reducible refine gate_callee (f := 16) rfl ?_); refine goesL_ (some 43) rfl rfl Try.func16 (by kernel_rfl) rfl #[.agg #[.string (⟨#[]⟩ : ByteArray), .int .i64 2, .string (⟨#[]⟩ : ByteArray)], .agg #[.int .i64 a0, .string (⟨#[]⟩ : ByteArray), .int .i64 0]] rfl (by (try simp only [List.map_toArray, List.map_cons, List.map_nil]); first | done | rfl | (simp only [List.length_drop, List.length_take]; rfl)) ?_; (with_reducible refine (value_Fits.calls (⟨#[]⟩ : ByteArray) 2 (⟨#[]⟩ : ByteArray) a0 (⟨#[]⟩ : ByteArray) 0 t300 _ A19.out).mono ?_); rintro e w47 ⟨rfl, hb⟩; refine ⟨_, rfl, ?_⟩; have n0_ := Aside0.mk (blk_below (g := gb297) (o := .cells #[.int .i64 a0, .string (⟨#[]⟩ : ByteArray), .int .i64 0] 25 (0, 0)) (by (with_reducible repeat (first | refine blk_drewN ?_ _ | refine blk_drew ?_ | refine blk_alloc ?_ _)); exact BK297.out) hb); have n1_ := Aside0.mk (below_step (by repeat (first | (with_reducible first | exact HB.out | apply below_alloc | apply pw_below_drewN | apply below_drew1 | refine below_set ?_ GE297.out) | exact HB.out)) hb); clear BK297; clear HB; have BK297 := n0_; have HB := n1_; clear n0_ n1_; (try clear hb); (try clear hb2); (try clear hk); (try clear hi)))
                    go_ret
                    exact ⟨by first | rfl | (simp [errW_none, errW_some] <;> rfl) | (simp [*, errW_none, errW_some] <;> rfl), by repeat (first | (with_reducible first | exact HB.out | apply below_alloc | apply pw_below_drewN | apply below_drew1 | refine below_set ?_ GE297.out) | exact HB.out)⟩
                · replace c21 := Bool.eq_false_iff.mpr c21
                  subst c21
                  have H1 : (some false) = some r := by rw [if_neg (show ¬ (false = true) by decide)] at H; exact H
                  clear H
                  have H := H1
                  clear H1
                  obtain rfl := Option.some.inj H
                  have hcz48_0 : wc.cell? ⟨gb297, 0, none⟩ = some (.int .i64 a0) := (blk_cell BK297.out 0).trans rfl
                  have hcz48_1 : wc.cell? ⟨gb297, 1, none⟩ = some (.string (⟨#[]⟩ : ByteArray)) := (blk_cell BK297.out 1).trans rfl
                  have hcz48_2 : wc.cell? ⟨gb297, 2, none⟩ = some (.int .i64 0) := (blk_cell BK297.out 2).trans rfl
                  have hfz48_0 := blk_frozen BK297.out 0
                  have hfz48_1 := blk_frozen BK297.out 1
                  have hfz48_2 := blk_frozen BK297.out 2
                  go_wp2_with (first | ((with_reducible refine gate_callee (f := 16) rfl ?_); refine goesL_ (some 33) rfl rfl Try.func16 (by kernel_rfl) rfl #[.agg #[.string (⟨#[]⟩ : ByteArray), .int .i64 1, .string (⟨#[]⟩ : ByteArray)], .agg #[.int .i64 a0, .string (⟨#[]⟩ : ByteArray), .int .i64 0]] rfl (by (try simp only [List.map_toArray, List.map_cons, List.map_nil]); first | done | rfl | (simp only [List.length_drop, List.length_take]; rfl)) ?_; (with_reducible refine (value_Fits.calls (⟨#[]⟩ : ByteArray) 1 (⟨#[]⟩ : ByteArray) a0 (⟨#[]⟩ : ByteArray) 0 t299 _ A17.out).mono ?_); rintro e w49 ⟨rfl, hb⟩; refine ⟨_, rfl, ?_⟩; have n0_ := Aside0.mk (blk_below (g := gb297) (o := .cells #[.int .i64 a0, .string (⟨#[]⟩ : ByteArray), .int .i64 0] 25 (0, 0)) (by (with_reducible repeat (first | refine blk_drewN ?_ _ | refine blk_drew ?_ | refine blk_alloc ?_ _)); exact BK297.out) hb); have n1_ := Aside0.mk (below_step (by repeat (first | (with_reducible first | exact HB.out | apply below_alloc | apply pw_below_drewN | apply below_drew1 | refine below_set ?_ GE297.out) | exact HB.out)) hb); clear BK297; clear HB; have BK297 := n0_; have HB := n1_; clear n0_ n1_; (try clear hb); (try clear hb2); (try clear hk); (try clear hi); have hcz50_0 : w49.cell? ⟨gb297, 0, none⟩ = some (.int .i64 a0) := (blk_cell BK297.out 0).trans rfl; have hcz50_1 : w49.cell? ⟨gb297, 1, none⟩ = some (.string (⟨#[]⟩ : ByteArray)) := (blk_cell BK297.out 1).trans rfl; have hcz50_2 : w49.cell? ⟨gb297, 2, none⟩ = some (.int .i64 0) := (blk_cell BK297.out 2).trans rfl; have hfz50_0 := blk_frozen BK297.out 0; have hfz50_1 := blk_frozen BK297.out 1; have hfz50_2 := blk_frozen BK297.out 2) | ((with_reducible refine gate_callee (f := 16) rfl ?_); refine goesL_ (some 43) rfl rfl Try.func16 (by kernel_rfl) rfl #[.agg #[.string (⟨#[]⟩ : ByteArray), .int .i64 2, .string (⟨#[]⟩ : ByteArray)], .agg #[.int .i64 a0, .string (⟨#[]⟩ : ByteArray), .int .i64 0]] rfl (by (try simp only [List.map_toArray, List.map_cons, List.map_nil]); first | done | rfl | (simp only [List.length_drop, List.length_take]; rfl)) ?_; (with_reducible refine (value_Fits.calls (⟨#[]⟩ : ByteArray) 2 (⟨#[]⟩ : ByteArray) a0 (⟨#[]⟩ : ByteArray) 0 t300 _ A19.out).mono ?_); rintro e w51 ⟨rfl, hb⟩; refine ⟨_, rfl, ?_⟩; have n0_ := Aside0.mk (blk_below (g := gb297) (o := .cells #[.int .i64 a0, .string (⟨#[]⟩ : ByteArray), .int .i64 0] 25 (0, 0)) (by (with_reducible repeat (first | refine blk_drewN ?_ _ | refine blk_drew ?_ | refine blk_alloc ?_ _)); exact BK297.out) hb); have n1_ := Aside0.mk (below_step (by repeat (first | (with_reducible first | exact HB.out | apply below_alloc | apply pw_below_drewN | apply below_drew1 | refine below_set ?_ GE297.out) | exact HB.out)) hb); clear BK297; clear HB; have BK297 := n0_; have HB := n1_; clear n0_ n1_; (try clear hb); (try clear hb2); (try clear hk); (try clear hi)))
                  go_ret
                  exact ⟨by first | rfl | (simp [errW_none, errW_some] <;> rfl) | (simp [*, errW_none, errW_some] <;> rfl), by repeat (first | (with_reducible first | exact HB.out | apply below_alloc | apply pw_below_drewN | apply below_drew1 | refine below_set ?_ GE297.out) | exact HB.out)⟩
              · rw [if_neg c20] at H
                have c20b0 : decide ((-2147483648) ≤ a0) = false := decide_eq_false c20
                clear c20
                by_cases c52 : x7_7 = true
                · subst c52
                  have H1 : (if (t299 == (decide (a0 ≤ 32767))) = true then (if (t300 == false) = true then ((value_Fits.f (⟨#[]⟩ : ByteArray) 3 (⟨#[]⟩ : ByteArray) a0 (⟨#[]⟩ : ByteArray) 0).bind fun t303 => (if t303 = true then ((value_Fits.f (⟨#[]⟩ : ByteArray) 4 (⟨#[]⟩ : ByteArray) 0 a1 0).bind fun t304 => (some (t304 == (decide ((a1.size : Int) ≤ 12))))) else (some false))) else (some false)) else (some false)) = some r := by rw [if_pos rfl] at H; exact H
                  clear H
                  have H := H1
                  clear H1
                  by_cases c53 : (t299 == (decide (a0 ≤ 32767))) = true
                  · rw [if_pos c53] at H
                    have c53b0 : (t299 == (decide (a0 ≤ 32767))) = true := c53
                    (try (have c53b1 : decide (t299 = (decide (a0 ≤ 32767))) = true := by simpa using c53))
                    (try (have c53b2 : (t299 == (decide (a0 ≤ 32767))) = true := by simpa using c53))
                    clear c53
                    by_cases c54 : (t300 == false) = true
                    · rw [if_pos c54] at H
                      have c54b0 : (t300 == false) = true := c54
                      (try (have c54b1 : decide (t300 = false) = true := by simpa using c54))
                      (try (have c54b2 : (t300 == false) = true := by simpa using c54))
                      clear c54
                      replace H := Option.bind_eq_some_iff.mp H
                      obtain ⟨t303, A550, H⟩ := H
                      replace H : (if t303 = true then ((value_Fits.f (⟨#[]⟩ : ByteArray) 4 (⟨#[]⟩ : ByteArray) 0 a1 0).bind fun t304 => (some (t304 == (decide ((a1.size : Int) ≤ 12))))) else (some false)) = some r := H
                      have A55 := Aside0.mk A550
                      clear A550
                      by_cases c56 : t303 = true
                      · subst c56
                        have H1 : ((value_Fits.f (⟨#[]⟩ : ByteArray) 4 (⟨#[]⟩ : ByteArray) 0 a1 0).bind fun t304 => (some (t304 == (decide ((a1.size : Int) ≤ 12))))) = some r := by rw [if_pos rfl] at H; exact H
                        clear H
                        have H := H1
                        clear H1
                        replace H := Option.bind_eq_some_iff.mp H
                        obtain ⟨t304, A570, H⟩ := H
                        replace H : (some (t304 == (decide ((a1.size : Int) ≤ 12)))) = some r := H
                        have A57 := Aside0.mk A570
                        clear A570
                        obtain rfl := Option.some.inj H
                        have hcz58_0 : wc.cell? ⟨gb297, 0, none⟩ = some (.int .i64 a0) := (blk_cell BK297.out 0).trans rfl
                        have hcz58_1 : wc.cell? ⟨gb297, 1, none⟩ = some (.string (⟨#[]⟩ : ByteArray)) := (blk_cell BK297.out 1).trans rfl
                        have hcz58_2 : wc.cell? ⟨gb297, 2, none⟩ = some (.int .i64 0) := (blk_cell BK297.out 2).trans rfl
                        have hfz58_0 := blk_frozen BK297.out 0
                        have hfz58_1 := blk_frozen BK297.out 1
                        have hfz58_2 := blk_frozen BK297.out 2
                        go_wp2_with (first | ((with_reducible refine gate_callee (f := 16) rfl ?_); refine goesL_ (some 33) rfl rfl Try.func16 (by kernel_rfl) rfl #[.agg #[.string (⟨#[]⟩ : ByteArray), .int .i64 1, .string (⟨#[]⟩ : ByteArray)], .agg #[.int .i64 a0, .string (⟨#[]⟩ : ByteArray), .int .i64 0]] rfl (by (try simp only [List.map_toArray, List.map_cons, List.map_nil]); first | done | rfl | (simp only [List.length_drop, List.length_take]; rfl)) ?_; (with_reducible refine (value_Fits.calls (⟨#[]⟩ : ByteArray) 1 (⟨#[]⟩ : ByteArray) a0 (⟨#[]⟩ : ByteArray) 0 t299 _ A17.out).mono ?_); rintro e w59 ⟨rfl, hb⟩; refine ⟨_, rfl, ?_⟩; have n0_ := Aside0.mk (blk_below (g := gb297) (o := .cells #[.int .i64 a0, .string (⟨#[]⟩ : ByteArray), .int .i64 0] 25 (0, 0)) (by (with_reducible repeat (first | refine blk_drewN ?_ _ | refine blk_drew ?_ | refine blk_alloc ?_ _)); exact BK297.out) hb); have n1_ := Aside0.mk (below_step (by repeat (first | (with_reducible first | exact HB.out | apply below_alloc | apply pw_below_drewN | apply below_drew1 | refine below_set ?_ GE297.out) | exact HB.out)) hb); clear BK297; clear HB; have BK297 := n0_; have HB := n1_; clear n0_ n1_; (try clear hb); (try clear hb2); (try clear hk); (try clear hi); have hcz60_0 : w59.cell? ⟨gb297, 0, none⟩ = some (.int .i64 a0) := (blk_cell BK297.out 0).trans rfl; have hcz60_1 : w59.cell? ⟨gb297, 1, none⟩ = some (.string (⟨#[]⟩ : ByteArray)) := (blk_cell BK297.out 1).trans rfl; have hcz60_2 : w59.cell? ⟨gb297, 2, none⟩ = some (.int .i64 0) := (blk_cell BK297.out 2).trans rfl; have hfz60_0 := blk_frozen BK297.out 0; have hfz60_1 := blk_frozen BK297.out 1; have hfz60_2 := blk_frozen BK297.out 2) | ((with_reducible refine gate_callee (f := 16) rfl ?_); refine goesL_ (some 43) rfl rfl Try.func16 (by kernel_rfl) rfl #[.agg #[.string (⟨#[]⟩ : ByteArray), .int .i64 2, .string (⟨#[]⟩ : ByteArray)], .agg #[.int .i64 a0, .string (⟨#[]⟩ : ByteArray), .int .i64 0]] rfl (by (try simp only [List.map_toArray, List.map_cons, List.map_nil]); first | done | rfl | (simp only [List.length_drop, List.length_take]; rfl)) ?_; (with_reducible refine (value_Fits.calls (⟨#[]⟩ : ByteArray) 2 (⟨#[]⟩ : ByteArray) a0 (⟨#[]⟩ : ByteArray) 0 t300 _ A19.out).mono ?_); rintro e w61 ⟨rfl, hb⟩; refine ⟨_, rfl, ?_⟩; have n0_ := Aside0.mk (blk_below (g := gb297) (o := .cells #[.int .i64 a0, .string (⟨#[]⟩ : ByteArray), .int .i64 0] 25 (0, 0)) (by (with_reducible repeat (first | refine blk_drewN ?_ _ | refine blk_drew ?_ | refine blk_alloc ?_ _)); exact BK297.out) hb); have n1_ := Aside0.mk (below_step (by repeat (first | (with_reducible first | exact HB.out | apply below_alloc | apply pw_below_drewN | apply below_drew1 | refine below_set ?_ GE297.out) | exact HB.out)) hb); clear BK297; clear HB; have BK297 := n0_; have HB := n1_; clear n0_ n1_; (try clear hb); (try clear hb2); (try clear hk); (try clear hi); have hcz62_0 : w61.cell? ⟨gb297, 0, none⟩ = some (.int .i64 a0) := (blk_cell BK297.out 0).trans rfl; have hcz62_1 : w61.cell? ⟨gb297, 1, none⟩ = some (.string (⟨#[]⟩ : ByteArray)) := (blk_cell BK297.out 1).trans rfl; have hcz62_2 : w61.cell? ⟨gb297, 2, none⟩ = some (.int .i64 0) := (blk_cell BK297.out 2).trans rfl; have hfz62_0 := blk_frozen BK297.out 0; have hfz62_1 := blk_frozen BK297.out 1; have hfz62_2 := blk_frozen BK297.out 2) | (go_at_call 16; (with_reducible refine (value_Fits.calls (⟨#[]⟩ : ByteArray) 3 (⟨#[]⟩ : ByteArray) a0 (⟨#[]⟩ : ByteArray) 0 true _ A55.out).mono ?_); rintro e w63 ⟨rfl, hb⟩; have n0_ := Aside0.mk (blk_below (g := gb297) (o := .cells #[.int .i64 a0, .string (⟨#[]⟩ : ByteArray), .int .i64 0] 25 (0, 0)) (by (with_reducible repeat (first | refine blk_drewN ?_ _ | refine blk_drew ?_ | refine blk_alloc ?_ _)); exact BK297.out) hb); have n1_ := Aside0.mk (below_step (by repeat (first | (with_reducible first | exact HB.out | apply below_alloc | apply pw_below_drewN | apply below_drew1 | refine below_set ?_ GE297.out) | exact HB.out)) hb); clear BK297; clear HB; have BK297 := n0_; have HB := n1_; clear n0_ n1_; (try clear hb); (try clear hb2); (try clear hk); (try clear hi)) | (go_at_call 16; (with_reducible refine (value_Fits.calls (⟨#[]⟩ : ByteArray) 4 (⟨#[]⟩ : ByteArray) 0 a1 0 t304 _ A57.out).mono ?_); rintro e w64 ⟨rfl, hb⟩; have n0_ := Aside0.mk (blk_below (g := gb297) (o := .cells #[.int .i64 a0, .string (⟨#[]⟩ : ByteArray), .int .i64 0] 25 (0, 0)) (by (with_reducible repeat (first | refine blk_drewN ?_ _ | refine blk_drew ?_ | refine blk_alloc ?_ _)); exact BK297.out) hb); have n1_ := Aside0.mk (below_step (by repeat (first | (with_reducible first | exact HB.out | apply below_alloc | apply pw_below_drewN | apply below_drew1 | refine below_set ?_ GE297.out) | exact HB.out)) hb); clear BK297; clear HB; have BK297 := n0_; have HB := n1_; clear n0_ n1_; (try clear hb); (try clear hb2); (try clear hk); (try clear hi)))
                        go_ret
                        exact ⟨by first | rfl | (simp [errW_none, errW_some] <;> rfl) | (simp [*, errW_none, errW_some] <;> rfl), by repeat (first | (with_reducible first | exact HB.out | apply below_alloc | apply pw_below_drewN | apply below_drew1 | refine below_set ?_ GE297.out) | exact HB.out)⟩
                      · replace c56 := Bool.eq_false_iff.mpr c56
                        subst c56
                        have H1 : (some false) = some r := by rw [if_neg (show ¬ (false = true) by decide)] at H; exact H
                        clear H
                        have H := H1
                        clear H1
                        obtain rfl := Option.some.inj H
                        have hcz65_0 : wc.cell? ⟨gb297, 0, none⟩ = some (.int .i64 a0) := (blk_cell BK297.out 0).trans rfl
                        have hcz65_1 : wc.cell? ⟨gb297, 1, none⟩ = some (.string (⟨#[]⟩ : ByteArray)) := (blk_cell BK297.out 1).trans rfl
                        have hcz65_2 : wc.cell? ⟨gb297, 2, none⟩ = some (.int .i64 0) := (blk_cell BK297.out 2).trans rfl
                        have hfz65_0 := blk_frozen BK297.out 0
                        have hfz65_1 := blk_frozen BK297.out 1
                        have hfz65_2 := blk_frozen BK297.out 2
                        go_wp2_with (first | ((with_reducible refine gate_callee (f := 16) rfl ?_); refine goesL_ (some 33) rfl rfl Try.func16 (by kernel_rfl) rfl #[.agg #[.string (⟨#[]⟩ : ByteArray), .int .i64 1, .string (⟨#[]⟩ : ByteArray)], .agg #[.int .i64 a0, .string (⟨#[]⟩ : ByteArray), .int .i64 0]] rfl (by (try simp only [List.map_toArray, List.map_cons, List.map_nil]); first | done | rfl | (simp only [List.length_drop, List.length_take]; rfl)) ?_; (with_reducible refine (value_Fits.calls (⟨#[]⟩ : ByteArray) 1 (⟨#[]⟩ : ByteArray) a0 (⟨#[]⟩ : ByteArray) 0 t299 _ A17.out).mono ?_); rintro e w66 ⟨rfl, hb⟩; refine ⟨_, rfl, ?_⟩; have n0_ := Aside0.mk (blk_below (g := gb297) (o := .cells #[.int .i64 a0, .string (⟨#[]⟩ : ByteArray), .int .i64 0] 25 (0, 0)) (by (with_reducible repeat (first | refine blk_drewN ?_ _ | refine blk_drew ?_ | refine blk_alloc ?_ _)); exact BK297.out) hb); have n1_ := Aside0.mk (below_step (by repeat (first | (with_reducible first | exact HB.out | apply below_alloc | apply pw_below_drewN | apply below_drew1 | refine below_set ?_ GE297.out) | exact HB.out)) hb); clear BK297; clear HB; have BK297 := n0_; have HB := n1_; clear n0_ n1_; (try clear hb); (try clear hb2); (try clear hk); (try clear hi); have hcz67_0 : w66.cell? ⟨gb297, 0, none⟩ = some (.int .i64 a0) := (blk_cell BK297.out 0).trans rfl; have hcz67_1 : w66.cell? ⟨gb297, 1, none⟩ = some (.string (⟨#[]⟩ : ByteArray)) := (blk_cell BK297.out 1).trans rfl; have hcz67_2 : w66.cell? ⟨gb297, 2, none⟩ = some (.int .i64 0) := (blk_cell BK297.out 2).trans rfl; have hfz67_0 := blk_frozen BK297.out 0; have hfz67_1 := blk_frozen BK297.out 1; have hfz67_2 := blk_frozen BK297.out 2) | ((with_reducible refine gate_callee (f := 16) rfl ?_); refine goesL_ (some 43) rfl rfl Try.func16 (by kernel_rfl) rfl #[.agg #[.string (⟨#[]⟩ : ByteArray), .int .i64 2, .string (⟨#[]⟩ : ByteArray)], .agg #[.int .i64 a0, .string (⟨#[]⟩ : ByteArray), .int .i64 0]] rfl (by (try simp only [List.map_toArray, List.map_cons, List.map_nil]); first | done | rfl | (simp only [List.length_drop, List.length_take]; rfl)) ?_; (with_reducible refine (value_Fits.calls (⟨#[]⟩ : ByteArray) 2 (⟨#[]⟩ : ByteArray) a0 (⟨#[]⟩ : ByteArray) 0 t300 _ A19.out).mono ?_); rintro e w68 ⟨rfl, hb⟩; refine ⟨_, rfl, ?_⟩; have n0_ := Aside0.mk (blk_below (g := gb297) (o := .cells #[.int .i64 a0, .string (⟨#[]⟩ : ByteArray), .int .i64 0] 25 (0, 0)) (by (with_reducible repeat (first | refine blk_drewN ?_ _ | refine blk_drew ?_ | refine blk_alloc ?_ _)); exact BK297.out) hb); have n1_ := Aside0.mk (below_step (by repeat (first | (with_reducible first | exact HB.out | apply below_alloc | apply pw_below_drewN | apply below_drew1 | refine below_set ?_ GE297.out) | exact HB.out)) hb); clear BK297; clear HB; have BK297 := n0_; have HB := n1_; clear n0_ n1_; (try clear hb); (try clear hb2); (try clear hk); (try clear hi); have hcz69_0 : w68.cell? ⟨gb297, 0, none⟩ = some (.int .i64 a0) := (blk_cell BK297.out 0).trans rfl; have hcz69_1 : w68.cell? ⟨gb297, 1, none⟩ = some (.string (⟨#[]⟩ : ByteArray)) := (blk_cell BK297.out 1).trans rfl; have hcz69_2 : w68.cell? ⟨gb297, 2, none⟩ = some (.int .i64 0) := (blk_cell BK297.out 2).trans rfl; have hfz69_0 := blk_frozen BK297.out 0; have hfz69_1 := blk_frozen BK297.out 1; have hfz69_2 := blk_frozen BK297.out 2) | (go_at_call 16; (with_reducible refine (value_Fits.calls (⟨#[]⟩ : ByteArray) 3 (⟨#[]⟩ : ByteArray) a0 (⟨#[]⟩ : ByteArray) 0 false _ A55.out).mono ?_); rintro e w70 ⟨rfl, hb⟩; have n0_ := Aside0.mk (blk_below (g := gb297) (o := .cells #[.int .i64 a0, .string (⟨#[]⟩ : ByteArray), .int .i64 0] 25 (0, 0)) (by (with_reducible repeat (first | refine blk_drewN ?_ _ | refine blk_drew ?_ | refine blk_alloc ?_ _)); exact BK297.out) hb); have n1_ := Aside0.mk (below_step (by repeat (first | (with_reducible first | exact HB.out | apply below_alloc | apply pw_below_drewN | apply below_drew1 | refine below_set ?_ GE297.out) | exact HB.out)) hb); clear BK297; clear HB; have BK297 := n0_; have HB := n1_; clear n0_ n1_; (try clear hb); (try clear hb2); (try clear hk); (try clear hi)))
                        go_ret
                        exact ⟨by first | rfl | (simp [errW_none, errW_some] <;> rfl) | (simp [*, errW_none, errW_some] <;> rfl), by repeat (first | (with_reducible first | exact HB.out | apply below_alloc | apply pw_below_drewN | apply below_drew1 | refine below_set ?_ GE297.out) | exact HB.out)⟩
                    · rw [if_neg c54] at H
                      have c54b0 : (t300 == false) = false := by simpa using c54
                      (try (have c54b1 : decide (t300 = false) = false := by simpa using c54))
                      (try (have c54b2 : (t300 == false) = false := by simpa using c54))
                      (try (have c54b3 : ¬ (t300 = false) := by simpa using c54))
                      clear c54
                      obtain rfl := Option.some.inj H
                      have hcz71_0 : wc.cell? ⟨gb297, 0, none⟩ = some (.int .i64 a0) := (blk_cell BK297.out 0).trans rfl
                      have hcz71_1 : wc.cell? ⟨gb297, 1, none⟩ = some (.string (⟨#[]⟩ : ByteArray)) := (blk_cell BK297.out 1).trans rfl
                      have hcz71_2 : wc.cell? ⟨gb297, 2, none⟩ = some (.int .i64 0) := (blk_cell BK297.out 2).trans rfl
                      have hfz71_0 := blk_frozen BK297.out 0
                      have hfz71_1 := blk_frozen BK297.out 1
                      have hfz71_2 := blk_frozen BK297.out 2
                      go_wp2_with (first | ((with_reducible refine gate_callee (f := 16) rfl ?_); refine goesL_ (some 33) rfl rfl Try.func16 (by kernel_rfl) rfl #[.agg #[.string (⟨#[]⟩ : ByteArray), .int .i64 1, .string (⟨#[]⟩ : ByteArray)], .agg #[.int .i64 a0, .string (⟨#[]⟩ : ByteArray), .int .i64 0]] rfl (by (try simp only [List.map_toArray, List.map_cons, List.map_nil]); first | done | rfl | (simp only [List.length_drop, List.length_take]; rfl)) ?_; (with_reducible refine (value_Fits.calls (⟨#[]⟩ : ByteArray) 1 (⟨#[]⟩ : ByteArray) a0 (⟨#[]⟩ : ByteArray) 0 t299 _ A17.out).mono ?_); rintro e w72 ⟨rfl, hb⟩; refine ⟨_, rfl, ?_⟩; have n0_ := Aside0.mk (blk_below (g := gb297) (o := .cells #[.int .i64 a0, .string (⟨#[]⟩ : ByteArray), .int .i64 0] 25 (0, 0)) (by (with_reducible repeat (first | refine blk_drewN ?_ _ | refine blk_drew ?_ | refine blk_alloc ?_ _)); exact BK297.out) hb); have n1_ := Aside0.mk (below_step (by repeat (first | (with_reducible first | exact HB.out | apply below_alloc | apply pw_below_drewN | apply below_drew1 | refine below_set ?_ GE297.out) | exact HB.out)) hb); clear BK297; clear HB; have BK297 := n0_; have HB := n1_; clear n0_ n1_; (try clear hb); (try clear hb2); (try clear hk); (try clear hi); have hcz73_0 : w72.cell? ⟨gb297, 0, none⟩ = some (.int .i64 a0) := (blk_cell BK297.out 0).trans rfl; have hcz73_1 : w72.cell? ⟨gb297, 1, none⟩ = some (.string (⟨#[]⟩ : ByteArray)) := (blk_cell BK297.out 1).trans rfl; have hcz73_2 : w72.cell? ⟨gb297, 2, none⟩ = some (.int .i64 0) := (blk_cell BK297.out 2).trans rfl; have hfz73_0 := blk_frozen BK297.out 0; have hfz73_1 := blk_frozen BK297.out 1; have hfz73_2 := blk_frozen BK297.out 2) | ((with_reducible refine gate_callee (f := 16) rfl ?_); refine goesL_ (some 43) rfl rfl Try.func16 (by kernel_rfl) rfl #[.agg #[.string (⟨#[]⟩ : ByteArray), .int .i64 2, .string (⟨#[]⟩ : ByteArray)], .agg #[.int .i64 a0, .string (⟨#[]⟩ : ByteArray), .int .i64 0]] rfl (by (try simp only [List.map_toArray, List.map_cons, List.map_nil]); first | done | rfl | (simp only [List.length_drop, List.length_take]; rfl)) ?_; (with_reducible refine (value_Fits.calls (⟨#[]⟩ : ByteArray) 2 (⟨#[]⟩ : ByteArray) a0 (⟨#[]⟩ : ByteArray) 0 t300 _ A19.out).mono ?_); rintro e w74 ⟨rfl, hb⟩; refine ⟨_, rfl, ?_⟩; have n0_ := Aside0.mk (blk_below (g := gb297) (o := .cells #[.int .i64 a0, .string (⟨#[]⟩ : ByteArray), .int .i64 0] 25 (0, 0)) (by (with_reducible repeat (first | refine blk_drewN ?_ _ | refine blk_drew ?_ | refine blk_alloc ?_ _)); exact BK297.out) hb); have n1_ := Aside0.mk (below_step (by repeat (first | (with_reducible first | exact HB.out | apply below_alloc | apply pw_below_drewN | apply below_drew1 | refine below_set ?_ GE297.out) | exact HB.out)) hb); clear BK297; clear HB; have BK297 := n0_; have HB := n1_; clear n0_ n1_; (try clear hb); (try clear hb2); (try clear hk); (try clear hi)))
                      go_ret
                      exact ⟨by first | rfl | (simp [errW_none, errW_some] <;> rfl) | (simp [*, errW_none, errW_some] <;> rfl), by repeat (first | (with_reducible first | exact HB.out | apply below_alloc | apply pw_below_drewN | apply below_drew1 | refine below_set ?_ GE297.out) | exact HB.out)⟩
                  · rw [if_neg c53] at H
                    have c53b0 : (t299 == (decide (a0 ≤ 32767))) = false := by simpa using c53
                    (try (have c53b1 : decide (t299 = (decide (a0 ≤ 32767))) = false := by simpa using c53))
                    (try (have c53b2 : (t299 == (decide (a0 ≤ 32767))) = false := by simpa using c53))
                    (try (have c53b3 : ¬ (t299 = (decide (a0 ≤ 32767))) := by simpa using c53))
                    clear c53
                    obtain rfl := Option.some.inj H
                    have hcz75_0 : wc.cell? ⟨gb297, 0, none⟩ = some (.int .i64 a0) := (blk_cell BK297.out 0).trans rfl
                    have hcz75_1 : wc.cell? ⟨gb297, 1, none⟩ = some (.string (⟨#[]⟩ : ByteArray)) := (blk_cell BK297.out 1).trans rfl
                    have hcz75_2 : wc.cell? ⟨gb297, 2, none⟩ = some (.int .i64 0) := (blk_cell BK297.out 2).trans rfl
                    have hfz75_0 := blk_frozen BK297.out 0
                    have hfz75_1 := blk_frozen BK297.out 1
                    have hfz75_2 := blk_frozen BK297.out 2
                    go_wp2_with (first | ((with_reducible refine gate_callee (f := 16) rfl ?_); refine goesL_ (some 33) rfl rfl Try.func16 (by kernel_rfl) rfl #[.agg #[.string (⟨#[]⟩ : ByteArray), .int .i64 1, .string (⟨#[]⟩ : ByteArray)], .agg #[.int .i64 a0, .string (⟨#[]⟩ : ByteArray), .int .i64 0]] rfl (by (try simp only [List.map_toArray, List.map_cons, List.map_nil]); first | done | rfl | (simp only [List.length_drop, List.length_take]; rfl)) ?_; (with_reducible refine (value_Fits.calls (⟨#[]⟩ : ByteArray) 1 (⟨#[]⟩ : ByteArray) a0 (⟨#[]⟩ : ByteArray) 0 t299 _ A17.out).mono ?_); rintro e w76 ⟨rfl, hb⟩; refine ⟨_, rfl, ?_⟩; have n0_ := Aside0.mk (blk_below (g := gb297) (o := .cells #[.int .i64 a0, .string (⟨#[]⟩ : ByteArray), .int .i64 0] 25 (0, 0)) (by (with_reducible repeat (first | refine blk_drewN ?_ _ | refine blk_drew ?_ | refine blk_alloc ?_ _)); exact BK297.out) hb); have n1_ := Aside0.mk (below_step (by repeat (first | (with_reducible first | exact HB.out | apply below_alloc | apply pw_below_drewN | apply below_drew1 | refine below_set ?_ GE297.out) | exact HB.out)) hb); clear BK297; clear HB; have BK297 := n0_; have HB := n1_; clear n0_ n1_; (try clear hb); (try clear hb2); (try clear hk); (try clear hi); have hcz77_0 : w76.cell? ⟨gb297, 0, none⟩ = some (.int .i64 a0) := (blk_cell BK297.out 0).trans rfl; have hcz77_1 : w76.cell? ⟨gb297, 1, none⟩ = some (.string (⟨#[]⟩ : ByteArray)) := (blk_cell BK297.out 1).trans rfl; have hcz77_2 : w76.cell? ⟨gb297, 2, none⟩ = some (.int .i64 0) := (blk_cell BK297.out 2).trans rfl; have hfz77_0 := blk_frozen BK297.out 0; have hfz77_1 := blk_frozen BK297.out 1; have hfz77_2 := blk_frozen BK297.out 2) | ((with_reducible refine gate_callee (f := 16) rfl ?_); refine goesL_ (some 43) rfl rfl Try.func16 (by kernel_rfl) rfl #[.agg #[.string (⟨#[]⟩ : ByteArray), .int .i64 2, .string (⟨#[]⟩ : ByteArray)], .agg #[.int .i64 a0, .string (⟨#[]⟩ : ByteArray), .int .i64 0]] rfl (by (try simp only [List.map_toArray, List.map_cons, List.map_nil]); first | done | rfl | (simp only [List.length_drop, List.length_take]; rfl)) ?_; (with_reducible refine (value_Fits.calls (⟨#[]⟩ : ByteArray) 2 (⟨#[]⟩ : ByteArray) a0 (⟨#[]⟩ : ByteArray) 0 t300 _ A19.out).mono ?_); rintro e w78 ⟨rfl, hb⟩; refine ⟨_, rfl, ?_⟩; have n0_ := Aside0.mk (blk_below (g := gb297) (o := .cells #[.int .i64 a0, .string (⟨#[]⟩ : ByteArray), .int .i64 0] 25 (0, 0)) (by (with_reducible repeat (first | refine blk_drewN ?_ _ | refine blk_drew ?_ | refine blk_alloc ?_ _)); exact BK297.out) hb); have n1_ := Aside0.mk (below_step (by repeat (first | (with_reducible first | exact HB.out | apply below_alloc | apply pw_below_drewN | apply below_drew1 | refine below_set ?_ GE297.out) | exact HB.out)) hb); clear BK297; clear HB; have BK297 := n0_; have HB := n1_; clear n0_ n1_; (try clear hb); (try clear hb2); (try clear hk); (try clear hi)))
                    go_ret
                    exact ⟨by first | rfl | (simp [errW_none, errW_some] <;> rfl) | (simp [*, errW_none, errW_some] <;> rfl), by repeat (first | (with_reducible first | exact HB.out | apply below_alloc | apply pw_below_drewN | apply below_drew1 | refine below_set ?_ GE297.out) | exact HB.out)⟩
                · replace c52 := Bool.eq_false_iff.mpr c52
                  subst c52
                  have H1 : (some false) = some r := by rw [if_neg (show ¬ (false = true) by decide)] at H; exact H
                  clear H
                  have H := H1
                  clear H1
                  obtain rfl := Option.some.inj H
                  have hcz79_0 : wc.cell? ⟨gb297, 0, none⟩ = some (.int .i64 a0) := (blk_cell BK297.out 0).trans rfl
                  have hcz79_1 : wc.cell? ⟨gb297, 1, none⟩ = some (.string (⟨#[]⟩ : ByteArray)) := (blk_cell BK297.out 1).trans rfl
                  have hcz79_2 : wc.cell? ⟨gb297, 2, none⟩ = some (.int .i64 0) := (blk_cell BK297.out 2).trans rfl
                  have hfz79_0 := blk_frozen BK297.out 0
                  have hfz79_1 := blk_frozen BK297.out 1
                  have hfz79_2 := blk_frozen BK297.out 2
                  go_wp2_with (first | ((with_reducible refine gate_callee (f := 16) rfl ?_); refine goesL_ (some 33) rfl rfl Try.func16 (by kernel_rfl) rfl #[.agg #[.string (⟨#[]⟩ : ByteArray), .int .i64 1, .string (⟨#[]⟩ : ByteArray)], .agg #[.int .i64 a0, .string (⟨#[]⟩ : ByteArray), .int .i64 0]] rfl (by (try simp only [List.map_toArray, List.map_cons, List.map_nil]); first | done | rfl | (simp only [List.length_drop, List.length_take]; rfl)) ?_; (with_reducible refine (value_Fits.calls (⟨#[]⟩ : ByteArray) 1 (⟨#[]⟩ : ByteArray) a0 (⟨#[]⟩ : ByteArray) 0 t299 _ A17.out).mono ?_); rintro e w80 ⟨rfl, hb⟩; refine ⟨_, rfl, ?_⟩; have n0_ := Aside0.mk (blk_below (g := gb297) (o := .cells #[.int .i64 a0, .string (⟨#[]⟩ : ByteArray), .int .i64 0] 25 (0, 0)) (by (with_reducible repeat (first | refine blk_drewN ?_ _ | refine blk_drew ?_ | refine blk_alloc ?_ _)); exact BK297.out) hb); have n1_ := Aside0.mk (below_step (by repeat (first | (with_reducible first | exact HB.out | apply below_alloc | apply pw_below_drewN | apply below_drew1 | refine below_set ?_ GE297.out) | exact HB.out)) hb); clear BK297; clear HB; have BK297 := n0_; have HB := n1_; clear n0_ n1_; (try clear hb); (try clear hb2); (try clear hk); (try clear hi); have hcz81_0 : w80.cell? ⟨gb297, 0, none⟩ = some (.int .i64 a0) := (blk_cell BK297.out 0).trans rfl; have hcz81_1 : w80.cell? ⟨gb297, 1, none⟩ = some (.string (⟨#[]⟩ : ByteArray)) := (blk_cell BK297.out 1).trans rfl; have hcz81_2 : w80.cell? ⟨gb297, 2, none⟩ = some (.int .i64 0) := (blk_cell BK297.out 2).trans rfl; have hfz81_0 := blk_frozen BK297.out 0; have hfz81_1 := blk_frozen BK297.out 1; have hfz81_2 := blk_frozen BK297.out 2) | ((with_reducible refine gate_callee (f := 16) rfl ?_); refine goesL_ (some 43) rfl rfl Try.func16 (by kernel_rfl) rfl #[.agg #[.string (⟨#[]⟩ : ByteArray), .int .i64 2, .string (⟨#[]⟩ : ByteArray)], .agg #[.int .i64 a0, .string (⟨#[]⟩ : ByteArray), .int .i64 0]] rfl (by (try simp only [List.map_toArray, List.map_cons, List.map_nil]); first | done | rfl | (simp only [List.length_drop, List.length_take]; rfl)) ?_; (with_reducible refine (value_Fits.calls (⟨#[]⟩ : ByteArray) 2 (⟨#[]⟩ : ByteArray) a0 (⟨#[]⟩ : ByteArray) 0 t300 _ A19.out).mono ?_); rintro e w82 ⟨rfl, hb⟩; refine ⟨_, rfl, ?_⟩; have n0_ := Aside0.mk (blk_below (g := gb297) (o := .cells #[.int .i64 a0, .string (⟨#[]⟩ : ByteArray), .int .i64 0] 25 (0, 0)) (by (with_reducible repeat (first | refine blk_drewN ?_ _ | refine blk_drew ?_ | refine blk_alloc ?_ _)); exact BK297.out) hb); have n1_ := Aside0.mk (below_step (by repeat (first | (with_reducible first | exact HB.out | apply below_alloc | apply pw_below_drewN | apply below_drew1 | refine below_set ?_ GE297.out) | exact HB.out)) hb); clear BK297; clear HB; have BK297 := n0_; have HB := n1_; clear n0_ n1_; (try clear hb); (try clear hb2); (try clear hk); (try clear hi)))
                  go_ret
                  exact ⟨by first | rfl | (simp [errW_none, errW_some] <;> rfl) | (simp [*, errW_none, errW_some] <;> rfl), by repeat (first | (with_reducible first | exact HB.out | apply below_alloc | apply pw_below_drewN | apply below_drew1 | refine below_set ?_ GE297.out) | exact HB.out)⟩
            · rw [if_neg c18] at H
              have c18b0 : decide ((-32768) ≤ a0) = false := decide_eq_false c18
              clear c18
              replace H := Option.bind_eq_some_iff.mp H
              obtain ⟨t305, A830, H⟩ := H
              replace H : (if a0 ≥ (-2147483648) then (if x7_7 = true then (if (t299 == false) = true then (if (t305 == (decide (a0 ≤ 2147483647))) = true then ((value_Fits.f (⟨#[]⟩ : ByteArray) 3 (⟨#[]⟩ : ByteArray) a0 (⟨#[]⟩ : ByteArray) 0).bind fun t306 => (if t306 = true then ((value_Fits.f (⟨#[]⟩ : ByteArray) 4 (⟨#[]⟩ : ByteArray) 0 a1 0).bind fun t307 => (some (t307 == (decide ((a1.size : Int) ≤ 12))))) else (some false))) else (some false)) else (some false)) else (some false)) else (if x7_7 = true then (if (t299 == false) = true then (if (t305 == false) = true then ((value_Fits.f (⟨#[]⟩ : ByteArray) 3 (⟨#[]⟩ : ByteArray) a0 (⟨#[]⟩ : ByteArray) 0).bind fun t308 => (if t308 = true then ((value_Fits.f (⟨#[]⟩ : ByteArray) 4 (⟨#[]⟩ : ByteArray) 0 a1 0).bind fun t309 => (some (t309 == (decide ((a1.size : Int) ≤ 12))))) else (some false))) else (some false)) else (some false)) else (some false))) = some r := H
              have A83 := Aside0.mk A830
              clear A830
              by_cases c84 : a0 ≥ (-2147483648)
              · rw [if_pos c84] at H
                have c84b0 : decide ((-2147483648) ≤ a0) = true := decide_eq_true c84
                clear c84
                by_cases c85 : x7_7 = true
                · subst c85
                  have H1 : (if (t299 == false) = true then (if (t305 == (decide (a0 ≤ 2147483647))) = true then ((value_Fits.f (⟨#[]⟩ : ByteArray) 3 (⟨#[]⟩ : ByteArray) a0 (⟨#[]⟩ : ByteArray) 0).bind fun t306 => (if t306 = true then ((value_Fits.f (⟨#[]⟩ : ByteArray) 4 (⟨#[]⟩ : ByteArray) 0 a1 0).bind fun t307 => (some (t307 == (decide ((a1.size : Int) ≤ 12))))) else (some false))) else (some false)) else (some false)) = some r := by rw [if_pos rfl] at H; exact H
                  clear H
                  have H := H1
                  clear H1
                  by_cases c86 : (t299 == false) = true
                  · rw [if_pos c86] at H
                    have c86b0 : (t299 == false) = true := c86
                    (try (have c86b1 : decide (t299 = false) = true := by simpa using c86))
                    (try (have c86b2 : (t299 == false) = true := by simpa using c86))
                    clear c86
                    by_cases c87 : (t305 == (decide (a0 ≤ 2147483647))) = true
                    · rw [if_pos c87] at H
                      have c87b0 : (t305 == (decide (a0 ≤ 2147483647))) = true := c87
                      (try (have c87b1 : decide (t305 = (decide (a0 ≤ 2147483647))) = true := by simpa using c87))
                      (try (have c87b2 : (t305 == (decide (a0 ≤ 2147483647))) = true := by simpa using c87))
                      clear c87
                      replace H := Option.bind_eq_some_iff.mp H
                      obtain ⟨t306, A880, H⟩ := H
                      replace H : (if t306 = true then ((value_Fits.f (⟨#[]⟩ : ByteArray) 4 (⟨#[]⟩ : ByteArray) 0 a1 0).bind fun t307 => (some (t307 == (decide ((a1.size : Int) ≤ 12))))) else (some false)) = some r := H
                      have A88 := Aside0.mk A880
                      clear A880
                      by_cases c89 : t306 = true
                      · subst c89
                        have H1 : ((value_Fits.f (⟨#[]⟩ : ByteArray) 4 (⟨#[]⟩ : ByteArray) 0 a1 0).bind fun t307 => (some (t307 == (decide ((a1.size : Int) ≤ 12))))) = some r := by rw [if_pos rfl] at H; exact H
                        clear H
                        have H := H1
                        clear H1
                        replace H := Option.bind_eq_some_iff.mp H
                        obtain ⟨t307, A900, H⟩ := H
                        replace H : (some (t307 == (decide ((a1.size : Int) ≤ 12)))) = some r := H
                        have A90 := Aside0.mk A900
                        clear A900
                        obtain rfl := Option.some.inj H
                        have hcz91_0 : wc.cell? ⟨gb297, 0, none⟩ = some (.int .i64 a0) := (blk_cell BK297.out 0).trans rfl
                        have hcz91_1 : wc.cell? ⟨gb297, 1, none⟩ = some (.string (⟨#[]⟩ : ByteArray)) := (blk_cell BK297.out 1).trans rfl
                        have hcz91_2 : wc.cell? ⟨gb297, 2, none⟩ = some (.int .i64 0) := (blk_cell BK297.out 2).trans rfl
                        have hfz91_0 := blk_frozen BK297.out 0
                        have hfz91_1 := blk_frozen BK297.out 1
                        have hfz91_2 := blk_frozen BK297.out 2
                        go_wp2_with (first | ((with_reducible refine gate_callee (f := 16) rfl ?_); refine goesL_ (some 33) rfl rfl Try.func16 (by kernel_rfl) rfl #[.agg #[.string (⟨#[]⟩ : ByteArray), .int .i64 1, .string (⟨#[]⟩ : ByteArray)], .agg #[.int .i64 a0, .string (⟨#[]⟩ : ByteArray), .int .i64 0]] rfl (by (try simp only [List.map_toArray, List.map_cons, List.map_nil]); first | done | rfl | (simp only [List.length_drop, List.length_take]; rfl)) ?_; (with_reducible refine (value_Fits.calls (⟨#[]⟩ : ByteArray) 1 (⟨#[]⟩ : ByteArray) a0 (⟨#[]⟩ : ByteArray) 0 t299 _ A17.out).mono ?_); rintro e w92 ⟨rfl, hb⟩; refine ⟨_, rfl, ?_⟩; have n0_ := Aside0.mk (blk_below (g := gb297) (o := .cells #[.int .i64 a0, .string (⟨#[]⟩ : ByteArray), .int .i64 0] 25 (0, 0)) (by (with_reducible repeat (first | refine blk_drewN ?_ _ | refine blk_drew ?_ | refine blk_alloc ?_ _)); exact BK297.out) hb); have n1_ := Aside0.mk (below_step (by repeat (first | (with_reducible first | exact HB.out | apply below_alloc | apply pw_below_drewN | apply below_drew1 | refine below_set ?_ GE297.out) | exact HB.out)) hb); clear BK297; clear HB; have BK297 := n0_; have HB := n1_; clear n0_ n1_; (try clear hb); (try clear hb2); (try clear hk); (try clear hi); have hcz93_0 : w92.cell? ⟨gb297, 0, none⟩ = some (.int .i64 a0) := (blk_cell BK297.out 0).trans rfl; have hcz93_1 : w92.cell? ⟨gb297, 1, none⟩ = some (.string (⟨#[]⟩ : ByteArray)) := (blk_cell BK297.out 1).trans rfl; have hcz93_2 : w92.cell? ⟨gb297, 2, none⟩ = some (.int .i64 0) := (blk_cell BK297.out 2).trans rfl; have hfz93_0 := blk_frozen BK297.out 0; have hfz93_1 := blk_frozen BK297.out 1; have hfz93_2 := blk_frozen BK297.out 2) | ((with_reducible refine gate_callee (f := 16) rfl ?_); refine goesL_ (some 43) rfl rfl Try.func16 (by kernel_rfl) rfl #[.agg #[.string (⟨#[]⟩ : ByteArray), .int .i64 2, .string (⟨#[]⟩ : ByteArray)], .agg #[.int .i64 a0, .string (⟨#[]⟩ : ByteArray), .int .i64 0]] rfl (by (try simp only [List.map_toArray, List.map_cons, List.map_nil]); first | done | rfl | (simp only [List.length_drop, List.length_take]; rfl)) ?_; (with_reducible refine (value_Fits.calls (⟨#[]⟩ : ByteArray) 2 (⟨#[]⟩ : ByteArray) a0 (⟨#[]⟩ : ByteArray) 0 t305 _ A83.out).mono ?_); rintro e w94 ⟨rfl, hb⟩; refine ⟨_, rfl, ?_⟩; have n0_ := Aside0.mk (blk_below (g := gb297) (o := .cells #[.int .i64 a0, .string (⟨#[]⟩ : ByteArray), .int .i64 0] 25 (0, 0)) (by (with_reducible repeat (first | refine blk_drewN ?_ _ | refine blk_drew ?_ | refine blk_alloc ?_ _)); exact BK297.out) hb); have n1_ := Aside0.mk (below_step (by repeat (first | (with_reducible first | exact HB.out | apply below_alloc | apply pw_below_drewN | apply below_drew1 | refine below_set ?_ GE297.out) | exact HB.out)) hb); clear BK297; clear HB; have BK297 := n0_; have HB := n1_; clear n0_ n1_; (try clear hb); (try clear hb2); (try clear hk); (try clear hi); have hcz95_0 : w94.cell? ⟨gb297, 0, none⟩ = some (.int .i64 a0) := (blk_cell BK297.out 0).trans rfl; have hcz95_1 : w94.cell? ⟨gb297, 1, none⟩ = some (.string (⟨#[]⟩ : ByteArray)) := (blk_cell BK297.out 1).trans rfl; have hcz95_2 : w94.cell? ⟨gb297, 2, none⟩ = some (.int .i64 0) := (blk_cell BK297.out 2).trans rfl; have hfz95_0 := blk_frozen BK297.out 0; have hfz95_1 := blk_frozen BK297.out 1; have hfz95_2 := blk_frozen BK297.out 2) | (go_at_call 16; (with_reducible refine (value_Fits.calls (⟨#[]⟩ : ByteArray) 3 (⟨#[]⟩ : ByteArray) a0 (⟨#[]⟩ : ByteArray) 0 true _ A88.out).mono ?_); rintro e w96 ⟨rfl, hb⟩; have n0_ := Aside0.mk (blk_below (g := gb297) (o := .cells #[.int .i64 a0, .string (⟨#[]⟩ : ByteArray), .int .i64 0] 25 (0, 0)) (by (with_reducible repeat (first | refine blk_drewN ?_ _ | refine blk_drew ?_ | refine blk_alloc ?_ _)); exact BK297.out) hb); have n1_ := Aside0.mk (below_step (by repeat (first | (with_reducible first | exact HB.out | apply below_alloc | apply pw_below_drewN | apply below_drew1 | refine below_set ?_ GE297.out) | exact HB.out)) hb); clear BK297; clear HB; have BK297 := n0_; have HB := n1_; clear n0_ n1_; (try clear hb); (try clear hb2); (try clear hk); (try clear hi)) | (go_at_call 16; (with_reducible refine (value_Fits.calls (⟨#[]⟩ : ByteArray) 4 (⟨#[]⟩ : ByteArray) 0 a1 0 t307 _ A90.out).mono ?_); rintro e w97 ⟨rfl, hb⟩; have n0_ := Aside0.mk (blk_below (g := gb297) (o := .cells #[.int .i64 a0, .string (⟨#[]⟩ : ByteArray), .int .i64 0] 25 (0, 0)) (by (with_reducible repeat (first | refine blk_drewN ?_ _ | refine blk_drew ?_ | refine blk_alloc ?_ _)); exact BK297.out) hb); have n1_ := Aside0.mk (below_step (by repeat (first | (with_reducible first | exact HB.out | apply below_alloc | apply pw_below_drewN | apply below_drew1 | refine below_set ?_ GE297.out) | exact HB.out)) hb); clear BK297; clear HB; have BK297 := n0_; have HB := n1_; clear n0_ n1_; (try clear hb); (try clear hb2); (try clear hk); (try clear hi)))
                        go_ret
                        exact ⟨by first | rfl | (simp [errW_none, errW_some] <;> rfl) | (simp [*, errW_none, errW_some] <;> rfl), by repeat (first | (with_reducible first | exact HB.out | apply below_alloc | apply pw_below_drewN | apply below_drew1 | refine below_set ?_ GE297.out) | exact HB.out)⟩
                      · replace c89 := Bool.eq_false_iff.mpr c89
                        subst c89
                        have H1 : (some false) = some r := by rw [if_neg (show ¬ (false = true) by decide)] at H; exact H
                        clear H
                        have H := H1
                        clear H1
                        obtain rfl := Option.some.inj H
                        have hcz98_0 : wc.cell? ⟨gb297, 0, none⟩ = some (.int .i64 a0) := (blk_cell BK297.out 0).trans rfl
                        have hcz98_1 : wc.cell? ⟨gb297, 1, none⟩ = some (.string (⟨#[]⟩ : ByteArray)) := (blk_cell BK297.out 1).trans rfl
                        have hcz98_2 : wc.cell? ⟨gb297, 2, none⟩ = some (.int .i64 0) := (blk_cell BK297.out 2).trans rfl
                        have hfz98_0 := blk_frozen BK297.out 0
                        have hfz98_1 := blk_frozen BK297.out 1
                        have hfz98_2 := blk_frozen BK297.out 2
                        go_wp2_with (first | ((with_reducible refine gate_callee (f := 16) rfl ?_); refine goesL_ (some 33) rfl rfl Try.func16 (by kernel_rfl) rfl #[.agg #[.string (⟨#[]⟩ : ByteArray), .int .i64 1, .string (⟨#[]⟩ : ByteArray)], .agg #[.int .i64 a0, .string (⟨#[]⟩ : ByteArray), .int .i64 0]] rfl (by (try simp only [List.map_toArray, List.map_cons, List.map_nil]); first | done | rfl | (simp only [List.length_drop, List.length_take]; rfl)) ?_; (with_reducible refine (value_Fits.calls (⟨#[]⟩ : ByteArray) 1 (⟨#[]⟩ : ByteArray) a0 (⟨#[]⟩ : ByteArray) 0 t299 _ A17.out).mono ?_); rintro e w99 ⟨rfl, hb⟩; refine ⟨_, rfl, ?_⟩; have n0_ := Aside0.mk (blk_below (g := gb297) (o := .cells #[.int .i64 a0, .string (⟨#[]⟩ : ByteArray), .int .i64 0] 25 (0, 0)) (by (with_reducible repeat (first | refine blk_drewN ?_ _ | refine blk_drew ?_ | refine blk_alloc ?_ _)); exact BK297.out) hb); have n1_ := Aside0.mk (below_step (by repeat (first | (with_reducible first | exact HB.out | apply below_alloc | apply pw_below_drewN | apply below_drew1 | refine below_set ?_ GE297.out) | exact HB.out)) hb); clear BK297; clear HB; have BK297 := n0_; have HB := n1_; clear n0_ n1_; (try clear hb); (try clear hb2); (try clear hk); (try clear hi); have hcz100_0 : w99.cell? ⟨gb297, 0, none⟩ = some (.int .i64 a0) := (blk_cell BK297.out 0).trans rfl; have hcz100_1 : w99.cell? ⟨gb297, 1, none⟩ = some (.string (⟨#[]⟩ : ByteArray)) := (blk_cell BK297.out 1).trans rfl; have hcz100_2 : w99.cell? ⟨gb297, 2, none⟩ = some (.int .i64 0) := (blk_cell BK297.out 2).trans rfl; have hfz100_0 := blk_frozen BK297.out 0; have hfz100_1 := blk_frozen BK297.out 1; have hfz100_2 := blk_frozen BK297.out 2) | ((with_reducible refine gate_callee (f := 16) rfl ?_); refine goesL_ (some 43) rfl rfl Try.func16 (by kernel_rfl) rfl #[.agg #[.string (⟨#[]⟩ : ByteArray), .int .i64 2, .string (⟨#[]⟩ : ByteArray)], .agg #[.int .i64 a0, .string (⟨#[]⟩ : ByteArray), .int .i64 0]] rfl (by (try simp only [List.map_toArray, List.map_cons, List.map_nil]); first | done | rfl | (simp only [List.length_drop, List.length_take]; rfl)) ?_; (with_reducible refine (value_Fits.calls (⟨#[]⟩ : ByteArray) 2 (⟨#[]⟩ : ByteArray) a0 (⟨#[]⟩ : ByteArray) 0 t305 _ A83.out).mono ?_); rintro e w101 ⟨rfl, hb⟩; refine ⟨_, rfl, ?_⟩; have n0_ := Aside0.mk (blk_below (g := gb297) (o := .cells #[.int .i64 a0, .string (⟨#[]⟩ : ByteArray), .int .i64 0] 25 (0, 0)) (by (with_reducible repeat (first | refine blk_drewN ?_ _ | refine blk_drew ?_ | refine blk_alloc ?_ _)); exact BK297.out) hb); have n1_ := Aside0.mk (below_step (by repeat (first | (with_reducible first | exact HB.out | apply below_alloc | apply pw_below_drewN | apply below_drew1 | refine below_set ?_ GE297.out) | exact HB.out)) hb); clear BK297; clear HB; have BK297 := n0_; have HB := n1_; clear n0_ n1_; (try clear hb); (try clear hb2); (try clear hk); (try clear hi); have hcz102_0 : w101.cell? ⟨gb297, 0, none⟩ = some (.int .i64 a0) := (blk_cell BK297.out 0).trans rfl; have hcz102_1 : w101.cell? ⟨gb297, 1, none⟩ = some (.string (⟨#[]⟩ : ByteArray)) := (blk_cell BK297.out 1).trans rfl; have hcz102_2 : w101.cell? ⟨gb297, 2, none⟩ = some (.int .i64 0) := (blk_cell BK297.out 2).trans rfl; have hfz102_0 := blk_frozen BK297.out 0; have hfz102_1 := blk_frozen BK297.out 1; have hfz102_2 := blk_frozen BK297.out 2) | (go_at_call 16; (with_reducible refine (value_Fits.calls (⟨#[]⟩ : ByteArray) 3 (⟨#[]⟩ : ByteArray) a0 (⟨#[]⟩ : ByteArray) 0 false _ A88.out).mono ?_); rintro e w103 ⟨rfl, hb⟩; have n0_ := Aside0.mk (blk_below (g := gb297) (o := .cells #[.int .i64 a0, .string (⟨#[]⟩ : ByteArray), .int .i64 0] 25 (0, 0)) (by (with_reducible repeat (first | refine blk_drewN ?_ _ | refine blk_drew ?_ | refine blk_alloc ?_ _)); exact BK297.out) hb); have n1_ := Aside0.mk (below_step (by repeat (first | (with_reducible first | exact HB.out | apply below_alloc | apply pw_below_drewN | apply below_drew1 | refine below_set ?_ GE297.out) | exact HB.out)) hb); clear BK297; clear HB; have BK297 := n0_; have HB := n1_; clear n0_ n1_; (try clear hb); (try clear hb2); (try clear hk); (try clear hi)))
                        go_ret
                        exact ⟨by first | rfl | (simp [errW_none, errW_some] <;> rfl) | (simp [*, errW_none, errW_some] <;> rfl), by repeat (first | (with_reducible first | exact HB.out | apply below_alloc | apply pw_below_drewN | apply below_drew1 | refine below_set ?_ GE297.out) | exact HB.out)⟩
                    · rw [if_neg c87] at H
                      have c87b0 : (t305 == (decide (a0 ≤ 2147483647))) = false := by simpa using c87
                      (try (have c87b1 : decide (t305 = (decide (a0 ≤ 2147483647))) = false := by simpa using c87))
                      (try (have c87b2 : (t305 == (decide (a0 ≤ 2147483647))) = false := by simpa using c87))
                      (try (have c87b3 : ¬ (t305 = (decide (a0 ≤ 2147483647))) := by simpa using c87))
                      clear c87
                      obtain rfl := Option.some.inj H
                      have hcz104_0 : wc.cell? ⟨gb297, 0, none⟩ = some (.int .i64 a0) := (blk_cell BK297.out 0).trans rfl
                      have hcz104_1 : wc.cell? ⟨gb297, 1, none⟩ = some (.string (⟨#[]⟩ : ByteArray)) := (blk_cell BK297.out 1).trans rfl
                      have hcz104_2 : wc.cell? ⟨gb297, 2, none⟩ = some (.int .i64 0) := (blk_cell BK297.out 2).trans rfl
                      have hfz104_0 := blk_frozen BK297.out 0
                      have hfz104_1 := blk_frozen BK297.out 1
                      have hfz104_2 := blk_frozen BK297.out 2
                      go_wp2_with (first | ((with_reducible refine gate_callee (f := 16) rfl ?_); refine goesL_ (some 33) rfl rfl Try.func16 (by kernel_rfl) rfl #[.agg #[.string (⟨#[]⟩ : ByteArray), .int .i64 1, .string (⟨#[]⟩ : ByteArray)], .agg #[.int .i64 a0, .string (⟨#[]⟩ : ByteArray), .int .i64 0]] rfl (by (try simp only [List.map_toArray, List.map_cons, List.map_nil]); first | done | rfl | (simp only [List.length_drop, List.length_take]; rfl)) ?_; (with_reducible refine (value_Fits.calls (⟨#[]⟩ : ByteArray) 1 (⟨#[]⟩ : ByteArray) a0 (⟨#[]⟩ : ByteArray) 0 t299 _ A17.out).mono ?_); rintro e w105 ⟨rfl, hb⟩; refine ⟨_, rfl, ?_⟩; have n0_ := Aside0.mk (blk_below (g := gb297) (o := .cells #[.int .i64 a0, .string (⟨#[]⟩ : ByteArray), .int .i64 0] 25 (0, 0)) (by (with_reducible repeat (first | refine blk_drewN ?_ _ | refine blk_drew ?_ | refine blk_alloc ?_ _)); exact BK297.out) hb); have n1_ := Aside0.mk (below_step (by repeat (first | (with_reducible first | exact HB.out | apply below_alloc | apply pw_below_drewN | apply below_drew1 | refine below_set ?_ GE297.out) | exact HB.out)) hb); clear BK297; clear HB; have BK297 := n0_; have HB := n1_; clear n0_ n1_; (try clear hb); (try clear hb2); (try clear hk); (try clear hi); have hcz106_0 : w105.cell? ⟨gb297, 0, none⟩ = some (.int .i64 a0) := (blk_cell BK297.out 0).trans rfl; have hcz106_1 : w105.cell? ⟨gb297, 1, none⟩ = some (.string (⟨#[]⟩ : ByteArray)) := (blk_cell BK297.out 1).trans rfl; have hcz106_2 : w105.cell? ⟨gb297, 2, none⟩ = some (.int .i64 0) := (blk_cell BK297.out 2).trans rfl; have hfz106_0 := blk_frozen BK297.out 0; have hfz106_1 := blk_frozen BK297.out 1; have hfz106_2 := blk_frozen BK297.out 2) | ((with_reducible refine gate_callee (f := 16) rfl ?_); refine goesL_ (some 43) rfl rfl Try.func16 (by kernel_rfl) rfl #[.agg #[.string (⟨#[]⟩ : ByteArray), .int .i64 2, .string (⟨#[]⟩ : ByteArray)], .agg #[.int .i64 a0, .string (⟨#[]⟩ : ByteArray), .int .i64 0]] rfl (by (try simp only [List.map_toArray, List.map_cons, List.map_nil]); first | done | rfl | (simp only [List.length_drop, List.length_take]; rfl)) ?_; (with_reducible refine (value_Fits.calls (⟨#[]⟩ : ByteArray) 2 (⟨#[]⟩ : ByteArray) a0 (⟨#[]⟩ : ByteArray) 0 t305 _ A83.out).mono ?_); rintro e w107 ⟨rfl, hb⟩; refine ⟨_, rfl, ?_⟩; have n0_ := Aside0.mk (blk_below (g := gb297) (o := .cells #[.int .i64 a0, .string (⟨#[]⟩ : ByteArray), .int .i64 0] 25 (0, 0)) (by (with_reducible repeat (first | refine blk_drewN ?_ _ | refine blk_drew ?_ | refine blk_alloc ?_ _)); exact BK297.out) hb); have n1_ := Aside0.mk (below_step (by repeat (first | (with_reducible first | exact HB.out | apply below_alloc | apply pw_below_drewN | apply below_drew1 | refine below_set ?_ GE297.out) | exact HB.out)) hb); clear BK297; clear HB; have BK297 := n0_; have HB := n1_; clear n0_ n1_; (try clear hb); (try clear hb2); (try clear hk); (try clear hi)))
                      go_ret
                      exact ⟨by first | rfl | (simp [errW_none, errW_some] <;> rfl) | (simp [*, errW_none, errW_some] <;> rfl), by repeat (first | (with_reducible first | exact HB.out | apply below_alloc | apply pw_below_drewN | apply below_drew1 | refine below_set ?_ GE297.out) | exact HB.out)⟩
                  · rw [if_neg c86] at H
                    have c86b0 : (t299 == false) = false := by simpa using c86
                    (try (have c86b1 : decide (t299 = false) = false := by simpa using c86))
                    (try (have c86b2 : (t299 == false) = false := by simpa using c86))
                    (try (have c86b3 : ¬ (t299 = false) := by simpa using c86))
                    clear c86
                    obtain rfl := Option.some.inj H
                    have hcz108_0 : wc.cell? ⟨gb297, 0, none⟩ = some (.int .i64 a0) := (blk_cell BK297.out 0).trans rfl
                    have hcz108_1 : wc.cell? ⟨gb297, 1, none⟩ = some (.string (⟨#[]⟩ : ByteArray)) := (blk_cell BK297.out 1).trans rfl
                    have hcz108_2 : wc.cell? ⟨gb297, 2, none⟩ = some (.int .i64 0) := (blk_cell BK297.out 2).trans rfl
                    have hfz108_0 := blk_frozen BK297.out 0
                    have hfz108_1 := blk_frozen BK297.out 1
                    have hfz108_2 := blk_frozen BK297.out 2
                    go_wp2_with (first | ((with_reducible refine gate_callee (f := 16) rfl ?_); refine goesL_ (some 33) rfl rfl Try.func16 (by kernel_rfl) rfl #[.agg #[.string (⟨#[]⟩ : ByteArray), .int .i64 1, .string (⟨#[]⟩ : ByteArray)], .agg #[.int .i64 a0, .string (⟨#[]⟩ : ByteArray), .int .i64 0]] rfl (by (try simp only [List.map_toArray, List.map_cons, List.map_nil]); first | done | rfl | (simp only [List.length_drop, List.length_take]; rfl)) ?_; (with_reducible refine (value_Fits.calls (⟨#[]⟩ : ByteArray) 1 (⟨#[]⟩ : ByteArray) a0 (⟨#[]⟩ : ByteArray) 0 t299 _ A17.out).mono ?_); rintro e w109 ⟨rfl, hb⟩; refine ⟨_, rfl, ?_⟩; have n0_ := Aside0.mk (blk_below (g := gb297) (o := .cells #[.int .i64 a0, .string (⟨#[]⟩ : ByteArray), .int .i64 0] 25 (0, 0)) (by (with_reducible repeat (first | refine blk_drewN ?_ _ | refine blk_drew ?_ | refine blk_alloc ?_ _)); exact BK297.out) hb); have n1_ := Aside0.mk (below_step (by repeat (first | (with_reducible first | exact HB.out | apply below_alloc | apply pw_below_drewN | apply below_drew1 | refine below_set ?_ GE297.out) | exact HB.out)) hb); clear BK297; clear HB; have BK297 := n0_; have HB := n1_; clear n0_ n1_; (try clear hb); (try clear hb2); (try clear hk); (try clear hi); have hcz110_0 : w109.cell? ⟨gb297, 0, none⟩ = some (.int .i64 a0) := (blk_cell BK297.out 0).trans rfl; have hcz110_1 : w109.cell? ⟨gb297, 1, none⟩ = some (.string (⟨#[]⟩ : ByteArray)) := (blk_cell BK297.out 1).trans rfl; have hcz110_2 : w109.cell? ⟨gb297, 2, none⟩ = some (.int .i64 0) := (blk_cell BK297.out 2).trans rfl; have hfz110_0 := blk_frozen BK297.out 0; have hfz110_1 := blk_frozen BK297.out 1; have hfz110_2 := blk_frozen BK297.out 2) | ((with_reducible refine gate_callee (f := 16) rfl ?_); refine goesL_ (some 43) rfl rfl Try.func16 (by kernel_rfl) rfl #[.agg #[.string (⟨#[]⟩ : ByteArray), .int .i64 2, .string (⟨#[]⟩ : ByteArray)], .agg #[.int .i64 a0, .string (⟨#[]⟩ : ByteArray), .int .i64 0]] rfl (by (try simp only [List.map_toArray, List.map_cons, List.map_nil]); first | done | rfl | (simp only [List.length_drop, List.length_take]; rfl)) ?_; (with_reducible refine (value_Fits.calls (⟨#[]⟩ : ByteArray) 2 (⟨#[]⟩ : ByteArray) a0 (⟨#[]⟩ : ByteArray) 0 t305 _ A83.out).mono ?_); rintro e w111 ⟨rfl, hb⟩; refine ⟨_, rfl, ?_⟩; have n0_ := Aside0.mk (blk_below (g := gb297) (o := .cells #[.int .i64 a0, .string (⟨#[]⟩ : ByteArray), .int .i64 0] 25 (0, 0)) (by (with_reducible repeat (first | refine blk_drewN ?_ _ | refine blk_drew ?_ | refine blk_alloc ?_ _)); exact BK297.out) hb); have n1_ := Aside0.mk (below_step (by repeat (first | (with_reducible first | exact HB.out | apply below_alloc | apply pw_below_drewN | apply below_drew1 | refine below_set ?_ GE297.out) | exact HB.out)) hb); clear BK297; clear HB; have BK297 := n0_; have HB := n1_; clear n0_ n1_; (try clear hb); (try clear hb2); (try clear hk); (try clear hi)))
                    go_ret
                    exact ⟨by first | rfl | (simp [errW_none, errW_some] <;> rfl) | (simp [*, errW_none, errW_some] <;> rfl), by repeat (first | (with_reducible first | exact HB.out | apply below_alloc | apply pw_below_drewN | apply below_drew1 | refine below_set ?_ GE297.out) | exact HB.out)⟩
                · replace c85 := Bool.eq_false_iff.mpr c85
                  subst c85
                  have H1 : (some false) = some r := by rw [if_neg (show ¬ (false = true) by decide)] at H; exact H
                  clear H
                  have H := H1
                  clear H1
                  obtain rfl := Option.some.inj H
                  have hcz112_0 : wc.cell? ⟨gb297, 0, none⟩ = some (.int .i64 a0) := (blk_cell BK297.out 0).trans rfl
                  have hcz112_1 : wc.cell? ⟨gb297, 1, none⟩ = some (.string (⟨#[]⟩ : ByteArray)) := (blk_cell BK297.out 1).trans rfl
                  have hcz112_2 : wc.cell? ⟨gb297, 2, none⟩ = some (.int .i64 0) := (blk_cell BK297.out 2).trans rfl
                  have hfz112_0 := blk_frozen BK297.out 0
                  have hfz112_1 := blk_frozen BK297.out 1
                  have hfz112_2 := blk_frozen BK297.out 2
                  go_wp2_with (first | ((with_reducible refine gate_callee (f := 16) rfl ?_); refine goesL_ (some 33) rfl rfl Try.func16 (by kernel_rfl) rfl #[.agg #[.string (⟨#[]⟩ : ByteArray), .int .i64 1, .string (⟨#[]⟩ : ByteArray)], .agg #[.int .i64 a0, .string (⟨#[]⟩ : ByteArray), .int .i64 0]] rfl (by (try simp only [List.map_toArray, List.map_cons, List.map_nil]); first | done | rfl | (simp only [List.length_drop, List.length_take]; rfl)) ?_; (with_reducible refine (value_Fits.calls (⟨#[]⟩ : ByteArray) 1 (⟨#[]⟩ : ByteArray) a0 (⟨#[]⟩ : ByteArray) 0 t299 _ A17.out).mono ?_); rintro e w113 ⟨rfl, hb⟩; refine ⟨_, rfl, ?_⟩; have n0_ := Aside0.mk (blk_below (g := gb297) (o := .cells #[.int .i64 a0, .string (⟨#[]⟩ : ByteArray), .int .i64 0] 25 (0, 0)) (by (with_reducible repeat (first | refine blk_drewN ?_ _ | refine blk_drew ?_ | refine blk_alloc ?_ _)); exact BK297.out) hb); have n1_ := Aside0.mk (below_step (by repeat (first | (with_reducible first | exact HB.out | apply below_alloc | apply pw_below_drewN | apply below_drew1 | refine below_set ?_ GE297.out) | exact HB.out)) hb); clear BK297; clear HB; have BK297 := n0_; have HB := n1_; clear n0_ n1_; (try clear hb); (try clear hb2); (try clear hk); (try clear hi); have hcz114_0 : w113.cell? ⟨gb297, 0, none⟩ = some (.int .i64 a0) := (blk_cell BK297.out 0).trans rfl; have hcz114_1 : w113.cell? ⟨gb297, 1, none⟩ = some (.string (⟨#[]⟩ : ByteArray)) := (blk_cell BK297.out 1).trans rfl; have hcz114_2 : w113.cell? ⟨gb297, 2, none⟩ = some (.int .i64 0) := (blk_cell BK297.out 2).trans rfl; have hfz114_0 := blk_frozen BK297.out 0; have hfz114_1 := blk_frozen BK297.out 1; have hfz114_2 := blk_frozen BK297.out 2) | ((with_reducible refine gate_callee (f := 16) rfl ?_); refine goesL_ (some 43) rfl rfl Try.func16 (by kernel_rfl) rfl #[.agg #[.string (⟨#[]⟩ : ByteArray), .int .i64 2, .string (⟨#[]⟩ : ByteArray)], .agg #[.int .i64 a0, .string (⟨#[]⟩ : ByteArray), .int .i64 0]] rfl (by (try simp only [List.map_toArray, List.map_cons, List.map_nil]); first | done | rfl | (simp only [List.length_drop, List.length_take]; rfl)) ?_; (with_reducible refine (value_Fits.calls (⟨#[]⟩ : ByteArray) 2 (⟨#[]⟩ : ByteArray) a0 (⟨#[]⟩ : ByteArray) 0 t305 _ A83.out).mono ?_); rintro e w115 ⟨rfl, hb⟩; refine ⟨_, rfl, ?_⟩; have n0_ := Aside0.mk (blk_below (g := gb297) (o := .cells #[.int .i64 a0, .string (⟨#[]⟩ : ByteArray), .int .i64 0] 25 (0, 0)) (by (with_reducible repeat (first | refine blk_drewN ?_ _ | refine blk_drew ?_ | refine blk_alloc ?_ _)); exact BK297.out) hb); have n1_ := Aside0.mk (below_step (by repeat (first | (with_reducible first | exact HB.out | apply below_alloc | apply pw_below_drewN | apply below_drew1 | refine below_set ?_ GE297.out) | exact HB.out)) hb); clear BK297; clear HB; have BK297 := n0_; have HB := n1_; clear n0_ n1_; (try clear hb); (try clear hb2); (try clear hk); (try clear hi)))
                  go_ret
                  exact ⟨by first | rfl | (simp [errW_none, errW_some] <;> rfl) | (simp [*, errW_none, errW_some] <;> rfl), by repeat (first | (with_reducible first | exact HB.out | apply below_alloc | apply pw_below_drewN | apply below_drew1 | refine below_set ?_ GE297.out) | exact HB.out)⟩
              · rw [if_neg c84] at H
                have c84b0 : decide ((-2147483648) ≤ a0) = false := decide_eq_false c84
                clear c84
                by_cases c116 : x7_7 = true
                · subst c116
                  have H1 : (if (t299 == false) = true then (if (t305 == false) = true then ((value_Fits.f (⟨#[]⟩ : ByteArray) 3 (⟨#[]⟩ : ByteArray) a0 (⟨#[]⟩ : ByteArray) 0).bind fun t308 => (if t308 = true then ((value_Fits.f (⟨#[]⟩ : ByteArray) 4 (⟨#[]⟩ : ByteArray) 0 a1 0).bind fun t309 => (some (t309 == (decide ((a1.size : Int) ≤ 12))))) else (some false))) else (some false)) else (some false)) = some r := by rw [if_pos rfl] at H; exact H
                  clear H
                  have H := H1
                  clear H1
                  by_cases c117 : (t299 == false) = true
                  · rw [if_pos c117] at H
                    have c117b0 : (t299 == false) = true := c117
                    (try (have c117b1 : decide (t299 = false) = true := by simpa using c117))
                    (try (have c117b2 : (t299 == false) = true := by simpa using c117))
                    clear c117
                    by_cases c118 : (t305 == false) = true
                    · rw [if_pos c118] at H
                      have c118b0 : (t305 == false) = true := c118
                      (try (have c118b1 : decide (t305 = false) = true := by simpa using c118))
                      (try (have c118b2 : (t305 == false) = true := by simpa using c118))
                      clear c118
                      replace H := Option.bind_eq_some_iff.mp H
                      obtain ⟨t308, A1190, H⟩ := H
                      replace H : (if t308 = true then ((value_Fits.f (⟨#[]⟩ : ByteArray) 4 (⟨#[]⟩ : ByteArray) 0 a1 0).bind fun t309 => (some (t309 == (decide ((a1.size : Int) ≤ 12))))) else (some false)) = some r := H
                      have A119 := Aside0.mk A1190
                      clear A1190
                      by_cases c120 : t308 = true
                      · subst c120
                        have H1 : ((value_Fits.f (⟨#[]⟩ : ByteArray) 4 (⟨#[]⟩ : ByteArray) 0 a1 0).bind fun t309 => (some (t309 == (decide ((a1.size : Int) ≤ 12))))) = some r := by rw [if_pos rfl] at H; exact H
                        clear H
                        have H := H1
                        clear H1
                        replace H := Option.bind_eq_some_iff.mp H
                        obtain ⟨t309, A1210, H⟩ := H
                        replace H : (some (t309 == (decide ((a1.size : Int) ≤ 12)))) = some r := H
                        have A121 := Aside0.mk A1210
                        clear A1210
                        obtain rfl := Option.some.inj H
                        have hcz122_0 : wc.cell? ⟨gb297, 0, none⟩ = some (.int .i64 a0) := (blk_cell BK297.out 0).trans rfl
                        have hcz122_1 : wc.cell? ⟨gb297, 1, none⟩ = some (.string (⟨#[]⟩ : ByteArray)) := (blk_cell BK297.out 1).trans rfl
                        have hcz122_2 : wc.cell? ⟨gb297, 2, none⟩ = some (.int .i64 0) := (blk_cell BK297.out 2).trans rfl
                        have hfz122_0 := blk_frozen BK297.out 0
                        have hfz122_1 := blk_frozen BK297.out 1
                        have hfz122_2 := blk_frozen BK297.out 2
                        go_wp2_with (first | ((with_reducible refine gate_callee (f := 16) rfl ?_); refine goesL_ (some 33) rfl rfl Try.func16 (by kernel_rfl) rfl #[.agg #[.string (⟨#[]⟩ : ByteArray), .int .i64 1, .string (⟨#[]⟩ : ByteArray)], .agg #[.int .i64 a0, .string (⟨#[]⟩ : ByteArray), .int .i64 0]] rfl (by (try simp only [List.map_toArray, List.map_cons, List.map_nil]); first | done | rfl | (simp only [List.length_drop, List.length_take]; rfl)) ?_; (with_reducible refine (value_Fits.calls (⟨#[]⟩ : ByteArray) 1 (⟨#[]⟩ : ByteArray) a0 (⟨#[]⟩ : ByteArray) 0 t299 _ A17.out).mono ?_); rintro e w123 ⟨rfl, hb⟩; refine ⟨_, rfl, ?_⟩; have n0_ := Aside0.mk (blk_below (g := gb297) (o := .cells #[.int .i64 a0, .string (⟨#[]⟩ : ByteArray), .int .i64 0] 25 (0, 0)) (by (with_reducible repeat (first | refine blk_drewN ?_ _ | refine blk_drew ?_ | refine blk_alloc ?_ _)); exact BK297.out) hb); have n1_ := Aside0.mk (below_step (by repeat (first | (with_reducible first | exact HB.out | apply below_alloc | apply pw_below_drewN | apply below_drew1 | refine below_set ?_ GE297.out) | exact HB.out)) hb); clear BK297; clear HB; have BK297 := n0_; have HB := n1_; clear n0_ n1_; (try clear hb); (try clear hb2); (try clear hk); (try clear hi); have hcz124_0 : w123.cell? ⟨gb297, 0, none⟩ = some (.int .i64 a0) := (blk_cell BK297.out 0).trans rfl; have hcz124_1 : w123.cell? ⟨gb297, 1, none⟩ = some (.string (⟨#[]⟩ : ByteArray)) := (blk_cell BK297.out 1).trans rfl; have hcz124_2 : w123.cell? ⟨gb297, 2, none⟩ = some (.int .i64 0) := (blk_cell BK297.out 2).trans rfl; have hfz124_0 := blk_frozen BK297.out 0; have hfz124_1 := blk_frozen BK297.out 1; have hfz124_2 := blk_frozen BK297.out 2) | ((with_reducible refine gate_callee (f := 16) rfl ?_); refine goesL_ (some 43) rfl rfl Try.func16 (by kernel_rfl) rfl #[.agg #[.string (⟨#[]⟩ : ByteArray), .int .i64 2, .string (⟨#[]⟩ : ByteArray)], .agg #[.int .i64 a0, .string (⟨#[]⟩ : ByteArray), .int .i64 0]] rfl (by (try simp only [List.map_toArray, List.map_cons, List.map_nil]); first | done | rfl | (simp only [List.length_drop, List.length_take]; rfl)) ?_; (with_reducible refine (value_Fits.calls (⟨#[]⟩ : ByteArray) 2 (⟨#[]⟩ : ByteArray) a0 (⟨#[]⟩ : ByteArray) 0 t305 _ A83.out).mono ?_); rintro e w125 ⟨rfl, hb⟩; refine ⟨_, rfl, ?_⟩; have n0_ := Aside0.mk (blk_below (g := gb297) (o := .cells #[.int .i64 a0, .string (⟨#[]⟩ : ByteArray), .int .i64 0] 25 (0, 0)) (by (with_reducible repeat (first | refine blk_drewN ?_ _ | refine blk_drew ?_ | refine blk_alloc ?_ _)); exact BK297.out) hb); have n1_ := Aside0.mk (below_step (by repeat (first | (with_reducible first | exact HB.out | apply below_alloc | apply pw_below_drewN | apply below_drew1 | refine below_set ?_ GE297.out) | exact HB.out)) hb); clear BK297; clear HB; have BK297 := n0_; have HB := n1_; clear n0_ n1_; (try clear hb); (try clear hb2); (try clear hk); (try clear hi); have hcz126_0 : w125.cell? ⟨gb297, 0, none⟩ = some (.int .i64 a0) := (blk_cell BK297.out 0).trans rfl; have hcz126_1 : w125.cell? ⟨gb297, 1, none⟩ = some (.string (⟨#[]⟩ : ByteArray)) := (blk_cell BK297.out 1).trans rfl; have hcz126_2 : w125.cell? ⟨gb297, 2, none⟩ = some (.int .i64 0) := (blk_cell BK297.out 2).trans rfl; have hfz126_0 := blk_frozen BK297.out 0; have hfz126_1 := blk_frozen BK297.out 1; have hfz126_2 := blk_frozen BK297.out 2) | (go_at_call 16; (with_reducible refine (value_Fits.calls (⟨#[]⟩ : ByteArray) 3 (⟨#[]⟩ : ByteArray) a0 (⟨#[]⟩ : ByteArray) 0 true _ A119.out).mono ?_); rintro e w127 ⟨rfl, hb⟩; have n0_ := Aside0.mk (blk_below (g := gb297) (o := .cells #[.int .i64 a0, .string (⟨#[]⟩ : ByteArray), .int .i64 0] 25 (0, 0)) (by (with_reducible repeat (first | refine blk_drewN ?_ _ | refine blk_drew ?_ | refine blk_alloc ?_ _)); exact BK297.out) hb); have n1_ := Aside0.mk (below_step (by repeat (first | (with_reducible first | exact HB.out | apply below_alloc | apply pw_below_drewN | apply below_drew1 | refine below_set ?_ GE297.out) | exact HB.out)) hb); clear BK297; clear HB; have BK297 := n0_; have HB := n1_; clear n0_ n1_; (try clear hb); (try clear hb2); (try clear hk); (try clear hi)) | (go_at_call 16; (with_reducible refine (value_Fits.calls (⟨#[]⟩ : ByteArray) 4 (⟨#[]⟩ : ByteArray) 0 a1 0 t309 _ A121.out).mono ?_); rintro e w128 ⟨rfl, hb⟩; have n0_ := Aside0.mk (blk_below (g := gb297) (o := .cells #[.int .i64 a0, .string (⟨#[]⟩ : ByteArray), .int .i64 0] 25 (0, 0)) (by (with_reducible repeat (first | refine blk_drewN ?_ _ | refine blk_drew ?_ | refine blk_alloc ?_ _)); exact BK297.out) hb); have n1_ := Aside0.mk (below_step (by repeat (first | (with_reducible first | exact HB.out | apply below_alloc | apply pw_below_drewN | apply below_drew1 | refine below_set ?_ GE297.out) | exact HB.out)) hb); clear BK297; clear HB; have BK297 := n0_; have HB := n1_; clear n0_ n1_; (try clear hb); (try clear hb2); (try clear hk); (try clear hi)))
                        go_ret
                        exact ⟨by first | rfl | (simp [errW_none, errW_some] <;> rfl) | (simp [*, errW_none, errW_some] <;> rfl), by repeat (first | (with_reducible first | exact HB.out | apply below_alloc | apply pw_below_drewN | apply below_drew1 | refine below_set ?_ GE297.out) | exact HB.out)⟩
                      · replace c120 := Bool.eq_false_iff.mpr c120
                        subst c120
                        have H1 : (some false) = some r := by rw [if_neg (show ¬ (false = true) by decide)] at H; exact H
                        clear H
                        have H := H1
                        clear H1
                        obtain rfl := Option.some.inj H
                        have hcz129_0 : wc.cell? ⟨gb297, 0, none⟩ = some (.int .i64 a0) := (blk_cell BK297.out 0).trans rfl
                        have hcz129_1 : wc.cell? ⟨gb297, 1, none⟩ = some (.string (⟨#[]⟩ : ByteArray)) := (blk_cell BK297.out 1).trans rfl
                        have hcz129_2 : wc.cell? ⟨gb297, 2, none⟩ = some (.int .i64 0) := (blk_cell BK297.out 2).trans rfl
                        have hfz129_0 := blk_frozen BK297.out 0
                        have hfz129_1 := blk_frozen BK297.out 1
                        have hfz129_2 := blk_frozen BK297.out 2
                        go_wp2_with (first | ((with_reducible refine gate_callee (f := 16) rfl ?_); refine goesL_ (some 33) rfl rfl Try.func16 (by kernel_rfl) rfl #[.agg #[.string (⟨#[]⟩ : ByteArray), .int .i64 1, .string (⟨#[]⟩ : ByteArray)], .agg #[.int .i64 a0, .string (⟨#[]⟩ : ByteArray), .int .i64 0]] rfl (by (try simp only [List.map_toArray, List.map_cons, List.map_nil]); first | done | rfl | (simp only [List.length_drop, List.length_take]; rfl)) ?_; (with_reducible refine (value_Fits.calls (⟨#[]⟩ : ByteArray) 1 (⟨#[]⟩ : ByteArray) a0 (⟨#[]⟩ : ByteArray) 0 t299 _ A17.out).mono ?_); rintro e w130 ⟨rfl, hb⟩; refine ⟨_, rfl, ?_⟩; have n0_ := Aside0.mk (blk_below (g := gb297) (o := .cells #[.int .i64 a0, .string (⟨#[]⟩ : ByteArray), .int .i64 0] 25 (0, 0)) (by (with_reducible repeat (first | refine blk_drewN ?_ _ | refine blk_drew ?_ | refine blk_alloc ?_ _)); exact BK297.out) hb); have n1_ := Aside0.mk (below_step (by repeat (first | (with_reducible first | exact HB.out | apply below_alloc | apply pw_below_drewN | apply below_drew1 | refine below_set ?_ GE297.out) | exact HB.out)) hb); clear BK297; clear HB; have BK297 := n0_; have HB := n1_; clear n0_ n1_; (try clear hb); (try clear hb2); (try clear hk); (try clear hi); have hcz131_0 : w130.cell? ⟨gb297, 0, none⟩ = some (.int .i64 a0) := (blk_cell BK297.out 0).trans rfl; have hcz131_1 : w130.cell? ⟨gb297, 1, none⟩ = some (.string (⟨#[]⟩ : ByteArray)) := (blk_cell BK297.out 1).trans rfl; have hcz131_2 : w130.cell? ⟨gb297, 2, none⟩ = some (.int .i64 0) := (blk_cell BK297.out 2).trans rfl; have hfz131_0 := blk_frozen BK297.out 0; have hfz131_1 := blk_frozen BK297.out 1; have hfz131_2 := blk_frozen BK297.out 2) | ((with_reducible refine gate_callee (f := 16) rfl ?_); refine goesL_ (some 43) rfl rfl Try.func16 (by kernel_rfl) rfl #[.agg #[.string (⟨#[]⟩ : ByteArray), .int .i64 2, .string (⟨#[]⟩ : ByteArray)], .agg #[.int .i64 a0, .string (⟨#[]⟩ : ByteArray), .int .i64 0]] rfl (by (try simp only [List.map_toArray, List.map_cons, List.map_nil]); first | done | rfl | (simp only [List.length_drop, List.length_take]; rfl)) ?_; (with_reducible refine (value_Fits.calls (⟨#[]⟩ : ByteArray) 2 (⟨#[]⟩ : ByteArray) a0 (⟨#[]⟩ : ByteArray) 0 t305 _ A83.out).mono ?_); rintro e w132 ⟨rfl, hb⟩; refine ⟨_, rfl, ?_⟩; have n0_ := Aside0.mk (blk_below (g := gb297) (o := .cells #[.int .i64 a0, .string (⟨#[]⟩ : ByteArray), .int .i64 0] 25 (0, 0)) (by (with_reducible repeat (first | refine blk_drewN ?_ _ | refine blk_drew ?_ | refine blk_alloc ?_ _)); exact BK297.out) hb); have n1_ := Aside0.mk (below_step (by repeat (first | (with_reducible first | exact HB.out | apply below_alloc | apply pw_below_drewN | apply below_drew1 | refine below_set ?_ GE297.out) | exact HB.out)) hb); clear BK297; clear HB; have BK297 := n0_; have HB := n1_; clear n0_ n1_; (try clear hb); (try clear hb2); (try clear hk); (try clear hi); have hcz133_0 : w132.cell? ⟨gb297, 0, none⟩ = some (.int .i64 a0) := (blk_cell BK297.out 0).trans rfl; have hcz133_1 : w132.cell? ⟨gb297, 1, none⟩ = some (.string (⟨#[]⟩ : ByteArray)) := (blk_cell BK297.out 1).trans rfl; have hcz133_2 : w132.cell? ⟨gb297, 2, none⟩ = some (.int .i64 0) := (blk_cell BK297.out 2).trans rfl; have hfz133_0 := blk_frozen BK297.out 0; have hfz133_1 := blk_frozen BK297.out 1; have hfz133_2 := blk_frozen BK297.out 2) | (go_at_call 16; (with_reducible refine (value_Fits.calls (⟨#[]⟩ : ByteArray) 3 (⟨#[]⟩ : ByteArray) a0 (⟨#[]⟩ : ByteArray) 0 false _ A119.out).mono ?_); rintro e w134 ⟨rfl, hb⟩; have n0_ := Aside0.mk (blk_below (g := gb297) (o := .cells #[.int .i64 a0, .string (⟨#[]⟩ : ByteArray), .int .i64 0] 25 (0, 0)) (by (with_reducible repeat (first | refine blk_drewN ?_ _ | refine blk_drew ?_ | refine blk_alloc ?_ _)); exact BK297.out) hb); have n1_ := Aside0.mk (below_step (by repeat (first | (with_reducible first | exact HB.out | apply below_alloc | apply pw_below_drewN | apply below_drew1 | refine below_set ?_ GE297.out) | exact HB.out)) hb); clear BK297; clear HB; have BK297 := n0_; have HB := n1_; clear n0_ n1_; (try clear hb); (try clear hb2); (try clear hk); (try clear hi)))
                        go_ret
                        exact ⟨by first | rfl | (simp [errW_none, errW_some] <;> rfl) | (simp [*, errW_none, errW_some] <;> rfl), by repeat (first | (with_reducible first | exact HB.out | apply below_alloc | apply pw_below_drewN | apply below_drew1 | refine below_set ?_ GE297.out) | exact HB.out)⟩
                    · rw [if_neg c118] at H
                      have c118b0 : (t305 == false) = false := by simpa using c118
                      (try (have c118b1 : decide (t305 = false) = false := by simpa using c118))
                      (try (have c118b2 : (t305 == false) = false := by simpa using c118))
                      (try (have c118b3 : ¬ (t305 = false) := by simpa using c118))
                      clear c118
                      obtain rfl := Option.some.inj H
                      have hcz135_0 : wc.cell? ⟨gb297, 0, none⟩ = some (.int .i64 a0) := (blk_cell BK297.out 0).trans rfl
                      have hcz135_1 : wc.cell? ⟨gb297, 1, none⟩ = some (.string (⟨#[]⟩ : ByteArray)) := (blk_cell BK297.out 1).trans rfl
                      have hcz135_2 : wc.cell? ⟨gb297, 2, none⟩ = some (.int .i64 0) := (blk_cell BK297.out 2).trans rfl
                      have hfz135_0 := blk_frozen BK297.out 0
                      have hfz135_1 := blk_frozen BK297.out 1
                      have hfz135_2 := blk_frozen BK297.out 2
                      go_wp2_with (first | ((with_reducible refine gate_callee (f := 16) rfl ?_); refine goesL_ (some 33) rfl rfl Try.func16 (by kernel_rfl) rfl #[.agg #[.string (⟨#[]⟩ : ByteArray), .int .i64 1, .string (⟨#[]⟩ : ByteArray)], .agg #[.int .i64 a0, .string (⟨#[]⟩ : ByteArray), .int .i64 0]] rfl (by (try simp only [List.map_toArray, List.map_cons, List.map_nil]); first | done | rfl | (simp only [List.length_drop, List.length_take]; rfl)) ?_; (with_reducible refine (value_Fits.calls (⟨#[]⟩ : ByteArray) 1 (⟨#[]⟩ : ByteArray) a0 (⟨#[]⟩ : ByteArray) 0 t299 _ A17.out).mono ?_); rintro e w136 ⟨rfl, hb⟩; refine ⟨_, rfl, ?_⟩; have n0_ := Aside0.mk (blk_below (g := gb297) (o := .cells #[.int .i64 a0, .string (⟨#[]⟩ : ByteArray), .int .i64 0] 25 (0, 0)) (by (with_reducible repeat (first | refine blk_drewN ?_ _ | refine blk_drew ?_ | refine blk_alloc ?_ _)); exact BK297.out) hb); have n1_ := Aside0.mk (below_step (by repeat (first | (with_reducible first | exact HB.out | apply below_alloc | apply pw_below_drewN | apply below_drew1 | refine below_set ?_ GE297.out) | exact HB.out)) hb); clear BK297; clear HB; have BK297 := n0_; have HB := n1_; clear n0_ n1_; (try clear hb); (try clear hb2); (try clear hk); (try clear hi); have hcz137_0 : w136.cell? ⟨gb297, 0, none⟩ = some (.int .i64 a0) := (blk_cell BK297.out 0).trans rfl; have hcz137_1 : w136.cell? ⟨gb297, 1, none⟩ = some (.string (⟨#[]⟩ : ByteArray)) := (blk_cell BK297.out 1).trans rfl; have hcz137_2 : w136.cell? ⟨gb297, 2, none⟩ = some (.int .i64 0) := (blk_cell BK297.out 2).trans rfl; have hfz137_0 := blk_frozen BK297.out 0; have hfz137_1 := blk_frozen BK297.out 1; have hfz137_2 := blk_frozen BK297.out 2) | ((with_reducible refine gate_callee (f := 16) rfl ?_); refine goesL_ (some 43) rfl rfl Try.func16 (by kernel_rfl) rfl #[.agg #[.string (⟨#[]⟩ : ByteArray), .int .i64 2, .string (⟨#[]⟩ : ByteArray)], .agg #[.int .i64 a0, .string (⟨#[]⟩ : ByteArray), .int .i64 0]] rfl (by (try simp only [List.map_toArray, List.map_cons, List.map_nil]); first | done | rfl | (simp only [List.length_drop, List.length_take]; rfl)) ?_; (with_reducible refine (value_Fits.calls (⟨#[]⟩ : ByteArray) 2 (⟨#[]⟩ : ByteArray) a0 (⟨#[]⟩ : ByteArray) 0 t305 _ A83.out).mono ?_); rintro e w138 ⟨rfl, hb⟩; refine ⟨_, rfl, ?_⟩; have n0_ := Aside0.mk (blk_below (g := gb297) (o := .cells #[.int .i64 a0, .string (⟨#[]⟩ : ByteArray), .int .i64 0] 25 (0, 0)) (by (with_reducible repeat (first | refine blk_drewN ?_ _ | refine blk_drew ?_ | refine blk_alloc ?_ _)); exact BK297.out) hb); have n1_ := Aside0.mk (below_step (by repeat (first | (with_reducible first | exact HB.out | apply below_alloc | apply pw_below_drewN | apply below_drew1 | refine below_set ?_ GE297.out) | exact HB.out)) hb); clear BK297; clear HB; have BK297 := n0_; have HB := n1_; clear n0_ n1_; (try clear hb); (try clear hb2); (try clear hk); (try clear hi)))
                      go_ret
                      exact ⟨by first | rfl | (simp [errW_none, errW_some] <;> rfl) | (simp [*, errW_none, errW_some] <;> rfl), by repeat (first | (with_reducible first | exact HB.out | apply below_alloc | apply pw_below_drewN | apply below_drew1 | refine below_set ?_ GE297.out) | exact HB.out)⟩
                  · rw [if_neg c117] at H
                    have c117b0 : (t299 == false) = false := by simpa using c117
                    (try (have c117b1 : decide (t299 = false) = false := by simpa using c117))
                    (try (have c117b2 : (t299 == false) = false := by simpa using c117))
                    (try (have c117b3 : ¬ (t299 = false) := by simpa using c117))
                    clear c117
                    obtain rfl := Option.some.inj H
                    have hcz139_0 : wc.cell? ⟨gb297, 0, none⟩ = some (.int .i64 a0) := (blk_cell BK297.out 0).trans rfl
                    have hcz139_1 : wc.cell? ⟨gb297, 1, none⟩ = some (.string (⟨#[]⟩ : ByteArray)) := (blk_cell BK297.out 1).trans rfl
                    have hcz139_2 : wc.cell? ⟨gb297, 2, none⟩ = some (.int .i64 0) := (blk_cell BK297.out 2).trans rfl
                    have hfz139_0 := blk_frozen BK297.out 0
                    have hfz139_1 := blk_frozen BK297.out 1
                    have hfz139_2 := blk_frozen BK297.out 2
                    go_wp2_with (first | ((with_reducible refine gate_callee (f := 16) rfl ?_); refine goesL_ (some 33) rfl rfl Try.func16 (by kernel_rfl) rfl #[.agg #[.string (⟨#[]⟩ : ByteArray), .int .i64 1, .string (⟨#[]⟩ : ByteArray)], .agg #[.int .i64 a0, .string (⟨#[]⟩ : ByteArray), .int .i64 0]] rfl (by (try simp only [List.map_toArray, List.map_cons, List.map_nil]); first | done | rfl | (simp only [List.length_drop, List.length_take]; rfl)) ?_; (with_reducible refine (value_Fits.calls (⟨#[]⟩ : ByteArray) 1 (⟨#[]⟩ : ByteArray) a0 (⟨#[]⟩ : ByteArray) 0 t299 _ A17.out).mono ?_); rintro e w140 ⟨rfl, hb⟩; refine ⟨_, rfl, ?_⟩; have n0_ := Aside0.mk (blk_below (g := gb297) (o := .cells #[.int .i64 a0, .string (⟨#[]⟩ : ByteArray), .int .i64 0] 25 (0, 0)) (by (with_reducible repeat (first | refine blk_drewN ?_ _ | refine blk_drew ?_ | refine blk_alloc ?_ _)); exact BK297.out) hb); have n1_ := Aside0.mk (below_step (by repeat (first | (with_reducible first | exact HB.out | apply below_alloc | apply pw_below_drewN | apply below_drew1 | refine below_set ?_ GE297.out) | exact HB.out)) hb); clear BK297; clear HB; have BK297 := n0_; have HB := n1_; clear n0_ n1_; (try clear hb); (try clear hb2); (try clear hk); (try clear hi); have hcz141_0 : w140.cell? ⟨gb297, 0, none⟩ = some (.int .i64 a0) := (blk_cell BK297.out 0).trans rfl; have hcz141_1 : w140.cell? ⟨gb297, 1, none⟩ = some (.string (⟨#[]⟩ : ByteArray)) := (blk_cell BK297.out 1).trans rfl; have hcz141_2 : w140.cell? ⟨gb297, 2, none⟩ = some (.int .i64 0) := (blk_cell BK297.out 2).trans rfl; have hfz141_0 := blk_frozen BK297.out 0; have hfz141_1 := blk_frozen BK297.out 1; have hfz141_2 := blk_frozen BK297.out 2) | ((with_reducible refine gate_callee (f := 16) rfl ?_); refine goesL_ (some 43) rfl rfl Try.func16 (by kernel_rfl) rfl #[.agg #[.string (⟨#[]⟩ : ByteArray), .int .i64 2, .string (⟨#[]⟩ : ByteArray)], .agg #[.int .i64 a0, .string (⟨#[]⟩ : ByteArray), .int .i64 0]] rfl (by (try simp only [List.map_toArray, List.map_cons, List.map_nil]); first | done | rfl | (simp only [List.length_drop, List.length_take]; rfl)) ?_; (with_reducible refine (value_Fits.calls (⟨#[]⟩ : ByteArray) 2 (⟨#[]⟩ : ByteArray) a0 (⟨#[]⟩ : ByteArray) 0 t305 _ A83.out).mono ?_); rintro e w142 ⟨rfl, hb⟩; refine ⟨_, rfl, ?_⟩; have n0_ := Aside0.mk (blk_below (g := gb297) (o := .cells #[.int .i64 a0, .string (⟨#[]⟩ : ByteArray), .int .i64 0] 25 (0, 0)) (by (with_reducible repeat (first | refine blk_drewN ?_ _ | refine blk_drew ?_ | refine blk_alloc ?_ _)); exact BK297.out) hb); have n1_ := Aside0.mk (below_step (by repeat (first | (with_reducible first | exact HB.out | apply below_alloc | apply pw_below_drewN | apply below_drew1 | refine below_set ?_ GE297.out) | exact HB.out)) hb); clear BK297; clear HB; have BK297 := n0_; have HB := n1_; clear n0_ n1_; (try clear hb); (try clear hb2); (try clear hk); (try clear hi)))
                    go_ret
                    exact ⟨by first | rfl | (simp [errW_none, errW_some] <;> rfl) | (simp [*, errW_none, errW_some] <;> rfl), by repeat (first | (with_reducible first | exact HB.out | apply below_alloc | apply pw_below_drewN | apply below_drew1 | refine below_set ?_ GE297.out) | exact HB.out)⟩
                · replace c116 := Bool.eq_false_iff.mpr c116
                  subst c116
                  have H1 : (some false) = some r := by rw [if_neg (show ¬ (false = true) by decide)] at H; exact H
                  clear H
                  have H := H1
                  clear H1
                  obtain rfl := Option.some.inj H
                  have hcz143_0 : wc.cell? ⟨gb297, 0, none⟩ = some (.int .i64 a0) := (blk_cell BK297.out 0).trans rfl
                  have hcz143_1 : wc.cell? ⟨gb297, 1, none⟩ = some (.string (⟨#[]⟩ : ByteArray)) := (blk_cell BK297.out 1).trans rfl
                  have hcz143_2 : wc.cell? ⟨gb297, 2, none⟩ = some (.int .i64 0) := (blk_cell BK297.out 2).trans rfl
                  have hfz143_0 := blk_frozen BK297.out 0
                  have hfz143_1 := blk_frozen BK297.out 1
                  have hfz143_2 := blk_frozen BK297.out 2
                  go_wp2_with (first | ((with_reducible refine gate_callee (f := 16) rfl ?_); refine goesL_ (some 33) rfl rfl Try.func16 (by kernel_rfl) rfl #[.agg #[.string (⟨#[]⟩ : ByteArray), .int .i64 1, .string (⟨#[]⟩ : ByteArray)], .agg #[.int .i64 a0, .string (⟨#[]⟩ : ByteArray), .int .i64 0]] rfl (by (try simp only [List.map_toArray, List.map_cons, List.map_nil]); first | done | rfl | (simp only [List.length_drop, List.length_take]; rfl)) ?_; (with_reducible refine (value_Fits.calls (⟨#[]⟩ : ByteArray) 1 (⟨#[]⟩ : ByteArray) a0 (⟨#[]⟩ : ByteArray) 0 t299 _ A17.out).mono ?_); rintro e w144 ⟨rfl, hb⟩; refine ⟨_, rfl, ?_⟩; have n0_ := Aside0.mk (blk_below (g := gb297) (o := .cells #[.int .i64 a0, .string (⟨#[]⟩ : ByteArray), .int .i64 0] 25 (0, 0)) (by (with_reducible repeat (first | refine blk_drewN ?_ _ | refine blk_drew ?_ | refine blk_alloc ?_ _)); exact BK297.out) hb); have n1_ := Aside0.mk (below_step (by repeat (first | (with_reducible first | exact HB.out | apply below_alloc | apply pw_below_drewN | apply below_drew1 | refine below_set ?_ GE297.out) | exact HB.out)) hb); clear BK297; clear HB; have BK297 := n0_; have HB := n1_; clear n0_ n1_; (try clear hb); (try clear hb2); (try clear hk); (try clear hi); have hcz145_0 : w144.cell? ⟨gb297, 0, none⟩ = some (.int .i64 a0) := (blk_cell BK297.out 0).trans rfl; have hcz145_1 : w144.cell? ⟨gb297, 1, none⟩ = some (.string (⟨#[]⟩ : ByteArray)) := (blk_cell BK297.out 1).trans rfl; have hcz145_2 : w144.cell? ⟨gb297, 2, none⟩ = some (.int .i64 0) := (blk_cell BK297.out 2).trans rfl; have hfz145_0 := blk_frozen BK297.out 0; have hfz145_1 := blk_frozen BK297.out 1; have hfz145_2 := blk_frozen BK297.out 2) | ((with_reducible refine gate_callee (f := 16) rfl ?_); refine goesL_ (some 43) rfl rfl Try.func16 (by kernel_rfl) rfl #[.agg #[.string (⟨#[]⟩ : ByteArray), .int .i64 2, .string (⟨#[]⟩ : ByteArray)], .agg #[.int .i64 a0, .string (⟨#[]⟩ : ByteArray), .int .i64 0]] rfl (by (try simp only [List.map_toArray, List.map_cons, List.map_nil]); first | done | rfl | (simp only [List.length_drop, List.length_take]; rfl)) ?_; (with_reducible refine (value_Fits.calls (⟨#[]⟩ : ByteArray) 2 (⟨#[]⟩ : ByteArray) a0 (⟨#[]⟩ : ByteArray) 0 t305 _ A83.out).mono ?_); rintro e w146 ⟨rfl, hb⟩; refine ⟨_, rfl, ?_⟩; have n0_ := Aside0.mk (blk_below (g := gb297) (o := .cells #[.int .i64 a0, .string (⟨#[]⟩ : ByteArray), .int .i64 0] 25 (0, 0)) (by (with_reducible repeat (first | refine blk_drewN ?_ _ | refine blk_drew ?_ | refine blk_alloc ?_ _)); exact BK297.out) hb); have n1_ := Aside0.mk (below_step (by repeat (first | (with_reducible first | exact HB.out | apply below_alloc | apply pw_below_drewN | apply below_drew1 | refine below_set ?_ GE297.out) | exact HB.out)) hb); clear BK297; clear HB; have BK297 := n0_; have HB := n1_; clear n0_ n1_; (try clear hb); (try clear hb2); (try clear hk); (try clear hi)))
                  go_ret
                  exact ⟨by first | rfl | (simp [errW_none, errW_some] <;> rfl) | (simp [*, errW_none, errW_some] <;> rfl), by repeat (first | (with_reducible first | exact HB.out | apply below_alloc | apply pw_below_drewN | apply below_drew1 | refine below_set ?_ GE297.out) | exact HB.out)⟩

/-- THE ONE PURE STATEMENT of foliatelaw07_ValueEnds: yours. -/
def foliatelaw07_ValueEnds.Pure : Prop := ∀ (a0 : Int) (a1 : ByteArray), (Lit.int .i64 a0).wf = true → a1.size ≤ 140737488351232 → ∃ k, foliatelaw07_ValueEnds.f k a0 a1 = some true
theorem foliatelaw07_ValueEnds.walk (P : foliatelaw07_ValueEnds.Pure) (a0 : Int) (a1 : ByteArray) (w : World) (w0 : (Lit.int .i64 a0).wf = true) (w1 : a1.size ≤ 140737488351232) :
    Calls Try.prog 9 #[.int .i64 a0, .string a1] w fun e w' => e = .returned (.bool true) ∧ Below w.heap.size w w' := by
  obtain ⟨k, h⟩ := P a0 a1 w0 w1
  refine (foliatelaw07_ValueEnds.calls k a0 a1 true w h).mono ?_
  rintro e w' ⟨rfl, hd⟩
  exact ⟨rfl, hd⟩

end Go.Proofs.Ytepgcejgjfeolaa.PAll
