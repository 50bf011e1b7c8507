-- Written by wip/tools/myprint.py, a program of the prover's own, over the kit's print; the contracts named 'HAND' there are typed by hand.
import Derived.Test.YtlcanmndeempfaaPMox0
import Derived.Test.YtlcanmndeempfaaPMox2
namespace Go.Proofs.Ytlcanmndeempfaa.PMo
open Go.RowKit Go.Proofs.YtlcanmndeempfaaW.PrintWords Go.Proofs.YtlcanmndeempfaaW.PrintLast Go.Proofs.YtlcanmndeempfaaW.PrintMore
attribute [local go_sem] max2_int min2_int max_two min_two max_three min_three max_four min_four   -- for this text's walks alone
set_option linter.unusedVariables false
set_option linter.unusedSimpArgs false

/-! ### schema_May: function 17 -/
mutual
def schema_May.j0 : Nat → Bool → List (S34) → Option (Bool)
  | 0, _, _ => none
  | k + 1, x16, x108000 => if x16 = true then (some false) else (schema_May.l0 k x108000 (x108000.length : Int) 0 x108000)
def schema_May.l0 : Nat → List (S34) → Int → Int → List (S34) → Option (Bool)
  | 0, _, _, _, _ => none
  | k + 1, x18, x19, x20, x108000 => if x20 < x19 then (if 0 ≤ x20 then (if x20 < (x18.length : Int) then ((name_May.f ((rd_T34 x18 x20).f0)).bind fun t110 => (if t110 = true then ((schema_Find.f x108000 ((rd_T34 x18 x20).f0)).bind fun t111 => (if t111 = x20 then (schema_May.j2 k x18 x19 x20 (decide ((((rd_T34 x18 x20).f1).length : Int) > 5)) x108000 ((rd_T34 x18 x20).f0) ((rd_T34 x18 x20).f1)) else (schema_May.j2 k x18 x19 x20 true x108000 ((rd_T34 x18 x20).f0) ((rd_T34 x18 x20).f1)))) else (schema_May.j2 k x18 x19 x20 true x108000 ((rd_T34 x18 x20).f0) ((rd_T34 x18 x20).f1)))) else (none)) else (none)) else (some true)
def schema_May.j2 : Nat → List (S34) → Int → Int → Bool → List (S34) → ByteArray → List (S40) → Option (Bool)
  | 0, _, _, _, _, _, _, _ => none
  | k + 1, x18, x19, x20, x42, x108000, x110000, x110001 => if x42 = true then (some false) else (schema_May.l1 k x18 x19 x20 x110001 (x110001.length : Int) 0 x108000 x110000 x110001)
def schema_May.l1 : Nat → List (S34) → Int → Int → List (S40) → Int → Int → List (S34) → ByteArray → List (S40) → Option (Bool)
  | 0, _, _, _, _, _, _, _, _, _ => none
  | k + 1, x18, x19, x20, x44, x45, x46, x108000, x110000, x110001 => if x46 < x45 then (if 0 ≤ x46 then (if x46 < (x44.length : Int) then ((schema_field.f x108000 ((rd_T40 x44 x46).f0) ((rd_T40 x44 x46).f1) ((rd_T40 x44 x46).f2)).bind fun t114 => (if t114 = true then ((schema_Field.f x110000 x110001 ((rd_T40 x44 x46).f0)).bind fun t115 => (if t115 = x46 then (schema_May.l1 k x18 x19 x20 x44 x45 (wrap64 (x46 + 1)) x108000 x110000 x110001) else (some false))) else (some false))) else (none)) else (none)) else (schema_May.l0 k x18 x19 (wrap64 (x20 + 1)) x108000)
end
def schema_May.f (k : Nat) (l0_0 : List (S34)) : Option (Bool) := if (l0_0.length : Int) = 0 then (schema_May.j0 k true l0_0) else (schema_May.j0 k (decide ((l0_0.length : Int) > 4)) l0_0)
theorem schema_May.mono_l : ∀ k, (∀ y0 y1, LeO (schema_May.j0 k y0 y1) (schema_May.j0 (k + 1) y0 y1)) ∧ (∀ y0 y1 y2 y3, LeO (schema_May.l0 k y0 y1 y2 y3) (schema_May.l0 (k + 1) y0 y1 y2 y3)) ∧ (∀ y0 y1 y2 y3 y4 y5 y6, LeO (schema_May.j2 k y0 y1 y2 y3 y4 y5 y6) (schema_May.j2 (k + 1) y0 y1 y2 y3 y4 y5 y6)) ∧ (∀ y0 y1 y2 y3 y4 y5 y6 y7 y8, LeO (schema_May.l1 k y0 y1 y2 y3 y4 y5 y6 y7 y8) (schema_May.l1 (k + 1) y0 y1 y2 y3 y4 y5 y6 y7 y8))
  | 0 => ⟨fun _ _ r h => by simp [schema_May.j0] at h, fun _ _ _ _ r h => by simp [schema_May.l0] at h, fun _ _ _ _ _ _ _ r h => by simp [schema_May.j2] at h, fun _ _ _ _ _ _ _ _ _ r h => by simp [schema_May.l1] at h⟩
  | k + 1 => by
    obtain ⟨ih0, ih1, ih2, ih3⟩ := schema_May.mono_l k
    refine ⟨?_, ?_, ?_, ?_⟩
    · intro y0 y1
      unfold schema_May.j0
      repeat' first
      | (with_reducible exact ih0 _ _)
      | (with_reducible exact ih1 _ _ _ _)
      | (with_reducible exact ih2 _ _ _ _ _ _ _)
      | (with_reducible exact ih3 _ _ _ _ _ _ _ _ _)
      | (with_reducible exact LeO.refl _)
      | (with_reducible exact LeO.none _)
      | (with_reducible refine LeO.ite ?_ ?_)
      | (with_reducible refine LeO.bind ?_ (fun _ => ?_))
      | exact ih0 _ _
      | exact ih1 _ _ _ _
      | exact ih2 _ _ _ _ _ _ _
      | exact ih3 _ _ _ _ _ _ _ _ _
      | exact LeO.none _
      | refine LeO.ite ?_ ?_
      | refine LeO.bind ?_ (fun _ => ?_)
    · intro y0 y1 y2 y3
      unfold schema_May.l0
      repeat' first
      | (with_reducible exact ih0 _ _)
      | (with_reducible exact ih1 _ _ _ _)
      | (with_reducible exact ih2 _ _ _ _ _ _ _)
      | (with_reducible exact ih3 _ _ _ _ _ _ _ _ _)
      | (with_reducible exact LeO.refl _)
      | (with_reducible exact LeO.none _)
      | (with_reducible refine LeO.ite ?_ ?_)
      | (with_reducible refine LeO.bind ?_ (fun _ => ?_))
      | exact ih0 _ _
      | exact ih1 _ _ _ _
      | exact ih2 _ _ _ _ _ _ _
      | exact ih3 _ _ _ _ _ _ _ _ _
      | exact LeO.none _
      | refine LeO.ite ?_ ?_
      | refine LeO.bind ?_ (fun _ => ?_)
    · intro y0 y1 y2 y3 y4 y5 y6
      unfold schema_May.j2
      repeat' first
      | (with_reducible exact ih0 _ _)
      | (with_reducible exact ih1 _ _ _ _)
      | (with_reducible exact ih2 _ _ _ _ _ _ _)
      | (with_reducible exact ih3 _ _ _ _ _ _ _ _ _)
      | (with_reducible exact LeO.refl _)
      | (with_reducible exact LeO.none _)
      | (with_reducible refine LeO.ite ?_ ?_)
      | (with_reducible refine LeO.bind ?_ (fun _ => ?_))
      | exact ih0 _ _
      | exact ih1 _ _ _ _
      | exact ih2 _ _ _ _ _ _ _
      | exact ih3 _ _ _ _ _ _ _ _ _
      | exact LeO.none _
      | refine LeO.ite ?_ ?_
      | refine LeO.bind ?_ (fun _ => ?_)
    · intro y0 y1 y2 y3 y4 y5 y6 y7 y8
      unfold schema_May.l1
      repeat' first
      | (with_reducible exact ih0 _ _)
      | (with_reducible exact ih1 _ _ _ _)
      | (with_reducible exact ih2 _ _ _ _ _ _ _)
      | (with_reducible exact ih3 _ _ _ _ _ _ _ _ _)
      | (with_reducible exact LeO.refl _)
      | (with_reducible exact LeO.none _)
      | (with_reducible refine LeO.ite ?_ ?_)
      | (with_reducible refine LeO.bind ?_ (fun _ => ?_))
      | exact ih0 _ _
      | exact ih1 _ _ _ _
      | exact ih2 _ _ _ _ _ _ _
      | exact ih3 _ _ _ _ _ _ _ _ _
      | exact LeO.none _
      | refine LeO.ite ?_ ?_
      | refine LeO.bind ?_ (fun _ => ?_)
theorem schema_May.mono : ∀ a0 k, LeO (schema_May.f k a0) (schema_May.f (k + 1) a0) := by
  intro a0 k
  obtain ⟨ih0, ih1, ih2, ih3⟩ := schema_May.mono_l k
  unfold schema_May.f
  repeat' first
      | (with_reducible exact ih0 _ _)
      | (with_reducible exact ih1 _ _ _ _)
      | (with_reducible exact ih2 _ _ _ _ _ _ _)
      | (with_reducible exact ih3 _ _ _ _ _ _ _ _ _)
      | (with_reducible exact LeO.refl _)
      | (with_reducible exact LeO.none _)
      | (with_reducible refine LeO.ite ?_ ?_)
      | (with_reducible refine LeO.bind ?_ (fun _ => ?_))
      | exact ih0 _ _
      | exact ih1 _ _ _ _
      | exact ih2 _ _ _ _ _ _ _
      | exact ih3 _ _ _ _ _ _ _ _ _
      | exact LeO.none _
      | refine LeO.ite ?_ ?_
      | refine LeO.bind ?_ (fun _ => ?_)
set_option maxHeartbeats 8000000 in
set_option maxRecDepth 100000 in
theorem schema_May.calls (k : Nat) (A0_0 : Option Addr) (c0_0 : Nat) (l0_0 : List (S34)) (r : Bool) (w : World) (hr0_0 : Kd.C k34 w A0_0 l0_0.length l0_0) (hc0_0 : l0_0.length ≤ c0_0) (h : schema_May.f k l0_0 = some r) :
    Calls Try.prog 17 #[.agg #[.slice A0_0 l0_0.length c0_0]] w fun e w' => e = .returned (.bool r) ∧ Below w.heap.size w w' := by
  have hu24 := Try.underlying24
  have hu34 := Try.underlying34
  have hu40 := Try.underlying40
  have HR0_0 := Aside0.mk hr0_0
  have HC0_0 := Aside0.mk hc0_0
  clear hr0_0 hc0_0
  have HB := Aside0.mk (Below.refl w.heap.size w)
  have H : (if (l0_0.length : Int) = 0 then (schema_May.j0 k true l0_0) else (schema_May.j0 k (decide ((l0_0.length : Int) > 4)) l0_0)) = some r := h
  clear h
  have HC2 := Aside0.mk H
  clear H
  go_enter Try.func17, Try.ntmps17
  go_upto_region 1 with (first | ((with_reducible refine gate_dst (N := 1) rfl ?_); (try (refine gate_guard (by rfl) ?_; dsimp only)); refine box_event ?hg (N := 1) ?hd (cs := #[.slice A0_0 l0_0.length c0_0]) (t := 24) ?hr ?_; (case hd => rfl); (case hg => rfl); (case hr => first | (go_simp; done) | (go_simp; rfl)); intro gb107 hg w3 hbox hb; have n0_ := Aside0.mk (below_step (by repeat (first | (with_reducible first | exact HB.out | apply below_alloc | apply pw_below_drewN | apply below_drew1) | exact HB.out)) hb); have n1_ := Aside0.mk (hbox); have n2_ := Aside0.mk ((by rw [hg]; exact (below_size (by repeat (first | (with_reducible first | exact HB.out | apply below_alloc | apply pw_below_drewN | apply below_drew1) | exact HB.out))) : w.heap.size ≤ gb107)); have n3_ := Aside0.mk ((by rw [hg]; exact (below_size (by repeat (first | (with_reducible first | exact HB.out | apply below_alloc | apply pw_below_drewN | apply below_drew1) | exact HB.out))) : w.heap.size ≤ gb107)); clear HB; have HB := n0_; have BK107 := n1_; have GW107 := n2_; have GE107 := n3_; clear n0_ n1_ n2_ n3_; clear hb hbox hg))
  (try simp only [Act.put, List.setIfInBounds_toArray, List.set_cons_zero, List.set_cons_succ])
  go_cut [16] (fun v16 wc => ∃ (kq : Nat) (x16_1 : Bool), v16 = .bool x16_1 ∧ Aside0 (schema_May.j0 kq x16_1 l0_0 = some r) ∧ Aside0 (kq ≤ k) ∧ Aside0 (wc.heap[gb107]? = some (.cells #[(.slice A0_0 l0_0.length c0_0)] 24 (0, 0))) ∧ Aside0 (Below w.heap.size w wc))
  case first =>
    have H := HC2.out
    clear HC2
    by_cases c4 : (l0_0.length : Int) = 0
    · rw [if_pos c4] at H
      have c4b0 : ((l0_0.length : Int) == 0) = true := beq_iff_eq.mpr c4
      have c4b1 : ((l0_0.length : Int) != 0) = false := bne_eq_false_iff_eq.mpr c4
      clear c4
      (first | rw [c4b0] | (simp only [i64_w, i32_w]; rw [c4b0]) | skip)
      have H' := Aside0.mk H
      clear H
      have hcz5_0 : w3.cell? ⟨gb107, 0, none⟩ = some (.slice A0_0 l0_0.length c0_0) := (blk_cell BK107.out 0).trans rfl
      have hfz5_0 := blk_frozen BK107.out 0
      go_wp2
      go_meet
      case rel => exact ⟨_, (true), (by first | rfl | (simp; done) | (simp [*]; done)), H', ⟨by first | omega | exact Nat.le_refl _⟩, ⟨by (with_reducible repeat (first | refine blk_drewN ?_ _ | refine blk_drew ?_ | refine blk_alloc ?_ _)); exact BK107.out⟩, ⟨by repeat (first | (with_reducible first | exact HB.out | apply below_alloc | apply pw_below_drewN | apply below_drew1 | refine below_set ?_ GE107.out) | exact HB.out)⟩⟩
    · rw [if_neg c4] at H
      have c4b0 : ((l0_0.length : Int) == 0) = false := beq_eq_false_iff_ne.mpr c4
      have c4b1 : ((l0_0.length : Int) != 0) = true := bne_iff_ne.mpr c4
      have c4b2 : ¬ (l0_0 = []) := fun h_ => c4 (by rw [h_]; rfl)
      (first | rw [c4b0] | (simp only [i64_w, i32_w]; rw [c4b0]) | skip)
      have H' := Aside0.mk H
      clear H
      have hcz6_0 : w3.cell? ⟨gb107, 0, none⟩ = some (.slice A0_0 l0_0.length c0_0) := (blk_cell BK107.out 0).trans rfl
      have hfz6_0 := blk_frozen BK107.out 0
      go_wp2
      go_meet
      case rel => exact ⟨_, (decide ((l0_0.length : Int) > 4)), (by first | rfl | (simp; done) | (simp [*]; done)), H', ⟨by first | omega | exact Nat.le_refl _⟩, ⟨by (with_reducible repeat (first | refine blk_drewN ?_ _ | refine blk_drew ?_ | refine blk_alloc ?_ _)); exact BK107.out⟩, ⟨by repeat (first | (with_reducible first | exact HB.out | apply below_alloc | apply pw_below_drewN | apply below_drew1 | refine below_set ?_ GE107.out) | exact HB.out)⟩⟩
  case rest =>
    clear HC2
    try clear c1
    try clear p2
    try clear c4
    try clear c4b0
    try clear c4b1
    try clear c4b2
    try clear hcz5_0
    try clear hcz6_0
    try clear hfz5_0
    try clear hfz6_0
    obtain ⟨kq, x16_1, rfl, HA, HJ1, BK107, HB⟩ := hcut
    cases kq with
    | zero => exact absurd HA.out (by simp [schema_May.j0])
    | succ kj1 =>
      have H := HA.out
      clear HA
      simp only [schema_May.j0] at H
      by_cases c7 : x16_1 = true
      · subst c7
        have H1 : (some false) = some r := by rw [if_pos rfl] at H; exact H
        clear H
        have H := H1
        clear H1
        obtain rfl := Option.some.inj H
        go_wp2
        go_ret
        exact ⟨by first | rfl | (simp [errW_none, errW_some] <;> rfl) | (simp [*, errW_none, errW_some] <;> rfl), by repeat (first | (with_reducible first | exact HB.out | apply below_alloc | apply pw_below_drewN | apply below_drew1 | refine below_set ?_ GE107.out) | exact HB.out)⟩
      · replace c7 := Bool.eq_false_iff.mpr c7
        subst c7
        have H1 : (schema_May.l0 kj1 l0_0 (l0_0.length : Int) 0 l0_0) = some r := by rw [if_neg (show ¬ (false = true) by decide)] at H; exact H
        clear H
        have H := H1
        clear H1
        have H' := Aside0.mk H
        clear H
        have hcz8_0 : wc.cell? ⟨gb107, 0, none⟩ = some (.slice A0_0 l0_0.length c0_0) := (blk_cell BK107.out 0).trans rfl
        have hfz8_0 := blk_frozen BK107.out 0
        go_wp2
        go_loopg [20] kj1 (fun kq v20 w' => ∃ (x20_2 : Int), v20 = .int .i64 x20_2 ∧ Aside0 (schema_May.l0 kq l0_0 (l0_0.length : Int) x20_2 l0_0 = some r) ∧ Aside0 (kq ≤ kj1) ∧ Aside0 (w'.heap[gb107]? = some (.cells #[(.slice A0_0 l0_0.length c0_0)] 24 (0, 0))) ∧ Aside0 (Below w.heap.size w w'))
        case atStart => exact ⟨(0), (by first | rfl | (simp; done) | (simp [*]; done)), H', ⟨Nat.le_refl _⟩, ⟨by (with_reducible repeat (first | refine blk_drewN ?_ _ | refine blk_drew ?_ | refine blk_alloc ?_ _)); exact BK107.out⟩, ⟨by repeat (first | (with_reducible first | exact HB.out | apply below_alloc | apply pw_below_drewN | apply below_drew1 | refine below_set ?_ GE107.out) | exact HB.out)⟩⟩
        case round =>
          clear H'
          try clear c1
          try clear p2
          try clear c4
          try clear c4b0
          try clear c4b1
          try clear c4b2
          try clear c7
          try clear hcz5_0
          try clear hcz6_0
          try clear hcz8_0
          try clear hfz5_0
          try clear hfz6_0
          try clear hfz8_0
          try clear p2
          obtain ⟨x20_2, rfl, HA, HK2, BK107, HB⟩ := hrel
          cases gk with
          | zero => exact absurd HA.out (by simp [schema_May.l0])
          | succ k2 =>
            have H := HA.out
            clear HA
            simp only [schema_May.l0] at H
            by_cases c9 : x20_2 < (l0_0.length : Int)
            · rw [if_pos c9] at H
              have c9b0 : decide (x20_2 < (l0_0.length : Int)) = true := decide_eq_true c9
              clear c9
              by_cases c10 : 0 ≤ x20_2
              · rw [if_pos c10] at H
                have c10b0 : decide (0 ≤ x20_2) = true := decide_eq_true c10
                clear c10
                by_cases c11 : x20_2 < (l0_0.length : Int)
                · rw [if_pos c11] at H
                  have c11b0 : decide (x20_2 < (l0_0.length : Int)) = true := decide_eq_true c11
                  clear c11
                  have HC12 := Aside0.mk H
                  clear H
                  have p108 : 0 ≤ (x20_2 : Int) := of_decide_eq_true (by first | (with_reducible assumption) | assumption)
                  have q108 : x20_2 < (l0_0.length : Int) := of_decide_eq_true (by first | (with_reducible assumption) | assumption)
                  obtain ⟨ad108, A108_1, c108_1, e108, hx108_0, hx108_1, hl108_1, hi108_1⟩ := at_T34 HR0_0.out x20_2 p108 q108
                  cases e108
                  replace hx108_0 := (HB.out.cell (World.block_lt_of_cell? w _ hx108_0)).trans hx108_0
                  replace hx108_1 := (HB.out.cell (World.block_lt_of_cell? w _ hx108_1)).trans hx108_1
                  have HR108_1 := Aside0.mk hi108_1
                  have HC108_1 := Aside0.mk hl108_1
                  clear hi108_1 hl108_1
                  replace p108 := eq_true p108
                  replace q108 := eq_true q108
                  go_upto_region 6 with (first | ((with_reducible refine gate_dst (N := 4) rfl ?_); (try (refine gate_guard (by rfl) ?_; dsimp only)); refine box_event ?hg (N := 4) ?hd (cs := #[.string (⟨#[]⟩ : ByteArray), .slice none 0 0]) (t := 34) ?hr ?_; (case hd => rfl); (case hg => rfl); (case hr => first | (go_simp; done) | (go_simp; rfl)); intro gb109 hg w13 hbox hb; have n0_ := Aside0.mk (blk_below (g := gb107) (o := .cells #[.slice (some ad108) l0_0.length c0_0] 24 (0, 0)) (by (with_reducible repeat (first | refine blk_drewN ?_ _ | refine blk_drew ?_ | refine blk_alloc ?_ _)); exact BK107.out) hb); have n1_ := Aside0.mk (below_step (by repeat (first | (with_reducible first | exact HB.out | apply below_alloc | apply pw_below_drewN | apply below_drew1 | refine below_set ?_ GE107.out) | exact HB.out)) hb); have n2_ := Aside0.mk (hbox); have n3_ := Aside0.mk ((by rw [hg]; exact (below_size (by repeat (first | (with_reducible first | exact HB.out | apply below_alloc | apply pw_below_drewN | apply below_drew1 | refine below_set ?_ GE107.out) | exact HB.out))) : w.heap.size ≤ gb109)); have n4_ := Aside0.mk ((by rw [hg]; exact (below_size (by repeat (first | (with_reducible first | exact HB.out | apply below_alloc | apply pw_below_drewN | apply below_drew1 | refine below_set ?_ GE107.out) | exact HB.out))) : w.heap.size ≤ gb109)); have n5_ := Aside0.mk ((by rw [hg]; exact Nat.ne_of_lt (blk_lt (g := gb107) (o := .cells #[.slice (some ad108) l0_0.length c0_0] 24 (0, 0)) (by (with_reducible repeat (first | refine blk_drewN ?_ _ | refine blk_drew ?_ | refine blk_alloc ?_ _)); exact BK107.out)) : gb107 ≠ gb109)); have n6_ := Aside0.mk ((by rw [hg]; exact Nat.ne_of_gt (blk_lt (g := gb107) (o := .cells #[.slice (some ad108) l0_0.length c0_0] 24 (0, 0)) (by (with_reducible repeat (first | refine blk_drewN ?_ _ | refine blk_drew ?_ | refine blk_alloc ?_ _)); exact BK107.out)) : gb109 ≠ gb107)); clear BK107; clear HB; have BK107 := n0_; have HB := n1_; have BK109 := n2_; have GW109 := n3_; have GE109 := n4_; have NB107_109 := n5_; have NB109_107 := n6_; clear n0_ n1_ n2_ n3_ n4_ n5_ n6_; clear hb hbox hg; have hnb14 := NB109_107.out; have hnc14 := NB107_109.out; have hcz15_0 : w13.cell? ⟨gb109, 0, none⟩ = some (.string (⟨#[]⟩ : ByteArray)) := (blk_cell BK109.out 0).trans rfl; have hcz15_1 : w13.cell? ⟨gb109, 1, none⟩ = some (.slice none 0 0) := (blk_cell BK109.out 1).trans rfl; have hfz15_0 := blk_frozen BK109.out 0; have hfz15_1 := blk_frozen BK109.out 1))
                  (try simp only [Act.put, List.setIfInBounds_toArray, List.set_cons_zero, List.set_cons_succ])
                  go_cut [42] (fun v42 wc => ∃ (kq : Nat) (x42_11 : Bool), v42 = .bool x42_11 ∧ Aside0 (schema_May.j2 kq l0_0 (l0_0.length : Int) x20_2 x42_11 l0_0 ((rd_T34 l0_0 x20_2).f0) ((rd_T34 l0_0 x20_2).f1) = some r) ∧ Aside0 (kq ≤ k2) ∧ Aside0 (wc.heap[gb107]? = some (.cells #[(.slice (some ad108) l0_0.length c0_0)] 24 (0, 0))) ∧ Aside0 (wc.heap[gb109]? = some (.cells #[.string ((rd_T34 l0_0 x20_2).f0), (.slice A108_1 ((rd_T34 l0_0 x20_2).f1).length c108_1)] 34 (0, 0))) ∧ Aside0 (Below w.heap.size w wc))
                  case first =>
                    have H := HC12.out
                    clear HC12
                    replace H := Option.bind_eq_some_iff.mp H
                    obtain ⟨t110, A160, H⟩ := H
                    replace H : (if t110 = true then ((schema_Find.f l0_0 ((rd_T34 l0_0 x20_2).f0)).bind fun t111 => (if t111 = x20_2 then (schema_May.j2 k2 l0_0 (l0_0.length : Int) x20_2 (decide ((((rd_T34 l0_0 x20_2).f1).length : Int) > 5)) l0_0 ((rd_T34 l0_0 x20_2).f0) ((rd_T34 l0_0 x20_2).f1)) else (schema_May.j2 k2 l0_0 (l0_0.length : Int) x20_2 true l0_0 ((rd_T34 l0_0 x20_2).f0) ((rd_T34 l0_0 x20_2).f1)))) else (schema_May.j2 k2 l0_0 (l0_0.length : Int) x20_2 true l0_0 ((rd_T34 l0_0 x20_2).f0) ((rd_T34 l0_0 x20_2).f1))) = some r := H
                    have A16 := Aside0.mk A160
                    clear A160
                    by_cases c17 : t110 = true
                    · subst c17
                      have H1 : ((schema_Find.f l0_0 ((rd_T34 l0_0 x20_2).f0)).bind fun t111 => (if t111 = x20_2 then (schema_May.j2 k2 l0_0 (l0_0.length : Int) x20_2 (decide ((((rd_T34 l0_0 x20_2).f1).length : Int) > 5)) l0_0 ((rd_T34 l0_0 x20_2).f0) ((rd_T34 l0_0 x20_2).f1)) else (schema_May.j2 k2 l0_0 (l0_0.length : Int) x20_2 true l0_0 ((rd_T34 l0_0 x20_2).f0) ((rd_T34 l0_0 x20_2).f1)))) = some r := by rw [if_pos rfl] at H; exact H
                      clear H
                      have H := H1
                      clear H1
                      replace H := Option.bind_eq_some_iff.mp H
                      obtain ⟨t111, A180, H⟩ := H
                      replace H : (if t111 = x20_2 then (schema_May.j2 k2 l0_0 (l0_0.length : Int) x20_2 (decide ((((rd_T34 l0_0 x20_2).f1).length : Int) > 5)) l0_0 ((rd_T34 l0_0 x20_2).f0) ((rd_T34 l0_0 x20_2).f1)) else (schema_May.j2 k2 l0_0 (l0_0.length : Int) x20_2 true l0_0 ((rd_T34 l0_0 x20_2).f0) ((rd_T34 l0_0 x20_2).f1))) = some r := H
                      have A18 := Aside0.mk A180
                      clear A180
                      by_cases c19 : t111 = x20_2
                      · rw [if_pos c19] at H
                        have c19b0 : (t111 == x20_2) = true := beq_iff_eq.mpr c19
                        have c19b1 : (t111 != x20_2) = false := bne_eq_false_iff_eq.mpr c19
                        clear c19
                        (first | rw [c19b0] | (simp only [i64_w, i32_w]; rw [c19b0]) | skip)
                        have H' := Aside0.mk H
                        clear H
                        have hnb20 := NB109_107.out
                        have hnc20 := NB107_109.out
                        have hcz21_0 : w13.cell? ⟨gb109, 0, none⟩ = some (.string (⟨#[]⟩ : ByteArray)) := (blk_cell BK109.out 0).trans rfl
                        have hcz21_1 : w13.cell? ⟨gb109, 1, none⟩ = some (.slice none 0 0) := (blk_cell BK109.out 1).trans rfl
                        have hfz21_0 := blk_frozen BK109.out 0
                        have hfz21_1 := blk_frozen BK109.out 1
                        go_wp2_with (first | ((with_reducible refine gate_callee (f := 31) rfl ?_); refine goesL_ (some 27) rfl rfl Try.func31 (by kernel_rfl) rfl #[.string ((rd_T34 l0_0 x20_2).f0)] rfl (by (try simp only [List.map_toArray, List.map_cons, List.map_nil]); first | done | rfl | (simp only [List.length_drop, List.length_take]; rfl)) ?_; (with_reducible refine (name_May.calls ((rd_T34 l0_0 x20_2).f0) true _ A16.out).mono ?_); rintro e w22 ⟨rfl, hb⟩; refine ⟨_, rfl, ?_⟩; have n0_ := Aside0.mk (blk_below (g := gb107) (o := .cells #[.slice (some ad108) l0_0.length c0_0] 24 (0, 0)) (by (with_reducible repeat (first | refine blk_drewN ?_ _ | refine blk_drew ?_ | refine blk_alloc ?_ _)); refine blk_far ?_ NB107_109.out _; (with_reducible repeat (first | refine blk_drewN ?_ _ | refine blk_drew ?_ | refine blk_alloc ?_ _)); refine blk_far ?_ NB107_109.out _; (with_reducible repeat (first | refine blk_drewN ?_ _ | refine blk_drew ?_ | refine blk_alloc ?_ _)); exact BK107.out) hb); have n1_ := Aside0.mk (blk_below (g := gb109) (o := .cells #[.string ((rd_T34 l0_0 x20_2).f0), .slice A108_1 ((rd_T34 l0_0 x20_2).f1).length c108_1] 34 (0, 0)) (by (with_reducible repeat (first | refine blk_drewN ?_ _ | refine blk_drew ?_ | refine blk_alloc ?_ _)); refine blk_put (cs := #[.string ((rd_T34 l0_0 x20_2).f0), .slice none 0 0]) ?_ 1 _ rfl; (with_reducible repeat (first | refine blk_drewN ?_ _ | refine blk_drew ?_ | refine blk_alloc ?_ _)); refine blk_put (cs := #[.string (⟨#[]⟩ : ByteArray), .slice none 0 0]) ?_ 0 _ rfl; (with_reducible repeat (first | refine blk_drewN ?_ _ | refine blk_drew ?_ | refine blk_alloc ?_ _)); exact BK109.out) hb); have n2_ := Aside0.mk (below_step (by repeat (first | (with_reducible first | exact HB.out | apply below_alloc | apply pw_below_drewN | apply below_drew1 | refine below_set ?_ GE107.out | refine below_set ?_ GE109.out) | exact HB.out)) hb); clear BK107; clear BK109; clear HB; have BK107 := n0_; have BK109 := n1_; have HB := n2_; clear n0_ n1_ n2_; (try clear hb); (try clear hb2); (try clear hk); (try clear hi); have hcz23_0 : w22.cell? ⟨gb107, 0, none⟩ = some (.slice (some ad108) l0_0.length c0_0) := (blk_cell BK107.out 0).trans rfl; have hfz23_0 := blk_frozen BK107.out 0; have hcz24_0 : w22.cell? ⟨gb109, 0, none⟩ = some (.string ((rd_T34 l0_0 x20_2).f0)) := (blk_cell BK109.out 0).trans rfl; have hcz24_1 : w22.cell? ⟨gb109, 1, none⟩ = some (.slice A108_1 ((rd_T34 l0_0 x20_2).f1).length c108_1) := (blk_cell BK109.out 1).trans rfl; have hfz24_0 := blk_frozen BK109.out 0; have hfz24_1 := blk_frozen BK109.out 1) | (go_at_call 21; (with_reducible refine (schema_Find.calls _ _ l0_0 ((rd_T34 l0_0 x20_2).f0) t111 _ ?side1 ?side2 A18.out).mono ?_); (case side1 => repeat (first | exact (Kd.C_below HR0_0.out HB.out) | (with_reducible refine Kd.C_alloc ?_ _) | (with_reducible refine Kd.C_drewN ?_ _) | (with_reducible refine Kd.C_drew ?_))); (case side2 => exact HC0_0.out); rintro e w25 ⟨rfl, hb⟩; have n0_ := Aside0.mk (blk_below (g := gb107) (o := .cells #[.slice (some ad108) l0_0.length c0_0] 24 (0, 0)) (by (with_reducible repeat (first | refine blk_drewN ?_ _ | refine blk_drew ?_ | refine blk_alloc ?_ _)); exact BK107.out) hb); have n1_ := Aside0.mk (blk_below (g := gb109) (o := .cells #[.string ((rd_T34 l0_0 x20_2).f0), .slice A108_1 ((rd_T34 l0_0 x20_2).f1).length c108_1] 34 (0, 0)) (by (with_reducible repeat (first | refine blk_drewN ?_ _ | refine blk_drew ?_ | refine blk_alloc ?_ _)); exact BK109.out) hb); have n2_ := Aside0.mk (below_step (by repeat (first | (with_reducible first | exact HB.out | apply below_alloc | apply pw_below_drewN | apply below_drew1 | refine below_set ?_ GE107.out | refine below_set ?_ GE109.out) | exact HB.out)) hb); clear BK107; clear BK109; clear HB; have BK107 := n0_; have BK109 := n1_; have HB := n2_; clear n0_ n1_ n2_; (try clear hb); (try clear hb2); (try clear hk); (try clear hi); have hcz26_0 : w25.cell? ⟨gb109, 0, none⟩ = some (.string ((rd_T34 l0_0 x20_2).f0)) := (blk_cell BK109.out 0).trans rfl; have hcz26_1 : w25.cell? ⟨gb109, 1, none⟩ = some (.slice A108_1 ((rd_T34 l0_0 x20_2).f1).length c108_1) := (blk_cell BK109.out 1).trans rfl; have hfz26_0 := blk_frozen BK109.out 0; have hfz26_1 := blk_frozen BK109.out 1))
                        go_meet
                        case rel => exact ⟨_, (decide ((((rd_T34 l0_0 x20_2).f1).length : Int) > 5)), (by first | rfl | (simp; done) | (simp [*]; done)), H', ⟨by have := HJ1.out; have := HK2.out; first | omega | exact Nat.le_refl _⟩, ⟨by (with_reducible repeat (first | refine blk_drewN ?_ _ | refine blk_drew ?_ | refine blk_alloc ?_ _)); exact BK107.out⟩, ⟨by (with_reducible repeat (first | refine blk_drewN ?_ _ | refine blk_drew ?_ | refine blk_alloc ?_ _)); exact BK109.out⟩, ⟨by repeat (first | (with_reducible first | exact HB.out | apply below_alloc | apply pw_below_drewN | apply below_drew1 | refine below_set ?_ GE107.out | refine below_set ?_ GE109.out) | exact HB.out)⟩⟩
                      · rw [if_neg c19] at H
                        have c19b0 : (t111 == x20_2) = false := beq_eq_false_iff_ne.mpr c19
                        have c19b1 : (t111 != x20_2) = true := bne_iff_ne.mpr c19
                        (first | rw [c19b0] | (simp only [i64_w, i32_w]; rw [c19b0]) | skip)
                        have H' := Aside0.mk H
                        clear H
                        have hnb27 := NB109_107.out
                        have hnc27 := NB107_109.out
                        have hcz28_0 : w13.cell? ⟨gb109, 0, none⟩ = some (.string (⟨#[]⟩ : ByteArray)) := (blk_cell BK109.out 0).trans rfl
                        have hcz28_1 : w13.cell? ⟨gb109, 1, none⟩ = some (.slice none 0 0) := (blk_cell BK109.out 1).trans rfl
                        have hfz28_0 := blk_frozen BK109.out 0
                        have hfz28_1 := blk_frozen BK109.out 1
                        go_wp2_with (first | ((with_reducible refine gate_callee (f := 31) rfl ?_); refine goesL_ (some 27) rfl rfl Try.func31 (by kernel_rfl) rfl #[.string ((rd_T34 l0_0 x20_2).f0)] rfl (by (try simp only [List.map_toArray, List.map_cons, List.map_nil]); first | done | rfl | (simp only [List.length_drop, List.length_take]; rfl)) ?_; (with_reducible refine (name_May.calls ((rd_T34 l0_0 x20_2).f0) true _ A16.out).mono ?_); rintro e w29 ⟨rfl, hb⟩; refine ⟨_, rfl, ?_⟩; have n0_ := Aside0.mk (blk_below (g := gb107) (o := .cells #[.slice (some ad108) l0_0.length c0_0] 24 (0, 0)) (by (with_reducible repeat (first | refine blk_drewN ?_ _ | refine blk_drew ?_ | refine blk_alloc ?_ _)); refine blk_far ?_ NB107_109.out _; (with_reducible repeat (first | refine blk_drewN ?_ _ | refine blk_drew ?_ | refine blk_alloc ?_ _)); refine blk_far ?_ NB107_109.out _; (with_reducible repeat (first | refine blk_drewN ?_ _ | refine blk_drew ?_ | refine blk_alloc ?_ _)); exact BK107.out) hb); have n1_ := Aside0.mk (blk_below (g := gb109) (o := .cells #[.string ((rd_T34 l0_0 x20_2).f0), .slice A108_1 ((rd_T34 l0_0 x20_2).f1).length c108_1] 34 (0, 0)) (by (with_reducible repeat (first | refine blk_drewN ?_ _ | refine blk_drew ?_ | refine blk_alloc ?_ _)); refine blk_put (cs := #[.string ((rd_T34 l0_0 x20_2).f0), .slice none 0 0]) ?_ 1 _ rfl; (with_reducible repeat (first | refine blk_drewN ?_ _ | refine blk_drew ?_ | refine blk_alloc ?_ _)); refine blk_put (cs := #[.string (⟨#[]⟩ : ByteArray), .slice none 0 0]) ?_ 0 _ rfl; (with_reducible repeat (first | refine blk_drewN ?_ _ | refine blk_drew ?_ | refine blk_alloc ?_ _)); exact BK109.out) hb); have n2_ := Aside0.mk (below_step (by repeat (first | (with_reducible first | exact HB.out | apply below_alloc | apply pw_below_drewN | apply below_drew1 | refine below_set ?_ GE107.out | refine below_set ?_ GE109.out) | exact HB.out)) hb); clear BK107; clear BK109; clear HB; have BK107 := n0_; have BK109 := n1_; have HB := n2_; clear n0_ n1_ n2_; (try clear hb); (try clear hb2); (try clear hk); (try clear hi); have hcz30_0 : w29.cell? ⟨gb107, 0, none⟩ = some (.slice (some ad108) l0_0.length c0_0) := (blk_cell BK107.out 0).trans rfl; have hfz30_0 := blk_frozen BK107.out 0; have hcz31_0 : w29.cell? ⟨gb109, 0, none⟩ = some (.string ((rd_T34 l0_0 x20_2).f0)) := (blk_cell BK109.out 0).trans rfl; have hcz31_1 : w29.cell? ⟨gb109, 1, none⟩ = some (.slice A108_1 ((rd_T34 l0_0 x20_2).f1).length c108_1) := (blk_cell BK109.out 1).trans rfl; have hfz31_0 := blk_frozen BK109.out 0; have hfz31_1 := blk_frozen BK109.out 1) | (go_at_call 21; (with_reducible refine (schema_Find.calls _ _ l0_0 ((rd_T34 l0_0 x20_2).f0) t111 _ ?side1 ?side2 A18.out).mono ?_); (case side1 => repeat (first | exact (Kd.C_below HR0_0.out HB.out) | (with_reducible refine Kd.C_alloc ?_ _) | (with_reducible refine Kd.C_drewN ?_ _) | (with_reducible refine Kd.C_drew ?_))); (case side2 => exact HC0_0.out); rintro e w32 ⟨rfl, hb⟩; have n0_ := Aside0.mk (blk_below (g := gb107) (o := .cells #[.slice (some ad108) l0_0.length c0_0] 24 (0, 0)) (by (with_reducible repeat (first | refine blk_drewN ?_ _ | refine blk_drew ?_ | refine blk_alloc ?_ _)); exact BK107.out) hb); have n1_ := Aside0.mk (blk_below (g := gb109) (o := .cells #[.string ((rd_T34 l0_0 x20_2).f0), .slice A108_1 ((rd_T34 l0_0 x20_2).f1).length c108_1] 34 (0, 0)) (by (with_reducible repeat (first | refine blk_drewN ?_ _ | refine blk_drew ?_ | refine blk_alloc ?_ _)); exact BK109.out) hb); have n2_ := Aside0.mk (below_step (by repeat (first | (with_reducible first | exact HB.out | apply below_alloc | apply pw_below_drewN | apply below_drew1 | refine below_set ?_ GE107.out | refine below_set ?_ GE109.out) | exact HB.out)) hb); clear BK107; clear BK109; clear HB; have BK107 := n0_; have BK109 := n1_; have HB := n2_; clear n0_ n1_ n2_; (try clear hb); (try clear hb2); (try clear hk); (try clear hi)))
                        go_meet
                        case rel => exact ⟨_, (true), (by first | rfl | (simp; done) | (simp [*]; done)), H', ⟨by have := HJ1.out; have := HK2.out; first | omega | exact Nat.le_refl _⟩, ⟨by (with_reducible repeat (first | refine blk_drewN ?_ _ | refine blk_drew ?_ | refine blk_alloc ?_ _)); exact BK107.out⟩, ⟨by (with_reducible repeat (first | refine blk_drewN ?_ _ | refine blk_drew ?_ | refine blk_alloc ?_ _)); exact BK109.out⟩, ⟨by repeat (first | (with_reducible first | exact HB.out | apply below_alloc | apply pw_below_drewN | apply below_drew1 | refine below_set ?_ GE107.out | refine below_set ?_ GE109.out) | exact HB.out)⟩⟩
                    · replace c17 := Bool.eq_false_iff.mpr c17
                      subst c17
                      have H1 : (schema_May.j2 k2 l0_0 (l0_0.length : Int) x20_2 true l0_0 ((rd_T34 l0_0 x20_2).f0) ((rd_T34 l0_0 x20_2).f1)) = some r := by rw [if_neg (show ¬ (false = true) by decide)] at H; exact H
                      clear H
                      have H := H1
                      clear H1
                      have H' := Aside0.mk H
                      clear H
                      have hnb33 := NB109_107.out
                      have hnc33 := NB107_109.out
                      have hcz34_0 : w13.cell? ⟨gb109, 0, none⟩ = some (.string (⟨#[]⟩ : ByteArray)) := (blk_cell BK109.out 0).trans rfl
                      have hcz34_1 : w13.cell? ⟨gb109, 1, none⟩ = some (.slice none 0 0) := (blk_cell BK109.out 1).trans rfl
                      have hfz34_0 := blk_frozen BK109.out 0
                      have hfz34_1 := blk_frozen BK109.out 1
                      go_wp2_with (first | ((with_reducible refine gate_callee (f := 31) rfl ?_); refine goesL_ (some 27) rfl rfl Try.func31 (by kernel_rfl) rfl #[.string ((rd_T34 l0_0 x20_2).f0)] rfl (by (try simp only [List.map_toArray, List.map_cons, List.map_nil]); first | done | rfl | (simp only [List.length_drop, List.length_take]; rfl)) ?_; (with_reducible refine (name_May.calls ((rd_T34 l0_0 x20_2).f0) false _ A16.out).mono ?_); rintro e w35 ⟨rfl, hb⟩; refine ⟨_, rfl, ?_⟩; have n0_ := Aside0.mk (blk_below (g := gb107) (o := .cells #[.slice (some ad108) l0_0.length c0_0] 24 (0, 0)) (by (with_reducible repeat (first | refine blk_drewN ?_ _ | refine blk_drew ?_ | refine blk_alloc ?_ _)); refine blk_far ?_ NB107_109.out _; (with_reducible repeat (first | refine blk_drewN ?_ _ | refine blk_drew ?_ | refine blk_alloc ?_ _)); refine blk_far ?_ NB107_109.out _; (with_reducible repeat (first | refine blk_drewN ?_ _ | refine blk_drew ?_ | refine blk_alloc ?_ _)); exact BK107.out) hb); have n1_ := Aside0.mk (blk_below (g := gb109) (o := .cells #[.string ((rd_T34 l0_0 x20_2).f0), .slice A108_1 ((rd_T34 l0_0 x20_2).f1).length c108_1] 34 (0, 0)) (by (with_reducible repeat (first | refine blk_drewN ?_ _ | refine blk_drew ?_ | refine blk_alloc ?_ _)); refine blk_put (cs := #[.string ((rd_T34 l0_0 x20_2).f0), .slice none 0 0]) ?_ 1 _ rfl; (with_reducible repeat (first | refine blk_drewN ?_ _ | refine blk_drew ?_ | refine blk_alloc ?_ _)); refine blk_put (cs := #[.string (⟨#[]⟩ : ByteArray), .slice none 0 0]) ?_ 0 _ rfl; (with_reducible repeat (first | refine blk_drewN ?_ _ | refine blk_drew ?_ | refine blk_alloc ?_ _)); exact BK109.out) hb); have n2_ := Aside0.mk (below_step (by repeat (first | (with_reducible first | exact HB.out | apply below_alloc | apply pw_below_drewN | apply below_drew1 | refine below_set ?_ GE107.out | refine below_set ?_ GE109.out) | exact HB.out)) hb); clear BK107; clear BK109; clear HB; have BK107 := n0_; have BK109 := n1_; have HB := n2_; clear n0_ n1_ n2_; (try clear hb); (try clear hb2); (try clear hk); (try clear hi)))
                      go_meet
                      case rel => exact ⟨_, (true), (by first | rfl | (simp; done) | (simp [*]; done)), H', ⟨by have := HJ1.out; have := HK2.out; first | omega | exact Nat.le_refl _⟩, ⟨by (with_reducible repeat (first | refine blk_drewN ?_ _ | refine blk_drew ?_ | refine blk_alloc ?_ _)); exact BK107.out⟩, ⟨by (with_reducible repeat (first | refine blk_drewN ?_ _ | refine blk_drew ?_ | refine blk_alloc ?_ _)); exact BK109.out⟩, ⟨by repeat (first | (with_reducible first | exact HB.out | apply below_alloc | apply pw_below_drewN | apply below_drew1 | refine below_set ?_ GE107.out | refine below_set ?_ GE109.out) | exact HB.out)⟩⟩
                  case rest =>
                    clear HC12
                    try clear c1
                    try clear p1
                    try clear q1
                    try clear hx1
                    try clear c2
                    try clear p2
                    try clear c3
                    try clear c4
                    try clear c4b0
                    try clear c4b1
                    try clear c4b2
                    try clear c7
                    try clear c9
                    try clear c9b0
                    try clear c10
                    try clear c10b0
                    try clear p10
                    try clear q10
                    try clear hx10
                    try clear c11
                    try clear c11b0
                    try clear c14
                    try clear c17
                    try clear c19
                    try clear c19b0
                    try clear c19b1
                    try clear c20
                    try clear c27
                    try clear c31
                    try clear c33
                    try clear hcz15_0
                    try clear hcz15_1
                    try clear hcz21_0
                    try clear hcz21_1
                    try clear hcz23_0
                    try clear hcz24_0
                    try clear hcz24_1
                    try clear hcz26_0
                    try clear hcz26_1
                    try clear hcz28_0
                    try clear hcz28_1
                    try clear hcz30_0
                    try clear hcz31_0
                    try clear hcz31_1
                    try clear hcz34_0
                    try clear hcz34_1
                    try clear hcz5_0
                    try clear hcz6_0
                    try clear hcz8_0
                    try clear hfz15_0
                    try clear hfz15_1
                    try clear hfz21_0
                    try clear hfz21_1
                    try clear hfz23_0
                    try clear hfz24_0
                    try clear hfz24_1
                    try clear hfz26_0
                    try clear hfz26_1
                    try clear hfz28_0
                    try clear hfz28_1
                    try clear hfz30_0
                    try clear hfz31_0
                    try clear hfz31_1
                    try clear hfz34_0
                    try clear hfz34_1
                    try clear hfz5_0
                    try clear hfz6_0
                    try clear hfz8_0
                    try clear hx108_0
                    try clear hx108_1
                    try clear p108
                    try clear p2
                    try clear q108
                    obtain ⟨kq, x42_11, rfl, HA, HJ11, BK107, BK109, HB⟩ := hcut
                    cases kq with
                    | zero => exact absurd HA.out (by simp [schema_May.j2])
                    | succ kj11 =>
                      have H := HA.out
                      clear HA
                      simp only [schema_May.j2] at H
                      by_cases c36 : x42_11 = true
                      · subst c36
                        have H1 : (some false) = some r := by rw [if_pos rfl] at H; exact H
                        clear H
                        have H := H1
                        clear H1
                        obtain rfl := Option.some.inj H
                        go_wp2
                        go_ret
                        exact ⟨by first | rfl | (simp [errW_none, errW_some] <;> rfl) | (simp [*, errW_none, errW_some] <;> rfl), by repeat (first | (with_reducible first | exact HB.out | apply below_alloc | apply pw_below_drewN | apply below_drew1 | refine below_set ?_ GE107.out | refine below_set ?_ GE109.out) | exact HB.out)⟩
                      · replace c36 := Bool.eq_false_iff.mpr c36
                        subst c36
                        have H1 : (schema_May.l1 kj11 l0_0 (l0_0.length : Int) x20_2 ((rd_T34 l0_0 x20_2).f1) (((rd_T34 l0_0 x20_2).f1).length : Int) 0 l0_0 ((rd_T34 l0_0 x20_2).f0) ((rd_T34 l0_0 x20_2).f1)) = some r := by rw [if_neg (show ¬ (false = true) by decide)] at H; exact H
                        clear H
                        have H := H1
                        clear H1
                        have H' := Aside0.mk H
                        clear H
                        have hnb37 := NB109_107.out
                        have hnc37 := NB107_109.out
                        have hcz38_0 : wc.cell? ⟨gb109, 0, none⟩ = some (.string ((rd_T34 l0_0 x20_2).f0)) := (blk_cell BK109.out 0).trans rfl
                        have hcz38_1 : wc.cell? ⟨gb109, 1, none⟩ = some (.slice A108_1 ((rd_T34 l0_0 x20_2).f1).length c108_1) := (blk_cell BK109.out 1).trans rfl
                        have hfz38_0 := blk_frozen BK109.out 0
                        have hfz38_1 := blk_frozen BK109.out 1
                        go_wp2
                        go_loopg [46] kj11 (fun kq v46 w' => ∃ (x46_4 : Int), v46 = .int .i64 x46_4 ∧ Aside0 (schema_May.l1 kq l0_0 (l0_0.length : Int) x20_2 ((rd_T34 l0_0 x20_2).f1) (((rd_T34 l0_0 x20_2).f1).length : Int) x46_4 l0_0 ((rd_T34 l0_0 x20_2).f0) ((rd_T34 l0_0 x20_2).f1) = some r) ∧ Aside0 (kq ≤ kj11) ∧ Aside0 (w'.heap[gb107]? = some (.cells #[(.slice (some ad108) l0_0.length c0_0)] 24 (0, 0))) ∧ Aside0 (w'.heap[gb109]? = some (.cells #[.string ((rd_T34 l0_0 x20_2).f0), (.slice A108_1 ((rd_T34 l0_0 x20_2).f1).length c108_1)] 34 (0, 0))) ∧ Aside0 (Below w.heap.size w w'))
                        case atStart => exact ⟨(0), (by first | rfl | (simp; done) | (simp [*]; done)), H', ⟨Nat.le_refl _⟩, ⟨by (with_reducible repeat (first | refine blk_drewN ?_ _ | refine blk_drew ?_ | refine blk_alloc ?_ _)); exact BK107.out⟩, ⟨by (with_reducible repeat (first | refine blk_drewN ?_ _ | refine blk_drew ?_ | refine blk_alloc ?_ _)); exact BK109.out⟩, ⟨by repeat (first | (with_reducible first | exact HB.out | apply below_alloc | apply pw_below_drewN | apply below_drew1 | refine below_set ?_ GE107.out | refine below_set ?_ GE109.out) | exact HB.out)⟩⟩
                        case round =>
                          clear H'
                          try clear c1
                          try clear p1
                          try clear q1
                          try clear hx1
                          try clear c2
                          try clear p2
                          try clear c3
                          try clear c4
                          try clear c4b0
                          try clear c4b1
                          try clear c4b2
                          try clear c7
                          try clear c9
                          try clear c9b0
                          try clear c10
                          try clear c10b0
                          try clear p10
                          try clear q10
                          try clear hx10
                          try clear c11
                          try clear c11b0
                          try clear c14
                          try clear c17
                          try clear c19
                          try clear c19b0
                          try clear c19b1
                          try clear c20
                          try clear c27
                          try clear c31
                          try clear c33
                          try clear c36
                          try clear c37
                          try clear hcz15_0
                          try clear hcz15_1
                          try clear hcz21_0
                          try clear hcz21_1
                          try clear hcz23_0
                          try clear hcz24_0
                          try clear hcz24_1
                          try clear hcz26_0
                          try clear hcz26_1
                          try clear hcz28_0
                          try clear hcz28_1
                          try clear hcz30_0
                          try clear hcz31_0
                          try clear hcz31_1
                          try clear hcz34_0
                          try clear hcz34_1
                          try clear hcz38_0
                          try clear hcz38_1
                          try clear hcz5_0
                          try clear hcz6_0
                          try clear hcz8_0
                          try clear hfz15_0
                          try clear hfz15_1
                          try clear hfz21_0
                          try clear hfz21_1
                          try clear hfz23_0
                          try clear hfz24_0
                          try clear hfz24_1
                          try clear hfz26_0
                          try clear hfz26_1
                          try clear hfz28_0
                          try clear hfz28_1
                          try clear hfz30_0
                          try clear hfz31_0
                          try clear hfz31_1
                          try clear hfz34_0
                          try clear hfz34_1
                          try clear hfz38_0
                          try clear hfz38_1
                          try clear hfz5_0
                          try clear hfz6_0
                          try clear hfz8_0
                          try clear hx108_0
                          try clear hx108_1
                          try clear p1
                          try clear p10
                          try clear p108
                          try clear p2
                          try clear q1
                          try clear q10
                          try clear q108
                          obtain ⟨x46_4, rfl, HA, HK4, BK107, BK109, HB⟩ := hrel
                          cases gk with
                          | zero => exact absurd HA.out (by simp [schema_May.l1])
                          | succ k4 =>
                            have H := HA.out
                            clear HA
                            simp only [schema_May.l1] at H
                            by_cases c39 : x46_4 < (((rd_T34 l0_0 x20_2).f1).length : Int)
                            · rw [if_pos c39] at H
                              have c39b0 : decide (x46_4 < (((rd_T34 l0_0 x20_2).f1).length : Int)) = true := decide_eq_true c39
                              clear c39
                              by_cases c40 : 0 ≤ x46_4
                              · rw [if_pos c40] at H
                                have c40b0 : decide (0 ≤ x46_4) = true := decide_eq_true c40
                                clear c40
                                by_cases c41 : x46_4 < (((rd_T34 l0_0 x20_2).f1).length : Int)
                                · rw [if_pos c41] at H
                                  have c41b0 : decide (x46_4 < (((rd_T34 l0_0 x20_2).f1).length : Int)) = true := decide_eq_true c41
                                  clear c41
                                  replace H := Option.bind_eq_some_iff.mp H
                                  obtain ⟨t114, A420, H⟩ := H
                                  replace H : (if t114 = true then ((schema_Field.f ((rd_T34 l0_0 x20_2).f0) ((rd_T34 l0_0 x20_2).f1) ((rd_T40 ((rd_T34 l0_0 x20_2).f1) x46_4).f0)).bind fun t115 => (if t115 = x46_4 then (schema_May.l1 k4 l0_0 (l0_0.length : Int) x20_2 ((rd_T34 l0_0 x20_2).f1) (((rd_T34 l0_0 x20_2).f1).length : Int) (wrap64 (x46_4 + 1)) l0_0 ((rd_T34 l0_0 x20_2).f0) ((rd_T34 l0_0 x20_2).f1)) else (some false))) else (some false)) = some r := H
                                  have A42 := Aside0.mk A420
                                  clear A420
                                  by_cases c43 : t114 = true
                                  · subst c43
                                    have H1 : ((schema_Field.f ((rd_T34 l0_0 x20_2).f0) ((rd_T34 l0_0 x20_2).f1) ((rd_T40 ((rd_T34 l0_0 x20_2).f1) x46_4).f0)).bind fun t115 => (if t115 = x46_4 then (schema_May.l1 k4 l0_0 (l0_0.length : Int) x20_2 ((rd_T34 l0_0 x20_2).f1) (((rd_T34 l0_0 x20_2).f1).length : Int) (wrap64 (x46_4 + 1)) l0_0 ((rd_T34 l0_0 x20_2).f0) ((rd_T34 l0_0 x20_2).f1)) else (some false))) = some r := by rw [if_pos rfl] at H; exact H
                                    clear H
                                    have H := H1
                                    clear H1
                                    replace H := Option.bind_eq_some_iff.mp H
                                    obtain ⟨t115, A440, H⟩ := H
                                    replace H : (if t115 = x46_4 then (schema_May.l1 k4 l0_0 (l0_0.length : Int) x20_2 ((rd_T34 l0_0 x20_2).f1) (((rd_T34 l0_0 x20_2).f1).length : Int) (wrap64 (x46_4 + 1)) l0_0 ((rd_T34 l0_0 x20_2).f0) ((rd_T34 l0_0 x20_2).f1)) else (some false)) = some r := H
                                    have A44 := Aside0.mk A440
                                    clear A440
                                    by_cases c45 : t115 = x46_4
                                    · rw [if_pos c45] at H
                                      have c45b0 : (t115 == x46_4) = true := beq_iff_eq.mpr c45
                                      have c45b1 : (t115 != x46_4) = false := bne_eq_false_iff_eq.mpr c45
                                      clear c45
                                      have H' := Aside0.mk H
                                      clear H
                                      have p112 : 0 ≤ (x46_4 : Int) := of_decide_eq_true (by first | (with_reducible assumption) | assumption)
                                      have q112 : x46_4 < (((rd_T34 l0_0 x20_2).f1).length : Int) := of_decide_eq_true (by first | (with_reducible assumption) | assumption)
                                      obtain ⟨ad112, e112, hx112_0, hx112_1, hx112_2⟩ := at_T40 HR108_1.out x46_4 p112 q112
                                      cases e112
                                      replace hx112_0 := (HB.out.cell (World.block_lt_of_cell? w _ hx112_0)).trans hx112_0
                                      replace hx112_1 := (HB.out.cell (World.block_lt_of_cell? w _ hx112_1)).trans hx112_1
                                      replace hx112_2 := (HB.out.cell (World.block_lt_of_cell? w _ hx112_2)).trans hx112_2
                                      replace p112 := eq_true p112
                                      replace q112 := eq_true q112
                                      go_wp2_with (first | ((with_reducible refine gate_dst (N := 6) rfl ?_); (try (refine gate_guard (by rfl) ?_; dsimp only)); refine box_event ?hg (N := 6) ?hd (cs := #[.string (⟨#[]⟩ : ByteArray), .int .i64 0, .string (⟨#[]⟩ : ByteArray)]) (t := 40) ?hr ?_; (case hd => rfl); (case hg => rfl); (case hr => first | (go_simp; done) | (go_simp; rfl)); intro gb113 hg w46 hbox hb; have n0_ := Aside0.mk (blk_below (g := gb107) (o := .cells #[.slice (some ad108) l0_0.length c0_0] 24 (0, 0)) (by (with_reducible repeat (first | refine blk_drewN ?_ _ | refine blk_drew ?_ | refine blk_alloc ?_ _)); exact BK107.out) hb); have n1_ := Aside0.mk (blk_below (g := gb109) (o := .cells #[.string ((rd_T34 l0_0 x20_2).f0), .slice (some ad112) ((rd_T34 l0_0 x20_2).f1).length c108_1] 34 (0, 0)) (by (with_reducible repeat (first | refine blk_drewN ?_ _ | refine blk_drew ?_ | refine blk_alloc ?_ _)); exact BK109.out) hb); have n2_ := Aside0.mk (below_step (by repeat (first | (with_reducible first | exact HB.out | apply below_alloc | apply pw_below_drewN | apply below_drew1 | refine below_set ?_ GE107.out | refine below_set ?_ GE109.out) | exact HB.out)) hb); have n3_ := Aside0.mk (hbox); have n4_ := Aside0.mk ((by rw [hg]; exact (below_size (by repeat (first | (with_reducible first | exact HB.out | apply below_alloc | apply pw_below_drewN | apply below_drew1 | refine below_set ?_ GE107.out | refine below_set ?_ GE109.out) | exact HB.out))) : w.heap.size ≤ gb113)); have n5_ := Aside0.mk ((by rw [hg]; exact (below_size (by repeat (first | (with_reducible first | exact HB.out | apply below_alloc | apply pw_below_drewN | apply below_drew1 | refine below_set ?_ GE107.out | refine below_set ?_ GE109.out) | exact HB.out))) : w.heap.size ≤ gb113)); have n6_ := Aside0.mk ((by rw [hg]; exact Nat.ne_of_lt (blk_lt (g := gb107) (o := .cells #[.slice (some ad108) l0_0.length c0_0] 24 (0, 0)) (by (with_reducible repeat (first | refine blk_drewN ?_ _ | refine blk_drew ?_ | refine blk_alloc ?_ _)); exact BK107.out)) : gb107 ≠ gb113)); have n7_ := Aside0.mk ((by rw [hg]; exact Nat.ne_of_gt (blk_lt (g := gb107) (o := .cells #[.slice (some ad108) l0_0.length c0_0] 24 (0, 0)) (by (with_reducible repeat (first | refine blk_drewN ?_ _ | refine blk_drew ?_ | refine blk_alloc ?_ _)); exact BK107.out)) : gb113 ≠ gb107)); have n8_ := Aside0.mk ((by rw [hg]; exact Nat.ne_of_lt (blk_lt (g := gb109) (o := .cells #[.string ((rd_T34 l0_0 x20_2).f0), .slice (some ad112) ((rd_T34 l0_0 x20_2).f1).length c108_1] 34 (0, 0)) (by (with_reducible repeat (first | refine blk_drewN ?_ _ | refine blk_drew ?_ | refine blk_alloc ?_ _)); exact BK109.out)) : gb109 ≠ gb113)); have n9_ := Aside0.mk ((by rw [hg]; exact Nat.ne_of_gt (blk_lt (g := gb109) (o := .cells #[.string ((rd_T34 l0_0 x20_2).f0), .slice (some ad112) ((rd_T34 l0_0 x20_2).f1).length c108_1] 34 (0, 0)) (by (with_reducible repeat (first | refine blk_drewN ?_ _ | refine blk_drew ?_ | refine blk_alloc ?_ _)); exact BK109.out)) : gb113 ≠ gb109)); clear BK107; clear BK109; clear HB; have BK107 := n0_; have BK109 := n1_; have HB := n2_; have BK113 := n3_; have GW113 := n4_; have GE113 := n5_; have NB107_113 := n6_; have NB113_107 := n7_; have NB109_113 := n8_; have NB113_109 := n9_; clear n0_ n1_ n2_ n3_ n4_ n5_ n6_ n7_ n8_ n9_; clear hb hbox hg; have hnb47 := NB113_107.out; have hnc47 := NB107_113.out; have hnb48 := NB113_109.out; have hnc48 := NB109_113.out; have hcz49_0 : w46.cell? ⟨gb113, 0, none⟩ = some (.string (⟨#[]⟩ : ByteArray)) := (blk_cell BK113.out 0).trans rfl; have hcz49_1 : w46.cell? ⟨gb113, 1, none⟩ = some (.int .i64 0) := (blk_cell BK113.out 1).trans rfl; have hcz49_2 : w46.cell? ⟨gb113, 2, none⟩ = some (.string (⟨#[]⟩ : ByteArray)) := (blk_cell BK113.out 2).trans rfl; have hfz49_0 := blk_frozen BK113.out 0; have hfz49_1 := blk_frozen BK113.out 1; have hfz49_2 := blk_frozen BK113.out 2; have hnb50 := NB107_109.out; have hnc50 := NB109_107.out; have hcz51_0 : w46.cell? ⟨gb107, 0, none⟩ = some (.slice (some ad108) l0_0.length c0_0) := (blk_cell BK107.out 0).trans rfl; have hfz51_0 := blk_frozen BK107.out 0) | ((with_reducible refine gate_callee (f := 32) rfl ?_); refine goesL_ (some 53) rfl rfl Try.func32 (by kernel_rfl) rfl #[.agg #[.slice (some ad108) l0_0.length c0_0], .agg #[.string ((rd_T40 ((rd_T34 l0_0 x20_2).f1) x46_4).f0), .int .i64 ((rd_T40 ((rd_T34 l0_0 x20_2).f1) x46_4).f1), .string ((rd_T40 ((rd_T34 l0_0 x20_2).f1) x46_4).f2)]] rfl (by (try simp only [List.map_toArray, List.map_cons, List.map_nil]); first | done | rfl | (simp only [List.length_drop, List.length_take]; rfl)) ?_; (with_reducible refine (schema_field.calls _ _ l0_0 ((rd_T40 ((rd_T34 l0_0 x20_2).f1) x46_4).f0) ((rd_T40 ((rd_T34 l0_0 x20_2).f1) x46_4).f1) ((rd_T40 ((rd_T34 l0_0 x20_2).f1) x46_4).f2) true _ ?side1 ?side2 A42.out).mono ?_); (case side1 => exact Kd.C_below HR0_0.out (by repeat (first | (with_reducible first | exact HB.out | apply below_alloc | apply pw_below_drewN | apply below_drew1 | refine below_set ?_ GE107.out | refine below_set ?_ GE109.out | refine below_set ?_ GE113.out) | exact HB.out))); (case side2 => exact HC0_0.out); rintro e w52 ⟨rfl, hb⟩; refine ⟨_, rfl, ?_⟩; have n0_ := Aside0.mk (blk_below (g := gb107) (o := .cells #[.slice (some ad108) l0_0.length c0_0] 24 (0, 0)) (by (with_reducible repeat (first | refine blk_drewN ?_ _ | refine blk_drew ?_ | refine blk_alloc ?_ _)); refine blk_far ?_ NB107_113.out _; (with_reducible repeat (first | refine blk_drewN ?_ _ | refine blk_drew ?_ | refine blk_alloc ?_ _)); refine blk_far ?_ NB107_113.out _; (with_reducible repeat (first | refine blk_drewN ?_ _ | refine blk_drew ?_ | refine blk_alloc ?_ _)); refine blk_far ?_ NB107_113.out _; (with_reducible repeat (first | refine blk_drewN ?_ _ | refine blk_drew ?_ | refine blk_alloc ?_ _)); exact BK107.out) hb); have n1_ := Aside0.mk (blk_below (g := gb109) (o := .cells #[.string ((rd_T34 l0_0 x20_2).f0), .slice (some ad112) ((rd_T34 l0_0 x20_2).f1).length c108_1] 34 (0, 0)) (by (with_reducible repeat (first | refine blk_drewN ?_ _ | refine blk_drew ?_ | refine blk_alloc ?_ _)); refine blk_far ?_ NB109_113.out _; (with_reducible repeat (first | refine blk_drewN ?_ _ | refine blk_drew ?_ | refine blk_alloc ?_ _)); refine blk_far ?_ NB109_113.out _; (with_reducible repeat (first | refine blk_drewN ?_ _ | refine blk_drew ?_ | refine blk_alloc ?_ _)); refine blk_far ?_ NB109_113.out _; (with_reducible repeat (first | refine blk_drewN ?_ _ | refine blk_drew ?_ | refine blk_alloc ?_ _)); exact BK109.out) hb); have n2_ := Aside0.mk (blk_below (g := gb113) (o := .cells #[.string ((rd_T40 ((rd_T34 l0_0 x20_2).f1) x46_4).f0), .int .i64 ((rd_T40 ((rd_T34 l0_0 x20_2).f1) x46_4).f1), .string ((rd_T40 ((rd_T34 l0_0 x20_2).f1) x46_4).f2)] 40 (0, 0)) (by (with_reducible repeat (first | refine blk_drewN ?_ _ | refine blk_drew ?_ | refine blk_alloc ?_ _)); refine blk_put (cs := #[.string ((rd_T40 ((rd_T34 l0_0 x20_2).f1) x46_4).f0), .int .i64 ((rd_T40 ((rd_T34 l0_0 x20_2).f1) x46_4).f1), .string (⟨#[]⟩ : ByteArray)]) ?_ 2 _ rfl; (with_reducible repeat (first | refine blk_drewN ?_ _ | refine blk_drew ?_ | refine blk_alloc ?_ _)); refine blk_put (cs := #[.string ((rd_T40 ((rd_T34 l0_0 x20_2).f1) x46_4).f0), .int .i64 0, .string (⟨#[]⟩ : ByteArray)]) ?_ 1 _ rfl; (with_reducible repeat (first | refine blk_drewN ?_ _ | refine blk_drew ?_ | refine blk_alloc ?_ _)); refine blk_put (cs := #[.string (⟨#[]⟩ : ByteArray), .int .i64 0, .string (⟨#[]⟩ : ByteArray)]) ?_ 0 _ rfl; (with_reducible repeat (first | refine blk_drewN ?_ _ | refine blk_drew ?_ | refine blk_alloc ?_ _)); exact BK113.out) hb); have n3_ := Aside0.mk (below_step (by repeat (first | (with_reducible first | exact HB.out | apply below_alloc | apply pw_below_drewN | apply below_drew1 | refine below_set ?_ GE107.out | refine below_set ?_ GE109.out | refine below_set ?_ GE113.out) | exact HB.out)) hb); clear BK107; clear BK109; clear BK113; clear HB; have BK107 := n0_; have BK109 := n1_; have BK113 := n2_; have HB := n3_; clear n0_ n1_ n2_ n3_; (try clear hb); (try clear hb2); (try clear hk); (try clear hi); have hcz53_0 : w52.cell? ⟨gb109, 0, none⟩ = some (.string ((rd_T34 l0_0 x20_2).f0)) := (blk_cell BK109.out 0).trans rfl; have hcz53_1 : w52.cell? ⟨gb109, 1, none⟩ = some (.slice (some ad112) ((rd_T34 l0_0 x20_2).f1).length c108_1) := (blk_cell BK109.out 1).trans rfl; have hfz53_0 := blk_frozen BK109.out 0; have hfz53_1 := blk_frozen BK109.out 1; have hcz54_0 : w52.cell? ⟨gb113, 0, none⟩ = some (.string ((rd_T40 ((rd_T34 l0_0 x20_2).f1) x46_4).f0)) := (blk_cell BK113.out 0).trans rfl; have hcz54_1 : w52.cell? ⟨gb113, 1, none⟩ = some (.int .i64 ((rd_T40 ((rd_T34 l0_0 x20_2).f1) x46_4).f1)) := (blk_cell BK113.out 1).trans rfl; have hcz54_2 : w52.cell? ⟨gb113, 2, none⟩ = some (.string ((rd_T40 ((rd_T34 l0_0 x20_2).f1) x46_4).f2)) := (blk_cell BK113.out 2).trans rfl; have hfz54_0 := blk_frozen BK113.out 0; have hfz54_1 := blk_frozen BK113.out 1; have hfz54_2 := blk_frozen BK113.out 2) | (go_at_call 15; (with_reducible refine (schema_Field.calls ((rd_T34 l0_0 x20_2).f0) _ _ ((rd_T34 l0_0 x20_2).f1) ((rd_T40 ((rd_T34 l0_0 x20_2).f1) x46_4).f0) t115 _ ?side1 ?side2 A44.out).mono ?_); (case side1 => repeat (first | exact (Kd.C_below HR108_1.out HB.out) | (with_reducible refine Kd.C_alloc ?_ _) | (with_reducible refine Kd.C_drewN ?_ _) | (with_reducible refine Kd.C_drew ?_))); (case side2 => exact HC108_1.out); rintro e w55 ⟨rfl, hb⟩; have n0_ := Aside0.mk (blk_below (g := gb107) (o := .cells #[.slice (some ad108) l0_0.length c0_0] 24 (0, 0)) (by (with_reducible repeat (first | refine blk_drewN ?_ _ | refine blk_drew ?_ | refine blk_alloc ?_ _)); exact BK107.out) hb); have n1_ := Aside0.mk (blk_below (g := gb109) (o := .cells #[.string ((rd_T34 l0_0 x20_2).f0), .slice (some ad112) ((rd_T34 l0_0 x20_2).f1).length c108_1] 34 (0, 0)) (by (with_reducible repeat (first | refine blk_drewN ?_ _ | refine blk_drew ?_ | refine blk_alloc ?_ _)); exact BK109.out) hb); have n2_ := Aside0.mk (blk_below (g := gb113) (o := .cells #[.string ((rd_T40 ((rd_T34 l0_0 x20_2).f1) x46_4).f0), .int .i64 ((rd_T40 ((rd_T34 l0_0 x20_2).f1) x46_4).f1), .string ((rd_T40 ((rd_T34 l0_0 x20_2).f1) x46_4).f2)] 40 (0, 0)) (by (with_reducible repeat (first | refine blk_drewN ?_ _ | refine blk_drew ?_ | refine blk_alloc ?_ _)); exact BK113.out) hb); have n3_ := Aside0.mk (below_step (by repeat (first | (with_reducible first | exact HB.out | apply below_alloc | apply pw_below_drewN | apply below_drew1 | refine below_set ?_ GE107.out | refine below_set ?_ GE109.out | refine below_set ?_ GE113.out) | exact HB.out)) hb); clear BK107; clear BK109; clear BK113; clear HB; have BK107 := n0_; have BK109 := n1_; have BK113 := n2_; have HB := n3_; clear n0_ n1_ n2_ n3_; (try clear hb); (try clear hb2); (try clear hk); (try clear hi)))
                                      go_roundg k4
                                      case measure => have := HJ1.out; have := HK2.out; have := HJ11.out; have := HK4.out; omega
                                      case rel => exact ⟨(wrap64 (x46_4 + 1)), (by first | rfl | (simp; done) | (simp [*]; done)), H', ⟨by have := HJ1.out; have := HK2.out; have := HJ11.out; have := HK4.out; omega⟩, ⟨by (with_reducible repeat (first | refine blk_drewN ?_ _ | refine blk_drew ?_ | refine blk_alloc ?_ _)); exact BK107.out⟩, ⟨by (with_reducible repeat (first | refine blk_drewN ?_ _ | refine blk_drew ?_ | refine blk_alloc ?_ _)); exact BK109.out⟩, ⟨by repeat (first | (with_reducible first | exact HB.out | apply below_alloc | apply pw_below_drewN | apply below_drew1 | refine below_set ?_ GE107.out | refine below_set ?_ GE109.out | refine below_set ?_ GE113.out) | exact HB.out)⟩⟩
                                    · rw [if_neg c45] at H
                                      have c45b0 : (t115 == x46_4) = false := beq_eq_false_iff_ne.mpr c45
                                      have c45b1 : (t115 != x46_4) = true := bne_iff_ne.mpr c45
                                      obtain rfl := Option.some.inj H
                                      have p112 : 0 ≤ (x46_4 : Int) := of_decide_eq_true (by first | (with_reducible assumption) | assumption)
                                      have q112 : x46_4 < (((rd_T34 l0_0 x20_2).f1).length : Int) := of_decide_eq_true (by first | (with_reducible assumption) | assumption)
                                      obtain ⟨ad112, e112, hx112_0, hx112_1, hx112_2⟩ := at_T40 HR108_1.out x46_4 p112 q112
                                      cases e112
                                      replace hx112_0 := (HB.out.cell (World.block_lt_of_cell? w _ hx112_0)).trans hx112_0
                                      replace hx112_1 := (HB.out.cell (World.block_lt_of_cell? w _ hx112_1)).trans hx112_1
                                      replace hx112_2 := (HB.out.cell (World.block_lt_of_cell? w _ hx112_2)).trans hx112_2
                                      replace p112 := eq_true p112
                                      replace q112 := eq_true q112
                                      go_wp2_with (first | ((with_reducible refine gate_dst (N := 6) rfl ?_); (try (refine gate_guard (by rfl) ?_; dsimp only)); refine box_event ?hg (N := 6) ?hd (cs := #[.string (⟨#[]⟩ : ByteArray), .int .i64 0, .string (⟨#[]⟩ : ByteArray)]) (t := 40) ?hr ?_; (case hd => rfl); (case hg => rfl); (case hr => first | (go_simp; done) | (go_simp; rfl)); intro gb113 hg w56 hbox hb; have n0_ := Aside0.mk (blk_below (g := gb107) (o := .cells #[.slice (some ad108) l0_0.length c0_0] 24 (0, 0)) (by (with_reducible repeat (first | refine blk_drewN ?_ _ | refine blk_drew ?_ | refine blk_alloc ?_ _)); exact BK107.out) hb); have n1_ := Aside0.mk (blk_below (g := gb109) (o := .cells #[.string ((rd_T34 l0_0 x20_2).f0), .slice (some ad112) ((rd_T34 l0_0 x20_2).f1).length c108_1] 34 (0, 0)) (by (with_reducible repeat (first | refine blk_drewN ?_ _ | refine blk_drew ?_ | refine blk_alloc ?_ _)); exact BK109.out) hb); have n2_ := Aside0.mk (below_step (by repeat (first | (with_reducible first | exact HB.out | apply below_alloc | apply pw_below_drewN | apply below_drew1 | refine below_set ?_ GE107.out | refine below_set ?_ GE109.out) | exact HB.out)) hb); have n3_ := Aside0.mk (hbox); have n4_ := Aside0.mk ((by rw [hg]; exact (below_size (by repeat (first | (with_reducible first | exact HB.out | apply below_alloc | apply pw_below_drewN | apply below_drew1 | refine below_set ?_ GE107.out | refine below_set ?_ GE109.out) | exact HB.out))) : w.heap.size ≤ gb113)); have n5_ := Aside0.mk ((by rw [hg]; exact (below_size (by repeat (first | (with_reducible first | exact HB.out | apply below_alloc | apply pw_below_drewN | apply below_drew1 | refine below_set ?_ GE107.out | refine below_set ?_ GE109.out) | exact HB.out))) : w.heap.size ≤ gb113)); have n6_ := Aside0.mk ((by rw [hg]; exact Nat.ne_of_lt (blk_lt (g := gb107) (o := .cells #[.slice (some ad108) l0_0.length c0_0] 24 (0, 0)) (by (with_reducible repeat (first | refine blk_drewN ?_ _ | refine blk_drew ?_ | refine blk_alloc ?_ _)); exact BK107.out)) : gb107 ≠ gb113)); have n7_ := Aside0.mk ((by rw [hg]; exact Nat.ne_of_gt (blk_lt (g := gb107) (o := .cells #[.slice (some ad108) l0_0.length c0_0] 24 (0, 0)) (by (with_reducible repeat (first | refine blk_drewN ?_ _ | refine blk_drew ?_ | refine blk_alloc ?_ _)); exact BK107.out)) : gb113 ≠ gb107)); have n8_ := Aside0.mk ((by rw [hg]; exact Nat.ne_of_lt (blk_lt (g := gb109) (o := .cells #[.string ((rd_T34 l0_0 x20_2).f0), .slice (some ad112) ((rd_T34 l0_0 x20_2).f1).length c108_1] 34 (0, 0)) (by (with_reducible repeat (first | refine blk_drewN ?_ _ | refine blk_drew ?_ | refine blk_alloc ?_ _)); exact BK109.out)) : gb109 ≠ gb113)); have n9_ := Aside0.mk ((by rw [hg]; exact Nat.ne_of_gt (blk_lt (g := gb109) (o := .cells #[.string ((rd_T34 l0_0 x20_2).f0), .slice (some ad112) ((rd_T34 l0_0 x20_2).f1).length c108_1] 34 (0, 0)) (by (with_reducible repeat (first | refine blk_drewN ?_ _ | refine blk_drew ?_ | refine blk_alloc ?_ _)); exact BK109.out)) : gb113 ≠ gb109)); clear BK107; clear BK109; clear HB; have BK107 := n0_; have BK109 := n1_; have HB := n2_; have BK113 := n3_; have GW113 := n4_; have GE113 := n5_; have NB107_113 := n6_; have NB113_107 := n7_; have NB109_113 := n8_; have NB113_109 := n9_; clear n0_ n1_ n2_ n3_ n4_ n5_ n6_ n7_ n8_ n9_; clear hb hbox hg; have hnb57 := NB113_107.out; have hnc57 := NB107_113.out; have hnb58 := NB113_109.out; have hnc58 := NB109_113.out; have hcz59_0 : w56.cell? ⟨gb113, 0, none⟩ = some (.string (⟨#[]⟩ : ByteArray)) := (blk_cell BK113.out 0).trans rfl; have hcz59_1 : w56.cell? ⟨gb113, 1, none⟩ = some (.int .i64 0) := (blk_cell BK113.out 1).trans rfl; have hcz59_2 : w56.cell? ⟨gb113, 2, none⟩ = some (.string (⟨#[]⟩ : ByteArray)) := (blk_cell BK113.out 2).trans rfl; have hfz59_0 := blk_frozen BK113.out 0; have hfz59_1 := blk_frozen BK113.out 1; have hfz59_2 := blk_frozen BK113.out 2; have hnb60 := NB107_109.out; have hnc60 := NB109_107.out; have hcz61_0 : w56.cell? ⟨gb107, 0, none⟩ = some (.slice (some ad108) l0_0.length c0_0) := (blk_cell BK107.out 0).trans rfl; have hfz61_0 := blk_frozen BK107.out 0) | ((with_reducible refine gate_callee (f := 32) rfl ?_); refine goesL_ (some 53) rfl rfl Try.func32 (by kernel_rfl) rfl #[.agg #[.slice (some ad108) l0_0.length c0_0], .agg #[.string ((rd_T40 ((rd_T34 l0_0 x20_2).f1) x46_4).f0), .int .i64 ((rd_T40 ((rd_T34 l0_0 x20_2).f1) x46_4).f1), .string ((rd_T40 ((rd_T34 l0_0 x20_2).f1) x46_4).f2)]] rfl (by (try simp only [List.map_toArray, List.map_cons, List.map_nil]); first | done | rfl | (simp only [List.length_drop, List.length_take]; rfl)) ?_; (with_reducible refine (schema_field.calls _ _ l0_0 ((rd_T40 ((rd_T34 l0_0 x20_2).f1) x46_4).f0) ((rd_T40 ((rd_T34 l0_0 x20_2).f1) x46_4).f1) ((rd_T40 ((rd_T34 l0_0 x20_2).f1) x46_4).f2) true _ ?side1 ?side2 A42.out).mono ?_); (case side1 => exact Kd.C_below HR0_0.out (by repeat (first | (with_reducible first | exact HB.out | apply below_alloc | apply pw_below_drewN | apply below_drew1 | refine below_set ?_ GE107.out | refine below_set ?_ GE109.out | refine below_set ?_ GE113.out) | exact HB.out))); (case side2 => exact HC0_0.out); rintro e w62 ⟨rfl, hb⟩; refine ⟨_, rfl, ?_⟩; have n0_ := Aside0.mk (blk_below (g := gb107) (o := .cells #[.slice (some ad108) l0_0.length c0_0] 24 (0, 0)) (by (with_reducible repeat (first | refine blk_drewN ?_ _ | refine blk_drew ?_ | refine blk_alloc ?_ _)); refine blk_far ?_ NB107_113.out _; (with_reducible repeat (first | refine blk_drewN ?_ _ | refine blk_drew ?_ | refine blk_alloc ?_ _)); refine blk_far ?_ NB107_113.out _; (with_reducible repeat (first | refine blk_drewN ?_ _ | refine blk_drew ?_ | refine blk_alloc ?_ _)); refine blk_far ?_ NB107_113.out _; (with_reducible repeat (first | refine blk_drewN ?_ _ | refine blk_drew ?_ | refine blk_alloc ?_ _)); exact BK107.out) hb); have n1_ := Aside0.mk (blk_below (g := gb109) (o := .cells #[.string ((rd_T34 l0_0 x20_2).f0), .slice (some ad112) ((rd_T34 l0_0 x20_2).f1).length c108_1] 34 (0, 0)) (by (with_reducible repeat (first | refine blk_drewN ?_ _ | refine blk_drew ?_ | refine blk_alloc ?_ _)); refine blk_far ?_ NB109_113.out _; (with_reducible repeat (first | refine blk_drewN ?_ _ | refine blk_drew ?_ | refine blk_alloc ?_ _)); refine blk_far ?_ NB109_113.out _; (with_reducible repeat (first | refine blk_drewN ?_ _ | refine blk_drew ?_ | refine blk_alloc ?_ _)); refine blk_far ?_ NB109_113.out _; (with_reducible repeat (first | refine blk_drewN ?_ _ | refine blk_drew ?_ | refine blk_alloc ?_ _)); exact BK109.out) hb); have n2_ := Aside0.mk (blk_below (g := gb113) (o := .cells #[.string ((rd_T40 ((rd_T34 l0_0 x20_2).f1) x46_4).f0), .int .i64 ((rd_T40 ((rd_T34 l0_0 x20_2).f1) x46_4).f1), .string ((rd_T40 ((rd_T34 l0_0 x20_2).f1) x46_4).f2)] 40 (0, 0)) (by (with_reducible repeat (first | refine blk_drewN ?_ _ | refine blk_drew ?_ | refine blk_alloc ?_ _)); refine blk_put (cs := #[.string ((rd_T40 ((rd_T34 l0_0 x20_2).f1) x46_4).f0), .int .i64 ((rd_T40 ((rd_T34 l0_0 x20_2).f1) x46_4).f1), .string (⟨#[]⟩ : ByteArray)]) ?_ 2 _ rfl; (with_reducible repeat (first | refine blk_drewN ?_ _ | refine blk_drew ?_ | refine blk_alloc ?_ _)); refine blk_put (cs := #[.string ((rd_T40 ((rd_T34 l0_0 x20_2).f1) x46_4).f0), .int .i64 0, .string (⟨#[]⟩ : ByteArray)]) ?_ 1 _ rfl; (with_reducible repeat (first | refine blk_drewN ?_ _ | refine blk_drew ?_ | refine blk_alloc ?_ _)); refine blk_put (cs := #[.string (⟨#[]⟩ : ByteArray), .int .i64 0, .string (⟨#[]⟩ : ByteArray)]) ?_ 0 _ rfl; (with_reducible repeat (first | refine blk_drewN ?_ _ | refine blk_drew ?_ | refine blk_alloc ?_ _)); exact BK113.out) hb); have n3_ := Aside0.mk (below_step (by repeat (first | (with_reducible first | exact HB.out | apply below_alloc | apply pw_below_drewN | apply below_drew1 | refine below_set ?_ GE107.out | refine below_set ?_ GE109.out | refine below_set ?_ GE113.out) | exact HB.out)) hb); clear BK107; clear BK109; clear BK113; clear HB; have BK107 := n0_; have BK109 := n1_; have BK113 := n2_; have HB := n3_; clear n0_ n1_ n2_ n3_; (try clear hb); (try clear hb2); (try clear hk); (try clear hi); have hcz63_0 : w62.cell? ⟨gb109, 0, none⟩ = some (.string ((rd_T34 l0_0 x20_2).f0)) := (blk_cell BK109.out 0).trans rfl; have hcz63_1 : w62.cell? ⟨gb109, 1, none⟩ = some (.slice (some ad112) ((rd_T34 l0_0 x20_2).f1).length c108_1) := (blk_cell BK109.out 1).trans rfl; have hfz63_0 := blk_frozen BK109.out 0; have hfz63_1 := blk_frozen BK109.out 1; have hcz64_0 : w62.cell? ⟨gb113, 0, none⟩ = some (.string ((rd_T40 ((rd_T34 l0_0 x20_2).f1) x46_4).f0)) := (blk_cell BK113.out 0).trans rfl; have hcz64_1 : w62.cell? ⟨gb113, 1, none⟩ = some (.int .i64 ((rd_T40 ((rd_T34 l0_0 x20_2).f1) x46_4).f1)) := (blk_cell BK113.out 1).trans rfl; have hcz64_2 : w62.cell? ⟨gb113, 2, none⟩ = some (.string ((rd_T40 ((rd_T34 l0_0 x20_2).f1) x46_4).f2)) := (blk_cell BK113.out 2).trans rfl; have hfz64_0 := blk_frozen BK113.out 0; have hfz64_1 := blk_frozen BK113.out 1; have hfz64_2 := blk_frozen BK113.out 2) | (go_at_call 15; (with_reducible refine (schema_Field.calls ((rd_T34 l0_0 x20_2).f0) _ _ ((rd_T34 l0_0 x20_2).f1) ((rd_T40 ((rd_T34 l0_0 x20_2).f1) x46_4).f0) t115 _ ?side1 ?side2 A44.out).mono ?_); (case side1 => repeat (first | exact (Kd.C_below HR108_1.out HB.out) | (with_reducible refine Kd.C_alloc ?_ _) | (with_reducible refine Kd.C_drewN ?_ _) | (with_reducible refine Kd.C_drew ?_))); (case side2 => exact HC108_1.out); rintro e w65 ⟨rfl, hb⟩; have n0_ := Aside0.mk (blk_below (g := gb107) (o := .cells #[.slice (some ad108) l0_0.length c0_0] 24 (0, 0)) (by (with_reducible repeat (first | refine blk_drewN ?_ _ | refine blk_drew ?_ | refine blk_alloc ?_ _)); exact BK107.out) hb); have n1_ := Aside0.mk (blk_below (g := gb109) (o := .cells #[.string ((rd_T34 l0_0 x20_2).f0), .slice (some ad112) ((rd_T34 l0_0 x20_2).f1).length c108_1] 34 (0, 0)) (by (with_reducible repeat (first | refine blk_drewN ?_ _ | refine blk_drew ?_ | refine blk_alloc ?_ _)); exact BK109.out) hb); have n2_ := Aside0.mk (blk_below (g := gb113) (o := .cells #[.string ((rd_T40 ((rd_T34 l0_0 x20_2).f1) x46_4).f0), .int .i64 ((rd_T40 ((rd_T34 l0_0 x20_2).f1) x46_4).f1), .string ((rd_T40 ((rd_T34 l0_0 x20_2).f1) x46_4).f2)] 40 (0, 0)) (by (with_reducible repeat (first | refine blk_drewN ?_ _ | refine blk_drew ?_ | refine blk_alloc ?_ _)); exact BK113.out) hb); have n3_ := Aside0.mk (below_step (by repeat (first | (with_reducible first | exact HB.out | apply below_alloc | apply pw_below_drewN | apply below_drew1 | refine below_set ?_ GE107.out | refine below_set ?_ GE109.out | refine below_set ?_ GE113.out) | exact HB.out)) hb); clear BK107; clear BK109; clear BK113; clear HB; have BK107 := n0_; have BK109 := n1_; have BK113 := n2_; have HB := n3_; clear n0_ n1_ n2_ n3_; (try clear hb); (try clear hb2); (try clear hk); (try clear hi)))
                                      go_ret
                                      exact ⟨by first | rfl | (simp [errW_none, errW_some] <;> rfl) | (simp [*, errW_none, errW_some] <;> rfl), by repeat (first | (with_reducible first | exact HB.out | apply below_alloc | apply pw_below_drewN | apply below_drew1 | refine below_set ?_ GE107.out | refine below_set ?_ GE109.out | refine below_set ?_ GE113.out) | exact HB.out)⟩
                                  · replace c43 := Bool.eq_false_iff.mpr c43
                                    subst c43
                                    have H1 : (some false) = some r := by rw [if_neg (show ¬ (false = true) by decide)] at H; exact H
                                    clear H
                                    have H := H1
                                    clear H1
                                    obtain rfl := Option.some.inj H
                                    have p112 : 0 ≤ (x46_4 : Int) := of_decide_eq_true (by first | (with_reducible assumption) | assumption)
                                    have q112 : x46_4 < (((rd_T34 l0_0 x20_2).f1).length : Int) := of_decide_eq_true (by first | (with_reducible assumption) | assumption)
                                    obtain ⟨ad112, e112, hx112_0, hx112_1, hx112_2⟩ := at_T40 HR108_1.out x46_4 p112 q112
                                    cases e112
                                    replace hx112_0 := (HB.out.cell (World.block_lt_of_cell? w _ hx112_0)).trans hx112_0
                                    replace hx112_1 := (HB.out.cell (World.block_lt_of_cell? w _ hx112_1)).trans hx112_1
                                    replace hx112_2 := (HB.out.cell (World.block_lt_of_cell? w _ hx112_2)).trans hx112_2
                                    replace p112 := eq_true p112
                                    replace q112 := eq_true q112
                                    go_wp2_with (first | ((with_reducible refine gate_dst (N := 6) rfl ?_); (try (refine gate_guard (by rfl) ?_; dsimp only)); refine box_event ?hg (N := 6) ?hd (cs := #[.string (⟨#[]⟩ : ByteArray), .int .i64 0, .string (⟨#[]⟩ : ByteArray)]) (t := 40) ?hr ?_; (case hd => rfl); (case hg => rfl); (case hr => first | (go_simp; done) | (go_simp; rfl)); intro gb113 hg w66 hbox hb; have n0_ := Aside0.mk (blk_below (g := gb107) (o := .cells #[.slice (some ad108) l0_0.length c0_0] 24 (0, 0)) (by (with_reducible repeat (first | refine blk_drewN ?_ _ | refine blk_drew ?_ | refine blk_alloc ?_ _)); exact BK107.out) hb); have n1_ := Aside0.mk (blk_below (g := gb109) (o := .cells #[.string ((rd_T34 l0_0 x20_2).f0), .slice (some ad112) ((rd_T34 l0_0 x20_2).f1).length c108_1] 34 (0, 0)) (by (with_reducible repeat (first | refine blk_drewN ?_ _ | refine blk_drew ?_ | refine blk_alloc ?_ _)); exact BK109.out) hb); have n2_ := Aside0.mk (below_step (by repeat (first | (with_reducible first | exact HB.out | apply below_alloc | apply pw_below_drewN | apply below_drew1 | refine below_set ?_ GE107.out | refine below_set ?_ GE109.out) | exact HB.out)) hb); have n3_ := Aside0.mk (hbox); have n4_ := Aside0.mk ((by rw [hg]; exact (below_size (by repeat (first | (with_reducible first | exact HB.out | apply below_alloc | apply pw_below_drewN | apply below_drew1 | refine below_set ?_ GE107.out | refine below_set ?_ GE109.out) | exact HB.out))) : w.heap.size ≤ gb113)); have n5_ := Aside0.mk ((by rw [hg]; exact (below_size (by repeat (first | (with_reducible first | exact HB.out | apply below_alloc | apply pw_below_drewN | apply below_drew1 | refine below_set ?_ GE107.out | refine below_set ?_ GE109.out) | exact HB.out))) : w.heap.size ≤ gb113)); have n6_ := Aside0.mk ((by rw [hg]; exact Nat.ne_of_lt (blk_lt (g := gb107) (o := .cells #[.slice (some ad108) l0_0.length c0_0] 24 (0, 0)) (by (with_reducible repeat (first | refine blk_drewN ?_ _ | refine blk_drew ?_ | refine blk_alloc ?_ _)); exact BK107.out)) : gb107 ≠ gb113)); have n7_ := Aside0.mk ((by rw [hg]; exact Nat.ne_of_gt (blk_lt (g := gb107) (o := .cells #[.slice (some ad108) l0_0.length c0_0] 24 (0, 0)) (by (with_reducible repeat (first | refine blk_drewN ?_ _ | refine blk_drew ?_ | refine blk_alloc ?_ _)); exact BK107.out)) : gb113 ≠ gb107)); have n8_ := Aside0.mk ((by rw [hg]; exact Nat.ne_of_lt (blk_lt (g := gb109) (o := .cells #[.string ((rd_T34 l0_0 x20_2).f0), .slice (some ad112) ((rd_T34 l0_0 x20_2).f1).length c108_1] 34 (0, 0)) (by (with_reducible repeat (first | refine blk_drewN ?_ _ | refine blk_drew ?_ | refine blk_alloc ?_ _)); exact BK109.out)) : gb109 ≠ gb113)); have n9_ := Aside0.mk ((by rw [hg]; exact Nat.ne_of_gt (blk_lt (g := gb109) (o := .cells #[.string ((rd_T34 l0_0 x20_2).f0), .slice (some ad112) ((rd_T34 l0_0 x20_2).f1).length c108_1] 34 (0, 0)) (by (with_reducible repeat (first | refine blk_drewN ?_ _ | refine blk_drew ?_ | refine blk_alloc ?_ _)); exact BK109.out)) : gb113 ≠ gb109)); clear BK107; clear BK109; clear HB; have BK107 := n0_; have BK109 := n1_; have HB := n2_; have BK113 := n3_; have GW113 := n4_; have GE113 := n5_; have NB107_113 := n6_; have NB113_107 := n7_; have NB109_113 := n8_; have NB113_109 := n9_; clear n0_ n1_ n2_ n3_ n4_ n5_ n6_ n7_ n8_ n9_; clear hb hbox hg; have hnb67 := NB113_107.out; have hnc67 := NB107_113.out; have hnb68 := NB113_109.out; have hnc68 := NB109_113.out; have hcz69_0 : w66.cell? ⟨gb113, 0, none⟩ = some (.string (⟨#[]⟩ : ByteArray)) := (blk_cell BK113.out 0).trans rfl; have hcz69_1 : w66.cell? ⟨gb113, 1, none⟩ = some (.int .i64 0) := (blk_cell BK113.out 1).trans rfl; have hcz69_2 : w66.cell? ⟨gb113, 2, none⟩ = some (.string (⟨#[]⟩ : ByteArray)) := (blk_cell BK113.out 2).trans rfl; have hfz69_0 := blk_frozen BK113.out 0; have hfz69_1 := blk_frozen BK113.out 1; have hfz69_2 := blk_frozen BK113.out 2; have hnb70 := NB107_109.out; have hnc70 := NB109_107.out; have hcz71_0 : w66.cell? ⟨gb107, 0, none⟩ = some (.slice (some ad108) l0_0.length c0_0) := (blk_cell BK107.out 0).trans rfl; have hfz71_0 := blk_frozen BK107.out 0) | ((with_reducible refine gate_callee (f := 32) rfl ?_); refine goesL_ (some 53) rfl rfl Try.func32 (by kernel_rfl) rfl #[.agg #[.slice (some ad108) l0_0.length c0_0], .agg #[.string ((rd_T40 ((rd_T34 l0_0 x20_2).f1) x46_4).f0), .int .i64 ((rd_T40 ((rd_T34 l0_0 x20_2).f1) x46_4).f1), .string ((rd_T40 ((rd_T34 l0_0 x20_2).f1) x46_4).f2)]] rfl (by (try simp only [List.map_toArray, List.map_cons, List.map_nil]); first | done | rfl | (simp only [List.length_drop, List.length_take]; rfl)) ?_; (with_reducible refine (schema_field.calls _ _ l0_0 ((rd_T40 ((rd_T34 l0_0 x20_2).f1) x46_4).f0) ((rd_T40 ((rd_T34 l0_0 x20_2).f1) x46_4).f1) ((rd_T40 ((rd_T34 l0_0 x20_2).f1) x46_4).f2) false _ ?side1 ?side2 A42.out).mono ?_); (case side1 => exact Kd.C_below HR0_0.out (by repeat (first | (with_reducible first | exact HB.out | apply below_alloc | apply pw_below_drewN | apply below_drew1 | refine below_set ?_ GE107.out | refine below_set ?_ GE109.out | refine below_set ?_ GE113.out) | exact HB.out))); (case side2 => exact HC0_0.out); rintro e w72 ⟨rfl, hb⟩; refine ⟨_, rfl, ?_⟩; have n0_ := Aside0.mk (blk_below (g := gb107) (o := .cells #[.slice (some ad108) l0_0.length c0_0] 24 (0, 0)) (by (with_reducible repeat (first | refine blk_drewN ?_ _ | refine blk_drew ?_ | refine blk_alloc ?_ _)); refine blk_far ?_ NB107_113.out _; (with_reducible repeat (first | refine blk_drewN ?_ _ | refine blk_drew ?_ | refine blk_alloc ?_ _)); refine blk_far ?_ NB107_113.out _; (with_reducible repeat (first | refine blk_drewN ?_ _ | refine blk_drew ?_ | refine blk_alloc ?_ _)); refine blk_far ?_ NB107_113.out _; (with_reducible repeat (first | refine blk_drewN ?_ _ | refine blk_drew ?_ | refine blk_alloc ?_ _)); exact BK107.out) hb); have n1_ := Aside0.mk (blk_below (g := gb109) (o := .cells #[.string ((rd_T34 l0_0 x20_2).f0), .slice (some ad112) ((rd_T34 l0_0 x20_2).f1).length c108_1] 34 (0, 0)) (by (with_reducible repeat (first | refine blk_drewN ?_ _ | refine blk_drew ?_ | refine blk_alloc ?_ _)); refine blk_far ?_ NB109_113.out _; (with_reducible repeat (first | refine blk_drewN ?_ _ | refine blk_drew ?_ | refine blk_alloc ?_ _)); refine blk_far ?_ NB109_113.out _; (with_reducible repeat (first | refine blk_drewN ?_ _ | refine blk_drew ?_ | refine blk_alloc ?_ _)); refine blk_far ?_ NB109_113.out _; (with_reducible repeat (first | refine blk_drewN ?_ _ | refine blk_drew ?_ | refine blk_alloc ?_ _)); exact BK109.out) hb); have n2_ := Aside0.mk (blk_below (g := gb113) (o := .cells #[.string ((rd_T40 ((rd_T34 l0_0 x20_2).f1) x46_4).f0), .int .i64 ((rd_T40 ((rd_T34 l0_0 x20_2).f1) x46_4).f1), .string ((rd_T40 ((rd_T34 l0_0 x20_2).f1) x46_4).f2)] 40 (0, 0)) (by (with_reducible repeat (first | refine blk_drewN ?_ _ | refine blk_drew ?_ | refine blk_alloc ?_ _)); refine blk_put (cs := #[.string ((rd_T40 ((rd_T34 l0_0 x20_2).f1) x46_4).f0), .int .i64 ((rd_T40 ((rd_T34 l0_0 x20_2).f1) x46_4).f1), .string (⟨#[]⟩ : ByteArray)]) ?_ 2 _ rfl; (with_reducible repeat (first | refine blk_drewN ?_ _ | refine blk_drew ?_ | refine blk_alloc ?_ _)); refine blk_put (cs := #[.string ((rd_T40 ((rd_T34 l0_0 x20_2).f1) x46_4).f0), .int .i64 0, .string (⟨#[]⟩ : ByteArray)]) ?_ 1 _ rfl; (with_reducible repeat (first | refine blk_drewN ?_ _ | refine blk_drew ?_ | refine blk_alloc ?_ _)); refine blk_put (cs := #[.string (⟨#[]⟩ : ByteArray), .int .i64 0, .string (⟨#[]⟩ : ByteArray)]) ?_ 0 _ rfl; (with_reducible repeat (first | refine blk_drewN ?_ _ | refine blk_drew ?_ | refine blk_alloc ?_ _)); exact BK113.out) hb); have n3_ := Aside0.mk (below_step (by repeat (first | (with_reducible first | exact HB.out | apply below_alloc | apply pw_below_drewN | apply below_drew1 | refine below_set ?_ GE107.out | refine below_set ?_ GE109.out | refine below_set ?_ GE113.out) | exact HB.out)) hb); clear BK107; clear BK109; clear BK113; clear HB; have BK107 := n0_; have BK109 := n1_; have BK113 := n2_; have HB := n3_; clear n0_ n1_ n2_ n3_; (try clear hb); (try clear hb2); (try clear hk); (try clear hi)))
                                    go_ret
                                    exact ⟨by first | rfl | (simp [errW_none, errW_some] <;> rfl) | (simp [*, errW_none, errW_some] <;> rfl), by repeat (first | (with_reducible first | exact HB.out | apply below_alloc | apply pw_below_drewN | apply below_drew1 | refine below_set ?_ GE107.out | refine below_set ?_ GE109.out | refine below_set ?_ GE113.out) | exact HB.out)⟩
                                · rw [if_neg c41] at H
                                  exact absurd H (by simp)
                              · rw [if_neg c40] at H
                                exact absurd H (by simp)
                            · rw [if_neg c39] at H
                              have c39b0 : decide (x46_4 < (((rd_T34 l0_0 x20_2).f1).length : Int)) = false := decide_eq_false c39
                              clear c39
                              have H' := Aside0.mk H
                              clear H
                              go_wp2
                              go_roundg k4
                              case measure => have := HJ1.out; have := HK2.out; have := HJ11.out; have := HK4.out; omega
                              case rel => exact ⟨(wrap64 (x20_2 + 1)), (by first | rfl | (simp; done) | (simp [*]; done)), H', ⟨by have := HJ1.out; have := HK2.out; have := HJ11.out; have := HK4.out; omega⟩, ⟨by (with_reducible repeat (first | refine blk_drewN ?_ _ | refine blk_drew ?_ | refine blk_alloc ?_ _)); exact BK107.out⟩, ⟨by repeat (first | (with_reducible first | exact HB.out | apply below_alloc | apply pw_below_drewN | apply below_drew1 | refine below_set ?_ GE107.out | refine below_set ?_ GE109.out) | exact HB.out)⟩⟩
                · rw [if_neg c11] at H
                  exact absurd H (by simp)
              · rw [if_neg c10] at H
                exact absurd H (by simp)
            · rw [if_neg c9] at H
              have c9b0 : decide (x20_2 < (l0_0.length : Int)) = false := decide_eq_false c9
              clear c9
              obtain rfl := Option.some.inj H
              go_wp2
              go_ret
              exact ⟨by first | rfl | (simp [errW_none, errW_some] <;> rfl) | (simp [*, errW_none, errW_some] <;> rfl), by repeat (first | (with_reducible first | exact HB.out | apply below_alloc | apply pw_below_drewN | apply below_drew1 | refine below_set ?_ GE107.out) | exact HB.out)⟩

/-! ### schema_kinds: function 36 -/
theorem schema_kinds.calls (w : World) : Calls Try.prog 36 #[] w fun e w' => e = .returned (.agg #[.string ⟨#[105, 56]⟩, .string ⟨#[105, 49, 54]⟩, .string ⟨#[105, 51, 50]⟩, .string ⟨#[105, 54, 52]⟩, .string ⟨#[116]⟩, .string ⟨#[42]⟩]) ∧ w' = w.alloc (.cells #[.string ⟨#[105, 56]⟩, .string ⟨#[105, 49, 54]⟩, .string ⟨#[105, 51, 50]⟩, .string ⟨#[105, 54, 52]⟩, .string ⟨#[116]⟩, .string ⟨#[42]⟩] 63) := by
  have und : Try.prog.underlying 63 = some (.array 6 9) := Try.underlying63
  have sz : (Try.prog.info? 63).map (·.size) = some 6 := by kernel_rfl
  go_enter Try.func36, Try.ntmps36
  go_wp2
  exact bodyPost_ret (results_cell_row Try.results36 _ _ w.heap.size 63 _ (0, 0) _ rfl (blk_new w _) und rfl sz) rfl ⟨rfl, rfl⟩

-- NOT PRINTED: function 56 (abi_NoEscape)

-- NOT PRINTED: function 48 (strings_Builder_copyCheck)

-- NOT PRINTED: function 37 (strings_Builder_WriteString)

-- NOT PRINTED: function 39 (strings_Builder_String)

-- NOT PRINTED: function 59 (bytealg_MakeNoZero)

-- NOT PRINTED: function 57 (strings_Builder_grow)

-- NOT PRINTED: function 49 (strings_Builder_Grow)

-- NOT PRINTED: function 38 (strings_Join)

end Go.Proofs.Ytlcanmndeempfaa.PMo
