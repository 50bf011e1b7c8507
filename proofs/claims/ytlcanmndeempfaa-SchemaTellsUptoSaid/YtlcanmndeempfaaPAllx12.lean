-- Written by wip/tools/myprint.py, a program of the prover's own, over the kit's print; the contracts named 'HAND' there are typed by hand.
import Derived.Test.YtlcanmndeempfaaPAllx0
import Derived.Test.YtlcanmndeempfaaPAllx9
import Derived.Test.YtlcanmndeempfaaPAllx11
namespace Go.Proofs.Ytlcanmndeempfaa.PAll
open Go.RowKit Go.Proofs.YtlcanmndeempfaaW.PrintWords Go.Proofs.YtlcanmndeempfaaW.PrintLast Go.Proofs.YtlcanmndeempfaaW.PrintMore
attribute [local go_sem] max2_int min2_int max_two min_two max_three min_three max_four min_four   -- for this text's walks alone
set_option linter.unusedVariables false
set_option linter.unusedSimpArgs false

/-! ### foliateref06_May: function 14 -/
mutual
def foliateref06_May.l0 : Nat → Int → List (S34) → Option (Bool)
  | 0, _, _ => none
  | k + 1, x3, x175000 => if x3 < (x175000.length : Int) then (if 0 ≤ x3 then ((foliateref05_May.f k ((rd_T34 x175000 x3).f0)).bind fun t177 => (if t177 = true then ((foliateref06_Find.f k x175000 ((rd_T34 x175000 x3).f0)).bind fun t178 => (if t178 = x3 then (foliateref06_May.j1 k x3 (decide ((((rd_T34 x175000 x3).f1).length : Int) > 5)) x175000 ((rd_T34 x175000 x3).f0) ((rd_T34 x175000 x3).f1)) else (foliateref06_May.j1 k x3 true x175000 ((rd_T34 x175000 x3).f0) ((rd_T34 x175000 x3).f1)))) else (foliateref06_May.j1 k x3 true x175000 ((rd_T34 x175000 x3).f0) ((rd_T34 x175000 x3).f1)))) else (none)) else (if (x175000.length : Int) ≥ 1 then (some (decide ((x175000.length : Int) ≤ 4))) else (some false))
def foliateref06_May.j1 : Nat → Int → Bool → List (S34) → ByteArray → List (S40) → Option (Bool)
  | 0, _, _, _, _, _ => none
  | k + 1, x3, x39, x175000, x177000, x177001 => if x39 = true then (some false) else (foliateref06_May.l1 k x3 0 x175000 x177000 x177001)
def foliateref06_May.l1 : Nat → Int → Int → List (S34) → ByteArray → List (S40) → Option (Bool)
  | 0, _, _, _, _, _ => none
  | k + 1, x3, x6, x175000, x177000, x177001 => if x6 < (x177001.length : Int) then (if 0 ≤ x6 then ((foliateref05_May.f k ((rd_T40 x177001 x6).f0)).bind fun t181 => (if t181 = true then ((foliateref06_Field.f k x177000 x177001 ((rd_T40 x177001 x6).f0)).bind fun t182 => (if t182 = x6 then (if ((rd_T40 x177001 x6).f1) < 0 then (foliateref06_May.j3 k x3 x6 true x175000 x177000 x177001 ((rd_T40 x177001 x6).f0) ((rd_T40 x177001 x6).f1) ((rd_T40 x177001 x6).f2)) else (foliateref06_May.j3 k x3 x6 (decide (((rd_T40 x177001 x6).f1) ≥ 6)) x175000 x177000 x177001 ((rd_T40 x177001 x6).f0) ((rd_T40 x177001 x6).f1) ((rd_T40 x177001 x6).f2))) else (foliateref06_May.j3 k x3 x6 true x175000 x177000 x177001 ((rd_T40 x177001 x6).f0) ((rd_T40 x177001 x6).f1) ((rd_T40 x177001 x6).f2)))) else (foliateref06_May.j3 k x3 x6 true x175000 x177000 x177001 ((rd_T40 x177001 x6).f0) ((rd_T40 x177001 x6).f1) ((rd_T40 x177001 x6).f2)))) else (none)) else (foliateref06_May.l0 k (wrap64 (x3 + 1)) x175000)
def foliateref06_May.j3 : Nat → Int → Int → Bool → List (S34) → ByteArray → List (S40) → ByteArray → Int → ByteArray → Option (Bool)
  | 0, _, _, _, _, _, _, _, _, _ => none
  | k + 1, x3, x6, x74, x175000, x177000, x177001, x181000, x181001, x181002 => if x74 = true then (some false) else (if x181001 = 5 then ((foliateref06_Find.f k x175000 x181002).bind fun t183 => (if t183 < 0 then (some false) else (foliateref06_May.l1 k x3 (wrap64 (x6 + 1)) x175000 x177000 x177001))) else (if x181002.toList = ([] : List UInt8) then (foliateref06_May.l1 k x3 (wrap64 (x6 + 1)) x175000 x177000 x177001) else (some false)))
end
def foliateref06_May.f (k : Nat) (l0_0 : List (S34)) : Option (Bool) := foliateref06_May.l0 k 0 l0_0
set_option maxHeartbeats 8000000 in
set_option maxRecDepth 100000 in
theorem foliateref06_May.calls (k : Nat) (A0_0 : Option Addr) (c0_0 : Nat) (l0_0 : List (S34)) (r : Bool) (w : World) (hr0_0 : Kd.C k34 w A0_0 l0_0.length l0_0) (hc0_0 : l0_0.length ≤ c0_0) (h : foliateref06_May.f k l0_0 = some r) :
    Calls Try.prog 14 #[.agg #[.slice A0_0 l0_0.length c0_0]] w fun e w' => e = .returned (.bool r) ∧ Below w.heap.size w w' := by
  have hu24 := Try.underlying24
  have hu34 := Try.underlying34
  have hu40 := Try.underlying40
  have HR0_0 := Aside0.mk hr0_0
  have HC0_0 := Aside0.mk hc0_0
  clear hr0_0 hc0_0
  have HB := Aside0.mk (Below.refl w.heap.size w)
  have H : (foliateref06_May.l0 k 0 l0_0) = some r := h
  clear h
  have H' := Aside0.mk H
  clear H
  go_enter Try.func14, Try.ntmps14
  go_wp2_with (first | ((with_reducible refine gate_dst (N := 1) rfl ?_); (try (refine gate_guard (by rfl) ?_; dsimp only)); refine box_event ?hg (N := 1) ?hd (cs := #[.slice A0_0 l0_0.length c0_0]) (t := 24) ?hr ?_; (case hd => rfl); (case hg => rfl); (case hr => first | (go_simp; done) | (go_simp; rfl)); intro gb174 hg w2 hbox hb; have n0_ := Aside0.mk (below_step (by repeat (first | (with_reducible first | exact HB.out | apply below_alloc | apply pw_below_drewN | apply below_drew1) | exact HB.out)) hb); have n1_ := Aside0.mk (hbox); have n2_ := Aside0.mk ((by rw [hg]; exact (below_size (by repeat (first | (with_reducible first | exact HB.out | apply below_alloc | apply pw_below_drewN | apply below_drew1) | exact HB.out))) : w.heap.size ≤ gb174)); have n3_ := Aside0.mk ((by rw [hg]; exact (below_size (by repeat (first | (with_reducible first | exact HB.out | apply below_alloc | apply pw_below_drewN | apply below_drew1) | exact HB.out))) : w.heap.size ≤ gb174)); clear HB; have HB := n0_; have BK174 := n1_; have GW174 := n2_; have GE174 := n3_; clear n0_ n1_ n2_ n3_; clear hb hbox hg))
  go_loopg [3] k (fun kq v3 w' => ∃ (x3_1 : Int), v3 = .int .i64 x3_1 ∧ Aside0 (foliateref06_May.l0 kq x3_1 l0_0 = some r) ∧ Aside0 (kq ≤ k) ∧ Aside0 (w'.heap[gb174]? = some (.cells #[(.slice A0_0 l0_0.length c0_0)] 24 (0, 0))) ∧ Aside0 (Below w.heap.size w w'))
  case atStart => exact ⟨(0), (by first | rfl | (simp; done) | (simp [*]; done)), H', ⟨Nat.le_refl _⟩, ⟨by (with_reducible repeat (first | refine blk_drewN ?_ _ | refine blk_drew ?_ | refine blk_alloc ?_ _)); exact BK174.out⟩, ⟨by repeat (first | (with_reducible first | exact HB.out | apply below_alloc | apply pw_below_drewN | apply below_drew1 | refine below_set ?_ GE174.out) | exact HB.out)⟩⟩
  case round =>
    clear H'
    try clear c1
    try clear p2
    obtain ⟨x3_1, rfl, HA, HK1, BK174, HB⟩ := hrel
    cases gk with
    | zero => exact absurd HA.out (by simp [foliateref06_May.l0])
    | succ k1 =>
      have H := HA.out
      clear HA
      simp only [foliateref06_May.l0] at H
      by_cases c3 : x3_1 < (l0_0.length : Int)
      · rw [if_pos c3] at H
        have c3b0 : decide (x3_1 < (l0_0.length : Int)) = true := decide_eq_true c3
        clear c3
        by_cases c4 : 0 ≤ x3_1
        · rw [if_pos c4] at H
          have c4b0 : decide (0 ≤ x3_1) = true := decide_eq_true c4
          clear c4
          replace H := Option.bind_eq_some_iff.mp H
          obtain ⟨t177, A50, H⟩ := H
          replace H : (if t177 = true then ((foliateref06_Find.f k1 l0_0 ((rd_T34 l0_0 x3_1).f0)).bind fun t178 => (if t178 = x3_1 then (foliateref06_May.j1 k1 x3_1 (decide ((((rd_T34 l0_0 x3_1).f1).length : Int) > 5)) l0_0 ((rd_T34 l0_0 x3_1).f0) ((rd_T34 l0_0 x3_1).f1)) else (foliateref06_May.j1 k1 x3_1 true l0_0 ((rd_T34 l0_0 x3_1).f0) ((rd_T34 l0_0 x3_1).f1)))) else (foliateref06_May.j1 k1 x3_1 true l0_0 ((rd_T34 l0_0 x3_1).f0) ((rd_T34 l0_0 x3_1).f1))) = some r := H
          have A5 := Aside0.mk A50
          clear A50
          have HC6 := Aside0.mk H
          clear H
          have hcz7_0 : wr.cell? ⟨gb174, 0, none⟩ = some (.slice A0_0 l0_0.length c0_0) := (blk_cell BK174.out 0).trans rfl
          have hfz7_0 := blk_frozen BK174.out 0
          have p175 : 0 ≤ (x3_1 : Int) := of_decide_eq_true (by first | (with_reducible assumption) | assumption)
          have q175 : x3_1 < (l0_0.length : Int) := of_decide_eq_true (by first | (with_reducible assumption) | assumption)
          obtain ⟨ad175, A175_1, c175_1, e175, hx175_0, hx175_1, hl175_1, hi175_1⟩ := at_T34 HR0_0.out x3_1 p175 q175
          cases e175
          replace hx175_0 := (HB.out.cell (World.block_lt_of_cell? w _ hx175_0)).trans hx175_0
          replace hx175_1 := (HB.out.cell (World.block_lt_of_cell? w _ hx175_1)).trans hx175_1
          have HR175_1 := Aside0.mk hi175_1
          have HC175_1 := Aside0.mk hl175_1
          clear hi175_1 hl175_1
          replace p175 := eq_true p175
          replace q175 := eq_true q175
          go_upto_region 6 with (first | ((with_reducible refine gate_dst (N := 4) rfl ?_); (try (refine gate_guard (by rfl) ?_; dsimp only)); refine box_event ?hg (N := 4) ?hd (cs := #[.string (⟨#[]⟩ : ByteArray), .slice none 0 0]) (t := 34) ?hr ?_; (case hd => rfl); (case hg => rfl); (case hr => first | (go_simp; done) | (go_simp; rfl)); intro gb176 hg w8 hbox hb; have n0_ := Aside0.mk (blk_below (g := gb174) (o := .cells #[.slice (some ad175) l0_0.length c0_0] 24 (0, 0)) (by (with_reducible repeat (first | refine blk_drewN ?_ _ | refine blk_drew ?_ | refine blk_alloc ?_ _)); exact BK174.out) hb); have n1_ := Aside0.mk (below_step (by repeat (first | (with_reducible first | exact HB.out | apply below_alloc | apply pw_below_drewN | apply below_drew1 | refine below_set ?_ GE174.out) | exact HB.out)) hb); have n2_ := Aside0.mk (hbox); have n3_ := Aside0.mk ((by rw [hg]; exact (below_size (by repeat (first | (with_reducible first | exact HB.out | apply below_alloc | apply pw_below_drewN | apply below_drew1 | refine below_set ?_ GE174.out) | exact HB.out))) : w.heap.size ≤ gb176)); have n4_ := Aside0.mk ((by rw [hg]; exact (below_size (by repeat (first | (with_reducible first | exact HB.out | apply below_alloc | apply pw_below_drewN | apply below_drew1 | refine below_set ?_ GE174.out) | exact HB.out))) : w.heap.size ≤ gb176)); have n5_ := Aside0.mk ((by rw [hg]; exact Nat.ne_of_lt (blk_lt (g := gb174) (o := .cells #[.slice (some ad175) l0_0.length c0_0] 24 (0, 0)) (by (with_reducible repeat (first | refine blk_drewN ?_ _ | refine blk_drew ?_ | refine blk_alloc ?_ _)); exact BK174.out)) : gb174 ≠ gb176)); have n6_ := Aside0.mk ((by rw [hg]; exact Nat.ne_of_gt (blk_lt (g := gb174) (o := .cells #[.slice (some ad175) l0_0.length c0_0] 24 (0, 0)) (by (with_reducible repeat (first | refine blk_drewN ?_ _ | refine blk_drew ?_ | refine blk_alloc ?_ _)); exact BK174.out)) : gb176 ≠ gb174)); clear BK174; clear HB; have BK174 := n0_; have HB := n1_; have BK176 := n2_; have GW176 := n3_; have GE176 := n4_; have NB174_176 := n5_; have NB176_174 := n6_; clear n0_ n1_ n2_ n3_ n4_ n5_ n6_; clear hb hbox hg; have hnb9 := NB176_174.out; have hnc9 := NB174_176.out; have hcz10_0 : w8.cell? ⟨gb176, 0, none⟩ = some (.string (⟨#[]⟩ : ByteArray)) := (blk_cell BK176.out 0).trans rfl; have hcz10_1 : w8.cell? ⟨gb176, 1, none⟩ = some (.slice none 0 0) := (blk_cell BK176.out 1).trans rfl; have hfz10_0 := blk_frozen BK176.out 0; have hfz10_1 := blk_frozen BK176.out 1) | ((with_reducible refine gate_callee (f := 28) rfl ?_); refine goesL_ (some 23) rfl rfl Try.func28 (by kernel_rfl) rfl #[.string ((rd_T34 l0_0 x3_1).f0)] rfl (by (try simp only [List.map_toArray, List.map_cons, List.map_nil]); first | done | rfl | (simp only [List.length_drop, List.length_take]; rfl)) ?_; (with_reducible refine (foliateref05_May.calls k1 ((rd_T34 l0_0 x3_1).f0) t177 _ A5.out).mono ?_); rintro e w11 ⟨rfl, hb⟩; refine ⟨_, rfl, ?_⟩; have n0_ := Aside0.mk (blk_below (g := gb174) (o := .cells #[.slice (some ad175) l0_0.length c0_0] 24 (0, 0)) (by (with_reducible repeat (first | refine blk_drewN ?_ _ | refine blk_drew ?_ | refine blk_alloc ?_ _)); refine blk_far ?_ NB174_176.out _; (with_reducible repeat (first | refine blk_drewN ?_ _ | refine blk_drew ?_ | refine blk_alloc ?_ _)); refine blk_far ?_ NB174_176.out _; (with_reducible repeat (first | refine blk_drewN ?_ _ | refine blk_drew ?_ | refine blk_alloc ?_ _)); exact BK174.out) hb); have n1_ := Aside0.mk (blk_below (g := gb176) (o := .cells #[.string ((rd_T34 l0_0 x3_1).f0), .slice A175_1 ((rd_T34 l0_0 x3_1).f1).length c175_1] 34 (0, 0)) (by (with_reducible repeat (first | refine blk_drewN ?_ _ | refine blk_drew ?_ | refine blk_alloc ?_ _)); refine blk_put (cs := #[.string ((rd_T34 l0_0 x3_1).f0), .slice none 0 0]) ?_ 1 _ rfl; (with_reducible repeat (first | refine blk_drewN ?_ _ | refine blk_drew ?_ | refine blk_alloc ?_ _)); refine blk_put (cs := #[.string (⟨#[]⟩ : ByteArray), .slice none 0 0]) ?_ 0 _ rfl; (with_reducible repeat (first | refine blk_drewN ?_ _ | refine blk_drew ?_ | refine blk_alloc ?_ _)); exact BK176.out) hb); have n2_ := Aside0.mk (below_step (by repeat (first | (with_reducible first | exact HB.out | apply below_alloc | apply pw_below_drewN | apply below_drew1 | refine below_set ?_ GE174.out | refine below_set ?_ GE176.out) | exact HB.out)) hb); clear BK174; clear BK176; clear HB; have BK174 := n0_; have BK176 := n1_; have HB := n2_; clear n0_ n1_ n2_; (try clear hb); (try clear hb2); (try clear hk); (try clear hi)))
          (try simp only [Act.put, List.setIfInBounds_toArray, List.set_cons_zero, List.set_cons_succ])
          go_cut [39] (fun v39 wc => ∃ (kq : Nat) (x39_5 : Bool), v39 = .bool x39_5 ∧ Aside0 (foliateref06_May.j1 kq x3_1 x39_5 l0_0 ((rd_T34 l0_0 x3_1).f0) ((rd_T34 l0_0 x3_1).f1) = some r) ∧ Aside0 (kq ≤ k1) ∧ Aside0 (wc.heap[gb174]? = some (.cells #[(.slice (some ad175) l0_0.length c0_0)] 24 (0, 0))) ∧ Aside0 (wc.heap[gb176]? = some (.cells #[.string ((rd_T34 l0_0 x3_1).f0), (.slice A175_1 ((rd_T34 l0_0 x3_1).f1).length c175_1)] 34 (0, 0))) ∧ Aside0 (Below w.heap.size w wc))
          case first =>
            have H := HC6.out
            clear HC6
            by_cases c12 : t177 = true
            · subst c12
              have H1 : ((foliateref06_Find.f k1 l0_0 ((rd_T34 l0_0 x3_1).f0)).bind fun t178 => (if t178 = x3_1 then (foliateref06_May.j1 k1 x3_1 (decide ((((rd_T34 l0_0 x3_1).f1).length : Int) > 5)) l0_0 ((rd_T34 l0_0 x3_1).f0) ((rd_T34 l0_0 x3_1).f1)) else (foliateref06_May.j1 k1 x3_1 true l0_0 ((rd_T34 l0_0 x3_1).f0) ((rd_T34 l0_0 x3_1).f1)))) = some r := by rw [if_pos rfl] at H; exact H
              clear H
              have H := H1
              clear H1
              replace H := Option.bind_eq_some_iff.mp H
              obtain ⟨t178, A130, H⟩ := H
              replace H : (if t178 = x3_1 then (foliateref06_May.j1 k1 x3_1 (decide ((((rd_T34 l0_0 x3_1).f1).length : Int) > 5)) l0_0 ((rd_T34 l0_0 x3_1).f0) ((rd_T34 l0_0 x3_1).f1)) else (foliateref06_May.j1 k1 x3_1 true l0_0 ((rd_T34 l0_0 x3_1).f0) ((rd_T34 l0_0 x3_1).f1))) = some r := H
              have A13 := Aside0.mk A130
              clear A130
              by_cases c14 : t178 = x3_1
              · rw [if_pos c14] at H
                have c14b0 : (t178 == x3_1) = true := beq_iff_eq.mpr c14
                have c14b1 : (t178 != x3_1) = false := bne_eq_false_iff_eq.mpr c14
                clear c14
                (first | rw [c14b0] | (simp only [i64_w, i32_w]; rw [c14b0]) | skip)
                have H' := Aside0.mk H
                clear H
                have hnb15 := NB174_176.out
                have hnc15 := NB176_174.out
                have hcz16_0 : w11.cell? ⟨gb174, 0, none⟩ = some (.slice (some ad175) l0_0.length c0_0) := (blk_cell BK174.out 0).trans rfl
                have hfz16_0 := blk_frozen BK174.out 0
                have hcz17_0 : w11.cell? ⟨gb176, 0, none⟩ = some (.string ((rd_T34 l0_0 x3_1).f0)) := (blk_cell BK176.out 0).trans rfl
                have hcz17_1 : w11.cell? ⟨gb176, 1, none⟩ = some (.slice A175_1 ((rd_T34 l0_0 x3_1).f1).length c175_1) := (blk_cell BK176.out 1).trans rfl
                have hfz17_0 := blk_frozen BK176.out 0
                have hfz17_1 := blk_frozen BK176.out 1
                go_wp2_with (first | (go_at_call 22; (with_reducible refine (foliateref06_Find.calls k1 _ _ l0_0 ((rd_T34 l0_0 x3_1).f0) t178 _ ?side1 ?side2 A13.out).mono ?_); (case side1 => repeat (first | exact (Kd.C_below HR0_0.out HB.out) | (with_reducible refine Kd.C_alloc ?_ _) | (with_reducible refine Kd.C_drewN ?_ _) | (with_reducible refine Kd.C_drew ?_))); (case side2 => exact HC0_0.out); rintro e w18 ⟨rfl, hb⟩; have n0_ := Aside0.mk (blk_below (g := gb174) (o := .cells #[.slice (some ad175) l0_0.length c0_0] 24 (0, 0)) (by (with_reducible repeat (first | refine blk_drewN ?_ _ | refine blk_drew ?_ | refine blk_alloc ?_ _)); exact BK174.out) hb); have n1_ := Aside0.mk (blk_below (g := gb176) (o := .cells #[.string ((rd_T34 l0_0 x3_1).f0), .slice A175_1 ((rd_T34 l0_0 x3_1).f1).length c175_1] 34 (0, 0)) (by (with_reducible repeat (first | refine blk_drewN ?_ _ | refine blk_drew ?_ | refine blk_alloc ?_ _)); exact BK176.out) hb); have n2_ := Aside0.mk (below_step (by repeat (first | (with_reducible first | exact HB.out | apply below_alloc | apply pw_below_drewN | apply below_drew1 | refine below_set ?_ GE174.out | refine below_set ?_ GE176.out) | exact HB.out)) hb); clear BK174; clear BK176; clear HB; have BK174 := n0_; have BK176 := n1_; have HB := n2_; clear n0_ n1_ n2_; (try clear hb); (try clear hb2); (try clear hk); (try clear hi); have hcz19_0 : w18.cell? ⟨gb176, 0, none⟩ = some (.string ((rd_T34 l0_0 x3_1).f0)) := (blk_cell BK176.out 0).trans rfl; have hcz19_1 : w18.cell? ⟨gb176, 1, none⟩ = some (.slice A175_1 ((rd_T34 l0_0 x3_1).f1).length c175_1) := (blk_cell BK176.out 1).trans rfl; have hfz19_0 := blk_frozen BK176.out 0; have hfz19_1 := blk_frozen BK176.out 1))
                go_meet
                case rel => exact ⟨_, (decide ((((rd_T34 l0_0 x3_1).f1).length : Int) > 5)), (by first | rfl | (simp; done) | (simp [*]; done)), H', ⟨by have := HK1.out; first | omega | exact Nat.le_refl _⟩, ⟨by (with_reducible repeat (first | refine blk_drewN ?_ _ | refine blk_drew ?_ | refine blk_alloc ?_ _)); exact BK174.out⟩, ⟨by (with_reducible repeat (first | refine blk_drewN ?_ _ | refine blk_drew ?_ | refine blk_alloc ?_ _)); exact BK176.out⟩, ⟨by repeat (first | (with_reducible first | exact HB.out | apply below_alloc | apply pw_below_drewN | apply below_drew1 | refine below_set ?_ GE174.out | refine below_set ?_ GE176.out) | exact HB.out)⟩⟩
              · rw [if_neg c14] at H
                have c14b0 : (t178 == x3_1) = false := beq_eq_false_iff_ne.mpr c14
                have c14b1 : (t178 != x3_1) = true := bne_iff_ne.mpr c14
                (first | rw [c14b0] | (simp only [i64_w, i32_w]; rw [c14b0]) | skip)
                have H' := Aside0.mk H
                clear H
                have hnb20 := NB174_176.out
                have hnc20 := NB176_174.out
                have hcz21_0 : w11.cell? ⟨gb174, 0, none⟩ = some (.slice (some ad175) l0_0.length c0_0) := (blk_cell BK174.out 0).trans rfl
                have hfz21_0 := blk_frozen BK174.out 0
                have hcz22_0 : w11.cell? ⟨gb176, 0, none⟩ = some (.string ((rd_T34 l0_0 x3_1).f0)) := (blk_cell BK176.out 0).trans rfl
                have hcz22_1 : w11.cell? ⟨gb176, 1, none⟩ = some (.slice A175_1 ((rd_T34 l0_0 x3_1).f1).length c175_1) := (blk_cell BK176.out 1).trans rfl
                have hfz22_0 := blk_frozen BK176.out 0
                have hfz22_1 := blk_frozen BK176.out 1
                go_wp2_with (first | (go_at_call 22; (with_reducible refine (foliateref06_Find.calls k1 _ _ l0_0 ((rd_T34 l0_0 x3_1).f0) t178 _ ?side1 ?side2 A13.out).mono ?_); (case side1 => repeat (first | exact (Kd.C_below HR0_0.out HB.out) | (with_reducible refine Kd.C_alloc ?_ _) | (with_reducible refine Kd.C_drewN ?_ _) | (with_reducible refine Kd.C_drew ?_))); (case side2 => exact HC0_0.out); rintro e w23 ⟨rfl, hb⟩; have n0_ := Aside0.mk (blk_below (g := gb174) (o := .cells #[.slice (some ad175) l0_0.length c0_0] 24 (0, 0)) (by (with_reducible repeat (first | refine blk_drewN ?_ _ | refine blk_drew ?_ | refine blk_alloc ?_ _)); exact BK174.out) hb); have n1_ := Aside0.mk (blk_below (g := gb176) (o := .cells #[.string ((rd_T34 l0_0 x3_1).f0), .slice A175_1 ((rd_T34 l0_0 x3_1).f1).length c175_1] 34 (0, 0)) (by (with_reducible repeat (first | refine blk_drewN ?_ _ | refine blk_drew ?_ | refine blk_alloc ?_ _)); exact BK176.out) hb); have n2_ := Aside0.mk (below_step (by repeat (first | (with_reducible first | exact HB.out | apply below_alloc | apply pw_below_drewN | apply below_drew1 | refine below_set ?_ GE174.out | refine below_set ?_ GE176.out) | exact HB.out)) hb); clear BK174; clear BK176; clear HB; have BK174 := n0_; have BK176 := n1_; have HB := n2_; clear n0_ n1_ n2_; (try clear hb); (try clear hb2); (try clear hk); (try clear hi)))
                go_meet
                case rel => exact ⟨_, (true), (by first | rfl | (simp; done) | (simp [*]; done)), H', ⟨by have := HK1.out; first | omega | exact Nat.le_refl _⟩, ⟨by (with_reducible repeat (first | refine blk_drewN ?_ _ | refine blk_drew ?_ | refine blk_alloc ?_ _)); exact BK174.out⟩, ⟨by (with_reducible repeat (first | refine blk_drewN ?_ _ | refine blk_drew ?_ | refine blk_alloc ?_ _)); exact BK176.out⟩, ⟨by repeat (first | (with_reducible first | exact HB.out | apply below_alloc | apply pw_below_drewN | apply below_drew1 | refine below_set ?_ GE174.out | refine below_set ?_ GE176.out) | exact HB.out)⟩⟩
            · replace c12 := Bool.eq_false_iff.mpr c12
              subst c12
              have H1 : (foliateref06_May.j1 k1 x3_1 true l0_0 ((rd_T34 l0_0 x3_1).f0) ((rd_T34 l0_0 x3_1).f1)) = some r := by rw [if_neg (show ¬ (false = true) by decide)] at H; exact H
              clear H
              have H := H1
              clear H1
              have H' := Aside0.mk H
              clear H
              go_wp2
              go_meet
              case rel => exact ⟨_, (true), (by first | rfl | (simp; done) | (simp [*]; done)), H', ⟨by have := HK1.out; first | omega | exact Nat.le_refl _⟩, ⟨by (with_reducible repeat (first | refine blk_drewN ?_ _ | refine blk_drew ?_ | refine blk_alloc ?_ _)); exact BK174.out⟩, ⟨by (with_reducible repeat (first | refine blk_drewN ?_ _ | refine blk_drew ?_ | refine blk_alloc ?_ _)); exact BK176.out⟩, ⟨by repeat (first | (with_reducible first | exact HB.out | apply below_alloc | apply pw_below_drewN | apply below_drew1 | refine below_set ?_ GE174.out | refine below_set ?_ GE176.out) | exact HB.out)⟩⟩
          case rest =>
            clear HC6
            try clear c1
            try clear p1
            try clear q1
            try clear hx1
            try clear c2
            try clear p2
            try clear c3
            try clear c3b0
            try clear c4
            try clear c4b0
            try clear c9
            try clear c12
            try clear c14
            try clear c14b0
            try clear c14b1
            try clear c15
            try clear c17
            try clear p17
            try clear q17
            try clear hx17
            try clear c20
            try clear hcz10_0
            try clear hcz10_1
            try clear hcz16_0
            try clear hcz17_0
            try clear hcz17_1
            try clear hcz19_0
            try clear hcz19_1
            try clear hcz21_0
            try clear hcz22_0
            try clear hcz22_1
            try clear hcz7_0
            try clear hfz10_0
            try clear hfz10_1
            try clear hfz16_0
            try clear hfz17_0
            try clear hfz17_1
            try clear hfz19_0
            try clear hfz19_1
            try clear hfz21_0
            try clear hfz22_0
            try clear hfz22_1
            try clear hfz7_0
            try clear hx175_0
            try clear hx175_1
            try clear p175
            try clear p2
            try clear q175
            obtain ⟨kq, x39_5, rfl, HA, HJ5, BK174, BK176, HB⟩ := hcut
            cases kq with
            | zero => exact absurd HA.out (by simp [foliateref06_May.j1])
            | succ kj5 =>
              have H := HA.out
              clear HA
              simp only [foliateref06_May.j1] at H
              by_cases c24 : x39_5 = true
              · subst c24
                have H1 : (some false) = some r := by rw [if_pos rfl] at H; exact H
                clear H
                have H := H1
                clear H1
                obtain rfl := Option.some.inj H
                go_wp2
                go_ret
                exact ⟨by first | rfl | (simp [errW_none, errW_some] <;> rfl) | (simp [*, errW_none, errW_some] <;> rfl), by repeat (first | (with_reducible first | exact HB.out | apply below_alloc | apply pw_below_drewN | apply below_drew1 | refine below_set ?_ GE174.out | refine below_set ?_ GE176.out) | exact HB.out)⟩
              · replace c24 := Bool.eq_false_iff.mpr c24
                subst c24
                have H1 : (foliateref06_May.l1 kj5 x3_1 0 l0_0 ((rd_T34 l0_0 x3_1).f0) ((rd_T34 l0_0 x3_1).f1)) = some r := by rw [if_neg (show ¬ (false = true) by decide)] at H; exact H
                clear H
                have H := H1
                clear H1
                have H' := Aside0.mk H
                clear H
                go_wp2
                go_loopg [6] kj5 (fun kq v6 w' => ∃ (x6_3 : Int), v6 = .int .i64 x6_3 ∧ Aside0 (foliateref06_May.l1 kq x3_1 x6_3 l0_0 ((rd_T34 l0_0 x3_1).f0) ((rd_T34 l0_0 x3_1).f1) = some r) ∧ Aside0 (kq ≤ kj5) ∧ Aside0 (w'.heap[gb174]? = some (.cells #[(.slice (some ad175) l0_0.length c0_0)] 24 (0, 0))) ∧ Aside0 (w'.heap[gb176]? = some (.cells #[.string ((rd_T34 l0_0 x3_1).f0), (.slice A175_1 ((rd_T34 l0_0 x3_1).f1).length c175_1)] 34 (0, 0))) ∧ Aside0 (Below w.heap.size w w'))
                case atStart => exact ⟨(0), (by first | rfl | (simp; done) | (simp [*]; done)), H', ⟨Nat.le_refl _⟩, ⟨by (with_reducible repeat (first | refine blk_drewN ?_ _ | refine blk_drew ?_ | refine blk_alloc ?_ _)); exact BK174.out⟩, ⟨by (with_reducible repeat (first | refine blk_drewN ?_ _ | refine blk_drew ?_ | refine blk_alloc ?_ _)); exact BK176.out⟩, ⟨by repeat (first | (with_reducible first | exact HB.out | apply below_alloc | apply pw_below_drewN | apply below_drew1 | refine below_set ?_ GE174.out | refine below_set ?_ GE176.out) | exact HB.out)⟩⟩
                case round =>
                  clear H'
                  try clear c1
                  try clear p1
                  try clear q1
                  try clear hx1
                  try clear c2
                  try clear p2
                  try clear c3
                  try clear c3b0
                  try clear c4
                  try clear c4b0
                  try clear c9
                  try clear c12
                  try clear c14
                  try clear c14b0
                  try clear c14b1
                  try clear c15
                  try clear c17
                  try clear p17
                  try clear q17
                  try clear hx17
                  try clear c20
                  try clear c24
                  try clear hcz10_0
                  try clear hcz10_1
                  try clear hcz16_0
                  try clear hcz17_0
                  try clear hcz17_1
                  try clear hcz19_0
                  try clear hcz19_1
                  try clear hcz21_0
                  try clear hcz22_0
                  try clear hcz22_1
                  try clear hcz7_0
                  try clear hfz10_0
                  try clear hfz10_1
                  try clear hfz16_0
                  try clear hfz17_0
                  try clear hfz17_1
                  try clear hfz19_0
                  try clear hfz19_1
                  try clear hfz21_0
                  try clear hfz22_0
                  try clear hfz22_1
                  try clear hfz7_0
                  try clear hx175_0
                  try clear hx175_1
                  try clear p1
                  try clear p17
                  try clear p175
                  try clear p2
                  try clear q1
                  try clear q17
                  try clear q175
                  obtain ⟨x6_3, rfl, HA, HK3, BK174, BK176, HB⟩ := hrel
                  cases gk with
                  | zero => exact absurd HA.out (by simp [foliateref06_May.l1])
                  | succ k3 =>
                    have H := HA.out
                    clear HA
                    simp only [foliateref06_May.l1] at H
                    by_cases c25 : x6_3 < (((rd_T34 l0_0 x3_1).f1).length : Int)
                    · rw [if_pos c25] at H
                      have c25b0 : decide (x6_3 < (((rd_T34 l0_0 x3_1).f1).length : Int)) = true := decide_eq_true c25
                      clear c25
                      by_cases c26 : 0 ≤ x6_3
                      · rw [if_pos c26] at H
                        have c26b0 : decide (0 ≤ x6_3) = true := decide_eq_true c26
                        clear c26
                        replace H := Option.bind_eq_some_iff.mp H
                        obtain ⟨t181, A270, H⟩ := H
                        replace H : (if t181 = true then ((foliateref06_Field.f k3 ((rd_T34 l0_0 x3_1).f0) ((rd_T34 l0_0 x3_1).f1) ((rd_T40 ((rd_T34 l0_0 x3_1).f1) x6_3).f0)).bind fun t182 => (if t182 = x6_3 then (if ((rd_T40 ((rd_T34 l0_0 x3_1).f1) x6_3).f1) < 0 then (foliateref06_May.j3 k3 x3_1 x6_3 true l0_0 ((rd_T34 l0_0 x3_1).f0) ((rd_T34 l0_0 x3_1).f1) ((rd_T40 ((rd_T34 l0_0 x3_1).f1) x6_3).f0) ((rd_T40 ((rd_T34 l0_0 x3_1).f1) x6_3).f1) ((rd_T40 ((rd_T34 l0_0 x3_1).f1) x6_3).f2)) else (foliateref06_May.j3 k3 x3_1 x6_3 (decide (((rd_T40 ((rd_T34 l0_0 x3_1).f1) x6_3).f1) ≥ 6)) l0_0 ((rd_T34 l0_0 x3_1).f0) ((rd_T34 l0_0 x3_1).f1) ((rd_T40 ((rd_T34 l0_0 x3_1).f1) x6_3).f0) ((rd_T40 ((rd_T34 l0_0 x3_1).f1) x6_3).f1) ((rd_T40 ((rd_T34 l0_0 x3_1).f1) x6_3).f2))) else (foliateref06_May.j3 k3 x3_1 x6_3 true l0_0 ((rd_T34 l0_0 x3_1).f0) ((rd_T34 l0_0 x3_1).f1) ((rd_T40 ((rd_T34 l0_0 x3_1).f1) x6_3).f0) ((rd_T40 ((rd_T34 l0_0 x3_1).f1) x6_3).f1) ((rd_T40 ((rd_T34 l0_0 x3_1).f1) x6_3).f2)))) else (foliateref06_May.j3 k3 x3_1 x6_3 true l0_0 ((rd_T34 l0_0 x3_1).f0) ((rd_T34 l0_0 x3_1).f1) ((rd_T40 ((rd_T34 l0_0 x3_1).f1) x6_3).f0) ((rd_T40 ((rd_T34 l0_0 x3_1).f1) x6_3).f1) ((rd_T40 ((rd_T34 l0_0 x3_1).f1) x6_3).f2))) = some r := H
                        have A27 := Aside0.mk A270
                        clear A270
                        have HC28 := Aside0.mk H
                        clear H
                        have hnb29 := NB176_174.out
                        have hnc29 := NB174_176.out
                        have hcz30_0 : wr.cell? ⟨gb176, 0, none⟩ = some (.string ((rd_T34 l0_0 x3_1).f0)) := (blk_cell BK176.out 0).trans rfl
                        have hcz30_1 : wr.cell? ⟨gb176, 1, none⟩ = some (.slice A175_1 ((rd_T34 l0_0 x3_1).f1).length c175_1) := (blk_cell BK176.out 1).trans rfl
                        have hfz30_0 := blk_frozen BK176.out 0
                        have hfz30_1 := blk_frozen BK176.out 1
                        have p179 : 0 ≤ (x6_3 : Int) := of_decide_eq_true (by first | (with_reducible assumption) | assumption)
                        have q179 : x6_3 < (((rd_T34 l0_0 x3_1).f1).length : Int) := of_decide_eq_true (by first | (with_reducible assumption) | assumption)
                        obtain ⟨ad179, e179, hx179_0, hx179_1, hx179_2⟩ := at_T40 HR175_1.out x6_3 p179 q179
                        cases e179
                        replace hx179_0 := (HB.out.cell (World.block_lt_of_cell? w _ hx179_0)).trans hx179_0
                        replace hx179_1 := (HB.out.cell (World.block_lt_of_cell? w _ hx179_1)).trans hx179_1
                        replace hx179_2 := (HB.out.cell (World.block_lt_of_cell? w _ hx179_2)).trans hx179_2
                        replace p179 := eq_true p179
                        replace q179 := eq_true q179
                        go_upto_region 13 with (first | ((with_reducible refine gate_dst (N := 7) rfl ?_); (try (refine gate_guard (by rfl) ?_; dsimp only)); refine box_event ?hg (N := 7) ?hd (cs := #[.string (⟨#[]⟩ : ByteArray), .int .i64 0, .string (⟨#[]⟩ : ByteArray)]) (t := 40) ?hr ?_; (case hd => rfl); (case hg => rfl); (case hr => first | (go_simp; done) | (go_simp; rfl)); intro gb180 hg w31 hbox hb; have n0_ := Aside0.mk (blk_below (g := gb174) (o := .cells #[.slice (some ad175) l0_0.length c0_0] 24 (0, 0)) (by (with_reducible repeat (first | refine blk_drewN ?_ _ | refine blk_drew ?_ | refine blk_alloc ?_ _)); exact BK174.out) hb); have n1_ := Aside0.mk (blk_below (g := gb176) (o := .cells #[.string ((rd_T34 l0_0 x3_1).f0), .slice (some ad179) ((rd_T34 l0_0 x3_1).f1).length c175_1] 34 (0, 0)) (by (with_reducible repeat (first | refine blk_drewN ?_ _ | refine blk_drew ?_ | refine blk_alloc ?_ _)); exact BK176.out) hb); have n2_ := Aside0.mk (below_step (by repeat (first | (with_reducible first | exact HB.out | apply below_alloc | apply pw_below_drewN | apply below_drew1 | refine below_set ?_ GE174.out | refine below_set ?_ GE176.out) | exact HB.out)) hb); have n3_ := Aside0.mk (hbox); have n4_ := Aside0.mk ((by rw [hg]; exact (below_size (by repeat (first | (with_reducible first | exact HB.out | apply below_alloc | apply pw_below_drewN | apply below_drew1 | refine below_set ?_ GE174.out | refine below_set ?_ GE176.out) | exact HB.out))) : w.heap.size ≤ gb180)); have n5_ := Aside0.mk ((by rw [hg]; exact (below_size (by repeat (first | (with_reducible first | exact HB.out | apply below_alloc | apply pw_below_drewN | apply below_drew1 | refine below_set ?_ GE174.out | refine below_set ?_ GE176.out) | exact HB.out))) : w.heap.size ≤ gb180)); have n6_ := Aside0.mk ((by rw [hg]; exact Nat.ne_of_lt (blk_lt (g := gb174) (o := .cells #[.slice (some ad175) l0_0.length c0_0] 24 (0, 0)) (by (with_reducible repeat (first | refine blk_drewN ?_ _ | refine blk_drew ?_ | refine blk_alloc ?_ _)); exact BK174.out)) : gb174 ≠ gb180)); have n7_ := Aside0.mk ((by rw [hg]; exact Nat.ne_of_gt (blk_lt (g := gb174) (o := .cells #[.slice (some ad175) l0_0.length c0_0] 24 (0, 0)) (by (with_reducible repeat (first | refine blk_drewN ?_ _ | refine blk_drew ?_ | refine blk_alloc ?_ _)); exact BK174.out)) : gb180 ≠ gb174)); have n8_ := Aside0.mk ((by rw [hg]; exact Nat.ne_of_lt (blk_lt (g := gb176) (o := .cells #[.string ((rd_T34 l0_0 x3_1).f0), .slice (some ad179) ((rd_T34 l0_0 x3_1).f1).length c175_1] 34 (0, 0)) (by (with_reducible repeat (first | refine blk_drewN ?_ _ | refine blk_drew ?_ | refine blk_alloc ?_ _)); exact BK176.out)) : gb176 ≠ gb180)); have n9_ := Aside0.mk ((by rw [hg]; exact Nat.ne_of_gt (blk_lt (g := gb176) (o := .cells #[.string ((rd_T34 l0_0 x3_1).f0), .slice (some ad179) ((rd_T34 l0_0 x3_1).f1).length c175_1] 34 (0, 0)) (by (with_reducible repeat (first | refine blk_drewN ?_ _ | refine blk_drew ?_ | refine blk_alloc ?_ _)); exact BK176.out)) : gb180 ≠ gb176)); clear BK174; clear BK176; clear HB; have BK174 := n0_; have BK176 := n1_; have HB := n2_; have BK180 := n3_; have GW180 := n4_; have GE180 := n5_; have NB174_180 := n6_; have NB180_174 := n7_; have NB176_180 := n8_; have NB180_176 := n9_; clear n0_ n1_ n2_ n3_ n4_ n5_ n6_ n7_ n8_ n9_; clear hb hbox hg; have hnb32 := NB180_174.out; have hnc32 := NB174_180.out; have hnb33 := NB180_176.out; have hnc33 := NB176_180.out; have hcz34_0 : w31.cell? ⟨gb180, 0, none⟩ = some (.string (⟨#[]⟩ : ByteArray)) := (blk_cell BK180.out 0).trans rfl; have hcz34_1 : w31.cell? ⟨gb180, 1, none⟩ = some (.int .i64 0) := (blk_cell BK180.out 1).trans rfl; have hcz34_2 : w31.cell? ⟨gb180, 2, none⟩ = some (.string (⟨#[]⟩ : ByteArray)) := (blk_cell BK180.out 2).trans rfl; have hfz34_0 := blk_frozen BK180.out 0; have hfz34_1 := blk_frozen BK180.out 1; have hfz34_2 := blk_frozen BK180.out 2) | ((with_reducible refine gate_callee (f := 28) rfl ?_); refine goesL_ (some 54) rfl rfl Try.func28 (by kernel_rfl) rfl #[.string ((rd_T40 ((rd_T34 l0_0 x3_1).f1) x6_3).f0)] rfl (by (try simp only [List.map_toArray, List.map_cons, List.map_nil]); first | done | rfl | (simp only [List.length_drop, List.length_take]; rfl)) ?_; (with_reducible refine (foliateref05_May.calls k3 ((rd_T40 ((rd_T34 l0_0 x3_1).f1) x6_3).f0) t181 _ A27.out).mono ?_); rintro e w35 ⟨rfl, hb⟩; refine ⟨_, rfl, ?_⟩; have n0_ := Aside0.mk (blk_below (g := gb174) (o := .cells #[.slice (some ad175) l0_0.length c0_0] 24 (0, 0)) (by (with_reducible repeat (first | refine blk_drewN ?_ _ | refine blk_drew ?_ | refine blk_alloc ?_ _)); refine blk_far ?_ NB174_180.out _; (with_reducible repeat (first | refine blk_drewN ?_ _ | refine blk_drew ?_ | refine blk_alloc ?_ _)); refine blk_far ?_ NB174_180.out _; (with_reducible repeat (first | refine blk_drewN ?_ _ | refine blk_drew ?_ | refine blk_alloc ?_ _)); refine blk_far ?_ NB174_180.out _; (with_reducible repeat (first | refine blk_drewN ?_ _ | refine blk_drew ?_ | refine blk_alloc ?_ _)); exact BK174.out) hb); have n1_ := Aside0.mk (blk_below (g := gb176) (o := .cells #[.string ((rd_T34 l0_0 x3_1).f0), .slice (some ad179) ((rd_T34 l0_0 x3_1).f1).length c175_1] 34 (0, 0)) (by (with_reducible repeat (first | refine blk_drewN ?_ _ | refine blk_drew ?_ | refine blk_alloc ?_ _)); refine blk_far ?_ NB176_180.out _; (with_reducible repeat (first | refine blk_drewN ?_ _ | refine blk_drew ?_ | refine blk_alloc ?_ _)); refine blk_far ?_ NB176_180.out _; (with_reducible repeat (first | refine blk_drewN ?_ _ | refine blk_drew ?_ | refine blk_alloc ?_ _)); refine blk_far ?_ NB176_180.out _; (with_reducible repeat (first | refine blk_drewN ?_ _ | refine blk_drew ?_ | refine blk_alloc ?_ _)); exact BK176.out) hb); have n2_ := Aside0.mk (blk_below (g := gb180) (o := .cells #[.string ((rd_T40 ((rd_T34 l0_0 x3_1).f1) x6_3).f0), .int .i64 ((rd_T40 ((rd_T34 l0_0 x3_1).f1) x6_3).f1), .string ((rd_T40 ((rd_T34 l0_0 x3_1).f1) x6_3).f2)] 40 (0, 0)) (by (with_reducible repeat (first | refine blk_drewN ?_ _ | refine blk_drew ?_ | refine blk_alloc ?_ _)); refine blk_put (cs := #[.string ((rd_T40 ((rd_T34 l0_0 x3_1).f1) x6_3).f0), .int .i64 ((rd_T40 ((rd_T34 l0_0 x3_1).f1) x6_3).f1), .string (⟨#[]⟩ : ByteArray)]) ?_ 2 _ rfl; (with_reducible repeat (first | refine blk_drewN ?_ _ | refine blk_drew ?_ | refine blk_alloc ?_ _)); refine blk_put (cs := #[.string ((rd_T40 ((rd_T34 l0_0 x3_1).f1) x6_3).f0), .int .i64 0, .string (⟨#[]⟩ : ByteArray)]) ?_ 1 _ rfl; (with_reducible repeat (first | refine blk_drewN ?_ _ | refine blk_drew ?_ | refine blk_alloc ?_ _)); refine blk_put (cs := #[.string (⟨#[]⟩ : ByteArray), .int .i64 0, .string (⟨#[]⟩ : ByteArray)]) ?_ 0 _ rfl; (with_reducible repeat (first | refine blk_drewN ?_ _ | refine blk_drew ?_ | refine blk_alloc ?_ _)); exact BK180.out) hb); have n3_ := Aside0.mk (below_step (by repeat (first | (with_reducible first | exact HB.out | apply below_alloc | apply pw_below_drewN | apply below_drew1 | refine below_set ?_ GE174.out | refine below_set ?_ GE176.out | refine below_set ?_ GE180.out) | exact HB.out)) hb); clear BK174; clear BK176; clear BK180; clear HB; have BK174 := n0_; have BK176 := n1_; have BK180 := n2_; have HB := n3_; clear n0_ n1_ n2_ n3_; (try clear hb); (try clear hb2); (try clear hk); (try clear hi)))
                        (try simp only [Act.put, List.setIfInBounds_toArray, List.set_cons_zero, List.set_cons_succ])
                        go_cut [74] (fun v74 wc => ∃ (kq : Nat) (x74_27 : Bool), v74 = .bool x74_27 ∧ Aside0 (foliateref06_May.j3 kq x3_1 x6_3 x74_27 l0_0 ((rd_T34 l0_0 x3_1).f0) ((rd_T34 l0_0 x3_1).f1) ((rd_T40 ((rd_T34 l0_0 x3_1).f1) x6_3).f0) ((rd_T40 ((rd_T34 l0_0 x3_1).f1) x6_3).f1) ((rd_T40 ((rd_T34 l0_0 x3_1).f1) x6_3).f2) = some r) ∧ Aside0 (kq ≤ k3) ∧ Aside0 (wc.heap[gb174]? = some (.cells #[(.slice (some ad175) l0_0.length c0_0)] 24 (0, 0))) ∧ Aside0 (wc.heap[gb176]? = some (.cells #[.string ((rd_T34 l0_0 x3_1).f0), (.slice (some ad179) ((rd_T34 l0_0 x3_1).f1).length c175_1)] 34 (0, 0))) ∧ Aside0 (wc.heap[gb180]? = some (.cells #[.string ((rd_T40 ((rd_T34 l0_0 x3_1).f1) x6_3).f0), .int .i64 ((rd_T40 ((rd_T34 l0_0 x3_1).f1) x6_3).f1), .string ((rd_T40 ((rd_T34 l0_0 x3_1).f1) x6_3).f2)] 40 (0, 0))) ∧ Aside0 (Below w.heap.size w wc))
                        case first =>
                          have H := HC28.out
                          clear HC28
                          by_cases c36 : t181 = true
                          · subst c36
                            have H1 : ((foliateref06_Field.f k3 ((rd_T34 l0_0 x3_1).f0) ((rd_T34 l0_0 x3_1).f1) ((rd_T40 ((rd_T34 l0_0 x3_1).f1) x6_3).f0)).bind fun t182 => (if t182 = x6_3 then (if ((rd_T40 ((rd_T34 l0_0 x3_1).f1) x6_3).f1) < 0 then (foliateref06_May.j3 k3 x3_1 x6_3 true l0_0 ((rd_T34 l0_0 x3_1).f0) ((rd_T34 l0_0 x3_1).f1) ((rd_T40 ((rd_T34 l0_0 x3_1).f1) x6_3).f0) ((rd_T40 ((rd_T34 l0_0 x3_1).f1) x6_3).f1) ((rd_T40 ((rd_T34 l0_0 x3_1).f1) x6_3).f2)) else (foliateref06_May.j3 k3 x3_1 x6_3 (decide (((rd_T40 ((rd_T34 l0_0 x3_1).f1) x6_3).f1) ≥ 6)) l0_0 ((rd_T34 l0_0 x3_1).f0) ((rd_T34 l0_0 x3_1).f1) ((rd_T40 ((rd_T34 l0_0 x3_1).f1) x6_3).f0) ((rd_T40 ((rd_T34 l0_0 x3_1).f1) x6_3).f1) ((rd_T40 ((rd_T34 l0_0 x3_1).f1) x6_3).f2))) else (foliateref06_May.j3 k3 x3_1 x6_3 true l0_0 ((rd_T34 l0_0 x3_1).f0) ((rd_T34 l0_0 x3_1).f1) ((rd_T40 ((rd_T34 l0_0 x3_1).f1) x6_3).f0) ((rd_T40 ((rd_T34 l0_0 x3_1).f1) x6_3).f1) ((rd_T40 ((rd_T34 l0_0 x3_1).f1) x6_3).f2)))) = some r := by rw [if_pos rfl] at H; exact H
                            clear H
                            have H := H1
                            clear H1
                            replace H := Option.bind_eq_some_iff.mp H
                            obtain ⟨t182, A370, H⟩ := H
                            replace H : (if t182 = x6_3 then (if ((rd_T40 ((rd_T34 l0_0 x3_1).f1) x6_3).f1) < 0 then (foliateref06_May.j3 k3 x3_1 x6_3 true l0_0 ((rd_T34 l0_0 x3_1).f0) ((rd_T34 l0_0 x3_1).f1) ((rd_T40 ((rd_T34 l0_0 x3_1).f1) x6_3).f0) ((rd_T40 ((rd_T34 l0_0 x3_1).f1) x6_3).f1) ((rd_T40 ((rd_T34 l0_0 x3_1).f1) x6_3).f2)) else (foliateref06_May.j3 k3 x3_1 x6_3 (decide (((rd_T40 ((rd_T34 l0_0 x3_1).f1) x6_3).f1) ≥ 6)) l0_0 ((rd_T34 l0_0 x3_1).f0) ((rd_T34 l0_0 x3_1).f1) ((rd_T40 ((rd_T34 l0_0 x3_1).f1) x6_3).f0) ((rd_T40 ((rd_T34 l0_0 x3_1).f1) x6_3).f1) ((rd_T40 ((rd_T34 l0_0 x3_1).f1) x6_3).f2))) else (foliateref06_May.j3 k3 x3_1 x6_3 true l0_0 ((rd_T34 l0_0 x3_1).f0) ((rd_T34 l0_0 x3_1).f1) ((rd_T40 ((rd_T34 l0_0 x3_1).f1) x6_3).f0) ((rd_T40 ((rd_T34 l0_0 x3_1).f1) x6_3).f1) ((rd_T40 ((rd_T34 l0_0 x3_1).f1) x6_3).f2))) = some r := H
                            have A37 := Aside0.mk A370
                            clear A370
                            by_cases c38 : t182 = x6_3
                            · rw [if_pos c38] at H
                              have c38b0 : (t182 == x6_3) = true := beq_iff_eq.mpr c38
                              have c38b1 : (t182 != x6_3) = false := bne_eq_false_iff_eq.mpr c38
                              clear c38
                              (first | rw [c38b0] | (simp only [i64_w, i32_w]; rw [c38b0]) | skip)
                              by_cases c39 : ((rd_T40 ((rd_T34 l0_0 x3_1).f1) x6_3).f1) < 0
                              · rw [if_pos c39] at H
                                have c39b0 : decide (((rd_T40 ((rd_T34 l0_0 x3_1).f1) x6_3).f1) < 0) = true := decide_eq_true c39
                                clear c39
                                have H' := Aside0.mk H
                                clear H
                                have hnb40 := NB176_174.out
                                have hnc40 := NB174_176.out
                                have hnb41 := NB176_180.out
                                have hnc41 := NB180_176.out
                                have hcz42_0 : w35.cell? ⟨gb176, 0, none⟩ = some (.string ((rd_T34 l0_0 x3_1).f0)) := (blk_cell BK176.out 0).trans rfl
                                have hcz42_1 : w35.cell? ⟨gb176, 1, none⟩ = some (.slice (some ad179) ((rd_T34 l0_0 x3_1).f1).length c175_1) := (blk_cell BK176.out 1).trans rfl
                                have hfz42_0 := blk_frozen BK176.out 0
                                have hfz42_1 := blk_frozen BK176.out 1
                                have hnb43 := NB180_174.out
                                have hnc43 := NB174_180.out
                                have hcz44_0 : w35.cell? ⟨gb180, 0, none⟩ = some (.string ((rd_T40 ((rd_T34 l0_0 x3_1).f1) x6_3).f0)) := (blk_cell BK180.out 0).trans rfl
                                have hcz44_1 : w35.cell? ⟨gb180, 1, none⟩ = some (.int .i64 ((rd_T40 ((rd_T34 l0_0 x3_1).f1) x6_3).f1)) := (blk_cell BK180.out 1).trans rfl
                                have hcz44_2 : w35.cell? ⟨gb180, 2, none⟩ = some (.string ((rd_T40 ((rd_T34 l0_0 x3_1).f1) x6_3).f2)) := (blk_cell BK180.out 2).trans rfl
                                have hfz44_0 := blk_frozen BK180.out 0
                                have hfz44_1 := blk_frozen BK180.out 1
                                have hfz44_2 := blk_frozen BK180.out 2
                                go_wp2_with (first | (go_at_call 16; (with_reducible refine (foliateref06_Field.calls k3 ((rd_T34 l0_0 x3_1).f0) _ _ ((rd_T34 l0_0 x3_1).f1) ((rd_T40 ((rd_T34 l0_0 x3_1).f1) x6_3).f0) t182 _ ?side1 ?side2 A37.out).mono ?_); (case side1 => repeat (first | exact (Kd.C_below HR175_1.out HB.out) | (with_reducible refine Kd.C_alloc ?_ _) | (with_reducible refine Kd.C_drewN ?_ _) | (with_reducible refine Kd.C_drew ?_))); (case side2 => exact HC175_1.out); rintro e w45 ⟨rfl, hb⟩; have n0_ := Aside0.mk (blk_below (g := gb174) (o := .cells #[.slice (some ad175) l0_0.length c0_0] 24 (0, 0)) (by (with_reducible repeat (first | refine blk_drewN ?_ _ | refine blk_drew ?_ | refine blk_alloc ?_ _)); exact BK174.out) hb); have n1_ := Aside0.mk (blk_below (g := gb176) (o := .cells #[.string ((rd_T34 l0_0 x3_1).f0), .slice (some ad179) ((rd_T34 l0_0 x3_1).f1).length c175_1] 34 (0, 0)) (by (with_reducible repeat (first | refine blk_drewN ?_ _ | refine blk_drew ?_ | refine blk_alloc ?_ _)); exact BK176.out) hb); have n2_ := Aside0.mk (blk_below (g := gb180) (o := .cells #[.string ((rd_T40 ((rd_T34 l0_0 x3_1).f1) x6_3).f0), .int .i64 ((rd_T40 ((rd_T34 l0_0 x3_1).f1) x6_3).f1), .string ((rd_T40 ((rd_T34 l0_0 x3_1).f1) x6_3).f2)] 40 (0, 0)) (by (with_reducible repeat (first | refine blk_drewN ?_ _ | refine blk_drew ?_ | refine blk_alloc ?_ _)); exact BK180.out) hb); have n3_ := Aside0.mk (below_step (by repeat (first | (with_reducible first | exact HB.out | apply below_alloc | apply pw_below_drewN | apply below_drew1 | refine below_set ?_ GE174.out | refine below_set ?_ GE176.out | refine below_set ?_ GE180.out) | exact HB.out)) hb); clear BK174; clear BK176; clear BK180; clear HB; have BK174 := n0_; have BK176 := n1_; have BK180 := n2_; have HB := n3_; clear n0_ n1_ n2_ n3_; (try clear hb); (try clear hb2); (try clear hk); (try clear hi); have hcz46_0 : w45.cell? ⟨gb180, 0, none⟩ = some (.string ((rd_T40 ((rd_T34 l0_0 x3_1).f1) x6_3).f0)) := (blk_cell BK180.out 0).trans rfl; have hcz46_1 : w45.cell? ⟨gb180, 1, none⟩ = some (.int .i64 ((rd_T40 ((rd_T34 l0_0 x3_1).f1) x6_3).f1)) := (blk_cell BK180.out 1).trans rfl; have hcz46_2 : w45.cell? ⟨gb180, 2, none⟩ = some (.string ((rd_T40 ((rd_T34 l0_0 x3_1).f1) x6_3).f2)) := (blk_cell BK180.out 2).trans rfl; have hfz46_0 := blk_frozen BK180.out 0; have hfz46_1 := blk_frozen BK180.out 1; have hfz46_2 := blk_frozen BK180.out 2))
                                go_meet
                                case rel => exact ⟨_, (true), (by first | rfl | (simp; done) | (simp [*]; done)), H', ⟨by have := HK1.out; have := HJ5.out; have := HK3.out; first | omega | exact Nat.le_refl _⟩, ⟨by (with_reducible repeat (first | refine blk_drewN ?_ _ | refine blk_drew ?_ | refine blk_alloc ?_ _)); exact BK174.out⟩, ⟨by (with_reducible repeat (first | refine blk_drewN ?_ _ | refine blk_drew ?_ | refine blk_alloc ?_ _)); exact BK176.out⟩, ⟨by (with_reducible repeat (first | refine blk_drewN ?_ _ | refine blk_drew ?_ | refine blk_alloc ?_ _)); exact BK180.out⟩, ⟨by repeat (first | (with_reducible first | exact HB.out | apply below_alloc | apply pw_below_drewN | apply below_drew1 | refine below_set ?_ GE174.out | refine below_set ?_ GE176.out | refine below_set ?_ GE180.out) | exact HB.out)⟩⟩
                              · rw [if_neg c39] at H
                                have c39b0 : decide (((rd_T40 ((rd_T34 l0_0 x3_1).f1) x6_3).f1) < 0) = false := decide_eq_false c39
                                clear c39
                                have H' := Aside0.mk H
                                clear H
                                have hnb47 := NB176_174.out
                                have hnc47 := NB174_176.out
                                have hnb48 := NB176_180.out
                                have hnc48 := NB180_176.out
                                have hcz49_0 : w35.cell? ⟨gb176, 0, none⟩ = some (.string ((rd_T34 l0_0 x3_1).f0)) := (blk_cell BK176.out 0).trans rfl
                                have hcz49_1 : w35.cell? ⟨gb176, 1, none⟩ = some (.slice (some ad179) ((rd_T34 l0_0 x3_1).f1).length c175_1) := (blk_cell BK176.out 1).trans rfl
                                have hfz49_0 := blk_frozen BK176.out 0
                                have hfz49_1 := blk_frozen BK176.out 1
                                have hnb50 := NB180_174.out
                                have hnc50 := NB174_180.out
                                have hcz51_0 : w35.cell? ⟨gb180, 0, none⟩ = some (.string ((rd_T40 ((rd_T34 l0_0 x3_1).f1) x6_3).f0)) := (blk_cell BK180.out 0).trans rfl
                                have hcz51_1 : w35.cell? ⟨gb180, 1, none⟩ = some (.int .i64 ((rd_T40 ((rd_T34 l0_0 x3_1).f1) x6_3).f1)) := (blk_cell BK180.out 1).trans rfl
                                have hcz51_2 : w35.cell? ⟨gb180, 2, none⟩ = some (.string ((rd_T40 ((rd_T34 l0_0 x3_1).f1) x6_3).f2)) := (blk_cell BK180.out 2).trans rfl
                                have hfz51_0 := blk_frozen BK180.out 0
                                have hfz51_1 := blk_frozen BK180.out 1
                                have hfz51_2 := blk_frozen BK180.out 2
                                go_wp2_with (first | (go_at_call 16; (with_reducible refine (foliateref06_Field.calls k3 ((rd_T34 l0_0 x3_1).f0) _ _ ((rd_T34 l0_0 x3_1).f1) ((rd_T40 ((rd_T34 l0_0 x3_1).f1) x6_3).f0) t182 _ ?side1 ?side2 A37.out).mono ?_); (case side1 => repeat (first | exact (Kd.C_below HR175_1.out HB.out) | (with_reducible refine Kd.C_alloc ?_ _) | (with_reducible refine Kd.C_drewN ?_ _) | (with_reducible refine Kd.C_drew ?_))); (case side2 => exact HC175_1.out); rintro e w52 ⟨rfl, hb⟩; have n0_ := Aside0.mk (blk_below (g := gb174) (o := .cells #[.slice (some ad175) l0_0.length c0_0] 24 (0, 0)) (by (with_reducible repeat (first | refine blk_drewN ?_ _ | refine blk_drew ?_ | refine blk_alloc ?_ _)); exact BK174.out) hb); have n1_ := Aside0.mk (blk_below (g := gb176) (o := .cells #[.string ((rd_T34 l0_0 x3_1).f0), .slice (some ad179) ((rd_T34 l0_0 x3_1).f1).length c175_1] 34 (0, 0)) (by (with_reducible repeat (first | refine blk_drewN ?_ _ | refine blk_drew ?_ | refine blk_alloc ?_ _)); exact BK176.out) hb); have n2_ := Aside0.mk (blk_below (g := gb180) (o := .cells #[.string ((rd_T40 ((rd_T34 l0_0 x3_1).f1) x6_3).f0), .int .i64 ((rd_T40 ((rd_T34 l0_0 x3_1).f1) x6_3).f1), .string ((rd_T40 ((rd_T34 l0_0 x3_1).f1) x6_3).f2)] 40 (0, 0)) (by (with_reducible repeat (first | refine blk_drewN ?_ _ | refine blk_drew ?_ | refine blk_alloc ?_ _)); exact BK180.out) hb); have n3_ := Aside0.mk (below_step (by repeat (first | (with_reducible first | exact HB.out | apply below_alloc | apply pw_below_drewN | apply below_drew1 | refine below_set ?_ GE174.out | refine below_set ?_ GE176.out | refine below_set ?_ GE180.out) | exact HB.out)) hb); clear BK174; clear BK176; clear BK180; clear HB; have BK174 := n0_; have BK176 := n1_; have BK180 := n2_; have HB := n3_; clear n0_ n1_ n2_ n3_; (try clear hb); (try clear hb2); (try clear hk); (try clear hi); have hcz53_0 : w52.cell? ⟨gb180, 0, none⟩ = some (.string ((rd_T40 ((rd_T34 l0_0 x3_1).f1) x6_3).f0)) := (blk_cell BK180.out 0).trans rfl; have hcz53_1 : w52.cell? ⟨gb180, 1, none⟩ = some (.int .i64 ((rd_T40 ((rd_T34 l0_0 x3_1).f1) x6_3).f1)) := (blk_cell BK180.out 1).trans rfl; have hcz53_2 : w52.cell? ⟨gb180, 2, none⟩ = some (.string ((rd_T40 ((rd_T34 l0_0 x3_1).f1) x6_3).f2)) := (blk_cell BK180.out 2).trans rfl; have hfz53_0 := blk_frozen BK180.out 0; have hfz53_1 := blk_frozen BK180.out 1; have hfz53_2 := blk_frozen BK180.out 2))
                                go_meet
                                case rel => exact ⟨_, (decide (((rd_T40 ((rd_T34 l0_0 x3_1).f1) x6_3).f1) ≥ 6)), (by first | rfl | (simp; done) | (simp [*]; done)), H', ⟨by have := HK1.out; have := HJ5.out; have := HK3.out; first | omega | exact Nat.le_refl _⟩, ⟨by (with_reducible repeat (first | refine blk_drewN ?_ _ | refine blk_drew ?_ | refine blk_alloc ?_ _)); exact BK174.out⟩, ⟨by (with_reducible repeat (first | refine blk_drewN ?_ _ | refine blk_drew ?_ | refine blk_alloc ?_ _)); exact BK176.out⟩, ⟨by (with_reducible repeat (first | refine blk_drewN ?_ _ | refine blk_drew ?_ | refine blk_alloc ?_ _)); exact BK180.out⟩, ⟨by repeat (first | (with_reducible first | exact HB.out | apply below_alloc | apply pw_below_drewN | apply below_drew1 | refine below_set ?_ GE174.out | refine below_set ?_ GE176.out | refine below_set ?_ GE180.out) | exact HB.out)⟩⟩
                            · rw [if_neg c38] at H
                              have c38b0 : (t182 == x6_3) = false := beq_eq_false_iff_ne.mpr c38
                              have c38b1 : (t182 != x6_3) = true := bne_iff_ne.mpr c38
                              (first | rw [c38b0] | (simp only [i64_w, i32_w]; rw [c38b0]) | skip)
                              have H' := Aside0.mk H
                              clear H
                              have hnb54 := NB176_174.out
                              have hnc54 := NB174_176.out
                              have hnb55 := NB176_180.out
                              have hnc55 := NB180_176.out
                              have hcz56_0 : w35.cell? ⟨gb176, 0, none⟩ = some (.string ((rd_T34 l0_0 x3_1).f0)) := (blk_cell BK176.out 0).trans rfl
                              have hcz56_1 : w35.cell? ⟨gb176, 1, none⟩ = some (.slice (some ad179) ((rd_T34 l0_0 x3_1).f1).length c175_1) := (blk_cell BK176.out 1).trans rfl
                              have hfz56_0 := blk_frozen BK176.out 0
                              have hfz56_1 := blk_frozen BK176.out 1
                              have hnb57 := NB180_174.out
                              have hnc57 := NB174_180.out
                              have hcz58_0 : w35.cell? ⟨gb180, 0, none⟩ = some (.string ((rd_T40 ((rd_T34 l0_0 x3_1).f1) x6_3).f0)) := (blk_cell BK180.out 0).trans rfl
                              have hcz58_1 : w35.cell? ⟨gb180, 1, none⟩ = some (.int .i64 ((rd_T40 ((rd_T34 l0_0 x3_1).f1) x6_3).f1)) := (blk_cell BK180.out 1).trans rfl
                              have hcz58_2 : w35.cell? ⟨gb180, 2, none⟩ = some (.string ((rd_T40 ((rd_T34 l0_0 x3_1).f1) x6_3).f2)) := (blk_cell BK180.out 2).trans rfl
                              have hfz58_0 := blk_frozen BK180.out 0
                              have hfz58_1 := blk_frozen BK180.out 1
                              have hfz58_2 := blk_frozen BK180.out 2
                              go_wp2_with (first | (go_at_call 16; (with_reducible refine (foliateref06_Field.calls k3 ((rd_T34 l0_0 x3_1).f0) _ _ ((rd_T34 l0_0 x3_1).f1) ((rd_T40 ((rd_T34 l0_0 x3_1).f1) x6_3).f0) t182 _ ?side1 ?side2 A37.out).mono ?_); (case side1 => repeat (first | exact (Kd.C_below HR175_1.out HB.out) | (with_reducible refine Kd.C_alloc ?_ _) | (with_reducible refine Kd.C_drewN ?_ _) | (with_reducible refine Kd.C_drew ?_))); (case side2 => exact HC175_1.out); rintro e w59 ⟨rfl, hb⟩; have n0_ := Aside0.mk (blk_below (g := gb174) (o := .cells #[.slice (some ad175) l0_0.length c0_0] 24 (0, 0)) (by (with_reducible repeat (first | refine blk_drewN ?_ _ | refine blk_drew ?_ | refine blk_alloc ?_ _)); exact BK174.out) hb); have n1_ := Aside0.mk (blk_below (g := gb176) (o := .cells #[.string ((rd_T34 l0_0 x3_1).f0), .slice (some ad179) ((rd_T34 l0_0 x3_1).f1).length c175_1] 34 (0, 0)) (by (with_reducible repeat (first | refine blk_drewN ?_ _ | refine blk_drew ?_ | refine blk_alloc ?_ _)); exact BK176.out) hb); have n2_ := Aside0.mk (blk_below (g := gb180) (o := .cells #[.string ((rd_T40 ((rd_T34 l0_0 x3_1).f1) x6_3).f0), .int .i64 ((rd_T40 ((rd_T34 l0_0 x3_1).f1) x6_3).f1), .string ((rd_T40 ((rd_T34 l0_0 x3_1).f1) x6_3).f2)] 40 (0, 0)) (by (with_reducible repeat (first | refine blk_drewN ?_ _ | refine blk_drew ?_ | refine blk_alloc ?_ _)); exact BK180.out) hb); have n3_ := Aside0.mk (below_step (by repeat (first | (with_reducible first | exact HB.out | apply below_alloc | apply pw_below_drewN | apply below_drew1 | refine below_set ?_ GE174.out | refine below_set ?_ GE176.out | refine below_set ?_ GE180.out) | exact HB.out)) hb); clear BK174; clear BK176; clear BK180; clear HB; have BK174 := n0_; have BK176 := n1_; have BK180 := n2_; have HB := n3_; clear n0_ n1_ n2_ n3_; (try clear hb); (try clear hb2); (try clear hk); (try clear hi)))
                              go_meet
                              case rel => exact ⟨_, (true), (by first | rfl | (simp; done) | (simp [*]; done)), H', ⟨by have := HK1.out; have := HJ5.out; have := HK3.out; first | omega | exact Nat.le_refl _⟩, ⟨by (with_reducible repeat (first | refine blk_drewN ?_ _ | refine blk_drew ?_ | refine blk_alloc ?_ _)); exact BK174.out⟩, ⟨by (with_reducible repeat (first | refine blk_drewN ?_ _ | refine blk_drew ?_ | refine blk_alloc ?_ _)); exact BK176.out⟩, ⟨by (with_reducible repeat (first | refine blk_drewN ?_ _ | refine blk_drew ?_ | refine blk_alloc ?_ _)); exact BK180.out⟩, ⟨by repeat (first | (with_reducible first | exact HB.out | apply below_alloc | apply pw_below_drewN | apply below_drew1 | refine below_set ?_ GE174.out | refine below_set ?_ GE176.out | refine below_set ?_ GE180.out) | exact HB.out)⟩⟩
                          · replace c36 := Bool.eq_false_iff.mpr c36
                            subst c36
                            have H1 : (foliateref06_May.j3 k3 x3_1 x6_3 true l0_0 ((rd_T34 l0_0 x3_1).f0) ((rd_T34 l0_0 x3_1).f1) ((rd_T40 ((rd_T34 l0_0 x3_1).f1) x6_3).f0) ((rd_T40 ((rd_T34 l0_0 x3_1).f1) x6_3).f1) ((rd_T40 ((rd_T34 l0_0 x3_1).f1) x6_3).f2)) = some r := by rw [if_neg (show ¬ (false = true) by decide)] at H; exact H
                            clear H
                            have H := H1
                            clear H1
                            have H' := Aside0.mk H
                            clear H
                            go_wp2
                            go_meet
                            case rel => exact ⟨_, (true), (by first | rfl | (simp; done) | (simp [*]; done)), H', ⟨by have := HK1.out; have := HJ5.out; have := HK3.out; first | omega | exact Nat.le_refl _⟩, ⟨by (with_reducible repeat (first | refine blk_drewN ?_ _ | refine blk_drew ?_ | refine blk_alloc ?_ _)); exact BK174.out⟩, ⟨by (with_reducible repeat (first | refine blk_drewN ?_ _ | refine blk_drew ?_ | refine blk_alloc ?_ _)); exact BK176.out⟩, ⟨by (with_reducible repeat (first | refine blk_drewN ?_ _ | refine blk_drew ?_ | refine blk_alloc ?_ _)); exact BK180.out⟩, ⟨by repeat (first | (with_reducible first | exact HB.out | apply below_alloc | apply pw_below_drewN | apply below_drew1 | refine below_set ?_ GE174.out | refine below_set ?_ GE176.out | refine below_set ?_ GE180.out) | exact HB.out)⟩⟩
                        case rest =>
                          clear HC28
                          try clear c1
                          try clear p1
                          try clear q1
                          try clear hx1
                          try clear c2
                          try clear p2
                          try clear c3
                          try clear c3b0
                          try clear c4
                          try clear c4b0
                          try clear c5
                          try clear c9
                          try clear c12
                          try clear c14
                          try clear c14b0
                          try clear c14b1
                          try clear c15
                          try clear c17
                          try clear p17
                          try clear q17
                          try clear hx17
                          try clear c20
                          try clear c24
                          try clear c25
                          try clear c25b0
                          try clear c26
                          try clear c26b0
                          try clear c28
                          try clear c29
                          try clear c32
                          try clear c33
                          try clear c36
                          try clear c38
                          try clear c38b0
                          try clear c38b1
                          try clear c39
                          try clear c39b0
                          try clear c40
                          try clear c41
                          try clear c43
                          try clear c47
                          try clear c48
                          try clear c50
                          try clear c54
                          try clear c55
                          try clear c57
                          try clear hcz10_0
                          try clear hcz10_1
                          try clear hcz16_0
                          try clear hcz17_0
                          try clear hcz17_1
                          try clear hcz19_0
                          try clear hcz19_1
                          try clear hcz21_0
                          try clear hcz22_0
                          try clear hcz22_1
                          try clear hcz30_0
                          try clear hcz30_1
                          try clear hcz34_0
                          try clear hcz34_1
                          try clear hcz34_2
                          try clear hcz42_0
                          try clear hcz42_1
                          try clear hcz44_0
                          try clear hcz44_1
                          try clear hcz44_2
                          try clear hcz46_0
                          try clear hcz46_1
                          try clear hcz46_2
                          try clear hcz49_0
                          try clear hcz49_1
                          try clear hcz51_0
                          try clear hcz51_1
                          try clear hcz51_2
                          try clear hcz53_0
                          try clear hcz53_1
                          try clear hcz53_2
                          try clear hcz56_0
                          try clear hcz56_1
                          try clear hcz58_0
                          try clear hcz58_1
                          try clear hcz58_2
                          try clear hcz7_0
                          try clear hfz10_0
                          try clear hfz10_1
                          try clear hfz16_0
                          try clear hfz17_0
                          try clear hfz17_1
                          try clear hfz19_0
                          try clear hfz19_1
                          try clear hfz21_0
                          try clear hfz22_0
                          try clear hfz22_1
                          try clear hfz30_0
                          try clear hfz30_1
                          try clear hfz34_0
                          try clear hfz34_1
                          try clear hfz34_2
                          try clear hfz42_0
                          try clear hfz42_1
                          try clear hfz44_0
                          try clear hfz44_1
                          try clear hfz44_2
                          try clear hfz46_0
                          try clear hfz46_1
                          try clear hfz46_2
                          try clear hfz49_0
                          try clear hfz49_1
                          try clear hfz51_0
                          try clear hfz51_1
                          try clear hfz51_2
                          try clear hfz53_0
                          try clear hfz53_1
                          try clear hfz53_2
                          try clear hfz56_0
                          try clear hfz56_1
                          try clear hfz58_0
                          try clear hfz58_1
                          try clear hfz58_2
                          try clear hfz7_0
                          try clear hx175_0
                          try clear hx175_1
                          try clear hx179_0
                          try clear hx179_1
                          try clear hx179_2
                          try clear p1
                          try clear p17
                          try clear p175
                          try clear p179
                          try clear p2
                          try clear q1
                          try clear q17
                          try clear q175
                          try clear q179
                          obtain ⟨kq, x74_27, rfl, HA, HJ27, BK174, BK176, BK180, HB⟩ := hcut
                          cases kq with
                          | zero => exact absurd HA.out (by simp [foliateref06_May.j3])
                          | succ kj27 =>
                            have H := HA.out
                            clear HA
                            simp only [foliateref06_May.j3] at H
                            by_cases c60 : x74_27 = true
                            · subst c60
                              have H1 : (some false) = some r := by rw [if_pos rfl] at H; exact H
                              clear H
                              have H := H1
                              clear H1
                              obtain rfl := Option.some.inj H
                              go_wp2
                              go_ret
                              exact ⟨by first | rfl | (simp [errW_none, errW_some] <;> rfl) | (simp [*, errW_none, errW_some] <;> rfl), by repeat (first | (with_reducible first | exact HB.out | apply below_alloc | apply pw_below_drewN | apply below_drew1 | refine below_set ?_ GE174.out | refine below_set ?_ GE176.out | refine below_set ?_ GE180.out) | exact HB.out)⟩
                            · replace c60 := Bool.eq_false_iff.mpr c60
                              subst c60
                              have H1 : (if ((rd_T40 ((rd_T34 l0_0 x3_1).f1) x6_3).f1) = 5 then ((foliateref06_Find.f kj27 l0_0 ((rd_T40 ((rd_T34 l0_0 x3_1).f1) x6_3).f2)).bind fun t183 => (if t183 < 0 then (some false) else (foliateref06_May.l1 kj27 x3_1 (wrap64 (x6_3 + 1)) l0_0 ((rd_T34 l0_0 x3_1).f0) ((rd_T34 l0_0 x3_1).f1)))) else (if ((rd_T40 ((rd_T34 l0_0 x3_1).f1) x6_3).f2).toList = ([] : List UInt8) then (foliateref06_May.l1 kj27 x3_1 (wrap64 (x6_3 + 1)) l0_0 ((rd_T34 l0_0 x3_1).f0) ((rd_T34 l0_0 x3_1).f1)) else (some false))) = some r := by rw [if_neg (show ¬ (false = true) by decide)] at H; exact H
                              clear H
                              have H := H1
                              clear H1
                              by_cases c61 : ((rd_T40 ((rd_T34 l0_0 x3_1).f1) x6_3).f1) = 5
                              · rw [if_pos c61] at H
                                have c61b0 : (((rd_T40 ((rd_T34 l0_0 x3_1).f1) x6_3).f1) == 5) = true := beq_iff_eq.mpr c61
                                have c61b1 : (((rd_T40 ((rd_T34 l0_0 x3_1).f1) x6_3).f1) != 5) = false := bne_eq_false_iff_eq.mpr c61
                                clear c61
                                replace H := Option.bind_eq_some_iff.mp H
                                obtain ⟨t183, A620, H⟩ := H
                                replace H : (if t183 < 0 then (some false) else (foliateref06_May.l1 kj27 x3_1 (wrap64 (x6_3 + 1)) l0_0 ((rd_T34 l0_0 x3_1).f0) ((rd_T34 l0_0 x3_1).f1))) = some r := H
                                have A62 := Aside0.mk A620
                                clear A620
                                by_cases c63 : t183 < 0
                                · rw [if_pos c63] at H
                                  have c63b0 : decide (t183 < 0) = true := decide_eq_true c63
                                  clear c63
                                  obtain rfl := Option.some.inj H
                                  have hnb64 := NB180_174.out
                                  have hnc64 := NB174_180.out
                                  have hnb65 := NB180_176.out
                                  have hnc65 := NB176_180.out
                                  have hcz66_0 : wc.cell? ⟨gb180, 0, none⟩ = some (.string ((rd_T40 ((rd_T34 l0_0 x3_1).f1) x6_3).f0)) := (blk_cell BK180.out 0).trans rfl
                                  have hcz66_1 : wc.cell? ⟨gb180, 1, none⟩ = some (.int .i64 ((rd_T40 ((rd_T34 l0_0 x3_1).f1) x6_3).f1)) := (blk_cell BK180.out 1).trans rfl
                                  have hcz66_2 : wc.cell? ⟨gb180, 2, none⟩ = some (.string ((rd_T40 ((rd_T34 l0_0 x3_1).f1) x6_3).f2)) := (blk_cell BK180.out 2).trans rfl
                                  have hfz66_0 := blk_frozen BK180.out 0
                                  have hfz66_1 := blk_frozen BK180.out 1
                                  have hfz66_2 := blk_frozen BK180.out 2
                                  have hnb67 := NB174_176.out
                                  have hnc67 := NB176_174.out
                                  have hcz68_0 : wc.cell? ⟨gb174, 0, none⟩ = some (.slice (some ad175) l0_0.length c0_0) := (blk_cell BK174.out 0).trans rfl
                                  have hfz68_0 := blk_frozen BK174.out 0
                                  go_wp2_with (first | (go_at_call 22; (with_reducible refine (foliateref06_Find.calls kj27 _ _ l0_0 ((rd_T40 ((rd_T34 l0_0 x3_1).f1) x6_3).f2) t183 _ ?side1 ?side2 A62.out).mono ?_); (case side1 => repeat (first | exact (Kd.C_below HR0_0.out HB.out) | (with_reducible refine Kd.C_alloc ?_ _) | (with_reducible refine Kd.C_drewN ?_ _) | (with_reducible refine Kd.C_drew ?_))); (case side2 => exact HC0_0.out); rintro e w69 ⟨rfl, hb⟩; have n0_ := Aside0.mk (blk_below (g := gb174) (o := .cells #[.slice (some ad175) l0_0.length c0_0] 24 (0, 0)) (by (with_reducible repeat (first | refine blk_drewN ?_ _ | refine blk_drew ?_ | refine blk_alloc ?_ _)); exact BK174.out) hb); have n1_ := Aside0.mk (blk_below (g := gb176) (o := .cells #[.string ((rd_T34 l0_0 x3_1).f0), .slice (some ad179) ((rd_T34 l0_0 x3_1).f1).length c175_1] 34 (0, 0)) (by (with_reducible repeat (first | refine blk_drewN ?_ _ | refine blk_drew ?_ | refine blk_alloc ?_ _)); exact BK176.out) hb); have n2_ := Aside0.mk (blk_below (g := gb180) (o := .cells #[.string ((rd_T40 ((rd_T34 l0_0 x3_1).f1) x6_3).f0), .int .i64 ((rd_T40 ((rd_T34 l0_0 x3_1).f1) x6_3).f1), .string ((rd_T40 ((rd_T34 l0_0 x3_1).f1) x6_3).f2)] 40 (0, 0)) (by (with_reducible repeat (first | refine blk_drewN ?_ _ | refine blk_drew ?_ | refine blk_alloc ?_ _)); exact BK180.out) hb); have n3_ := Aside0.mk (below_step (by repeat (first | (with_reducible first | exact HB.out | apply below_alloc | apply pw_below_drewN | apply below_drew1 | refine below_set ?_ GE174.out | refine below_set ?_ GE176.out | refine below_set ?_ GE180.out) | exact HB.out)) hb); clear BK174; clear BK176; clear BK180; clear HB; have BK174 := n0_; have BK176 := n1_; have BK180 := n2_; have HB := n3_; clear n0_ n1_ n2_ n3_; (try clear hb); (try clear hb2); (try clear hk); (try clear hi)))
                                  go_ret
                                  exact ⟨by first | rfl | (simp [errW_none, errW_some] <;> rfl) | (simp [*, errW_none, errW_some] <;> rfl), by repeat (first | (with_reducible first | exact HB.out | apply below_alloc | apply pw_below_drewN | apply below_drew1 | refine below_set ?_ GE174.out | refine below_set ?_ GE176.out | refine below_set ?_ GE180.out) | exact HB.out)⟩
                                · rw [if_neg c63] at H
                                  have c63b0 : decide (t183 < 0) = false := decide_eq_false c63
                                  clear c63
                                  have H' := Aside0.mk H
                                  clear H
                                  have hnb70 := NB180_174.out
                                  have hnc70 := NB174_180.out
                                  have hnb71 := NB180_176.out
                                  have hnc71 := NB176_180.out
                                  have hcz72_0 : wc.cell? ⟨gb180, 0, none⟩ = some (.string ((rd_T40 ((rd_T34 l0_0 x3_1).f1) x6_3).f0)) := (blk_cell BK180.out 0).trans rfl
                                  have hcz72_1 : wc.cell? ⟨gb180, 1, none⟩ = some (.int .i64 ((rd_T40 ((rd_T34 l0_0 x3_1).f1) x6_3).f1)) := (blk_cell BK180.out 1).trans rfl
                                  have hcz72_2 : wc.cell? ⟨gb180, 2, none⟩ = some (.string ((rd_T40 ((rd_T34 l0_0 x3_1).f1) x6_3).f2)) := (blk_cell BK180.out 2).trans rfl
                                  have hfz72_0 := blk_frozen BK180.out 0
                                  have hfz72_1 := blk_frozen BK180.out 1
                                  have hfz72_2 := blk_frozen BK180.out 2
                                  have hnb73 := NB174_176.out
                                  have hnc73 := NB176_174.out
                                  have hcz74_0 : wc.cell? ⟨gb174, 0, none⟩ = some (.slice (some ad175) l0_0.length c0_0) := (blk_cell BK174.out 0).trans rfl
                                  have hfz74_0 := blk_frozen BK174.out 0
                                  go_wp2_with (first | (go_at_call 22; (with_reducible refine (foliateref06_Find.calls kj27 _ _ l0_0 ((rd_T40 ((rd_T34 l0_0 x3_1).f1) x6_3).f2) t183 _ ?side1 ?side2 A62.out).mono ?_); (case side1 => repeat (first | exact (Kd.C_below HR0_0.out HB.out) | (with_reducible refine Kd.C_alloc ?_ _) | (with_reducible refine Kd.C_drewN ?_ _) | (with_reducible refine Kd.C_drew ?_))); (case side2 => exact HC0_0.out); rintro e w75 ⟨rfl, hb⟩; have n0_ := Aside0.mk (blk_below (g := gb174) (o := .cells #[.slice (some ad175) l0_0.length c0_0] 24 (0, 0)) (by (with_reducible repeat (first | refine blk_drewN ?_ _ | refine blk_drew ?_ | refine blk_alloc ?_ _)); exact BK174.out) hb); have n1_ := Aside0.mk (blk_below (g := gb176) (o := .cells #[.string ((rd_T34 l0_0 x3_1).f0), .slice (some ad179) ((rd_T34 l0_0 x3_1).f1).length c175_1] 34 (0, 0)) (by (with_reducible repeat (first | refine blk_drewN ?_ _ | refine blk_drew ?_ | refine blk_alloc ?_ _)); exact BK176.out) hb); have n2_ := Aside0.mk (blk_below (g := gb180) (o := .cells #[.string ((rd_T40 ((rd_T34 l0_0 x3_1).f1) x6_3).f0), .int .i64 ((rd_T40 ((rd_T34 l0_0 x3_1).f1) x6_3).f1), .string ((rd_T40 ((rd_T34 l0_0 x3_1).f1) x6_3).f2)] 40 (0, 0)) (by (with_reducible repeat (first | refine blk_drewN ?_ _ | refine blk_drew ?_ | refine blk_alloc ?_ _)); exact BK180.out) hb); have n3_ := Aside0.mk (below_step (by repeat (first | (with_reducible first | exact HB.out | apply below_alloc | apply pw_below_drewN | apply below_drew1 | refine below_set ?_ GE174.out | refine below_set ?_ GE176.out | refine below_set ?_ GE180.out) | exact HB.out)) hb); clear BK174; clear BK176; clear BK180; clear HB; have BK174 := n0_; have BK176 := n1_; have BK180 := n2_; have HB := n3_; clear n0_ n1_ n2_ n3_; (try clear hb); (try clear hb2); (try clear hk); (try clear hi); have hcz76_0 : w75.cell? ⟨gb180, 0, none⟩ = some (.string ((rd_T40 ((rd_T34 l0_0 x3_1).f1) x6_3).f0)) := (blk_cell BK180.out 0).trans rfl; have hcz76_1 : w75.cell? ⟨gb180, 1, none⟩ = some (.int .i64 ((rd_T40 ((rd_T34 l0_0 x3_1).f1) x6_3).f1)) := (blk_cell BK180.out 1).trans rfl; have hcz76_2 : w75.cell? ⟨gb180, 2, none⟩ = some (.string ((rd_T40 ((rd_T34 l0_0 x3_1).f1) x6_3).f2)) := (blk_cell BK180.out 2).trans rfl; have hfz76_0 := blk_frozen BK180.out 0; have hfz76_1 := blk_frozen BK180.out 1; have hfz76_2 := blk_frozen BK180.out 2))
                                  go_roundg kj27
                                  case measure => have := HK1.out; have := HJ5.out; have := HK3.out; have := HJ27.out; omega
                                  case rel => exact ⟨(wrap64 (x6_3 + 1)), (by first | rfl | (simp; done) | (simp [*]; done)), H', ⟨by have := HK1.out; have := HJ5.out; have := HK3.out; have := HJ27.out; omega⟩, ⟨by (with_reducible repeat (first | refine blk_drewN ?_ _ | refine blk_drew ?_ | refine blk_alloc ?_ _)); exact BK174.out⟩, ⟨by (with_reducible repeat (first | refine blk_drewN ?_ _ | refine blk_drew ?_ | refine blk_alloc ?_ _)); exact BK176.out⟩, ⟨by repeat (first | (with_reducible first | exact HB.out | apply below_alloc | apply pw_below_drewN | apply below_drew1 | refine below_set ?_ GE174.out | refine below_set ?_ GE176.out | refine below_set ?_ GE180.out) | exact HB.out)⟩⟩
                              · rw [if_neg c61] at H
                                have c61b0 : (((rd_T40 ((rd_T34 l0_0 x3_1).f1) x6_3).f1) == 5) = false := beq_eq_false_iff_ne.mpr c61
                                have c61b1 : (((rd_T40 ((rd_T34 l0_0 x3_1).f1) x6_3).f1) != 5) = true := bne_iff_ne.mpr c61
                                by_cases c77 : ((rd_T40 ((rd_T34 l0_0 x3_1).f1) x6_3).f2).toList = ([] : List UInt8)
                                · rw [if_pos c77] at H
                                  have c77b0 : (((rd_T40 ((rd_T34 l0_0 x3_1).f1) x6_3).f2).toList == ([] : List UInt8)) = true := beq_iff_eq.mpr c77
                                  have c77b1 : (((rd_T40 ((rd_T34 l0_0 x3_1).f1) x6_3).f2).toList != ([] : List UInt8)) = false := bne_eq_false_iff_eq.mpr c77
                                  clear c77
                                  have H' := Aside0.mk H
                                  clear H
                                  have hnb78 := NB180_174.out
                                  have hnc78 := NB174_180.out
                                  have hnb79 := NB180_176.out
                                  have hnc79 := NB176_180.out
                                  have hcz80_0 : wc.cell? ⟨gb180, 0, none⟩ = some (.string ((rd_T40 ((rd_T34 l0_0 x3_1).f1) x6_3).f0)) := (blk_cell BK180.out 0).trans rfl
                                  have hcz80_1 : wc.cell? ⟨gb180, 1, none⟩ = some (.int .i64 ((rd_T40 ((rd_T34 l0_0 x3_1).f1) x6_3).f1)) := (blk_cell BK180.out 1).trans rfl
                                  have hcz80_2 : wc.cell? ⟨gb180, 2, none⟩ = some (.string ((rd_T40 ((rd_T34 l0_0 x3_1).f1) x6_3).f2)) := (blk_cell BK180.out 2).trans rfl
                                  have hfz80_0 := blk_frozen BK180.out 0
                                  have hfz80_1 := blk_frozen BK180.out 1
                                  have hfz80_2 := blk_frozen BK180.out 2
                                  go_wp2
                                  go_roundg kj27
                                  case measure => have := HK1.out; have := HJ5.out; have := HK3.out; have := HJ27.out; omega
                                  case rel => exact ⟨(wrap64 (x6_3 + 1)), (by first | rfl | (simp; done) | (simp [*]; done)), H', ⟨by have := HK1.out; have := HJ5.out; have := HK3.out; have := HJ27.out; omega⟩, ⟨by (with_reducible repeat (first | refine blk_drewN ?_ _ | refine blk_drew ?_ | refine blk_alloc ?_ _)); exact BK174.out⟩, ⟨by (with_reducible repeat (first | refine blk_drewN ?_ _ | refine blk_drew ?_ | refine blk_alloc ?_ _)); exact BK176.out⟩, ⟨by repeat (first | (with_reducible first | exact HB.out | apply below_alloc | apply pw_below_drewN | apply below_drew1 | refine below_set ?_ GE174.out | refine below_set ?_ GE176.out | refine below_set ?_ GE180.out) | exact HB.out)⟩⟩
                                · rw [if_neg c77] at H
                                  have c77b0 : (((rd_T40 ((rd_T34 l0_0 x3_1).f1) x6_3).f2).toList == ([] : List UInt8)) = false := beq_eq_false_iff_ne.mpr c77
                                  have c77b1 : (((rd_T40 ((rd_T34 l0_0 x3_1).f1) x6_3).f2).toList != ([] : List UInt8)) = true := bne_iff_ne.mpr c77
                                  obtain rfl := Option.some.inj H
                                  have hnb81 := NB180_174.out
                                  have hnc81 := NB174_180.out
                                  have hnb82 := NB180_176.out
                                  have hnc82 := NB176_180.out
                                  have hcz83_0 : wc.cell? ⟨gb180, 0, none⟩ = some (.string ((rd_T40 ((rd_T34 l0_0 x3_1).f1) x6_3).f0)) := (blk_cell BK180.out 0).trans rfl
                                  have hcz83_1 : wc.cell? ⟨gb180, 1, none⟩ = some (.int .i64 ((rd_T40 ((rd_T34 l0_0 x3_1).f1) x6_3).f1)) := (blk_cell BK180.out 1).trans rfl
                                  have hcz83_2 : wc.cell? ⟨gb180, 2, none⟩ = some (.string ((rd_T40 ((rd_T34 l0_0 x3_1).f1) x6_3).f2)) := (blk_cell BK180.out 2).trans rfl
                                  have hfz83_0 := blk_frozen BK180.out 0
                                  have hfz83_1 := blk_frozen BK180.out 1
                                  have hfz83_2 := blk_frozen BK180.out 2
                                  go_wp2
                                  go_ret
                                  exact ⟨by first | rfl | (simp [errW_none, errW_some] <;> rfl) | (simp [*, errW_none, errW_some] <;> rfl), by repeat (first | (with_reducible first | exact HB.out | apply below_alloc | apply pw_below_drewN | apply below_drew1 | refine below_set ?_ GE174.out | refine below_set ?_ GE176.out | refine below_set ?_ GE180.out) | exact HB.out)⟩
                      · rw [if_neg c26] at H
                        exact absurd H (by simp)
                    · rw [if_neg c25] at H
                      have c25b0 : decide (x6_3 < (((rd_T34 l0_0 x3_1).f1).length : Int)) = false := decide_eq_false c25
                      clear c25
                      have H' := Aside0.mk H
                      clear H
                      have hnb84 := NB176_174.out
                      have hnc84 := NB174_176.out
                      have hcz85_0 : wr.cell? ⟨gb176, 0, none⟩ = some (.string ((rd_T34 l0_0 x3_1).f0)) := (blk_cell BK176.out 0).trans rfl
                      have hcz85_1 : wr.cell? ⟨gb176, 1, none⟩ = some (.slice A175_1 ((rd_T34 l0_0 x3_1).f1).length c175_1) := (blk_cell BK176.out 1).trans rfl
                      have hfz85_0 := blk_frozen BK176.out 0
                      have hfz85_1 := blk_frozen BK176.out 1
                      go_wp2
                      go_roundg k3
                      case measure => have := HK1.out; have := HJ5.out; have := HK3.out; omega
                      case rel => exact ⟨(wrap64 (x3_1 + 1)), (by first | rfl | (simp; done) | (simp [*]; done)), H', ⟨by have := HK1.out; have := HJ5.out; have := HK3.out; omega⟩, ⟨by (with_reducible repeat (first | refine blk_drewN ?_ _ | refine blk_drew ?_ | refine blk_alloc ?_ _)); exact BK174.out⟩, ⟨by repeat (first | (with_reducible first | exact HB.out | apply below_alloc | apply pw_below_drewN | apply below_drew1 | refine below_set ?_ GE174.out | refine below_set ?_ GE176.out) | exact HB.out)⟩⟩
        · rw [if_neg c4] at H
          exact absurd H (by simp)
      · rw [if_neg c3] at H
        have c3b0 : decide (x3_1 < (l0_0.length : Int)) = false := decide_eq_false c3
        clear c3
        by_cases c86 : (l0_0.length : Int) ≥ 1
        · rw [if_pos c86] at H
          have c86b0 : decide (1 ≤ (l0_0.length : Int)) = true := decide_eq_true c86
          have c86b1 : decide (1 ≤ l0_0.length) = true := decide_eq_true (by omega)
          clear c86
          obtain rfl := Option.some.inj H
          have hcz87_0 : wr.cell? ⟨gb174, 0, none⟩ = some (.slice A0_0 l0_0.length c0_0) := (blk_cell BK174.out 0).trans rfl
          have hfz87_0 := blk_frozen BK174.out 0
          go_wp2
          go_ret
          exact ⟨by first | rfl | (simp [errW_none, errW_some] <;> rfl) | (simp [*, errW_none, errW_some] <;> rfl), by repeat (first | (with_reducible first | exact HB.out | apply below_alloc | apply pw_below_drewN | apply below_drew1 | refine below_set ?_ GE174.out) | exact HB.out)⟩
        · rw [if_neg c86] at H
          have c86b0 : decide (1 ≤ (l0_0.length : Int)) = false := decide_eq_false c86
          have c86b1 : decide (1 ≤ l0_0.length) = false := decide_eq_false (by omega)
          clear c86
          obtain rfl := Option.some.inj H
          have hcz88_0 : wr.cell? ⟨gb174, 0, none⟩ = some (.slice A0_0 l0_0.length c0_0) := (blk_cell BK174.out 0).trans rfl
          have hfz88_0 := blk_frozen BK174.out 0
          go_wp2
          go_ret
          exact ⟨by first | rfl | (simp [errW_none, errW_some] <;> rfl) | (simp [*, errW_none, errW_some] <;> rfl), by repeat (first | (with_reducible first | exact HB.out | apply below_alloc | apply pw_below_drewN | apply below_drew1 | refine below_set ?_ GE174.out) | exact HB.out)⟩

end Go.Proofs.Ytlcanmndeempfaa.PAll
