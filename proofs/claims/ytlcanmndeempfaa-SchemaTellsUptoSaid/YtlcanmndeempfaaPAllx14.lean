-- Written by wip/tools/myprint.py, a program of the prover's own, over the kit's print; the contracts named 'HAND' there are typed by hand.
import Derived.Test.YtlcanmndeempfaaPAllx0
import Derived.Test.YtlcanmndeempfaaPAllx12
import Derived.Test.YtlcanmndeempfaaPAllx13
namespace Go.Proofs.Ytlcanmndeempfaa.PAll
open Go.RowKit Go.Proofs.YtlcanmndeempfaaW.PrintWords Go.Proofs.YtlcanmndeempfaaW.PrintLast Go.Proofs.YtlcanmndeempfaaW.PrintMore
attribute [local go_sem] max2_int min2_int max_two min_two max_three min_three max_four min_four   -- for this text's walks alone
set_option linter.unusedVariables false
set_option linter.unusedSimpArgs false

/-! ### foliateref06_Read: function 12 -/
mutual
def foliateref06_Read.l0 : Nat → ByteArray → ByteArray → List (S34) → Option ((List (S34)) × Bool)
  | 0, _, _, _ => none
  | k + 1, x0, x5, x203000 => if (x5.size : Int) > 0 then (foliateref06_Read.j1 k x0 x5 (decide ((x203000.length : Int) ≤ 4)) x203000) else (foliateref06_Read.j1 k x0 x5 false x203000)
def foliateref06_Read.j1 : Nat → ByteArray → ByteArray → Bool → List (S34) → Option ((List (S34)) × Bool)
  | 0, _, _, _, _ => none
  | k + 1, x0, x5, x23, x203000 => if x23 = true then ((foliateref06_upto.f k x5 (⟨#[123]⟩ : ByteArray)).bind fun bt203 => (foliateref06_Read.l1 k x0 bt203.2 x203000 bt203.1 ([] : List (S40)))) else ((foliateref06_May.f k x203000).bind fun t228 => (if t228 = true then ((foliateref06_Text.f k x203000).bind fun t229 => (if t229.toList = x0.toList then (some (x203000, true)) else (some (([] : List (S34)), false)))) else (some (([] : List (S34)), false))))
def foliateref06_Read.l1 : Nat → ByteArray → ByteArray → List (S34) → ByteArray → List (S40) → Option ((List (S34)) × Bool)
  | 0, _, _, _, _, _ => none
  | k + 1, x0, x5, x203000, x206000, x206001 => if (x5.size : Int) > 1 then (if 0 < (x5.size : Int) then (if (bt x5 0) = 125 then (foliateref06_Read.j3 k x0 x5 false x203000 x206000 x206001) else (foliateref06_Read.j3 k x0 x5 (decide ((x206001.length : Int) ≤ 5)) x203000 x206000 x206001)) else (none)) else (foliateref06_Read.j3 k x0 x5 false x203000 x206000 x206001)
def foliateref06_Read.j3 : Nat → ByteArray → ByteArray → Bool → List (S34) → ByteArray → List (S40) → Option ((List (S34)) × Bool)
  | 0, _, _, _, _, _, _ => none
  | k + 1, x0, x5, x45, x203000, x206000, x206001 => if x45 = true then (if 1 < (x5.size : Int) then (if (bt x5 1) = 125 then (if 0 < (x5.size : Int) then (foliateref06_Read.j4 k x0 x5 ((bt x5 0) == 123) x203000 x206000 x206001) else (none)) else (foliateref06_Read.j4 k x0 x5 false x203000 x206000 x206001)) else (none)) else (if (x5.size : Int) > 0 then (if 1 ≤ (x5.size : Int) then (if x203000.length < 3518437208883 then (foliateref06_Read.l0 k x0 (x5.extract 1 x5.size) (x203000 ++ [(⟨x206000, x206001⟩ : S34)])) else (none)) else (none)) else (if x203000.length < 3518437208883 then (foliateref06_Read.l0 k x0 x5 (x203000 ++ [(⟨x206000, x206001⟩ : S34)])) else (none)))
def foliateref06_Read.j4 : Nat → ByteArray → ByteArray → Bool → List (S34) → ByteArray → List (S40) → Option ((List (S34)) × Bool)
  | 0, _, _, _, _, _, _ => none
  | k + 1, x0, x5, x53, x203000, x206000, x206001 => if x53 = true then (if 1 ≤ (x5.size : Int) then (foliateref06_Read.l1 k x0 (x5.extract 1 x5.size) x203000 x206000 x206001) else (none)) else (if 1 ≤ (x5.size : Int) then ((foliateref06_upto.f k (x5.extract 1 x5.size) (⟨#[58]⟩ : ByteArray)).bind fun bt212 => ((foliateref06_upto.f k bt212.2 (⟨#[44, 125]⟩ : ByteArray)).bind fun bt214 => (if (bt214.1.size : Int) > 0 then (if 1 ≤ (bt214.1.size : Int) then ((foliateref06_field.f k bt212.1 (bt214.1.extract 1 bt214.1.size)).bind fun bt216 => (if x206001.length < 3518437208883 then (foliateref06_Read.l1 k x0 bt214.2 x203000 x206000 (x206001 ++ [(⟨bt216.1, bt216.2.1, bt216.2.2⟩ : S40)])) else (none))) else (none)) else ((foliateref06_field.f k bt212.1 bt214.1).bind fun bt222 => (if x206001.length < 3518437208883 then (foliateref06_Read.l1 k x0 bt214.2 x203000 x206000 (x206001 ++ [(⟨bt222.1, bt222.2.1, bt222.2.2⟩ : S40)])) else (none)))))) else (none))
end
def foliateref06_Read.f (k : Nat) (a0 : ByteArray) : Option ((List (S34)) × Bool) := foliateref06_Read.l0 k a0 a0 ([] : List (S34))
def foliateref06_Read.T15 : Bool × List (List Nat × List Nat) := (true, [([], []), ([0], [0]), ([], []), ([], []), ([2, 3], [2, 3]), ([4], [4]), ([1, 5, 4], [1, 5]), ([0, 1, 2, 3, 4, 5, 6], []), ([7, 6, 6, 0, 1, 2, 3, 4, 5, 6], [6, 7])])
def foliateref06_Read.B15 : List Nat := [0, 1, 0, 0, 12, 28, 63, 127, 255]
theorem foliateref06_Read.tab15 : rtab .any (opsOf Try.f12 15) = foliateref06_Read.T15 := by kernel_rfl
theorem foliateref06_Read.bits15 : waitsOk foliateref06_Read.T15.2 foliateref06_Read.B15 = true := by kernel_rfl
set_option maxHeartbeats 8000000 in
set_option maxRecDepth 100000 in
theorem foliateref06_Read.calls (k : Nat) (a0 : ByteArray) (r1 : List (S34)) (r2 : Bool) (w : World) (h : foliateref06_Read.f k a0 = some (r1, r2)) :
    Calls Try.prog 12 #[.string a0] w fun e w' => ∃ v0_ : Value, e = .returned (.tuple #[.agg #[v0_], .bool r2]) ∧ Kd.S k34 34 w' w.heap.size (fun _ => True) v0_ r1 ∧ Below w.heap.size w w' := by
  have hu24 := Try.underlying24
  have hu34 := Try.underlying34
  have HB := Aside0.mk (Below.refl w.heap.size w)
  have H : (foliateref06_Read.l0 k a0 a0 ([] : List (S34))) = some (r1, r2) := h
  clear h
  have H' := Aside0.mk H
  clear H
  go_enter Try.func12, Try.ntmps12
  go_wp2_with (first | ((with_reducible refine gate_dst (N := 2) rfl ?_); (try (refine gate_guard (by rfl) ?_; dsimp only)); refine box_event ?hg (N := 2) ?hd (cs := #[.slice none 0 0]) (t := 24) ?hr ?_; (case hd => rfl); (case hg => rfl); (case hr => first | (go_simp; done) | (go_simp; rfl)); intro gb201 hg w2 hbox hb; have n0_ := Aside0.mk (below_step (by repeat (first | (with_reducible first | exact HB.out | apply below_alloc | apply pw_below_drewN | apply below_drew1) | exact HB.out)) hb); have n1_ := Aside0.mk (hbox); have n2_ := Aside0.mk ((by rw [hg]; exact (below_size (by repeat (first | (with_reducible first | exact HB.out | apply below_alloc | apply pw_below_drewN | apply below_drew1) | exact HB.out))) : w.heap.size ≤ gb201)); have n3_ := Aside0.mk ((by rw [hg]; exact (below_size (by repeat (first | (with_reducible first | exact HB.out | apply below_alloc | apply pw_below_drewN | apply below_drew1) | exact HB.out))) : w.heap.size ≤ gb201)); clear HB; have HB := n0_; have BK201 := n1_; have GW201 := n2_; have GE201 := n3_; clear n0_ n1_ n2_ n3_; clear hb hbox hg) | ((with_reducible refine gate_dst (N := 4) rfl ?_); (try (refine gate_guard (by rfl) ?_; dsimp only)); refine box_event ?hg (N := 4) ?hd (cs := #[.slice none 0 0]) (t := 24) ?hr ?_; (case hd => rfl); (case hg => rfl); (case hr => first | (go_simp; done) | (go_simp; rfl)); intro gb202 hg w3 hbox hb; have n0_ := Aside0.mk (blk_below (g := gb201) (o := .cells #[.slice none 0 0] 24 (0, 0)) (by (with_reducible repeat (first | refine blk_drewN ?_ _ | refine blk_drew ?_ | refine blk_alloc ?_ _)); exact BK201.out) hb); have n1_ := Aside0.mk (below_step (by repeat (first | (with_reducible first | exact HB.out | apply below_alloc | apply pw_below_drewN | apply below_drew1 | refine below_set ?_ GE201.out) | exact HB.out)) hb); have n2_ := Aside0.mk (hbox); have n3_ := Aside0.mk ((by rw [hg]; exact (below_size (by repeat (first | (with_reducible first | exact HB.out | apply below_alloc | apply pw_below_drewN | apply below_drew1 | refine below_set ?_ GE201.out) | exact HB.out))) : w.heap.size ≤ gb202)); have n4_ := Aside0.mk ((by rw [hg]; exact (below_size (by repeat (first | (with_reducible first | exact HB.out | apply below_alloc | apply pw_below_drewN | apply below_drew1 | refine below_set ?_ GE201.out) | exact HB.out))) : w.heap.size ≤ gb202)); have n5_ := Aside0.mk ((by rw [hg]; exact Nat.ne_of_lt (blk_lt (g := gb201) (o := .cells #[.slice none 0 0] 24 (0, 0)) (by (with_reducible repeat (first | refine blk_drewN ?_ _ | refine blk_drew ?_ | refine blk_alloc ?_ _)); exact BK201.out)) : gb201 ≠ gb202)); have n6_ := Aside0.mk ((by rw [hg]; exact Nat.ne_of_gt (blk_lt (g := gb201) (o := .cells #[.slice none 0 0] 24 (0, 0)) (by (with_reducible repeat (first | refine blk_drewN ?_ _ | refine blk_drew ?_ | refine blk_alloc ?_ _)); exact BK201.out)) : gb202 ≠ gb201)); clear BK201; clear HB; have BK201 := n0_; have HB := n1_; have BK202 := n2_; have GW202 := n3_; have GE202 := n4_; have NB201_202 := n5_; have NB202_201 := n6_; clear n0_ n1_ n2_ n3_ n4_ n5_ n6_; clear hb hbox hg))
  go_loopg [5] k (fun kq v5 w' => ∃ (x5_1 : ByteArray) (x203000_1 : List (S34)) (u203000 : Value), v5 = .string x5_1 ∧ Aside0 (foliateref06_Read.l0 kq a0 x5_1 x203000_1 = some (r1, r2)) ∧ Aside0 (kq ≤ k) ∧ Aside0 (Kd.S k34 34 w' w.heap.size (fun _ => True) u203000 x203000_1) ∧ Aside0 (w'.heap[gb201]? = some (.cells #[(.slice none 0 0)] 24 (0, 0))) ∧ Aside0 (w'.heap[gb202]? = some (.cells #[u203000] 24 (0, 0))) ∧ Aside0 (Below w.heap.size w w'))
  case atStart => exact ⟨(a0), (([] : List (S34))), (.slice none 0 0), (by first | rfl | (simp; done) | (simp [*]; done)), H', ⟨Nat.le_refl _⟩, ⟨by first | exact Kd.S_nil _ _ _ _ _ | exact Kd.N_nil _ _ _ _ _ | exact Kd.V_nil _ _ _ _ _ | exact Kd.Q_nil _ _ _ _ _ | exact Kd.R_nil _ _ _ _ _⟩, ⟨by (with_reducible repeat (first | refine blk_drewN ?_ _ | refine blk_drew ?_ | refine blk_alloc ?_ _)); exact BK201.out⟩, ⟨by (with_reducible repeat (first | refine blk_drewN ?_ _ | refine blk_drew ?_ | refine blk_alloc ?_ _)); exact BK202.out⟩, ⟨by repeat (first | (with_reducible first | exact HB.out | apply below_alloc | apply pw_below_drewN | apply below_drew1 | refine below_set ?_ GE201.out | refine below_set ?_ GE202.out) | exact HB.out)⟩⟩
  case round =>
    clear H'
    try clear c1
    try clear p2
    obtain ⟨x5_1, x203000_1, u203000, rfl, HA, HK1, HO_203000, BK201, BK202, HB⟩ := hrel
    cases gk with
    | zero => exact absurd HA.out (by simp [foliateref06_Read.l0])
    | succ k1 =>
      have H := HA.out
      clear HA
      simp only [foliateref06_Read.l0] at H
      have HC4 := Aside0.mk H
      clear H
      go_upto_region 3 with (fail)
      go_cut [23] (fun v23 wc => ∃ (kq : Nat) (x23_3 : Bool), v23 = .bool x23_3 ∧ Aside0 (foliateref06_Read.j1 kq a0 x5_1 x23_3 x203000_1 = some (r1, r2)) ∧ Aside0 (kq ≤ k1) ∧ Aside0 (Kd.S k34 34 wc w.heap.size (fun _ => True) u203000 x203000_1) ∧ Aside0 (wc.heap[gb201]? = some (.cells #[(.slice none 0 0)] 24 (0, 0))) ∧ Aside0 (wc.heap[gb202]? = some (.cells #[u203000] 24 (0, 0))) ∧ Aside0 (Below w.heap.size w wc))
      case first =>
        have H := HC4.out
        clear HC4
        by_cases c5 : (x5_1.size : Int) > 0
        · rw [if_pos c5] at H
          have c5b0 : decide (0 < (x5_1.size : Int)) = true := decide_eq_true c5
          have c5b1 : decide (0 < x5_1.size) = true := decide_eq_true (by omega)
          clear c5
          (first | rw [c5b0] | (simp only [i64_w, i32_w]; rw [c5b0]) | skip)
          have H' := Aside0.mk H
          clear H
          have hnb6 := NB202_201.out
          have hnc6 := NB201_202.out
          have hcz7_0 : wr.cell? ⟨gb202, 0, none⟩ = some (u203000) := (blk_cell BK202.out 0).trans rfl
          have hfz7_0 := blk_frozen BK202.out 0
          obtain ⟨Ao8, co8, eo8⟩ := Kd.S_slice HO_203000.out
          subst eo8
          go_wp2
          go_meet
          case rel => exact ⟨_, (decide ((x203000_1.length : Int) ≤ 4)), (by first | rfl | (simp; done) | (simp [*]; done)), H', ⟨by have := HK1.out; first | omega | exact Nat.le_refl _⟩, ⟨by (with_reducible repeat (first | apply Kd.S_alloc | apply Kd.S_drewN | apply Kd.S_drew)); exact HO_203000.out⟩, ⟨by (with_reducible repeat (first | refine blk_drewN ?_ _ | refine blk_drew ?_ | refine blk_alloc ?_ _)); exact BK201.out⟩, ⟨by (with_reducible repeat (first | refine blk_drewN ?_ _ | refine blk_drew ?_ | refine blk_alloc ?_ _)); exact BK202.out⟩, ⟨by repeat (first | (with_reducible first | exact HB.out | apply below_alloc | apply pw_below_drewN | apply below_drew1 | refine below_set ?_ GE201.out | refine below_set ?_ GE202.out) | exact HB.out)⟩⟩
        · rw [if_neg c5] at H
          have c5b0 : decide (0 < (x5_1.size : Int)) = false := decide_eq_false c5
          have c5b1 : decide (0 < x5_1.size) = false := decide_eq_false (by omega)
          clear c5
          (first | rw [c5b0] | (simp only [i64_w, i32_w]; rw [c5b0]) | skip)
          have H' := Aside0.mk H
          clear H
          go_wp2
          go_meet
          case rel => exact ⟨_, (false), (by first | rfl | (simp; done) | (simp [*]; done)), H', ⟨by have := HK1.out; first | omega | exact Nat.le_refl _⟩, ⟨by (with_reducible repeat (first | apply Kd.S_alloc | apply Kd.S_drewN | apply Kd.S_drew)); exact HO_203000.out⟩, ⟨by (with_reducible repeat (first | refine blk_drewN ?_ _ | refine blk_drew ?_ | refine blk_alloc ?_ _)); exact BK201.out⟩, ⟨by (with_reducible repeat (first | refine blk_drewN ?_ _ | refine blk_drew ?_ | refine blk_alloc ?_ _)); exact BK202.out⟩, ⟨by repeat (first | (with_reducible first | exact HB.out | apply below_alloc | apply pw_below_drewN | apply below_drew1 | refine below_set ?_ GE201.out | refine below_set ?_ GE202.out) | exact HB.out)⟩⟩
      case rest =>
        clear HC4
        try clear c1
        try clear p2
        try clear c5
        try clear c5b0
        try clear c5b1
        try clear c6
        try clear hcz7_0
        try clear hfz7_0
        try clear p2
        obtain ⟨kq, x23_3, rfl, HA, HJ3, HO_203000, BK201, BK202, HB⟩ := hcut
        cases kq with
        | zero => exact absurd HA.out (by simp [foliateref06_Read.j1])
        | succ kj3 =>
          have H := HA.out
          clear HA
          simp only [foliateref06_Read.j1] at H
          by_cases c9 : x23_3 = true
          · subst c9
            have H1 : ((foliateref06_upto.f kj3 x5_1 (⟨#[123]⟩ : ByteArray)).bind fun bt203 => (foliateref06_Read.l1 kj3 a0 bt203.2 x203000_1 bt203.1 ([] : List (S40)))) = some (r1, r2) := by rw [if_pos rfl] at H; exact H
            clear H
            have H := H1
            clear H1
            replace H := Option.bind_eq_some_iff.mp H
            obtain ⟨⟨t203, t204⟩, A100, H⟩ := H
            replace H : (foliateref06_Read.l1 kj3 a0 t204 x203000_1 t203 ([] : List (S40))) = some (r1, r2) := H
            have A10 := Aside0.mk A100
            clear A100
            have H' := Aside0.mk H
            clear H
            go_wp2_with (first | ((with_reducible refine gate_callee (f := 25) rfl ?_); refine goesL_ (some 26) rfl rfl Try.func25 (by kernel_rfl) rfl #[.string x5_1, .string (⟨#[123]⟩ : ByteArray)] rfl (by (try simp only [List.map_toArray, List.map_cons, List.map_nil]); first | done | rfl | (simp only [List.length_drop, List.length_take]; rfl)) ?_; (with_reducible refine (foliateref06_upto.calls kj3 x5_1 (⟨#[123]⟩ : ByteArray) t203 t204 _ A10.out).mono ?_); rintro e w' ⟨rfl, ⟨nd, rfl⟩⟩; refine ⟨_, rfl, ?_⟩; (try (rw [drewN_self wc]; generalize hq_ : World.drewN wc _ = wc; have n0_ : Aside0 (Kd.S k34 34 wc w.heap.size (fun _ => True) u203000 x203000_1) := ⟨by rw [← hq_]; exact (by (with_reducible repeat (first | apply Kd.S_alloc | apply Kd.S_drewN | apply Kd.S_drew)); exact HO_203000.out)⟩; have n1_ : Aside0 (wc.heap[gb201]? = some (.cells #[.slice none 0 0] 24 (0, 0))) := ⟨by rw [← hq_]; exact (by (with_reducible repeat (first | refine blk_drewN ?_ _ | refine blk_drew ?_ | refine blk_alloc ?_ _)); exact BK201.out)⟩; have n2_ : Aside0 (wc.heap[gb202]? = some (.cells #[u203000] 24 (0, 0))) := ⟨by rw [← hq_]; exact (by (with_reducible repeat (first | refine blk_drewN ?_ _ | refine blk_drew ?_ | refine blk_alloc ?_ _)); exact BK202.out)⟩; have n3_ : Aside0 (Below w.heap.size w wc) := ⟨by rw [← hq_]; exact (by repeat (first | (with_reducible first | exact HB.out | apply below_alloc | apply pw_below_drewN | apply below_drew1 | refine below_set ?_ GE201.out | refine below_set ?_ GE202.out) | exact HB.out))⟩; clear HO_203000 BK201 BK202 HB hq_; have HO_203000 := n0_; have BK201 := n1_; have BK202 := n2_; have HB := n3_; clear n0_ n1_ n2_ n3_))) | ((with_reducible refine gate_dst (N := 8) rfl ?_); (try (refine gate_guard (by rfl) ?_; dsimp only)); refine box_event ?hg (N := 8) ?hd (cs := #[.string (⟨#[]⟩ : ByteArray), .slice none 0 0]) (t := 34) ?hr ?_; (case hd => rfl); (case hg => rfl); (case hr => first | (go_simp; done) | (go_simp; rfl)); intro gb205 hg w11 hbox hb; have n0_ := Aside0.mk (Kd.S_below (Kd.S_elderB (by (with_reducible repeat (first | apply Kd.S_alloc | apply Kd.S_drewN | apply Kd.S_drew)); exact HO_203000.out) gb205 (Nat.le_of_eq hg.symm)) hb); have n1_ := Aside0.mk (blk_below (g := gb201) (o := .cells #[.slice none 0 0] 24 (0, 0)) (by (with_reducible repeat (first | refine blk_drewN ?_ _ | refine blk_drew ?_ | refine blk_alloc ?_ _)); exact BK201.out) hb); have n2_ := Aside0.mk (blk_below (g := gb202) (o := .cells #[u203000] 24 (0, 0)) (by (with_reducible repeat (first | refine blk_drewN ?_ _ | refine blk_drew ?_ | refine blk_alloc ?_ _)); exact BK202.out) hb); have n3_ := Aside0.mk (below_step (by repeat (first | (with_reducible first | exact HB.out | apply below_alloc | apply pw_below_drewN | apply below_drew1 | refine below_set ?_ GE201.out | refine below_set ?_ GE202.out) | exact HB.out)) hb); have n4_ := Aside0.mk (hbox); have n5_ := Aside0.mk ((by rw [hg]; exact (below_size (by repeat (first | (with_reducible first | exact HB.out | apply below_alloc | apply pw_below_drewN | apply below_drew1 | refine below_set ?_ GE201.out | refine below_set ?_ GE202.out) | exact HB.out))) : w.heap.size ≤ gb205)); have n6_ := Aside0.mk ((by rw [hg]; exact (below_size (by repeat (first | (with_reducible first | exact HB.out | apply below_alloc | apply pw_below_drewN | apply below_drew1 | refine below_set ?_ GE201.out | refine below_set ?_ GE202.out) | exact HB.out))) : w.heap.size ≤ gb205)); have n7_ := Aside0.mk ((by rw [hg]; exact Nat.ne_of_lt (blk_lt (g := gb201) (o := .cells #[.slice none 0 0] 24 (0, 0)) (by (with_reducible repeat (first | refine blk_drewN ?_ _ | refine blk_drew ?_ | refine blk_alloc ?_ _)); exact BK201.out)) : gb201 ≠ gb205)); have n8_ := Aside0.mk ((by rw [hg]; exact Nat.ne_of_gt (blk_lt (g := gb201) (o := .cells #[.slice none 0 0] 24 (0, 0)) (by (with_reducible repeat (first | refine blk_drewN ?_ _ | refine blk_drew ?_ | refine blk_alloc ?_ _)); exact BK201.out)) : gb205 ≠ gb201)); have n9_ := Aside0.mk ((by rw [hg]; exact Nat.ne_of_lt (blk_lt (g := gb202) (o := .cells #[u203000] 24 (0, 0)) (by (with_reducible repeat (first | refine blk_drewN ?_ _ | refine blk_drew ?_ | refine blk_alloc ?_ _)); exact BK202.out)) : gb202 ≠ gb205)); have n10_ := Aside0.mk ((by rw [hg]; exact Nat.ne_of_gt (blk_lt (g := gb202) (o := .cells #[u203000] 24 (0, 0)) (by (with_reducible repeat (first | refine blk_drewN ?_ _ | refine blk_drew ?_ | refine blk_alloc ?_ _)); exact BK202.out)) : gb205 ≠ gb202)); clear HO_203000; clear BK201; clear BK202; clear HB; have HO_203000 := n0_; have BK201 := n1_; have BK202 := n2_; have HB := n3_; have BK205 := n4_; have GW205 := n5_; have GE205 := n6_; have NB201_205 := n7_; have NB205_201 := n8_; have NB202_205 := n9_; have NB205_202 := n10_; clear n0_ n1_ n2_ n3_ n4_ n5_ n6_ n7_ n8_ n9_ n10_; clear hb hbox hg; have hnb12 := NB205_201.out; have hnc12 := NB201_205.out; have hnb13 := NB205_202.out; have hnc13 := NB202_205.out; have hcz14_0 : w11.cell? ⟨gb205, 0, none⟩ = some (.string (⟨#[]⟩ : ByteArray)) := (blk_cell BK205.out 0).trans rfl; have hcz14_1 : w11.cell? ⟨gb205, 1, none⟩ = some (.slice none 0 0) := (blk_cell BK205.out 1).trans rfl; have hfz14_0 := blk_frozen BK205.out 0; have hfz14_1 := blk_frozen BK205.out 1))
            go_loopg [5] kj3 (fun kq v5 w' => ∃ (x5_3 : ByteArray) (x206001_3 : List (S40)) (u206001 : Value), v5 = .string x5_3 ∧ Aside0 (foliateref06_Read.l1 kq a0 x5_3 x203000_1 t203 x206001_3 = some (r1, r2)) ∧ Aside0 (kq ≤ kj3) ∧ Aside0 (Kd.S k34 34 w' w.heap.size (fun k_ => some k_ ≠ (u206001 : Value).ownBlock ∧ k_ ≠ gb205) u203000 x203000_1) ∧ Aside0 (Kd.R k40 40 w' w.heap.size (fun _ => True) u206001 x206001_3) ∧ Aside0 (w'.heap[gb201]? = some (.cells #[(.slice none 0 0)] 24 (0, 0))) ∧ Aside0 (w'.heap[gb202]? = some (.cells #[u203000] 24 (0, 0))) ∧ Aside0 (w'.heap[gb205]? = some (.cells #[.string t203, u206001] 34 (0, 0))) ∧ Aside0 (Below w.heap.size w w'))
            case atStart => exact ⟨(t204), (([] : List (S40))), (.slice none 0 0), (by first | rfl | (simp; done) | (simp [*]; done)), H', ⟨Nat.le_refl _⟩, ⟨by (with_reducible repeat (first | apply Kd.S_alloc | apply Kd.S_drewN | apply Kd.S_drew)); exact Kd.S_mono (Kd.S_far (p := ⟨gb205, 1, none⟩) (Kd.S_far (p := ⟨gb205, 0, none⟩) (Kd.S_mono HO_203000.out (fun k_ hk => (⟨hk, hk.2⟩ : _ ∧ k_ ≠ gb205))) (fun _ hk => hk.2) (.string t203)) (fun _ hk => hk.2) (.slice none 0 0)) (fun _ hk => ⟨(by simp [Value.ownBlock]), hk.1.2⟩)⟩, ⟨by first | exact Kd.R_nil _ _ _ _ _ | exact Kd.N_nil _ _ _ _ _ | exact Kd.V_nil _ _ _ _ _ | exact Kd.Q_nil _ _ _ _ _ | exact Kd.S_nil _ _ _ _ _⟩, ⟨by (with_reducible repeat (first | refine blk_drewN ?_ _ | refine blk_drew ?_ | refine blk_alloc ?_ _)); refine blk_far ?_ NB201_205.out _; (with_reducible repeat (first | refine blk_drewN ?_ _ | refine blk_drew ?_ | refine blk_alloc ?_ _)); refine blk_far ?_ NB201_205.out _; (with_reducible repeat (first | refine blk_drewN ?_ _ | refine blk_drew ?_ | refine blk_alloc ?_ _)); exact BK201.out⟩, ⟨by (with_reducible repeat (first | refine blk_drewN ?_ _ | refine blk_drew ?_ | refine blk_alloc ?_ _)); refine blk_far ?_ NB202_205.out _; (with_reducible repeat (first | refine blk_drewN ?_ _ | refine blk_drew ?_ | refine blk_alloc ?_ _)); refine blk_far ?_ NB202_205.out _; (with_reducible repeat (first | refine blk_drewN ?_ _ | refine blk_drew ?_ | refine blk_alloc ?_ _)); exact BK202.out⟩, ⟨by (with_reducible repeat (first | refine blk_drewN ?_ _ | refine blk_drew ?_ | refine blk_alloc ?_ _)); refine blk_put (cs := #[.string t203, .slice none 0 0]) ?_ 1 _ rfl; (with_reducible repeat (first | refine blk_drewN ?_ _ | refine blk_drew ?_ | refine blk_alloc ?_ _)); refine blk_put (cs := #[.string (⟨#[]⟩ : ByteArray), .slice none 0 0]) ?_ 0 _ rfl; (with_reducible repeat (first | refine blk_drewN ?_ _ | refine blk_drew ?_ | refine blk_alloc ?_ _)); exact BK205.out⟩, ⟨by repeat (first | (with_reducible first | exact HB.out | apply below_alloc | apply pw_below_drewN | apply below_drew1 | refine below_set ?_ GE201.out | refine below_set ?_ GE202.out | refine below_set ?_ GE205.out) | exact HB.out)⟩⟩
            case round =>
              clear H'
              try clear c1
              try clear c2
              try clear p2
              try clear c5
              try clear c5b0
              try clear c5b1
              try clear c6
              try clear c9
              try clear c12
              try clear c13
              try clear hcz14_0
              try clear hcz14_1
              try clear hcz7_0
              try clear hfz14_0
              try clear hfz14_1
              try clear hfz7_0
              try clear p2
              obtain ⟨x5_3, x206001_3, u206001, rfl, HA, HK3, HO_203000, HO_206001, BK201, BK202, BK205, HB⟩ := hrel
              cases gk with
              | zero => exact absurd HA.out (by simp [foliateref06_Read.l1])
              | succ k3 =>
                have H := HA.out
                clear HA
                simp only [foliateref06_Read.l1] at H
                have HC15 := Aside0.mk H
                clear H
                go_upto_region 7 with (fail)
                go_cut [45] (fun v45 wc => ∃ (kq : Nat) (x45_14 : Bool), v45 = .bool x45_14 ∧ Aside0 (foliateref06_Read.j3 kq a0 x5_3 x45_14 x203000_1 t203 x206001_3 = some (r1, r2)) ∧ Aside0 (kq ≤ k3) ∧ Aside0 (Kd.S k34 34 wc w.heap.size (fun k_ => some k_ ≠ (u206001 : Value).ownBlock ∧ k_ ≠ gb205) u203000 x203000_1) ∧ Aside0 (Kd.R k40 40 wc w.heap.size (fun _ => True) u206001 x206001_3) ∧ Aside0 (wc.heap[gb201]? = some (.cells #[(.slice none 0 0)] 24 (0, 0))) ∧ Aside0 (wc.heap[gb202]? = some (.cells #[u203000] 24 (0, 0))) ∧ Aside0 (wc.heap[gb205]? = some (.cells #[.string t203, u206001] 34 (0, 0))) ∧ Aside0 (Below w.heap.size w wc))
                case first =>
                  have H := HC15.out
                  clear HC15
                  by_cases c16 : (x5_3.size : Int) > 1
                  · rw [if_pos c16] at H
                    have c16b0 : decide (1 < (x5_3.size : Int)) = true := decide_eq_true c16
                    have c16b1 : decide (1 < x5_3.size) = true := decide_eq_true (by omega)
                    clear c16
                    (first | rw [c16b0] | (simp only [i64_w, i32_w]; rw [c16b0]) | skip)
                    by_cases c17 : 0 < (x5_3.size : Int)
                    · rw [if_pos c17] at H
                      have c17b0 : decide (0 < (x5_3.size : Int)) = true := decide_eq_true c17
                      have c17b1 : decide (0 < x5_3.size) = true := decide_eq_true (by omega)
                      clear c17
                      by_cases c19 : (bt x5_3 0) = 125
                      · rw [if_pos c19] at H
                        have c19b0 : ((bt x5_3 0) == 125) = true := beq_iff_eq.mpr c19
                        have c19b1 : ((bt x5_3 0) != 125) = false := bne_eq_false_iff_eq.mpr c19
                        clear c19
                        have H' := Aside0.mk H
                        clear H
                        have p18 : 0 ≤ (0 : Int) := (by omega)
                        have q18 : 0 < x5_3.size := (by have : (0 : Int) < (x5_3.size : Int) := of_decide_eq_true (by first | (with_reducible assumption) | assumption); omega)
                        have hx18 : ∀ h : 0 < x5_3.size, ((x5_3[0]'h).toNat : Int) = bt x5_3 0 := bt_at x5_3 0
                        clear p18
                        have qi18 : (0 < (x5_3.size : Int)) = True := eq_true (of_decide_eq_true (by first | (with_reducible assumption) | assumption))
                        replace q18 := eq_true q18
                        go_wp2
                        go_meet
                        case rel => exact ⟨_, (false), (by first | rfl | (simp; done) | (simp [*]; done)), H', ⟨by have := HK1.out; have := HJ3.out; have := HK3.out; first | omega | exact Nat.le_refl _⟩, ⟨by (with_reducible repeat (first | apply Kd.S_alloc | apply Kd.S_drewN | apply Kd.S_drew)); exact HO_203000.out⟩, ⟨by (with_reducible repeat (first | apply Kd.R_alloc | apply Kd.R_drewN | apply Kd.R_drew)); exact HO_206001.out⟩, ⟨by (with_reducible repeat (first | refine blk_drewN ?_ _ | refine blk_drew ?_ | refine blk_alloc ?_ _)); exact BK201.out⟩, ⟨by (with_reducible repeat (first | refine blk_drewN ?_ _ | refine blk_drew ?_ | refine blk_alloc ?_ _)); exact BK202.out⟩, ⟨by (with_reducible repeat (first | refine blk_drewN ?_ _ | refine blk_drew ?_ | refine blk_alloc ?_ _)); exact BK205.out⟩, ⟨by repeat (first | (with_reducible first | exact HB.out | apply below_alloc | apply pw_below_drewN | apply below_drew1 | refine below_set ?_ GE201.out | refine below_set ?_ GE202.out | refine below_set ?_ GE205.out) | exact HB.out)⟩⟩
                      · rw [if_neg c19] at H
                        have c19b0 : ((bt x5_3 0) == 125) = false := beq_eq_false_iff_ne.mpr c19
                        have c19b1 : ((bt x5_3 0) != 125) = true := bne_iff_ne.mpr c19
                        have H' := Aside0.mk H
                        clear H
                        have p18 : 0 ≤ (0 : Int) := (by omega)
                        have q18 : 0 < x5_3.size := (by have : (0 : Int) < (x5_3.size : Int) := of_decide_eq_true (by first | (with_reducible assumption) | assumption); omega)
                        have hx18 : ∀ h : 0 < x5_3.size, ((x5_3[0]'h).toNat : Int) = bt x5_3 0 := bt_at x5_3 0
                        clear p18
                        have qi18 : (0 < (x5_3.size : Int)) = True := eq_true (of_decide_eq_true (by first | (with_reducible assumption) | assumption))
                        replace q18 := eq_true q18
                        have hnb20 := NB205_201.out
                        have hnc20 := NB201_205.out
                        have hnb21 := NB205_202.out
                        have hnc21 := NB202_205.out
                        have hcz22_0 : wr.cell? ⟨gb205, 0, none⟩ = some (.string t203) := (blk_cell BK205.out 0).trans rfl
                        have hcz22_1 : wr.cell? ⟨gb205, 1, none⟩ = some (u206001) := (blk_cell BK205.out 1).trans rfl
                        have hfz22_0 := blk_frozen BK205.out 0
                        have hfz22_1 := blk_frozen BK205.out 1
                        obtain ⟨Ao23, co23, eo23⟩ := Kd.R_slice HO_206001.out
                        subst eo23
                        go_wp2
                        go_meet
                        case rel => exact ⟨_, (decide ((x206001_3.length : Int) ≤ 5)), (by first | rfl | (simp; done) | (simp [*]; done)), H', ⟨by have := HK1.out; have := HJ3.out; have := HK3.out; first | omega | exact Nat.le_refl _⟩, ⟨by (with_reducible repeat (first | apply Kd.S_alloc | apply Kd.S_drewN | apply Kd.S_drew)); exact HO_203000.out⟩, ⟨by (with_reducible repeat (first | apply Kd.R_alloc | apply Kd.R_drewN | apply Kd.R_drew)); exact HO_206001.out⟩, ⟨by (with_reducible repeat (first | refine blk_drewN ?_ _ | refine blk_drew ?_ | refine blk_alloc ?_ _)); exact BK201.out⟩, ⟨by (with_reducible repeat (first | refine blk_drewN ?_ _ | refine blk_drew ?_ | refine blk_alloc ?_ _)); exact BK202.out⟩, ⟨by (with_reducible repeat (first | refine blk_drewN ?_ _ | refine blk_drew ?_ | refine blk_alloc ?_ _)); exact BK205.out⟩, ⟨by repeat (first | (with_reducible first | exact HB.out | apply below_alloc | apply pw_below_drewN | apply below_drew1 | refine below_set ?_ GE201.out | refine below_set ?_ GE202.out | refine below_set ?_ GE205.out) | exact HB.out)⟩⟩
                    · rw [if_neg c17] at H
                      exact absurd H (by simp)
                  · rw [if_neg c16] at H
                    have c16b0 : decide (1 < (x5_3.size : Int)) = false := decide_eq_false c16
                    have c16b1 : decide (1 < x5_3.size) = false := decide_eq_false (by omega)
                    clear c16
                    (first | rw [c16b0] | (simp only [i64_w, i32_w]; rw [c16b0]) | skip)
                    have H' := Aside0.mk H
                    clear H
                    go_wp2
                    go_meet
                    case rel => exact ⟨_, (false), (by first | rfl | (simp; done) | (simp [*]; done)), H', ⟨by have := HK1.out; have := HJ3.out; have := HK3.out; first | omega | exact Nat.le_refl _⟩, ⟨by (with_reducible repeat (first | apply Kd.S_alloc | apply Kd.S_drewN | apply Kd.S_drew)); exact HO_203000.out⟩, ⟨by (with_reducible repeat (first | apply Kd.R_alloc | apply Kd.R_drewN | apply Kd.R_drew)); exact HO_206001.out⟩, ⟨by (with_reducible repeat (first | refine blk_drewN ?_ _ | refine blk_drew ?_ | refine blk_alloc ?_ _)); exact BK201.out⟩, ⟨by (with_reducible repeat (first | refine blk_drewN ?_ _ | refine blk_drew ?_ | refine blk_alloc ?_ _)); exact BK202.out⟩, ⟨by (with_reducible repeat (first | refine blk_drewN ?_ _ | refine blk_drew ?_ | refine blk_alloc ?_ _)); exact BK205.out⟩, ⟨by repeat (first | (with_reducible first | exact HB.out | apply below_alloc | apply pw_below_drewN | apply below_drew1 | refine below_set ?_ GE201.out | refine below_set ?_ GE202.out | refine below_set ?_ GE205.out) | exact HB.out)⟩⟩
                case rest =>
                  clear HC15
                  try clear c1
                  try clear p1
                  try clear q1
                  try clear hx1
                  try clear qi1
                  try clear c2
                  try clear p2
                  try clear c5
                  try clear c5b0
                  try clear c5b1
                  try clear c6
                  try clear c9
                  try clear c12
                  try clear c13
                  try clear c16
                  try clear c16b0
                  try clear c16b1
                  try clear c17
                  try clear c17b0
                  try clear c17b1
                  try clear p18
                  try clear q18
                  try clear hx18
                  try clear qi18
                  try clear c19
                  try clear c19b0
                  try clear c19b1
                  try clear c20
                  try clear c21
                  try clear hcz14_0
                  try clear hcz14_1
                  try clear hcz22_0
                  try clear hcz22_1
                  try clear hcz7_0
                  try clear hfz14_0
                  try clear hfz14_1
                  try clear hfz22_0
                  try clear hfz22_1
                  try clear hfz7_0
                  try clear p18
                  try clear p2
                  try clear q18
                  obtain ⟨kq, x45_14, rfl, HA, HJ14, HO_203000, HO_206001, BK201, BK202, BK205, HB⟩ := hcut
                  cases kq with
                  | zero => exact absurd HA.out (by simp [foliateref06_Read.j3])
                  | succ kj14 =>
                    have H := HA.out
                    clear HA
                    simp only [foliateref06_Read.j3] at H
                    by_cases c24 : x45_14 = true
                    · subst c24
                      have H1 : (if 1 < (x5_3.size : Int) then (if (bt x5_3 1) = 125 then (if 0 < (x5_3.size : Int) then (foliateref06_Read.j4 kj14 a0 x5_3 ((bt x5_3 0) == 123) x203000_1 t203 x206001_3) else (none)) else (foliateref06_Read.j4 kj14 a0 x5_3 false x203000_1 t203 x206001_3)) else (none)) = some (r1, r2) := by rw [if_pos rfl] at H; exact H
                      clear H
                      have H := H1
                      clear H1
                      have HC25 := Aside0.mk H
                      clear H
                      go_upto_region 8 with (fail)
                      go_cut [53] (fun v53 wc => ∃ (kq : Nat) (x53_24 : Bool), v53 = .bool x53_24 ∧ Aside0 (foliateref06_Read.j4 kq a0 x5_3 x53_24 x203000_1 t203 x206001_3 = some (r1, r2)) ∧ Aside0 (kq ≤ kj14) ∧ Aside0 (Kd.S k34 34 wc w.heap.size (fun k_ => some k_ ≠ (u206001 : Value).ownBlock ∧ k_ ≠ gb205) u203000 x203000_1) ∧ Aside0 (Kd.R k40 40 wc w.heap.size (fun _ => True) u206001 x206001_3) ∧ Aside0 (wc.heap[gb201]? = some (.cells #[(.slice none 0 0)] 24 (0, 0))) ∧ Aside0 (wc.heap[gb202]? = some (.cells #[u203000] 24 (0, 0))) ∧ Aside0 (wc.heap[gb205]? = some (.cells #[.string t203, u206001] 34 (0, 0))) ∧ Aside0 (Below w.heap.size w wc))
                      case first =>
                        have H := HC25.out
                        clear HC25
                        by_cases c26 : 1 < (x5_3.size : Int)
                        · rw [if_pos c26] at H
                          have c26b0 : decide (1 < (x5_3.size : Int)) = true := decide_eq_true c26
                          have c26b1 : decide (1 < x5_3.size) = true := decide_eq_true (by omega)
                          clear c26
                          (first | rw [c26b0] | (simp only [i64_w, i32_w]; rw [c26b0]) | skip)
                          by_cases c28 : (bt x5_3 1) = 125
                          · rw [if_pos c28] at H
                            have c28b0 : ((bt x5_3 1) == 125) = true := beq_iff_eq.mpr c28
                            have c28b1 : ((bt x5_3 1) != 125) = false := bne_eq_false_iff_eq.mpr c28
                            clear c28
                            by_cases c29 : 0 < (x5_3.size : Int)
                            · rw [if_pos c29] at H
                              have c29b0 : decide (0 < (x5_3.size : Int)) = true := decide_eq_true c29
                              have c29b1 : decide (0 < x5_3.size) = true := decide_eq_true (by omega)
                              clear c29
                              have H' := Aside0.mk H
                              clear H
                              have p27 : 0 ≤ (1 : Int) := (by omega)
                              have q27 : 1 < x5_3.size := (by have : (1 : Int) < (x5_3.size : Int) := of_decide_eq_true (by first | (with_reducible assumption) | assumption); omega)
                              have hx27 : ∀ h : 1 < x5_3.size, ((x5_3[1]'h).toNat : Int) = bt x5_3 1 := bt_at x5_3 1
                              clear p27
                              have qi27 : (1 < (x5_3.size : Int)) = True := eq_true (of_decide_eq_true (by first | (with_reducible assumption) | assumption))
                              replace q27 := eq_true q27
                              have p30 : 0 ≤ (0 : Int) := (by omega)
                              have q30 : 0 < x5_3.size := (by have : (0 : Int) < (x5_3.size : Int) := of_decide_eq_true (by first | (with_reducible assumption) | assumption); omega)
                              have hx30 : ∀ h : 0 < x5_3.size, ((x5_3[0]'h).toNat : Int) = bt x5_3 0 := bt_at x5_3 0
                              clear p30
                              have qi30 : (0 < (x5_3.size : Int)) = True := eq_true (of_decide_eq_true (by first | (with_reducible assumption) | assumption))
                              replace q30 := eq_true q30
                              go_wp2
                              go_meet
                              case rel => exact ⟨_, (((bt x5_3 0) == 123)), (by first | rfl | (simp; done) | (simp [*]; done)), H', ⟨by have := HK1.out; have := HJ3.out; have := HK3.out; have := HJ14.out; first | omega | exact Nat.le_refl _⟩, ⟨by (with_reducible repeat (first | apply Kd.S_alloc | apply Kd.S_drewN | apply Kd.S_drew)); exact HO_203000.out⟩, ⟨by (with_reducible repeat (first | apply Kd.R_alloc | apply Kd.R_drewN | apply Kd.R_drew)); exact HO_206001.out⟩, ⟨by (with_reducible repeat (first | refine blk_drewN ?_ _ | refine blk_drew ?_ | refine blk_alloc ?_ _)); exact BK201.out⟩, ⟨by (with_reducible repeat (first | refine blk_drewN ?_ _ | refine blk_drew ?_ | refine blk_alloc ?_ _)); exact BK202.out⟩, ⟨by (with_reducible repeat (first | refine blk_drewN ?_ _ | refine blk_drew ?_ | refine blk_alloc ?_ _)); exact BK205.out⟩, ⟨by repeat (first | (with_reducible first | exact HB.out | apply below_alloc | apply pw_below_drewN | apply below_drew1 | refine below_set ?_ GE201.out | refine below_set ?_ GE202.out | refine below_set ?_ GE205.out) | exact HB.out)⟩⟩
                            · rw [if_neg c29] at H
                              exact absurd H (by simp)
                          · rw [if_neg c28] at H
                            have c28b0 : ((bt x5_3 1) == 125) = false := beq_eq_false_iff_ne.mpr c28
                            have c28b1 : ((bt x5_3 1) != 125) = true := bne_iff_ne.mpr c28
                            have H' := Aside0.mk H
                            clear H
                            have p27 : 0 ≤ (1 : Int) := (by omega)
                            have q27 : 1 < x5_3.size := (by have : (1 : Int) < (x5_3.size : Int) := of_decide_eq_true (by first | (with_reducible assumption) | assumption); omega)
                            have hx27 : ∀ h : 1 < x5_3.size, ((x5_3[1]'h).toNat : Int) = bt x5_3 1 := bt_at x5_3 1
                            clear p27
                            have qi27 : (1 < (x5_3.size : Int)) = True := eq_true (of_decide_eq_true (by first | (with_reducible assumption) | assumption))
                            replace q27 := eq_true q27
                            go_wp2
                            go_meet
                            case rel => exact ⟨_, (false), (by first | rfl | (simp; done) | (simp [*]; done)), H', ⟨by have := HK1.out; have := HJ3.out; have := HK3.out; have := HJ14.out; first | omega | exact Nat.le_refl _⟩, ⟨by (with_reducible repeat (first | apply Kd.S_alloc | apply Kd.S_drewN | apply Kd.S_drew)); exact HO_203000.out⟩, ⟨by (with_reducible repeat (first | apply Kd.R_alloc | apply Kd.R_drewN | apply Kd.R_drew)); exact HO_206001.out⟩, ⟨by (with_reducible repeat (first | refine blk_drewN ?_ _ | refine blk_drew ?_ | refine blk_alloc ?_ _)); exact BK201.out⟩, ⟨by (with_reducible repeat (first | refine blk_drewN ?_ _ | refine blk_drew ?_ | refine blk_alloc ?_ _)); exact BK202.out⟩, ⟨by (with_reducible repeat (first | refine blk_drewN ?_ _ | refine blk_drew ?_ | refine blk_alloc ?_ _)); exact BK205.out⟩, ⟨by repeat (first | (with_reducible first | exact HB.out | apply below_alloc | apply pw_below_drewN | apply below_drew1 | refine below_set ?_ GE201.out | refine below_set ?_ GE202.out | refine below_set ?_ GE205.out) | exact HB.out)⟩⟩
                        · rw [if_neg c26] at H
                          exact absurd H (by simp)
                      case rest =>
                        clear HC25
                        try clear c1
                        try clear p1
                        try clear q1
                        try clear hx1
                        try clear qi1
                        try clear c2
                        try clear p2
                        try clear q2
                        try clear hx2
                        try clear qi2
                        try clear p3
                        try clear q3
                        try clear hx3
                        try clear qi3
                        try clear c5
                        try clear c5b0
                        try clear c5b1
                        try clear c6
                        try clear c9
                        try clear c12
                        try clear c13
                        try clear c16
                        try clear c16b0
                        try clear c16b1
                        try clear c17
                        try clear c17b0
                        try clear c17b1
                        try clear p18
                        try clear q18
                        try clear hx18
                        try clear qi18
                        try clear c19
                        try clear c19b0
                        try clear c19b1
                        try clear c20
                        try clear c21
                        try clear c24
                        try clear c25
                        try clear c26
                        try clear c26b0
                        try clear c26b1
                        try clear p27
                        try clear q27
                        try clear hx27
                        try clear qi27
                        try clear c28
                        try clear c28b0
                        try clear c28b1
                        try clear c29
                        try clear c29b0
                        try clear c29b1
                        try clear p30
                        try clear q30
                        try clear hx30
                        try clear qi30
                        try clear hcz14_0
                        try clear hcz14_1
                        try clear hcz22_0
                        try clear hcz22_1
                        try clear hcz7_0
                        try clear hfz14_0
                        try clear hfz14_1
                        try clear hfz22_0
                        try clear hfz22_1
                        try clear hfz7_0
                        try clear p1
                        try clear p18
                        try clear p2
                        try clear p27
                        try clear p30
                        try clear q1
                        try clear q18
                        try clear q27
                        try clear q30
                        obtain ⟨kq, x53_24, rfl, HA, HJ24, HO_203000, HO_206001, BK201, BK202, BK205, HB⟩ := hcut
                        cases kq with
                        | zero => exact absurd HA.out (by simp [foliateref06_Read.j4])
                        | succ kj24 =>
                          have H := HA.out
                          clear HA
                          simp only [foliateref06_Read.j4] at H
                          by_cases c31 : x53_24 = true
                          · subst c31
                            have H1 : (if 1 ≤ (x5_3.size : Int) then (foliateref06_Read.l1 kj24 a0 (x5_3.extract 1 x5_3.size) x203000_1 t203 x206001_3) else (none)) = some (r1, r2) := by rw [if_pos rfl] at H; exact H
                            clear H
                            have H := H1
                            clear H1
                            by_cases c32 : 1 ≤ (x5_3.size : Int)
                            · rw [if_pos c32] at H
                              have c32b0 := eq_true c32
                              have c32b1 : decide (1 ≤ (x5_3.size : Int)) = true := decide_eq_true c32
                              clear c32
                              have H' := Aside0.mk H
                              clear H
                              go_wp2
                              go_roundg kj24
                              case measure => have := HK1.out; have := HJ3.out; have := HK3.out; have := HJ14.out; have := HJ24.out; omega
                              case rel => exact ⟨(x5_3.extract 1 x5_3.size), (x206001_3), (u206001), (by first | rfl | (simp; done) | (simp [*]; done)), H', ⟨by have := HK1.out; have := HJ3.out; have := HK3.out; have := HJ14.out; have := HJ24.out; omega⟩, ⟨by (with_reducible repeat (first | apply Kd.S_alloc | apply Kd.S_drewN | apply Kd.S_drew)); exact HO_203000.out⟩, ⟨by (with_reducible repeat (first | apply Kd.R_alloc | apply Kd.R_drewN | apply Kd.R_drew)); exact HO_206001.out⟩, ⟨by (with_reducible repeat (first | refine blk_drewN ?_ _ | refine blk_drew ?_ | refine blk_alloc ?_ _)); exact BK201.out⟩, ⟨by (with_reducible repeat (first | refine blk_drewN ?_ _ | refine blk_drew ?_ | refine blk_alloc ?_ _)); exact BK202.out⟩, ⟨by (with_reducible repeat (first | refine blk_drewN ?_ _ | refine blk_drew ?_ | refine blk_alloc ?_ _)); exact BK205.out⟩, ⟨by repeat (first | (with_reducible first | exact HB.out | apply below_alloc | apply pw_below_drewN | apply below_drew1 | refine below_set ?_ GE201.out | refine below_set ?_ GE202.out | refine below_set ?_ GE205.out) | exact HB.out)⟩⟩
                            · rw [if_neg c32] at H
                              exact absurd H (by simp)
                          · replace c31 := Bool.eq_false_iff.mpr c31
                            subst c31
                            have H1 : (if 1 ≤ (x5_3.size : Int) then ((foliateref06_upto.f kj24 (x5_3.extract 1 x5_3.size) (⟨#[58]⟩ : ByteArray)).bind fun bt212 => ((foliateref06_upto.f kj24 bt212.2 (⟨#[44, 125]⟩ : ByteArray)).bind fun bt214 => (if (bt214.1.size : Int) > 0 then (if 1 ≤ (bt214.1.size : Int) then ((foliateref06_field.f kj24 bt212.1 (bt214.1.extract 1 bt214.1.size)).bind fun bt216 => (if x206001_3.length < 3518437208883 then (foliateref06_Read.l1 kj24 a0 bt214.2 x203000_1 t203 (x206001_3 ++ [(⟨bt216.1, bt216.2.1, bt216.2.2⟩ : S40)])) else (none))) else (none)) else ((foliateref06_field.f kj24 bt212.1 bt214.1).bind fun bt222 => (if x206001_3.length < 3518437208883 then (foliateref06_Read.l1 kj24 a0 bt214.2 x203000_1 t203 (x206001_3 ++ [(⟨bt222.1, bt222.2.1, bt222.2.2⟩ : S40)])) else (none)))))) else (none)) = some (r1, r2) := by rw [if_neg (show ¬ (false = true) by decide)] at H; exact H
                            clear H
                            have H := H1
                            clear H1
                            by_cases c33 : 1 ≤ (x5_3.size : Int)
                            · rw [if_pos c33] at H
                              have c33b0 := eq_true c33
                              have c33b1 : decide (1 ≤ (x5_3.size : Int)) = true := decide_eq_true c33
                              clear c33
                              replace H := Option.bind_eq_some_iff.mp H
                              obtain ⟨⟨t212, t213⟩, A340, H⟩ := H
                              replace H : ((foliateref06_upto.f kj24 t213 (⟨#[44, 125]⟩ : ByteArray)).bind fun bt214 => (if (bt214.1.size : Int) > 0 then (if 1 ≤ (bt214.1.size : Int) then ((foliateref06_field.f kj24 t212 (bt214.1.extract 1 bt214.1.size)).bind fun bt216 => (if x206001_3.length < 3518437208883 then (foliateref06_Read.l1 kj24 a0 bt214.2 x203000_1 t203 (x206001_3 ++ [(⟨bt216.1, bt216.2.1, bt216.2.2⟩ : S40)])) else (none))) else (none)) else ((foliateref06_field.f kj24 t212 bt214.1).bind fun bt222 => (if x206001_3.length < 3518437208883 then (foliateref06_Read.l1 kj24 a0 bt214.2 x203000_1 t203 (x206001_3 ++ [(⟨bt222.1, bt222.2.1, bt222.2.2⟩ : S40)])) else (none))))) = some (r1, r2) := H
                              have A34 := Aside0.mk A340
                              clear A340
                              replace H := Option.bind_eq_some_iff.mp H
                              obtain ⟨⟨t214, t215⟩, A350, H⟩ := H
                              replace H : (if (t214.size : Int) > 0 then (if 1 ≤ (t214.size : Int) then ((foliateref06_field.f kj24 t212 (t214.extract 1 t214.size)).bind fun bt216 => (if x206001_3.length < 3518437208883 then (foliateref06_Read.l1 kj24 a0 t215 x203000_1 t203 (x206001_3 ++ [(⟨bt216.1, bt216.2.1, bt216.2.2⟩ : S40)])) else (none))) else (none)) else ((foliateref06_field.f kj24 t212 t214).bind fun bt222 => (if x206001_3.length < 3518437208883 then (foliateref06_Read.l1 kj24 a0 t215 x203000_1 t203 (x206001_3 ++ [(⟨bt222.1, bt222.2.1, bt222.2.2⟩ : S40)])) else (none)))) = some (r1, r2) := H
                              have A35 := Aside0.mk A350
                              clear A350
                              by_cases c36 : (t214.size : Int) > 0
                              · rw [if_pos c36] at H
                                have c36b0 : decide (0 < (t214.size : Int)) = true := decide_eq_true c36
                                have c36b1 : decide (0 < t214.size) = true := decide_eq_true (by omega)
                                clear c36
                                by_cases c37 : 1 ≤ (t214.size : Int)
                                · rw [if_pos c37] at H
                                  have c37b0 := eq_true c37
                                  have c37b1 : decide (1 ≤ (t214.size : Int)) = true := decide_eq_true c37
                                  clear c37
                                  replace H := Option.bind_eq_some_iff.mp H
                                  obtain ⟨⟨t216, t217, t218⟩, A380, H⟩ := H
                                  replace H : (if x206001_3.length < 3518437208883 then (foliateref06_Read.l1 kj24 a0 t215 x203000_1 t203 (x206001_3 ++ [(⟨t216, t217, t218⟩ : S40)])) else (none)) = some (r1, r2) := H
                                  have A38 := Aside0.mk A380
                                  clear A380
                                  by_cases c39 : x206001_3.length < 3518437208883
                                  · rw [if_pos c39] at H
                                    have LMc39 := Aside0.mk c39
                                    clear c39
                                    obtain ⟨y219, hy219⟩ : ∃ y_ : List (S40), y_ = (x206001_3 ++ [(⟨t216, t217, t218⟩ : S40)]) := ⟨_, rfl⟩
                                    replace H : (foliateref06_Read.l1 kj24 a0 t215 x203000_1 t203 y219) = some (r1, r2) := by first | (rw [hy219]; with_reducible exact H) | (have H2_ := (Option.bind_some _ _).symm.trans H; rw [hy219]; with_reducible exact H2_) | (have H2_ := (Option.bind_some _ _).symm.trans H; with_reducible exact H2_) | with_reducible exact H | (rw [hy219]; exact H) | exact H
                                    have Ny219 := Aside0.mk hy219
                                    clear hy219
                                    have H' := Aside0.mk H
                                    clear H
                                    try go_wp2_with (first | ((with_reducible refine gate_callee (f := 25) rfl ?_); refine goesL_ (some 59) rfl rfl Try.func25 (by kernel_rfl) rfl #[.string (x5_3.extract 1 x5_3.size), .string (⟨#[58]⟩ : ByteArray)] rfl (by (try simp only [List.map_toArray, List.map_cons, List.map_nil]); first | done | rfl | (simp only [List.length_drop, List.length_take]; rfl)) ?_; (with_reducible refine (foliateref06_upto.calls kj24 (x5_3.extract 1 x5_3.size) (⟨#[58]⟩ : ByteArray) t212 t213 _ A34.out).mono ?_); rintro e w' ⟨rfl, ⟨nd, rfl⟩⟩; refine ⟨_, rfl, ?_⟩; (try (rw [drewN_self wc]; generalize hq_ : World.drewN wc _ = wc; have n0_ : Aside0 (Kd.S k34 34 wc w.heap.size (fun k_ => some k_ ≠ (u206001 : Value).ownBlock ∧ k_ ≠ gb205) u203000 x203000_1) := ⟨by rw [← hq_]; exact (by (with_reducible repeat (first | apply Kd.S_alloc | apply Kd.S_drewN | apply Kd.S_drew)); exact HO_203000.out)⟩; have n1_ : Aside0 (Kd.R k40 40 wc w.heap.size (fun _ => True) u206001 x206001_3) := ⟨by rw [← hq_]; exact (by (with_reducible repeat (first | apply Kd.R_alloc | apply Kd.R_drewN | apply Kd.R_drew)); exact HO_206001.out)⟩; have n2_ : Aside0 (wc.heap[gb201]? = some (.cells #[.slice none 0 0] 24 (0, 0))) := ⟨by rw [← hq_]; exact (by (with_reducible repeat (first | refine blk_drewN ?_ _ | refine blk_drew ?_ | refine blk_alloc ?_ _)); exact BK201.out)⟩; have n3_ : Aside0 (wc.heap[gb202]? = some (.cells #[u203000] 24 (0, 0))) := ⟨by rw [← hq_]; exact (by (with_reducible repeat (first | refine blk_drewN ?_ _ | refine blk_drew ?_ | refine blk_alloc ?_ _)); exact BK202.out)⟩; have n4_ : Aside0 (wc.heap[gb205]? = some (.cells #[.string t203, u206001] 34 (0, 0))) := ⟨by rw [← hq_]; exact (by (with_reducible repeat (first | refine blk_drewN ?_ _ | refine blk_drew ?_ | refine blk_alloc ?_ _)); exact BK205.out)⟩; have n5_ : Aside0 (Below w.heap.size w wc) := ⟨by rw [← hq_]; exact (by repeat (first | (with_reducible first | exact HB.out | apply below_alloc | apply pw_below_drewN | apply below_drew1 | refine below_set ?_ GE201.out | refine below_set ?_ GE202.out | refine below_set ?_ GE205.out) | exact HB.out))⟩; clear HO_203000 HO_206001 BK201 BK202 BK205 HB hq_; have HO_203000 := n0_; have HO_206001 := n1_; have BK201 := n2_; have BK202 := n3_; have BK205 := n4_; have HB := n5_; clear n0_ n1_ n2_ n3_ n4_ n5_))) | ((with_reducible refine gate_callee (f := 25) rfl ?_); refine goesL_ (some 64) rfl rfl Try.func25 (by kernel_rfl) rfl #[.string t213, .string (⟨#[44, 125]⟩ : ByteArray)] rfl (by (try simp only [List.map_toArray, List.map_cons, List.map_nil]); first | done | rfl | (simp only [List.length_drop, List.length_take]; rfl)) ?_; (with_reducible refine (foliateref06_upto.calls kj24 t213 (⟨#[44, 125]⟩ : ByteArray) t214 t215 _ A35.out).mono ?_); rintro e w' ⟨rfl, ⟨nd, rfl⟩⟩; refine ⟨_, rfl, ?_⟩; (try (rw [drewN_self wc]; generalize hq_ : World.drewN wc _ = wc; have n0_ : Aside0 (Kd.S k34 34 wc w.heap.size (fun k_ => some k_ ≠ (u206001 : Value).ownBlock ∧ k_ ≠ gb205) u203000 x203000_1) := ⟨by rw [← hq_]; exact (by (with_reducible repeat (first | apply Kd.S_alloc | apply Kd.S_drewN | apply Kd.S_drew)); exact HO_203000.out)⟩; have n1_ : Aside0 (Kd.R k40 40 wc w.heap.size (fun _ => True) u206001 x206001_3) := ⟨by rw [← hq_]; exact (by (with_reducible repeat (first | apply Kd.R_alloc | apply Kd.R_drewN | apply Kd.R_drew)); exact HO_206001.out)⟩; have n2_ : Aside0 (wc.heap[gb201]? = some (.cells #[.slice none 0 0] 24 (0, 0))) := ⟨by rw [← hq_]; exact (by (with_reducible repeat (first | refine blk_drewN ?_ _ | refine blk_drew ?_ | refine blk_alloc ?_ _)); exact BK201.out)⟩; have n3_ : Aside0 (wc.heap[gb202]? = some (.cells #[u203000] 24 (0, 0))) := ⟨by rw [← hq_]; exact (by (with_reducible repeat (first | refine blk_drewN ?_ _ | refine blk_drew ?_ | refine blk_alloc ?_ _)); exact BK202.out)⟩; have n4_ : Aside0 (wc.heap[gb205]? = some (.cells #[.string t203, u206001] 34 (0, 0))) := ⟨by rw [← hq_]; exact (by (with_reducible repeat (first | refine blk_drewN ?_ _ | refine blk_drew ?_ | refine blk_alloc ?_ _)); exact BK205.out)⟩; have n5_ : Aside0 (Below w.heap.size w wc) := ⟨by rw [← hq_]; exact (by repeat (first | (with_reducible first | exact HB.out | apply below_alloc | apply pw_below_drewN | apply below_drew1 | refine below_set ?_ GE201.out | refine below_set ?_ GE202.out | refine below_set ?_ GE205.out) | exact HB.out))⟩; clear HO_203000 HO_206001 BK201 BK202 BK205 HB hq_; have HO_203000 := n0_; have HO_206001 := n1_; have BK201 := n2_; have BK202 := n3_; have BK205 := n4_; have HB := n5_; clear n0_ n1_ n2_ n3_ n4_ n5_))))
                                    have n0_ := Aside0.mk (Kd.S_drew HO_203000.out)
                                    have n1_ := Aside0.mk (Kd.R_drew HO_206001.out)
                                    have n2_ := Aside0.mk (blk_drew BK201.out)
                                    have n3_ := Aside0.mk (blk_drew BK202.out)
                                    have n4_ := Aside0.mk (blk_drew BK205.out)
                                    have n5_ := Aside0.mk (below_drew1 HB.out)
                                    clear HO_203000
                                    clear HO_206001
                                    clear BK201
                                    clear BK202
                                    clear BK205
                                    clear HB
                                    have HO_203000 := n0_
                                    have HO_206001 := n1_
                                    have BK201 := n2_
                                    have BK202 := n3_
                                    have BK205 := n4_
                                    have HB := n5_
                                    clear n0_ n1_ n2_ n3_ n4_ n5_
                                    refine start_ (n := 9) (S := fun w' => w'.cell? ⟨gb205, 0, none⟩ = some (.string t203) ∧ w'.cell? ⟨gb205, 1, none⟩ = some (u206001)) (ds := [8]) #[false, false, false, false, false, false, false, false, false] (by kernel_rfl) rfl rfl ⟨(blk_cell BK205.out 0).trans rfl, (blk_cell BK205.out 1).trans rfl⟩ (fun hHeld => ?_); refine with_tabW foliateref06_Read.tab15 foliateref06_Read.bits15 (fun HT_ HW_ => ?_)
                                    generalize wc.drew = w40 at HO_203000 HO_206001 BK201 BK202 BK205 HB hHeld ⊢
                                    refine pure_ (i := 0) (N := some 73) (v := ?_) (a' := ?_) #[true, false, false, false, false, false, false, false, false] rfl rfl (any_of HT_.out (by kernel_rfl)) (fun _ _ _ h => h) (Or.inl ⟨by rfl, ?_⟩) ?_ ?_
                                    rotate_left
                                    · intro w'
                                      go_simp
                                      with_reducible rfl
                                    rotate_left
                                    · simp only [Act.put, List.setIfInBounds_toArray, List.set_cons_zero, List.set_cons_succ, i64_w, i32_w]
                                      rfl
                                    refine pure_ (i := 2) (N := some 75) (v := ?_) (a' := ?_) #[true, false, true, false, false, false, false, false, false] rfl rfl (any_of HT_.out (by kernel_rfl)) (fun _ _ _ h => h) (Or.inl ⟨by rfl, ?_⟩) ?_ ?_
                                    rotate_left
                                    · intro w'
                                      go_simp
                                      with_reducible rfl
                                    rotate_left
                                    · simp only [Act.put, List.setIfInBounds_toArray, List.set_cons_zero, List.set_cons_succ, i64_w, i32_w]
                                      rfl
                                    refine pure_ (i := 3) (N := some 76) (v := ?_) (a' := ?_) #[true, false, true, true, false, false, false, false, false] rfl rfl (any_of HT_.out (by kernel_rfl)) (fun _ _ _ h => h) (Or.inl ⟨by rfl, ?_⟩) ?_ ?_
                                    rotate_left
                                    · intro w'
                                      go_simp
                                      with_reducible rfl
                                    rotate_left
                                    · simp only [Act.put, List.setIfInBounds_toArray, List.set_cons_zero, List.set_cons_succ, i64_w, i32_w]
                                      rfl
                                    refine take_ (i := 1) (N := some 74) (v := ?_) (a' := ?_) #[true, true, true, true, false, false, false, false, false] rfl rfl (take_ofW HT_.out HW_.out (by kernel_rfl)) (fun _ _ _ h => h) (Or.inl ⟨by rfl, ?_⟩) hHeld ?_ ?_
                                    rotate_left
                                    · rintro w' ⟨s0, s1⟩
                                      go_simp
                                      with_reducible rfl
                                    rotate_left
                                    · simp only [Act.put, List.setIfInBounds_toArray, List.set_cons_zero, List.set_cons_succ, i64_w, i32_w]
                                      rfl
                                    refine one_ (i := 4) (N := some 77) #[true, true, true, true, true, false, false, false, false] rfl rfl (one_of HT_.out (by kernel_rfl)) (by decide) (fun K hK => ?_)
                                    refine goes_ Try.func26 (by kernel_rfl) rfl #[.string t212, .string (t214.extract 1 t214.size)] (by rfl) rfl rfl (by (try simp only [List.map_toArray, List.map_cons, List.map_nil]); first | done | rfl | (simp only [List.length_drop, List.length_take]; rfl)) ?_
                                    with_reducible refine (foliateref06_field.calls kj24 t212 (t214.extract 1 t214.size) t216 t217 t218 _ A38.out).mono ?_
                                    rintro e w41 ⟨rfl, hb⟩
                                    refine ⟨_, rfl, ?_⟩
                                    have n0_ := Aside0.mk (Kd.S_below (by (with_reducible repeat (first | apply Kd.S_alloc | apply Kd.S_drewN | apply Kd.S_drew)); exact HO_203000.out) hb)
                                    have n1_ := Aside0.mk (Kd.R_below (by (with_reducible repeat (first | apply Kd.R_alloc | apply Kd.R_drewN | apply Kd.R_drew)); exact HO_206001.out) hb)
                                    have n2_ := Aside0.mk (blk_below (g := gb201) (o := .cells #[.slice none 0 0] 24 (0, 0)) (by (with_reducible repeat (first | refine blk_drewN ?_ _ | refine blk_drew ?_ | refine blk_alloc ?_ _)); exact BK201.out) hb)
                                    have n3_ := Aside0.mk (blk_below (g := gb202) (o := .cells #[u203000] 24 (0, 0)) (by (with_reducible repeat (first | refine blk_drewN ?_ _ | refine blk_drew ?_ | refine blk_alloc ?_ _)); exact BK202.out) hb)
                                    have n4_ := Aside0.mk (blk_below (g := gb205) (o := .cells #[.string t203, u206001] 34 (0, 0)) (by (with_reducible repeat (first | refine blk_drewN ?_ _ | refine blk_drew ?_ | refine blk_alloc ?_ _)); exact BK205.out) hb)
                                    have n5_ := Aside0.mk (below_step (by repeat (first | (with_reducible first | exact HB.out | apply below_alloc | apply pw_below_drewN | apply below_drew1 | refine below_set ?_ GE201.out | refine below_set ?_ GE202.out | refine below_set ?_ GE205.out) | exact HB.out)) hb)
                                    clear HO_203000
                                    clear HO_206001
                                    clear BK201
                                    clear BK202
                                    clear BK205
                                    clear HB
                                    have HO_203000 := n0_
                                    have HO_206001 := n1_
                                    have BK201 := n2_
                                    have BK202 := n3_
                                    have BK205 := n4_
                                    have HB := n5_
                                    clear n0_ n1_ n2_ n3_ n4_ n5_
                                    (try clear hb)
                                    (try clear hb2)
                                    (try clear hk)
                                    (try clear hi)
                                    refine hK.out _ _ ⟨(blk_cell BK205.out 0).trans rfl, (blk_cell BK205.out 1).trans rfl⟩ (fun hHeld => ?_)
                                    clear hK K
                                    refine norm_ (a' := ?_) ?_ ?_
                                    rotate_left
                                    · show Act.put _ (some 77) _ = _
                                      simp only [Act.put, List.setIfInBounds_toArray, List.set_cons_zero, List.set_cons_succ, i64_w, i32_w]
                                      rfl
                                    refine one_ (i := 5) (N := some 78) #[true, true, true, true, true, true, false, false, false] rfl rfl (one_of HT_.out (by kernel_rfl)) (by decide) (fun K hK => ?_)
                                    refine value_ (w1 := ?_) (v := ?_) (by rfl) rfl ?_ ?_
                                    rotate_left 2
                                    · go_simp
                                      constructor
                                      · rfl
                                      · rfl
                                    refine hK.out _ _ ⟨(blk_cell (blk_alloc BK205.out _) 0).trans rfl, (blk_cell (blk_alloc BK205.out _) 1).trans rfl⟩ (fun hHeld => ?_)
                                    clear hK K
                                    refine norm_ (a' := ?_) ?_ ?_
                                    rotate_left
                                    · show Act.put _ (some 78) _ = _
                                      simp only [Act.put, List.setIfInBounds_toArray, List.set_cons_zero, List.set_cons_succ, i64_w, i32_w]
                                      rfl
                                    refine one_ (i := 6) (N := some 79) #[true, true, true, true, true, true, true, false, false] rfl rfl (one_of HT_.out (by kernel_rfl)) (by decide) (fun K hK => ?_)
                                    refine Kd.R_append_step k40 (w0 := w) w.heap.size (by rfl) (.tmp 74) (.tmp 78) 32 40 (.agg #[(.string ⟨#[]⟩), (.int .i64 0), (.string ⟨#[]⟩)]) 40 rfl Try.underlying32 info40 rfl (by decide) (by omega) u206001 x206001_3 (⟨t216, t217, t218⟩ : S40) [.string t216, .int .i64 t217, .string t218] (fun _ => True) (fun _ => False) rfl rfl ?aP (fun _ hk => hk.elim) ?aF ?aO ?aB ?aS ?aL ?_
                                    (case aP => exact k40_mkM _ _ _ (⟨t216, t217, t218⟩ : S40))
                                    (case aB => exact (by repeat (first | (with_reducible first | exact HB.out | apply below_alloc | apply pw_below_drewN | apply below_drew1 | refine below_set ?_ GE201.out | refine below_set ?_ GE202.out | refine below_set ?_ GE205.out) | exact HB.out)))
                                    (case aF => exact (fun _ _ => trivial))
                                    (case aO => exact (by (with_reducible repeat (first | apply Kd.R_alloc | apply Kd.R_drewN | apply Kd.R_drew)); exact HO_206001.out))
                                    (case aS => exact (below_size (by repeat (first | (with_reducible first | exact HB.out | apply below_alloc | apply pw_below_drewN | apply below_drew1 | refine below_set ?_ GE201.out | refine below_set ?_ GE202.out | refine below_set ?_ GE205.out) | exact HB.out))))
                                    (case aL => have := LMc39.out; omega)
                                    intro v220 w42 ho hb hg hat
                                    rw [← Ny219.out] at ho
                                    have n0_ := Aside0.mk (Kd.S_after (ok := (fun k_ => k_ ≠ gb205)) (by (with_reducible repeat (first | apply Kd.S_alloc | apply Kd.S_drewN | apply Kd.S_drew)); exact Kd.S_mono HO_203000.out (fun _ hk => ⟨hk.2, hk.1⟩)) hg hat)
                                    have n1_ := Aside0.mk (blk_grown (g := gb201) (o := .cells #[.slice none 0 0] 24 (0, 0)) (by (with_reducible repeat (first | refine blk_drewN ?_ _ | refine blk_drew ?_ | refine blk_alloc ?_ _)); exact BK201.out) hg (Kd.R_ne HO_206001.out BK201.out (by decide)))
                                    have n2_ := Aside0.mk (blk_grown (g := gb202) (o := .cells #[u203000] 24 (0, 0)) (by (with_reducible repeat (first | refine blk_drewN ?_ _ | refine blk_drew ?_ | refine blk_alloc ?_ _)); exact BK202.out) hg (Kd.R_ne HO_206001.out BK202.out (by decide)))
                                    have n3_ := Aside0.mk (blk_grown (g := gb205) (o := .cells #[.string t203, u206001] 34 (0, 0)) (by (with_reducible repeat (first | refine blk_drewN ?_ _ | refine blk_drew ?_ | refine blk_alloc ?_ _)); exact BK205.out) hg (Kd.R_ne HO_206001.out BK205.out (by decide)))
                                    have n4_ := Aside0.mk (hb)
                                    have n5_ := Aside0.mk (ho)
                                    clear HO_203000
                                    clear BK201
                                    clear BK202
                                    clear BK205
                                    clear HB
                                    clear HO_206001
                                    have HO_203000 := n0_
                                    have BK201 := n1_
                                    have BK202 := n2_
                                    have BK205 := n3_
                                    have HB := n4_
                                    have HO221 := n5_
                                    clear n0_ n1_ n2_ n3_ n4_ n5_
                                    clear ho hb hg hat
                                    obtain ⟨Ao43, co43, eo43⟩ := Kd.R_slice HO221.out
                                    (first | subst eo43 | (injection eo43 with f1_ f2_ f3_; have f4_ := f1_.symm; have f5_ := f3_.symm; clear f1_ f2_ f3_; subst f4_; subst f5_))
                                    refine hK.out _ _ ⟨(blk_cell BK205.out 0).trans rfl, (blk_cell BK205.out 1).trans rfl⟩ (fun hHeld => ?_)
                                    clear hK K
                                    refine norm_ (a' := ?_) ?_ ?_
                                    rotate_left
                                    · show Act.put _ (some 79) _ = _
                                      simp only [Act.put, List.setIfInBounds_toArray, List.set_cons_zero, List.set_cons_succ, i64_w, i32_w]
                                      rfl
                                    refine pure_ (i := 7) (N := some 80) (v := ?_) (a' := ?_) #[true, true, true, true, true, true, true, true, false] rfl rfl (any_of HT_.out (by kernel_rfl)) (fun _ _ _ h => h) (Or.inl ⟨by rfl, ?_⟩) ?_ ?_
                                    rotate_left
                                    · intro w'
                                      go_simp
                                      with_reducible rfl
                                    rotate_left
                                    · simp only [Act.put, List.setIfInBounds_toArray, List.set_cons_zero, List.set_cons_succ, i64_w, i32_w]
                                      rfl
                                    refine last_ (i := 8) (N := none) #[true, true, true, true, true, true, true, true, true] rfl rfl (one_of HT_.out (by kernel_rfl)) (by decide) (fun K hK => ?_)
                                    have hs44 : w42.cell? ⟨gb205, 1, none⟩ = some (u206001) := (blk_cell BK205.out 1).trans rfl
                                    have hfs44 := blk_frozen BK205.out 1
                                    have hns44_0 := NB201_205.out
                                    have hns44_1 := NB202_205.out
                                    have hms44_0 := NB205_201.out
                                    have hms44_1 := NB205_202.out
                                    refine skip_ (w1 := ?_) (by rfl) rfl ?_ ?_
                                    rotate_left
                                    · go_simp
                                      rfl
                                    refine hK.out _ _ ?_
                                    clear hK K
                                    refine done_ (done_of HT_.out (by kernel_rfl)) ?_
                                    try go_wp2
                                    go_roundg kj24
                                    case measure => have := HK1.out; have := HJ3.out; have := HK3.out; have := HJ14.out; have := HJ24.out; omega
                                    case rel => exact ⟨(t215), (y219), (.slice Ao43 y219.length co43), (by first | rfl | (simp; done) | (simp [*]; done)), H', ⟨by have := HK1.out; have := HJ3.out; have := HK3.out; have := HJ14.out; have := HJ24.out; omega⟩, ⟨by (with_reducible repeat (first | apply Kd.S_alloc | apply Kd.S_drewN | apply Kd.S_drew)); exact Kd.S_mono (Kd.S_far (p := ⟨gb205, 1, none⟩) (Kd.S_mono HO_203000.out (fun k_ hk => (⟨hk, hk.1⟩ : _ ∧ k_ ≠ gb205))) (fun _ hk => hk.2) (.slice Ao43 y219.length co43)) (fun _ hk => ⟨hk.1.2, hk.1.1⟩)⟩, ⟨by (with_reducible repeat (first | apply Kd.R_alloc | apply Kd.R_drewN | apply Kd.R_drew)); exact Kd.R_mono (Kd.R_far (p := ⟨gb205, 1, none⟩) (Kd.R_types HO221.out BK205.out (by decide)) (fun _ hk => hk.2) (.slice Ao43 y219.length co43)) (fun _ hk => trivial)⟩, ⟨by (with_reducible repeat (first | refine blk_drewN ?_ _ | refine blk_drew ?_ | refine blk_alloc ?_ _)); refine blk_far ?_ NB201_205.out _; (with_reducible repeat (first | refine blk_drewN ?_ _ | refine blk_drew ?_ | refine blk_alloc ?_ _)); exact BK201.out⟩, ⟨by (with_reducible repeat (first | refine blk_drewN ?_ _ | refine blk_drew ?_ | refine blk_alloc ?_ _)); refine blk_far ?_ NB202_205.out _; (with_reducible repeat (first | refine blk_drewN ?_ _ | refine blk_drew ?_ | refine blk_alloc ?_ _)); exact BK202.out⟩, ⟨by (with_reducible repeat (first | refine blk_drewN ?_ _ | refine blk_drew ?_ | refine blk_alloc ?_ _)); refine blk_put (cs := #[.string t203, u206001]) ?_ 1 _ rfl; (with_reducible repeat (first | refine blk_drewN ?_ _ | refine blk_drew ?_ | refine blk_alloc ?_ _)); exact BK205.out⟩, ⟨by repeat (first | (with_reducible first | exact HB.out | apply below_alloc | apply pw_below_drewN | apply below_drew1 | refine below_set ?_ GE201.out | refine below_set ?_ GE202.out | refine below_set ?_ GE205.out) | exact HB.out)⟩⟩
                                  · rw [if_neg c39] at H
                                    exact absurd H (by simp)
                                · rw [if_neg c37] at H
                                  exact absurd H (by simp)
                              · rw [if_neg c36] at H
                                have c36b0 : decide (0 < (t214.size : Int)) = false := decide_eq_false c36
                                have c36b1 : decide (0 < t214.size) = false := decide_eq_false (by omega)
                                clear c36
                                replace H := Option.bind_eq_some_iff.mp H
                                obtain ⟨⟨t222, t223, t224⟩, A450, H⟩ := H
                                replace H : (if x206001_3.length < 3518437208883 then (foliateref06_Read.l1 kj24 a0 t215 x203000_1 t203 (x206001_3 ++ [(⟨t222, t223, t224⟩ : S40)])) else (none)) = some (r1, r2) := H
                                have A45 := Aside0.mk A450
                                clear A450
                                by_cases c46 : x206001_3.length < 3518437208883
                                · rw [if_pos c46] at H
                                  have LMc46 := Aside0.mk c46
                                  clear c46
                                  obtain ⟨y225, hy225⟩ : ∃ y_ : List (S40), y_ = (x206001_3 ++ [(⟨t222, t223, t224⟩ : S40)]) := ⟨_, rfl⟩
                                  replace H : (foliateref06_Read.l1 kj24 a0 t215 x203000_1 t203 y225) = some (r1, r2) := by first | (rw [hy225]; with_reducible exact H) | (have H2_ := (Option.bind_some _ _).symm.trans H; rw [hy225]; with_reducible exact H2_) | (have H2_ := (Option.bind_some _ _).symm.trans H; with_reducible exact H2_) | with_reducible exact H | (rw [hy225]; exact H) | exact H
                                  have Ny225 := Aside0.mk hy225
                                  clear hy225
                                  have H' := Aside0.mk H
                                  clear H
                                  try go_wp2_with (first | ((with_reducible refine gate_callee (f := 25) rfl ?_); refine goesL_ (some 59) rfl rfl Try.func25 (by kernel_rfl) rfl #[.string (x5_3.extract 1 x5_3.size), .string (⟨#[58]⟩ : ByteArray)] rfl (by (try simp only [List.map_toArray, List.map_cons, List.map_nil]); first | done | rfl | (simp only [List.length_drop, List.length_take]; rfl)) ?_; (with_reducible refine (foliateref06_upto.calls kj24 (x5_3.extract 1 x5_3.size) (⟨#[58]⟩ : ByteArray) t212 t213 _ A34.out).mono ?_); rintro e w' ⟨rfl, ⟨nd, rfl⟩⟩; refine ⟨_, rfl, ?_⟩; (try (rw [drewN_self wc]; generalize hq_ : World.drewN wc _ = wc; have n0_ : Aside0 (Kd.S k34 34 wc w.heap.size (fun k_ => some k_ ≠ (u206001 : Value).ownBlock ∧ k_ ≠ gb205) u203000 x203000_1) := ⟨by rw [← hq_]; exact (by (with_reducible repeat (first | apply Kd.S_alloc | apply Kd.S_drewN | apply Kd.S_drew)); exact HO_203000.out)⟩; have n1_ : Aside0 (Kd.R k40 40 wc w.heap.size (fun _ => True) u206001 x206001_3) := ⟨by rw [← hq_]; exact (by (with_reducible repeat (first | apply Kd.R_alloc | apply Kd.R_drewN | apply Kd.R_drew)); exact HO_206001.out)⟩; have n2_ : Aside0 (wc.heap[gb201]? = some (.cells #[.slice none 0 0] 24 (0, 0))) := ⟨by rw [← hq_]; exact (by (with_reducible repeat (first | refine blk_drewN ?_ _ | refine blk_drew ?_ | refine blk_alloc ?_ _)); exact BK201.out)⟩; have n3_ : Aside0 (wc.heap[gb202]? = some (.cells #[u203000] 24 (0, 0))) := ⟨by rw [← hq_]; exact (by (with_reducible repeat (first | refine blk_drewN ?_ _ | refine blk_drew ?_ | refine blk_alloc ?_ _)); exact BK202.out)⟩; have n4_ : Aside0 (wc.heap[gb205]? = some (.cells #[.string t203, u206001] 34 (0, 0))) := ⟨by rw [← hq_]; exact (by (with_reducible repeat (first | refine blk_drewN ?_ _ | refine blk_drew ?_ | refine blk_alloc ?_ _)); exact BK205.out)⟩; have n5_ : Aside0 (Below w.heap.size w wc) := ⟨by rw [← hq_]; exact (by repeat (first | (with_reducible first | exact HB.out | apply below_alloc | apply pw_below_drewN | apply below_drew1 | refine below_set ?_ GE201.out | refine below_set ?_ GE202.out | refine below_set ?_ GE205.out) | exact HB.out))⟩; clear HO_203000 HO_206001 BK201 BK202 BK205 HB hq_; have HO_203000 := n0_; have HO_206001 := n1_; have BK201 := n2_; have BK202 := n3_; have BK205 := n4_; have HB := n5_; clear n0_ n1_ n2_ n3_ n4_ n5_))) | ((with_reducible refine gate_callee (f := 25) rfl ?_); refine goesL_ (some 64) rfl rfl Try.func25 (by kernel_rfl) rfl #[.string t213, .string (⟨#[44, 125]⟩ : ByteArray)] rfl (by (try simp only [List.map_toArray, List.map_cons, List.map_nil]); first | done | rfl | (simp only [List.length_drop, List.length_take]; rfl)) ?_; (with_reducible refine (foliateref06_upto.calls kj24 t213 (⟨#[44, 125]⟩ : ByteArray) t214 t215 _ A35.out).mono ?_); rintro e w' ⟨rfl, ⟨nd, rfl⟩⟩; refine ⟨_, rfl, ?_⟩; (try (rw [drewN_self wc]; generalize hq_ : World.drewN wc _ = wc; have n0_ : Aside0 (Kd.S k34 34 wc w.heap.size (fun k_ => some k_ ≠ (u206001 : Value).ownBlock ∧ k_ ≠ gb205) u203000 x203000_1) := ⟨by rw [← hq_]; exact (by (with_reducible repeat (first | apply Kd.S_alloc | apply Kd.S_drewN | apply Kd.S_drew)); exact HO_203000.out)⟩; have n1_ : Aside0 (Kd.R k40 40 wc w.heap.size (fun _ => True) u206001 x206001_3) := ⟨by rw [← hq_]; exact (by (with_reducible repeat (first | apply Kd.R_alloc | apply Kd.R_drewN | apply Kd.R_drew)); exact HO_206001.out)⟩; have n2_ : Aside0 (wc.heap[gb201]? = some (.cells #[.slice none 0 0] 24 (0, 0))) := ⟨by rw [← hq_]; exact (by (with_reducible repeat (first | refine blk_drewN ?_ _ | refine blk_drew ?_ | refine blk_alloc ?_ _)); exact BK201.out)⟩; have n3_ : Aside0 (wc.heap[gb202]? = some (.cells #[u203000] 24 (0, 0))) := ⟨by rw [← hq_]; exact (by (with_reducible repeat (first | refine blk_drewN ?_ _ | refine blk_drew ?_ | refine blk_alloc ?_ _)); exact BK202.out)⟩; have n4_ : Aside0 (wc.heap[gb205]? = some (.cells #[.string t203, u206001] 34 (0, 0))) := ⟨by rw [← hq_]; exact (by (with_reducible repeat (first | refine blk_drewN ?_ _ | refine blk_drew ?_ | refine blk_alloc ?_ _)); exact BK205.out)⟩; have n5_ : Aside0 (Below w.heap.size w wc) := ⟨by rw [← hq_]; exact (by repeat (first | (with_reducible first | exact HB.out | apply below_alloc | apply pw_below_drewN | apply below_drew1 | refine below_set ?_ GE201.out | refine below_set ?_ GE202.out | refine below_set ?_ GE205.out) | exact HB.out))⟩; clear HO_203000 HO_206001 BK201 BK202 BK205 HB hq_; have HO_203000 := n0_; have HO_206001 := n1_; have BK201 := n2_; have BK202 := n3_; have BK205 := n4_; have HB := n5_; clear n0_ n1_ n2_ n3_ n4_ n5_))))
                                  have n0_ := Aside0.mk (Kd.S_drew HO_203000.out)
                                  have n1_ := Aside0.mk (Kd.R_drew HO_206001.out)
                                  have n2_ := Aside0.mk (blk_drew BK201.out)
                                  have n3_ := Aside0.mk (blk_drew BK202.out)
                                  have n4_ := Aside0.mk (blk_drew BK205.out)
                                  have n5_ := Aside0.mk (below_drew1 HB.out)
                                  clear HO_203000
                                  clear HO_206001
                                  clear BK201
                                  clear BK202
                                  clear BK205
                                  clear HB
                                  have HO_203000 := n0_
                                  have HO_206001 := n1_
                                  have BK201 := n2_
                                  have BK202 := n3_
                                  have BK205 := n4_
                                  have HB := n5_
                                  clear n0_ n1_ n2_ n3_ n4_ n5_
                                  refine start_ (n := 9) (S := fun w' => w'.cell? ⟨gb205, 0, none⟩ = some (.string t203) ∧ w'.cell? ⟨gb205, 1, none⟩ = some (u206001)) (ds := [8]) #[false, false, false, false, false, false, false, false, false] (by kernel_rfl) rfl rfl ⟨(blk_cell BK205.out 0).trans rfl, (blk_cell BK205.out 1).trans rfl⟩ (fun hHeld => ?_); refine with_tabW foliateref06_Read.tab15 foliateref06_Read.bits15 (fun HT_ HW_ => ?_)
                                  generalize wc.drew = w47 at HO_203000 HO_206001 BK201 BK202 BK205 HB hHeld ⊢
                                  refine pure_ (i := 0) (N := some 73) (v := ?_) (a' := ?_) #[true, false, false, false, false, false, false, false, false] rfl rfl (any_of HT_.out (by kernel_rfl)) (fun _ _ _ h => h) (Or.inl ⟨by rfl, ?_⟩) ?_ ?_
                                  rotate_left
                                  · intro w'
                                    go_simp
                                    with_reducible rfl
                                  rotate_left
                                  · simp only [Act.put, List.setIfInBounds_toArray, List.set_cons_zero, List.set_cons_succ, i64_w, i32_w]
                                    rfl
                                  refine pure_ (i := 2) (N := some 75) (v := ?_) (a' := ?_) #[true, false, true, false, false, false, false, false, false] rfl rfl (any_of HT_.out (by kernel_rfl)) (fun _ _ _ h => h) (Or.inl ⟨by rfl, ?_⟩) ?_ ?_
                                  rotate_left
                                  · intro w'
                                    go_simp
                                    with_reducible rfl
                                  rotate_left
                                  · simp only [Act.put, List.setIfInBounds_toArray, List.set_cons_zero, List.set_cons_succ, i64_w, i32_w]
                                    rfl
                                  refine pure_ (i := 3) (N := some 76) (v := ?_) (a' := ?_) #[true, false, true, true, false, false, false, false, false] rfl rfl (any_of HT_.out (by kernel_rfl)) (fun _ _ _ h => h) (Or.inl ⟨by rfl, ?_⟩) ?_ ?_
                                  rotate_left
                                  · intro w'
                                    go_simp
                                    with_reducible rfl
                                  rotate_left
                                  · simp only [Act.put, List.setIfInBounds_toArray, List.set_cons_zero, List.set_cons_succ, i64_w, i32_w]
                                    rfl
                                  refine take_ (i := 1) (N := some 74) (v := ?_) (a' := ?_) #[true, true, true, true, false, false, false, false, false] rfl rfl (take_ofW HT_.out HW_.out (by kernel_rfl)) (fun _ _ _ h => h) (Or.inl ⟨by rfl, ?_⟩) hHeld ?_ ?_
                                  rotate_left
                                  · rintro w' ⟨s0, s1⟩
                                    go_simp
                                    with_reducible rfl
                                  rotate_left
                                  · simp only [Act.put, List.setIfInBounds_toArray, List.set_cons_zero, List.set_cons_succ, i64_w, i32_w]
                                    rfl
                                  refine one_ (i := 4) (N := some 77) #[true, true, true, true, true, false, false, false, false] rfl rfl (one_of HT_.out (by kernel_rfl)) (by decide) (fun K hK => ?_)
                                  refine goes_ Try.func26 (by kernel_rfl) rfl #[.string t212, .string t214] (by rfl) rfl rfl (by (try simp only [List.map_toArray, List.map_cons, List.map_nil]); first | done | rfl | (simp only [List.length_drop, List.length_take]; rfl)) ?_
                                  with_reducible refine (foliateref06_field.calls kj24 t212 t214 t222 t223 t224 _ A45.out).mono ?_
                                  rintro e w48 ⟨rfl, hb⟩
                                  refine ⟨_, rfl, ?_⟩
                                  have n0_ := Aside0.mk (Kd.S_below (by (with_reducible repeat (first | apply Kd.S_alloc | apply Kd.S_drewN | apply Kd.S_drew)); exact HO_203000.out) hb)
                                  have n1_ := Aside0.mk (Kd.R_below (by (with_reducible repeat (first | apply Kd.R_alloc | apply Kd.R_drewN | apply Kd.R_drew)); exact HO_206001.out) hb)
                                  have n2_ := Aside0.mk (blk_below (g := gb201) (o := .cells #[.slice none 0 0] 24 (0, 0)) (by (with_reducible repeat (first | refine blk_drewN ?_ _ | refine blk_drew ?_ | refine blk_alloc ?_ _)); exact BK201.out) hb)
                                  have n3_ := Aside0.mk (blk_below (g := gb202) (o := .cells #[u203000] 24 (0, 0)) (by (with_reducible repeat (first | refine blk_drewN ?_ _ | refine blk_drew ?_ | refine blk_alloc ?_ _)); exact BK202.out) hb)
                                  have n4_ := Aside0.mk (blk_below (g := gb205) (o := .cells #[.string t203, u206001] 34 (0, 0)) (by (with_reducible repeat (first | refine blk_drewN ?_ _ | refine blk_drew ?_ | refine blk_alloc ?_ _)); exact BK205.out) hb)
                                  have n5_ := Aside0.mk (below_step (by repeat (first | (with_reducible first | exact HB.out | apply below_alloc | apply pw_below_drewN | apply below_drew1 | refine below_set ?_ GE201.out | refine below_set ?_ GE202.out | refine below_set ?_ GE205.out) | exact HB.out)) hb)
                                  clear HO_203000
                                  clear HO_206001
                                  clear BK201
                                  clear BK202
                                  clear BK205
                                  clear HB
                                  have HO_203000 := n0_
                                  have HO_206001 := n1_
                                  have BK201 := n2_
                                  have BK202 := n3_
                                  have BK205 := n4_
                                  have HB := n5_
                                  clear n0_ n1_ n2_ n3_ n4_ n5_
                                  (try clear hb)
                                  (try clear hb2)
                                  (try clear hk)
                                  (try clear hi)
                                  refine hK.out _ _ ⟨(blk_cell BK205.out 0).trans rfl, (blk_cell BK205.out 1).trans rfl⟩ (fun hHeld => ?_)
                                  clear hK K
                                  refine norm_ (a' := ?_) ?_ ?_
                                  rotate_left
                                  · show Act.put _ (some 77) _ = _
                                    simp only [Act.put, List.setIfInBounds_toArray, List.set_cons_zero, List.set_cons_succ, i64_w, i32_w]
                                    rfl
                                  refine one_ (i := 5) (N := some 78) #[true, true, true, true, true, true, false, false, false] rfl rfl (one_of HT_.out (by kernel_rfl)) (by decide) (fun K hK => ?_)
                                  refine value_ (w1 := ?_) (v := ?_) (by rfl) rfl ?_ ?_
                                  rotate_left 2
                                  · go_simp
                                    constructor
                                    · rfl
                                    · rfl
                                  refine hK.out _ _ ⟨(blk_cell (blk_alloc BK205.out _) 0).trans rfl, (blk_cell (blk_alloc BK205.out _) 1).trans rfl⟩ (fun hHeld => ?_)
                                  clear hK K
                                  refine norm_ (a' := ?_) ?_ ?_
                                  rotate_left
                                  · show Act.put _ (some 78) _ = _
                                    simp only [Act.put, List.setIfInBounds_toArray, List.set_cons_zero, List.set_cons_succ, i64_w, i32_w]
                                    rfl
                                  refine one_ (i := 6) (N := some 79) #[true, true, true, true, true, true, true, false, false] rfl rfl (one_of HT_.out (by kernel_rfl)) (by decide) (fun K hK => ?_)
                                  refine Kd.R_append_step k40 (w0 := w) w.heap.size (by rfl) (.tmp 74) (.tmp 78) 32 40 (.agg #[(.string ⟨#[]⟩), (.int .i64 0), (.string ⟨#[]⟩)]) 40 rfl Try.underlying32 info40 rfl (by decide) (by omega) u206001 x206001_3 (⟨t222, t223, t224⟩ : S40) [.string t222, .int .i64 t223, .string t224] (fun _ => True) (fun _ => False) rfl rfl ?aP (fun _ hk => hk.elim) ?aF ?aO ?aB ?aS ?aL ?_
                                  (case aP => exact k40_mkM _ _ _ (⟨t222, t223, t224⟩ : S40))
                                  (case aB => exact (by repeat (first | (with_reducible first | exact HB.out | apply below_alloc | apply pw_below_drewN | apply below_drew1 | refine below_set ?_ GE201.out | refine below_set ?_ GE202.out | refine below_set ?_ GE205.out) | exact HB.out)))
                                  (case aF => exact (fun _ _ => trivial))
                                  (case aO => exact (by (with_reducible repeat (first | apply Kd.R_alloc | apply Kd.R_drewN | apply Kd.R_drew)); exact HO_206001.out))
                                  (case aS => exact (below_size (by repeat (first | (with_reducible first | exact HB.out | apply below_alloc | apply pw_below_drewN | apply below_drew1 | refine below_set ?_ GE201.out | refine below_set ?_ GE202.out | refine below_set ?_ GE205.out) | exact HB.out))))
                                  (case aL => have := LMc46.out; omega)
                                  intro v226 w49 ho hb hg hat
                                  rw [← Ny225.out] at ho
                                  have n0_ := Aside0.mk (Kd.S_after (ok := (fun k_ => k_ ≠ gb205)) (by (with_reducible repeat (first | apply Kd.S_alloc | apply Kd.S_drewN | apply Kd.S_drew)); exact Kd.S_mono HO_203000.out (fun _ hk => ⟨hk.2, hk.1⟩)) hg hat)
                                  have n1_ := Aside0.mk (blk_grown (g := gb201) (o := .cells #[.slice none 0 0] 24 (0, 0)) (by (with_reducible repeat (first | refine blk_drewN ?_ _ | refine blk_drew ?_ | refine blk_alloc ?_ _)); exact BK201.out) hg (Kd.R_ne HO_206001.out BK201.out (by decide)))
                                  have n2_ := Aside0.mk (blk_grown (g := gb202) (o := .cells #[u203000] 24 (0, 0)) (by (with_reducible repeat (first | refine blk_drewN ?_ _ | refine blk_drew ?_ | refine blk_alloc ?_ _)); exact BK202.out) hg (Kd.R_ne HO_206001.out BK202.out (by decide)))
                                  have n3_ := Aside0.mk (blk_grown (g := gb205) (o := .cells #[.string t203, u206001] 34 (0, 0)) (by (with_reducible repeat (first | refine blk_drewN ?_ _ | refine blk_drew ?_ | refine blk_alloc ?_ _)); exact BK205.out) hg (Kd.R_ne HO_206001.out BK205.out (by decide)))
                                  have n4_ := Aside0.mk (hb)
                                  have n5_ := Aside0.mk (ho)
                                  clear HO_203000
                                  clear BK201
                                  clear BK202
                                  clear BK205
                                  clear HB
                                  clear HO_206001
                                  have HO_203000 := n0_
                                  have BK201 := n1_
                                  have BK202 := n2_
                                  have BK205 := n3_
                                  have HB := n4_
                                  have HO227 := n5_
                                  clear n0_ n1_ n2_ n3_ n4_ n5_
                                  clear ho hb hg hat
                                  obtain ⟨Ao50, co50, eo50⟩ := Kd.R_slice HO227.out
                                  (first | subst eo50 | (injection eo50 with f1_ f2_ f3_; have f4_ := f1_.symm; have f5_ := f3_.symm; clear f1_ f2_ f3_; subst f4_; subst f5_))
                                  refine hK.out _ _ ⟨(blk_cell BK205.out 0).trans rfl, (blk_cell BK205.out 1).trans rfl⟩ (fun hHeld => ?_)
                                  clear hK K
                                  refine norm_ (a' := ?_) ?_ ?_
                                  rotate_left
                                  · show Act.put _ (some 79) _ = _
                                    simp only [Act.put, List.setIfInBounds_toArray, List.set_cons_zero, List.set_cons_succ, i64_w, i32_w]
                                    rfl
                                  refine pure_ (i := 7) (N := some 80) (v := ?_) (a' := ?_) #[true, true, true, true, true, true, true, true, false] rfl rfl (any_of HT_.out (by kernel_rfl)) (fun _ _ _ h => h) (Or.inl ⟨by rfl, ?_⟩) ?_ ?_
                                  rotate_left
                                  · intro w'
                                    go_simp
                                    with_reducible rfl
                                  rotate_left
                                  · simp only [Act.put, List.setIfInBounds_toArray, List.set_cons_zero, List.set_cons_succ, i64_w, i32_w]
                                    rfl
                                  refine last_ (i := 8) (N := none) #[true, true, true, true, true, true, true, true, true] rfl rfl (one_of HT_.out (by kernel_rfl)) (by decide) (fun K hK => ?_)
                                  have hs51 : w49.cell? ⟨gb205, 1, none⟩ = some (u206001) := (blk_cell BK205.out 1).trans rfl
                                  have hfs51 := blk_frozen BK205.out 1
                                  have hns51_0 := NB201_205.out
                                  have hns51_1 := NB202_205.out
                                  have hms51_0 := NB205_201.out
                                  have hms51_1 := NB205_202.out
                                  refine skip_ (w1 := ?_) (by rfl) rfl ?_ ?_
                                  rotate_left
                                  · go_simp
                                    rfl
                                  refine hK.out _ _ ?_
                                  clear hK K
                                  refine done_ (done_of HT_.out (by kernel_rfl)) ?_
                                  try go_wp2
                                  go_roundg kj24
                                  case measure => have := HK1.out; have := HJ3.out; have := HK3.out; have := HJ14.out; have := HJ24.out; omega
                                  case rel => exact ⟨(t215), (y225), (.slice Ao50 y225.length co50), (by first | rfl | (simp; done) | (simp [*]; done)), H', ⟨by have := HK1.out; have := HJ3.out; have := HK3.out; have := HJ14.out; have := HJ24.out; omega⟩, ⟨by (with_reducible repeat (first | apply Kd.S_alloc | apply Kd.S_drewN | apply Kd.S_drew)); exact Kd.S_mono (Kd.S_far (p := ⟨gb205, 1, none⟩) (Kd.S_mono HO_203000.out (fun k_ hk => (⟨hk, hk.1⟩ : _ ∧ k_ ≠ gb205))) (fun _ hk => hk.2) (.slice Ao50 y225.length co50)) (fun _ hk => ⟨hk.1.2, hk.1.1⟩)⟩, ⟨by (with_reducible repeat (first | apply Kd.R_alloc | apply Kd.R_drewN | apply Kd.R_drew)); exact Kd.R_mono (Kd.R_far (p := ⟨gb205, 1, none⟩) (Kd.R_types HO227.out BK205.out (by decide)) (fun _ hk => hk.2) (.slice Ao50 y225.length co50)) (fun _ hk => trivial)⟩, ⟨by (with_reducible repeat (first | refine blk_drewN ?_ _ | refine blk_drew ?_ | refine blk_alloc ?_ _)); refine blk_far ?_ NB201_205.out _; (with_reducible repeat (first | refine blk_drewN ?_ _ | refine blk_drew ?_ | refine blk_alloc ?_ _)); exact BK201.out⟩, ⟨by (with_reducible repeat (first | refine blk_drewN ?_ _ | refine blk_drew ?_ | refine blk_alloc ?_ _)); refine blk_far ?_ NB202_205.out _; (with_reducible repeat (first | refine blk_drewN ?_ _ | refine blk_drew ?_ | refine blk_alloc ?_ _)); exact BK202.out⟩, ⟨by (with_reducible repeat (first | refine blk_drewN ?_ _ | refine blk_drew ?_ | refine blk_alloc ?_ _)); refine blk_put (cs := #[.string t203, u206001]) ?_ 1 _ rfl; (with_reducible repeat (first | refine blk_drewN ?_ _ | refine blk_drew ?_ | refine blk_alloc ?_ _)); exact BK205.out⟩, ⟨by repeat (first | (with_reducible first | exact HB.out | apply below_alloc | apply pw_below_drewN | apply below_drew1 | refine below_set ?_ GE201.out | refine below_set ?_ GE202.out | refine below_set ?_ GE205.out) | exact HB.out)⟩⟩
                                · rw [if_neg c46] at H
                                  exact absurd H (by simp)
                            · rw [if_neg c33] at H
                              exact absurd H (by simp)
                    · replace c24 := Bool.eq_false_iff.mpr c24
                      subst c24
                      have H1 : (if (x5_3.size : Int) > 0 then (if 1 ≤ (x5_3.size : Int) then (if x203000_1.length < 3518437208883 then (foliateref06_Read.l0 kj14 a0 (x5_3.extract 1 x5_3.size) (x203000_1 ++ [(⟨t203, x206001_3⟩ : S34)])) else (none)) else (none)) else (if x203000_1.length < 3518437208883 then (foliateref06_Read.l0 kj14 a0 x5_3 (x203000_1 ++ [(⟨t203, x206001_3⟩ : S34)])) else (none))) = some (r1, r2) := by rw [if_neg (show ¬ (false = true) by decide)] at H; exact H
                      clear H
                      have H := H1
                      clear H1
                      by_cases c52 : (x5_3.size : Int) > 0
                      · rw [if_pos c52] at H
                        have c52b0 : decide (0 < (x5_3.size : Int)) = true := decide_eq_true c52
                        have c52b1 : decide (0 < x5_3.size) = true := decide_eq_true (by omega)
                        clear c52
                        by_cases c53 : 1 ≤ (x5_3.size : Int)
                        · rw [if_pos c53] at H
                          have c53b0 := eq_true c53
                          have c53b1 : decide (1 ≤ (x5_3.size : Int)) = true := decide_eq_true c53
                          clear c53
                          by_cases c54 : x203000_1.length < 3518437208883
                          · rw [if_pos c54] at H
                            have LMc54 := Aside0.mk c54
                            clear c54
                            obtain ⟨y206, hy206⟩ : ∃ y_ : List (S34), y_ = (x203000_1 ++ [(⟨t203, x206001_3⟩ : S34)]) := ⟨_, rfl⟩
                            replace H : (foliateref06_Read.l0 kj14 a0 (x5_3.extract 1 x5_3.size) y206) = some (r1, r2) := by first | (rw [hy206]; with_reducible exact H) | (have H2_ := (Option.bind_some _ _).symm.trans H; rw [hy206]; with_reducible exact H2_) | (have H2_ := (Option.bind_some _ _).symm.trans H; with_reducible exact H2_) | with_reducible exact H | (rw [hy206]; exact H) | exact H
                            have Ny206 := Aside0.mk hy206
                            clear hy206
                            have H' := Aside0.mk H
                            clear H
                            have hnb55 := NB202_201.out
                            have hnc55 := NB201_202.out
                            have hnb56 := NB202_205.out
                            have hnc56 := NB205_202.out
                            have hcz57_0 : wc.cell? ⟨gb202, 0, none⟩ = some (u203000) := (blk_cell BK202.out 0).trans rfl
                            have hfz57_0 := blk_frozen BK202.out 0
                            have hnb58 := NB205_201.out
                            have hnc58 := NB201_205.out
                            have hcz59_0 : wc.cell? ⟨gb205, 0, none⟩ = some (.string t203) := (blk_cell BK205.out 0).trans rfl
                            have hcz59_1 : wc.cell? ⟨gb205, 1, none⟩ = some (u206001) := (blk_cell BK205.out 1).trans rfl
                            have hfz59_0 := blk_frozen BK205.out 0
                            have hfz59_1 := blk_frozen BK205.out 1
                            obtain ⟨Ao61, co61, eo61⟩ := Kd.R_slice HO_206001.out
                            subst eo61
                            go_wp2_with (first | ((with_reducible refine gate_builtin (b := .append) (xs := #[.tmp 87, .tmp 89]) rfl ?_); (try (refine gate_guard (by rfl) ?_; dsimp only)); at_builtin; refine Kd.S_append k34 (w0 := w) w.heap.size rfl (.tmp 87) (.tmp 89) 22 34 (.agg #[(.string ⟨#[]⟩), (.slice none 0 0)]) 40 rfl Try.underlying22 info34 rfl (by decide) (by omega) u203000 x203000_1 (⟨t203, x206001_3⟩ : S34) [.string t203, .slice Ao61 x206001_3.length co61] (fun k_ => k_ ≠ gb205) (fun k_ => some k_ = (.slice Ao61 x206001_3.length co61 : Value).ownBlock) rfl rfl ?aP (fun k_ hk_ => ((Kd.R_mono (ok' := fun k_ => ((fun k_ => k_ ≠ gb205)) k_ ∧ some k_ ≠ (u203000 : Value).ownBlock) (Kd.R_types (Kd.R_apart' (HO_206001.out) (Kd.S_typed HO_203000.out) (by decide)) BK205.out (by decide)) (fun k_ hk => ⟨hk.2, hk.1.2⟩))).1 k_ hk_.symm) ?aF ?aO ?aB ?aS ?aL ?_; (case aP => exact k34_mkM _ _ _ (⟨t203, x206001_3⟩ : S34) (Kd.R_mono (Kd.R_tight rfl (Kd.R_mono (ok' := fun k_ => ((fun k_ => k_ ≠ gb205)) k_ ∧ some k_ ≠ (u203000 : Value).ownBlock) (Kd.R_types (Kd.R_apart' (HO_206001.out) (Kd.S_typed HO_203000.out) (by decide)) BK205.out (by decide)) (fun k_ hk => ⟨hk.2, hk.1.2⟩))) (fun _ h_ => h_))); (case aB => exact (by repeat (first | (with_reducible first | exact HB.out | apply below_alloc | apply pw_below_drewN | apply below_drew1 | refine below_set ?_ GE201.out | refine below_set ?_ GE202.out | refine below_set ?_ GE205.out) | exact HB.out))); (case aF => exact (fun k_ hk => Kd.freshB (g := gb205) (o := .cells #[.string t203, .slice Ao61 x206001_3.length co61] 34 (0, 0)) (by (with_reducible repeat (first | refine blk_drewN ?_ _ | refine blk_drew ?_ | refine blk_alloc ?_ _)); exact BK205.out) k_ hk)); (case aO => exact (by (with_reducible repeat (first | apply Kd.S_alloc | apply Kd.S_drewN | apply Kd.S_drew)); exact Kd.S_mono HO_203000.out (fun k_ hk => ⟨hk.2, fun e_ => hk.1 e_⟩))); (case aS => exact (below_size (by repeat (first | (with_reducible first | exact HB.out | apply below_alloc | apply pw_below_drewN | apply below_drew1 | refine below_set ?_ GE201.out | refine below_set ?_ GE202.out | refine below_set ?_ GE205.out) | exact HB.out)))); (case aL => have := LMc54.out; omega); intro v207 w60 ho hb hg hat; rw [← Ny206.out] at ho; have n0_ := Aside0.mk (blk_grown (g := gb201) (o := .cells #[.slice none 0 0] 24 (0, 0)) (by (with_reducible repeat (first | refine blk_drewN ?_ _ | refine blk_drew ?_ | refine blk_alloc ?_ _)); exact BK201.out) hg (Kd.S_ne HO_203000.out BK201.out (by decide))); have n1_ := Aside0.mk (blk_grown (g := gb202) (o := .cells #[u203000] 24 (0, 0)) (by (with_reducible repeat (first | refine blk_drewN ?_ _ | refine blk_drew ?_ | refine blk_alloc ?_ _)); exact BK202.out) hg (Kd.S_ne HO_203000.out BK202.out (by decide))); have n2_ := Aside0.mk (blk_grown (g := gb205) (o := .cells #[.string t203, .slice Ao61 x206001_3.length co61] 34 (0, 0)) (by (with_reducible repeat (first | refine blk_drewN ?_ _ | refine blk_drew ?_ | refine blk_alloc ?_ _)); exact BK205.out) hg (Kd.S_away HO_203000.out (fun _ hk => hk.2))); have n3_ := Aside0.mk (hb); have n4_ := Aside0.mk (ho); clear BK201; clear BK202; clear BK205; clear HB; clear HO_203000; clear HO_206001; have BK201 := n0_; have BK202 := n1_; have BK205 := n2_; have HB := n3_; have HO208 := n4_; clear n0_ n1_ n2_ n3_ n4_; clear ho hb hg hat; obtain ⟨Ao62, co62, eo62⟩ := Kd.S_slice HO208.out; subst eo62; have hcz63_0 : w60.cell? ⟨gb202, 0, none⟩ = some (u203000) := (blk_cell BK202.out 0).trans rfl; have hfz63_0 := blk_frozen BK202.out 0))
                            go_roundg kj14
                            case measure => have := HK1.out; have := HJ3.out; have := HK3.out; have := HJ14.out; omega
                            case rel => exact ⟨(x5_3.extract 1 x5_3.size), (y206), (.slice Ao62 y206.length co62), (by first | rfl | (simp; done) | (simp [*]; done)), H', ⟨by have := HK1.out; have := HJ3.out; have := HK3.out; have := HJ14.out; omega⟩, ⟨by (with_reducible repeat (first | apply Kd.S_alloc | apply Kd.S_drewN | apply Kd.S_drew)); exact Kd.S_mono (Kd.S_far (p := ⟨gb202, 0, none⟩) (Kd.S_types HO208.out BK202.out (by decide)) (fun _ hk => hk.2) (.slice Ao62 y206.length co62)) (fun _ hk => trivial)⟩, ⟨by (with_reducible repeat (first | refine blk_drewN ?_ _ | refine blk_drew ?_ | refine blk_alloc ?_ _)); refine blk_far ?_ NB201_202.out _; (with_reducible repeat (first | refine blk_drewN ?_ _ | refine blk_drew ?_ | refine blk_alloc ?_ _)); exact BK201.out⟩, ⟨by (with_reducible repeat (first | refine blk_drewN ?_ _ | refine blk_drew ?_ | refine blk_alloc ?_ _)); refine blk_put (cs := #[u203000]) ?_ 0 _ rfl; (with_reducible repeat (first | refine blk_drewN ?_ _ | refine blk_drew ?_ | refine blk_alloc ?_ _)); exact BK202.out⟩, ⟨by repeat (first | (with_reducible first | exact HB.out | apply below_alloc | apply pw_below_drewN | apply below_drew1 | refine below_set ?_ GE201.out | refine below_set ?_ GE202.out | refine below_set ?_ GE205.out) | exact HB.out)⟩⟩
                          · rw [if_neg c54] at H
                            exact absurd H (by simp)
                        · rw [if_neg c53] at H
                          exact absurd H (by simp)
                      · rw [if_neg c52] at H
                        have c52b0 : decide (0 < (x5_3.size : Int)) = false := decide_eq_false c52
                        have c52b1 : decide (0 < x5_3.size) = false := decide_eq_false (by omega)
                        clear c52
                        by_cases c64 : x203000_1.length < 3518437208883
                        · rw [if_pos c64] at H
                          have LMc64 := Aside0.mk c64
                          clear c64
                          obtain ⟨y209, hy209⟩ : ∃ y_ : List (S34), y_ = (x203000_1 ++ [(⟨t203, x206001_3⟩ : S34)]) := ⟨_, rfl⟩
                          replace H : (foliateref06_Read.l0 kj14 a0 x5_3 y209) = some (r1, r2) := by first | (rw [hy209]; with_reducible exact H) | (have H2_ := (Option.bind_some _ _).symm.trans H; rw [hy209]; with_reducible exact H2_) | (have H2_ := (Option.bind_some _ _).symm.trans H; with_reducible exact H2_) | with_reducible exact H | (rw [hy209]; exact H) | exact H
                          have Ny209 := Aside0.mk hy209
                          clear hy209
                          have H' := Aside0.mk H
                          clear H
                          have hnb65 := NB202_201.out
                          have hnc65 := NB201_202.out
                          have hnb66 := NB202_205.out
                          have hnc66 := NB205_202.out
                          have hcz67_0 : wc.cell? ⟨gb202, 0, none⟩ = some (u203000) := (blk_cell BK202.out 0).trans rfl
                          have hfz67_0 := blk_frozen BK202.out 0
                          have hnb68 := NB205_201.out
                          have hnc68 := NB201_205.out
                          have hcz69_0 : wc.cell? ⟨gb205, 0, none⟩ = some (.string t203) := (blk_cell BK205.out 0).trans rfl
                          have hcz69_1 : wc.cell? ⟨gb205, 1, none⟩ = some (u206001) := (blk_cell BK205.out 1).trans rfl
                          have hfz69_0 := blk_frozen BK205.out 0
                          have hfz69_1 := blk_frozen BK205.out 1
                          obtain ⟨Ao71, co71, eo71⟩ := Kd.R_slice HO_206001.out
                          subst eo71
                          go_wp2_with (first | ((with_reducible refine gate_builtin (b := .append) (xs := #[.tmp 87, .tmp 89]) rfl ?_); (try (refine gate_guard (by rfl) ?_; dsimp only)); at_builtin; refine Kd.S_append k34 (w0 := w) w.heap.size rfl (.tmp 87) (.tmp 89) 22 34 (.agg #[(.string ⟨#[]⟩), (.slice none 0 0)]) 40 rfl Try.underlying22 info34 rfl (by decide) (by omega) u203000 x203000_1 (⟨t203, x206001_3⟩ : S34) [.string t203, .slice Ao71 x206001_3.length co71] (fun k_ => k_ ≠ gb205) (fun k_ => some k_ = (.slice Ao71 x206001_3.length co71 : Value).ownBlock) rfl rfl ?aP (fun k_ hk_ => ((Kd.R_mono (ok' := fun k_ => ((fun k_ => k_ ≠ gb205)) k_ ∧ some k_ ≠ (u203000 : Value).ownBlock) (Kd.R_types (Kd.R_apart' (HO_206001.out) (Kd.S_typed HO_203000.out) (by decide)) BK205.out (by decide)) (fun k_ hk => ⟨hk.2, hk.1.2⟩))).1 k_ hk_.symm) ?aF ?aO ?aB ?aS ?aL ?_; (case aP => exact k34_mkM _ _ _ (⟨t203, x206001_3⟩ : S34) (Kd.R_mono (Kd.R_tight rfl (Kd.R_mono (ok' := fun k_ => ((fun k_ => k_ ≠ gb205)) k_ ∧ some k_ ≠ (u203000 : Value).ownBlock) (Kd.R_types (Kd.R_apart' (HO_206001.out) (Kd.S_typed HO_203000.out) (by decide)) BK205.out (by decide)) (fun k_ hk => ⟨hk.2, hk.1.2⟩))) (fun _ h_ => h_))); (case aB => exact (by repeat (first | (with_reducible first | exact HB.out | apply below_alloc | apply pw_below_drewN | apply below_drew1 | refine below_set ?_ GE201.out | refine below_set ?_ GE202.out | refine below_set ?_ GE205.out) | exact HB.out))); (case aF => exact (fun k_ hk => Kd.freshB (g := gb205) (o := .cells #[.string t203, .slice Ao71 x206001_3.length co71] 34 (0, 0)) (by (with_reducible repeat (first | refine blk_drewN ?_ _ | refine blk_drew ?_ | refine blk_alloc ?_ _)); exact BK205.out) k_ hk)); (case aO => exact (by (with_reducible repeat (first | apply Kd.S_alloc | apply Kd.S_drewN | apply Kd.S_drew)); exact Kd.S_mono HO_203000.out (fun k_ hk => ⟨hk.2, fun e_ => hk.1 e_⟩))); (case aS => exact (below_size (by repeat (first | (with_reducible first | exact HB.out | apply below_alloc | apply pw_below_drewN | apply below_drew1 | refine below_set ?_ GE201.out | refine below_set ?_ GE202.out | refine below_set ?_ GE205.out) | exact HB.out)))); (case aL => have := LMc64.out; omega); intro v210 w70 ho hb hg hat; rw [← Ny209.out] at ho; have n0_ := Aside0.mk (blk_grown (g := gb201) (o := .cells #[.slice none 0 0] 24 (0, 0)) (by (with_reducible repeat (first | refine blk_drewN ?_ _ | refine blk_drew ?_ | refine blk_alloc ?_ _)); exact BK201.out) hg (Kd.S_ne HO_203000.out BK201.out (by decide))); have n1_ := Aside0.mk (blk_grown (g := gb202) (o := .cells #[u203000] 24 (0, 0)) (by (with_reducible repeat (first | refine blk_drewN ?_ _ | refine blk_drew ?_ | refine blk_alloc ?_ _)); exact BK202.out) hg (Kd.S_ne HO_203000.out BK202.out (by decide))); have n2_ := Aside0.mk (blk_grown (g := gb205) (o := .cells #[.string t203, .slice Ao71 x206001_3.length co71] 34 (0, 0)) (by (with_reducible repeat (first | refine blk_drewN ?_ _ | refine blk_drew ?_ | refine blk_alloc ?_ _)); exact BK205.out) hg (Kd.S_away HO_203000.out (fun _ hk => hk.2))); have n3_ := Aside0.mk (hb); have n4_ := Aside0.mk (ho); clear BK201; clear BK202; clear BK205; clear HB; clear HO_203000; clear HO_206001; have BK201 := n0_; have BK202 := n1_; have BK205 := n2_; have HB := n3_; have HO211 := n4_; clear n0_ n1_ n2_ n3_ n4_; clear ho hb hg hat; obtain ⟨Ao72, co72, eo72⟩ := Kd.S_slice HO211.out; subst eo72; have hcz73_0 : w70.cell? ⟨gb202, 0, none⟩ = some (u203000) := (blk_cell BK202.out 0).trans rfl; have hfz73_0 := blk_frozen BK202.out 0))
                          go_roundg kj14
                          case measure => have := HK1.out; have := HJ3.out; have := HK3.out; have := HJ14.out; omega
                          case rel => exact ⟨(x5_3), (y209), (.slice Ao72 y209.length co72), (by first | rfl | (simp; done) | (simp [*]; done)), H', ⟨by have := HK1.out; have := HJ3.out; have := HK3.out; have := HJ14.out; omega⟩, ⟨by (with_reducible repeat (first | apply Kd.S_alloc | apply Kd.S_drewN | apply Kd.S_drew)); exact Kd.S_mono (Kd.S_far (p := ⟨gb202, 0, none⟩) (Kd.S_types HO211.out BK202.out (by decide)) (fun _ hk => hk.2) (.slice Ao72 y209.length co72)) (fun _ hk => trivial)⟩, ⟨by (with_reducible repeat (first | refine blk_drewN ?_ _ | refine blk_drew ?_ | refine blk_alloc ?_ _)); refine blk_far ?_ NB201_202.out _; (with_reducible repeat (first | refine blk_drewN ?_ _ | refine blk_drew ?_ | refine blk_alloc ?_ _)); exact BK201.out⟩, ⟨by (with_reducible repeat (first | refine blk_drewN ?_ _ | refine blk_drew ?_ | refine blk_alloc ?_ _)); refine blk_put (cs := #[u203000]) ?_ 0 _ rfl; (with_reducible repeat (first | refine blk_drewN ?_ _ | refine blk_drew ?_ | refine blk_alloc ?_ _)); exact BK202.out⟩, ⟨by repeat (first | (with_reducible first | exact HB.out | apply below_alloc | apply pw_below_drewN | apply below_drew1 | refine below_set ?_ GE201.out | refine below_set ?_ GE202.out | refine below_set ?_ GE205.out) | exact HB.out)⟩⟩
                        · rw [if_neg c64] at H
                          exact absurd H (by simp)
          · replace c9 := Bool.eq_false_iff.mpr c9
            subst c9
            have H1 : ((foliateref06_May.f kj3 x203000_1).bind fun t228 => (if t228 = true then ((foliateref06_Text.f kj3 x203000_1).bind fun t229 => (if t229.toList = a0.toList then (some (x203000_1, true)) else (some (([] : List (S34)), false)))) else (some (([] : List (S34)), false)))) = some (r1, r2) := by rw [if_neg (show ¬ (false = true) by decide)] at H; exact H
            clear H
            have H := H1
            clear H1
            replace H := Option.bind_eq_some_iff.mp H
            obtain ⟨t228, A740, H⟩ := H
            replace H : (if t228 = true then ((foliateref06_Text.f kj3 x203000_1).bind fun t229 => (if t229.toList = a0.toList then (some (x203000_1, true)) else (some (([] : List (S34)), false)))) else (some (([] : List (S34)), false))) = some (r1, r2) := H
            have A74 := Aside0.mk A740
            clear A740
            by_cases c75 : t228 = true
            · subst c75
              have H1 : ((foliateref06_Text.f kj3 x203000_1).bind fun t229 => (if t229.toList = a0.toList then (some (x203000_1, true)) else (some (([] : List (S34)), false)))) = some (r1, r2) := by rw [if_pos rfl] at H; exact H
              clear H
              have H := H1
              clear H1
              replace H := Option.bind_eq_some_iff.mp H
              obtain ⟨t229, A760, H⟩ := H
              replace H : (if t229.toList = a0.toList then (some (x203000_1, true)) else (some (([] : List (S34)), false))) = some (r1, r2) := H
              have A76 := Aside0.mk A760
              clear A760
              by_cases c77 : t229.toList = a0.toList
              · rw [if_pos c77] at H
                have c77b0 : (t229.toList == a0.toList) = true := beq_iff_eq.mpr c77
                have c77b1 : (t229.toList != a0.toList) = false := bne_eq_false_iff_eq.mpr c77
                clear c77
                simp only [Option.some.injEq, Prod.mk.injEq] at H
                obtain ⟨rfl, rfl⟩ := H
                have hnb78 := NB202_201.out
                have hnc78 := NB201_202.out
                have hcz79_0 : wc.cell? ⟨gb202, 0, none⟩ = some (u203000) := (blk_cell BK202.out 0).trans rfl
                have hfz79_0 := blk_frozen BK202.out 0
                obtain ⟨Ao80, co80, eo80⟩ := Kd.S_slice HO_203000.out
                subst eo80
                go_wp2_with (first | ((with_reducible refine gate_callee (f := 14) rfl ?_); refine goesL_ (some 93) rfl rfl Try.func14 (by kernel_rfl) rfl #[.agg #[.slice Ao80 x203000_1.length co80]] rfl (by (try simp only [List.map_toArray, List.map_cons, List.map_nil]); first | done | rfl | (simp only [List.length_drop, List.length_take]; rfl)) ?_; (with_reducible refine (foliateref06_May.calls kj3 _ _ x203000_1 true _ ?side1 ?side2 A74.out).mono ?_); (case side1 => repeat (first | exact (Kd.S_reads' HO_203000.out).2.2 | (with_reducible refine Kd.C_alloc ?_ _) | (with_reducible refine Kd.C_drewN ?_ _) | (with_reducible refine Kd.C_drew ?_))); (case side2 => exact (Kd.S_reads' HO_203000.out).2.1); rintro e w81 ⟨rfl, hb⟩; refine ⟨_, rfl, ?_⟩; have n0_ := Aside0.mk (Kd.S_below (by (with_reducible repeat (first | apply Kd.S_alloc | apply Kd.S_drewN | apply Kd.S_drew)); exact HO_203000.out) hb); have n1_ := Aside0.mk (blk_below (g := gb201) (o := .cells #[.slice none 0 0] 24 (0, 0)) (by (with_reducible repeat (first | refine blk_drewN ?_ _ | refine blk_drew ?_ | refine blk_alloc ?_ _)); exact BK201.out) hb); have n2_ := Aside0.mk (blk_below (g := gb202) (o := .cells #[.slice Ao80 x203000_1.length co80] 24 (0, 0)) (by (with_reducible repeat (first | refine blk_drewN ?_ _ | refine blk_drew ?_ | refine blk_alloc ?_ _)); exact BK202.out) hb); have n3_ := Aside0.mk (below_step (by repeat (first | (with_reducible first | exact HB.out | apply below_alloc | apply pw_below_drewN | apply below_drew1 | refine below_set ?_ GE201.out | refine below_set ?_ GE202.out) | exact HB.out)) hb); clear HO_203000; clear BK201; clear BK202; clear HB; have HO_203000 := n0_; have BK201 := n1_; have BK202 := n2_; have HB := n3_; clear n0_ n1_ n2_ n3_; (try clear hb); (try clear hb2); (try clear hk); (try clear hi); have hcz82_0 : w81.cell? ⟨gb202, 0, none⟩ = some (.slice Ao80 x203000_1.length co80) := (blk_cell BK202.out 0).trans rfl; have hfz82_0 := blk_frozen BK202.out 0) | (go_at_call 20; (with_reducible refine (foliateref06_Text.calls kj3 _ _ x203000_1 t229 _ ?side1 ?side2 A76.out).mono ?_); (case side1 => repeat (first | exact (Kd.S_reads' HO_203000.out).2.2 | (with_reducible refine Kd.C_alloc ?_ _) | (with_reducible refine Kd.C_drewN ?_ _) | (with_reducible refine Kd.C_drew ?_))); (case side2 => exact (Kd.S_reads' HO_203000.out).2.1); rintro e w83 ⟨rfl, hb⟩; have n0_ := Aside0.mk (Kd.S_below (by (with_reducible repeat (first | apply Kd.S_alloc | apply Kd.S_drewN | apply Kd.S_drew)); exact HO_203000.out) hb); have n1_ := Aside0.mk (blk_below (g := gb201) (o := .cells #[.slice none 0 0] 24 (0, 0)) (by (with_reducible repeat (first | refine blk_drewN ?_ _ | refine blk_drew ?_ | refine blk_alloc ?_ _)); exact BK201.out) hb); have n2_ := Aside0.mk (blk_below (g := gb202) (o := .cells #[.slice Ao80 x203000_1.length co80] 24 (0, 0)) (by (with_reducible repeat (first | refine blk_drewN ?_ _ | refine blk_drew ?_ | refine blk_alloc ?_ _)); exact BK202.out) hb); have n3_ := Aside0.mk (below_step (by repeat (first | (with_reducible first | exact HB.out | apply below_alloc | apply pw_below_drewN | apply below_drew1 | refine below_set ?_ GE201.out | refine below_set ?_ GE202.out) | exact HB.out)) hb); clear HO_203000; clear BK201; clear BK202; clear HB; have HO_203000 := n0_; have BK201 := n1_; have BK202 := n2_; have HB := n3_; clear n0_ n1_ n2_ n3_; (try clear hb); (try clear hb2); (try clear hk); (try clear hi); have hcz84_0 : w83.cell? ⟨gb202, 0, none⟩ = some (.slice Ao80 x203000_1.length co80) := (blk_cell BK202.out 0).trans rfl; have hfz84_0 := blk_frozen BK202.out 0; have hcz85_0 : w83.cell? ⟨gb201, 0, none⟩ = some (.slice none 0 0) := (blk_cell BK201.out 0).trans rfl; have hfz85_0 := blk_frozen BK201.out 0))
                refine bodyPost_ret (results_ct rfl _ _ gb201 24 #[.slice Ao80 x203000_1.length co80] (0, 0) _ rfl (by (with_reducible repeat (first | refine blk_drewN ?_ _ | refine blk_drew ?_ | refine blk_alloc ?_ _)); refine blk_put (cs := #[.slice none 0 0]) ?_ 0 _ rfl; (with_reducible repeat (first | refine blk_drewN ?_ _ | refine blk_drew ?_ | refine blk_alloc ?_ _)); exact BK201.out) Try.underlying24 rfl (by kernel_rfl)) rfl ?_
                exact ⟨_, by first | rfl | (simp [errW_none, errW_some] <;> rfl) | (simp [*, errW_none, errW_some] <;> rfl), by (with_reducible repeat (first | apply Kd.S_alloc | apply Kd.S_drewN | apply Kd.S_drew)); exact Kd.S_mono (Kd.S_far (p := ⟨gb201, 0, none⟩) (Kd.S_types HO_203000.out BK201.out (by decide)) (fun _ hk => hk.2) (.slice Ao80 x203000_1.length co80)) (fun _ hk => trivial), by repeat (first | (with_reducible first | exact HB.out | apply below_alloc | apply pw_below_drewN | apply below_drew1 | refine below_set ?_ GE201.out | refine below_set ?_ GE202.out) | exact HB.out)⟩
              · rw [if_neg c77] at H
                have c77b0 : (t229.toList == a0.toList) = false := beq_eq_false_iff_ne.mpr c77
                have c77b1 : (t229.toList != a0.toList) = true := bne_iff_ne.mpr c77
                simp only [Option.some.injEq, Prod.mk.injEq] at H
                obtain ⟨rfl, rfl⟩ := H
                have hnb86 := NB202_201.out
                have hnc86 := NB201_202.out
                have hcz87_0 : wc.cell? ⟨gb202, 0, none⟩ = some (u203000) := (blk_cell BK202.out 0).trans rfl
                have hfz87_0 := blk_frozen BK202.out 0
                obtain ⟨Ao88, co88, eo88⟩ := Kd.S_slice HO_203000.out
                subst eo88
                go_wp2_with (first | ((with_reducible refine gate_callee (f := 14) rfl ?_); refine goesL_ (some 93) rfl rfl Try.func14 (by kernel_rfl) rfl #[.agg #[.slice Ao88 x203000_1.length co88]] rfl (by (try simp only [List.map_toArray, List.map_cons, List.map_nil]); first | done | rfl | (simp only [List.length_drop, List.length_take]; rfl)) ?_; (with_reducible refine (foliateref06_May.calls kj3 _ _ x203000_1 true _ ?side1 ?side2 A74.out).mono ?_); (case side1 => repeat (first | exact (Kd.S_reads' HO_203000.out).2.2 | (with_reducible refine Kd.C_alloc ?_ _) | (with_reducible refine Kd.C_drewN ?_ _) | (with_reducible refine Kd.C_drew ?_))); (case side2 => exact (Kd.S_reads' HO_203000.out).2.1); rintro e w89 ⟨rfl, hb⟩; refine ⟨_, rfl, ?_⟩; have n0_ := Aside0.mk (Kd.S_below (by (with_reducible repeat (first | apply Kd.S_alloc | apply Kd.S_drewN | apply Kd.S_drew)); exact HO_203000.out) hb); have n1_ := Aside0.mk (blk_below (g := gb201) (o := .cells #[.slice none 0 0] 24 (0, 0)) (by (with_reducible repeat (first | refine blk_drewN ?_ _ | refine blk_drew ?_ | refine blk_alloc ?_ _)); exact BK201.out) hb); have n2_ := Aside0.mk (blk_below (g := gb202) (o := .cells #[.slice Ao88 x203000_1.length co88] 24 (0, 0)) (by (with_reducible repeat (first | refine blk_drewN ?_ _ | refine blk_drew ?_ | refine blk_alloc ?_ _)); exact BK202.out) hb); have n3_ := Aside0.mk (below_step (by repeat (first | (with_reducible first | exact HB.out | apply below_alloc | apply pw_below_drewN | apply below_drew1 | refine below_set ?_ GE201.out | refine below_set ?_ GE202.out) | exact HB.out)) hb); clear HO_203000; clear BK201; clear BK202; clear HB; have HO_203000 := n0_; have BK201 := n1_; have BK202 := n2_; have HB := n3_; clear n0_ n1_ n2_ n3_; (try clear hb); (try clear hb2); (try clear hk); (try clear hi); have hcz90_0 : w89.cell? ⟨gb202, 0, none⟩ = some (.slice Ao88 x203000_1.length co88) := (blk_cell BK202.out 0).trans rfl; have hfz90_0 := blk_frozen BK202.out 0) | (go_at_call 20; (with_reducible refine (foliateref06_Text.calls kj3 _ _ x203000_1 t229 _ ?side1 ?side2 A76.out).mono ?_); (case side1 => repeat (first | exact (Kd.S_reads' HO_203000.out).2.2 | (with_reducible refine Kd.C_alloc ?_ _) | (with_reducible refine Kd.C_drewN ?_ _) | (with_reducible refine Kd.C_drew ?_))); (case side2 => exact (Kd.S_reads' HO_203000.out).2.1); rintro e w91 ⟨rfl, hb⟩; have n0_ := Aside0.mk (Kd.S_below (by (with_reducible repeat (first | apply Kd.S_alloc | apply Kd.S_drewN | apply Kd.S_drew)); exact HO_203000.out) hb); have n1_ := Aside0.mk (blk_below (g := gb201) (o := .cells #[.slice none 0 0] 24 (0, 0)) (by (with_reducible repeat (first | refine blk_drewN ?_ _ | refine blk_drew ?_ | refine blk_alloc ?_ _)); exact BK201.out) hb); have n2_ := Aside0.mk (blk_below (g := gb202) (o := .cells #[.slice Ao88 x203000_1.length co88] 24 (0, 0)) (by (with_reducible repeat (first | refine blk_drewN ?_ _ | refine blk_drew ?_ | refine blk_alloc ?_ _)); exact BK202.out) hb); have n3_ := Aside0.mk (below_step (by repeat (first | (with_reducible first | exact HB.out | apply below_alloc | apply pw_below_drewN | apply below_drew1 | refine below_set ?_ GE201.out | refine below_set ?_ GE202.out) | exact HB.out)) hb); clear HO_203000; clear BK201; clear BK202; clear HB; have HO_203000 := n0_; have BK201 := n1_; have BK202 := n2_; have HB := n3_; clear n0_ n1_ n2_ n3_; (try clear hb); (try clear hb2); (try clear hk); (try clear hi); have hcz92_0 : w91.cell? ⟨gb201, 0, none⟩ = some (.slice none 0 0) := (blk_cell BK201.out 0).trans rfl; have hfz92_0 := blk_frozen BK201.out 0))
                refine bodyPost_ret (results_ct rfl _ _ gb201 24 #[.slice none 0 0] (0, 0) _ rfl (by (with_reducible repeat (first | refine blk_drewN ?_ _ | refine blk_drew ?_ | refine blk_alloc ?_ _)); refine blk_put (cs := #[.slice none 0 0]) ?_ 0 _ rfl; (with_reducible repeat (first | refine blk_drewN ?_ _ | refine blk_drew ?_ | refine blk_alloc ?_ _)); exact BK201.out) Try.underlying24 rfl (by kernel_rfl)) rfl ?_
                exact ⟨_, by first | rfl | (simp [errW_none, errW_some] <;> rfl) | (simp [*, errW_none, errW_some] <;> rfl), by first | exact Kd.S_nil _ _ _ _ _ | exact Kd.N_nil _ _ _ _ _ | exact Kd.V_nil _ _ _ _ _ | exact Kd.Q_nil _ _ _ _ _ | exact Kd.R_nil _ _ _ _ _, by repeat (first | (with_reducible first | exact HB.out | apply below_alloc | apply pw_below_drewN | apply below_drew1 | refine below_set ?_ GE201.out | refine below_set ?_ GE202.out) | exact HB.out)⟩
            · replace c75 := Bool.eq_false_iff.mpr c75
              subst c75
              have H1 : (some (([] : List (S34)), false)) = some (r1, r2) := by rw [if_neg (show ¬ (false = true) by decide)] at H; exact H
              clear H
              have H := H1
              clear H1
              simp only [Option.some.injEq, Prod.mk.injEq] at H
              obtain ⟨rfl, rfl⟩ := H
              have hnb93 := NB202_201.out
              have hnc93 := NB201_202.out
              have hcz94_0 : wc.cell? ⟨gb202, 0, none⟩ = some (u203000) := (blk_cell BK202.out 0).trans rfl
              have hfz94_0 := blk_frozen BK202.out 0
              obtain ⟨Ao95, co95, eo95⟩ := Kd.S_slice HO_203000.out
              subst eo95
              go_wp2_with (first | ((with_reducible refine gate_callee (f := 14) rfl ?_); refine goesL_ (some 93) rfl rfl Try.func14 (by kernel_rfl) rfl #[.agg #[.slice Ao95 x203000_1.length co95]] rfl (by (try simp only [List.map_toArray, List.map_cons, List.map_nil]); first | done | rfl | (simp only [List.length_drop, List.length_take]; rfl)) ?_; (with_reducible refine (foliateref06_May.calls kj3 _ _ x203000_1 false _ ?side1 ?side2 A74.out).mono ?_); (case side1 => repeat (first | exact (Kd.S_reads' HO_203000.out).2.2 | (with_reducible refine Kd.C_alloc ?_ _) | (with_reducible refine Kd.C_drewN ?_ _) | (with_reducible refine Kd.C_drew ?_))); (case side2 => exact (Kd.S_reads' HO_203000.out).2.1); rintro e w96 ⟨rfl, hb⟩; refine ⟨_, rfl, ?_⟩; have n0_ := Aside0.mk (Kd.S_below (by (with_reducible repeat (first | apply Kd.S_alloc | apply Kd.S_drewN | apply Kd.S_drew)); exact HO_203000.out) hb); have n1_ := Aside0.mk (blk_below (g := gb201) (o := .cells #[.slice none 0 0] 24 (0, 0)) (by (with_reducible repeat (first | refine blk_drewN ?_ _ | refine blk_drew ?_ | refine blk_alloc ?_ _)); exact BK201.out) hb); have n2_ := Aside0.mk (blk_below (g := gb202) (o := .cells #[.slice Ao95 x203000_1.length co95] 24 (0, 0)) (by (with_reducible repeat (first | refine blk_drewN ?_ _ | refine blk_drew ?_ | refine blk_alloc ?_ _)); exact BK202.out) hb); have n3_ := Aside0.mk (below_step (by repeat (first | (with_reducible first | exact HB.out | apply below_alloc | apply pw_below_drewN | apply below_drew1 | refine below_set ?_ GE201.out | refine below_set ?_ GE202.out) | exact HB.out)) hb); clear HO_203000; clear BK201; clear BK202; clear HB; have HO_203000 := n0_; have BK201 := n1_; have BK202 := n2_; have HB := n3_; clear n0_ n1_ n2_ n3_; (try clear hb); (try clear hb2); (try clear hk); (try clear hi); have hcz97_0 : w96.cell? ⟨gb201, 0, none⟩ = some (.slice none 0 0) := (blk_cell BK201.out 0).trans rfl; have hfz97_0 := blk_frozen BK201.out 0))
              refine bodyPost_ret (results_ct rfl _ _ gb201 24 #[.slice none 0 0] (0, 0) _ rfl (by (with_reducible repeat (first | refine blk_drewN ?_ _ | refine blk_drew ?_ | refine blk_alloc ?_ _)); refine blk_put (cs := #[.slice none 0 0]) ?_ 0 _ rfl; (with_reducible repeat (first | refine blk_drewN ?_ _ | refine blk_drew ?_ | refine blk_alloc ?_ _)); exact BK201.out) Try.underlying24 rfl (by kernel_rfl)) rfl ?_
              exact ⟨_, by first | rfl | (simp [errW_none, errW_some] <;> rfl) | (simp [*, errW_none, errW_some] <;> rfl), by first | exact Kd.S_nil _ _ _ _ _ | exact Kd.N_nil _ _ _ _ _ | exact Kd.V_nil _ _ _ _ _ | exact Kd.Q_nil _ _ _ _ _ | exact Kd.R_nil _ _ _ _ _, by repeat (first | (with_reducible first | exact HB.out | apply below_alloc | apply pw_below_drewN | apply below_drew1 | refine below_set ?_ GE201.out | refine below_set ?_ GE202.out) | exact HB.out)⟩

end Go.Proofs.Ytlcanmndeempfaa.PAll
