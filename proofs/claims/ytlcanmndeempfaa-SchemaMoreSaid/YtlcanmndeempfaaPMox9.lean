-- Written by wip/tools/myprint.py, a program of the prover's own, over the kit's print; the contracts named 'HAND' there are typed by hand.
import Derived.Test.YtlcanmndeempfaaPMox0
import Derived.Test.YtlcanmndeempfaaPMox2
import Derived.Test.YtlcanmndeempfaaPMox3
import Derived.Test.YtlcanmndeempfaaPMoxh
namespace Go.Proofs.Ytlcanmndeempfaa.PMo
open Go.RowKit Go.Proofs.YtlcanmndeempfaaW.PrintWords Go.Proofs.YtlcanmndeempfaaW.PrintLast Go.Proofs.YtlcanmndeempfaaW.PrintMore
attribute [local go_sem] max2_int min2_int max_two min_two max_three min_three max_four min_four   -- for this text's walks alone
set_option linter.unusedVariables false
set_option linter.unusedSimpArgs false

open foliatelaw06_SchemaMore in
set_option maxHeartbeats 8000000 in
set_option maxRecDepth 100000 in
theorem foliatelaw06_SchemaMore.calls (k : Nat) (P0_0_ : Nat → Prop) (A0_0 : Option Addr) (c0_0 : Nat) (l0_0 : List (S34)) (a1 : Int) (r : Bool) (w : World) (hs0_0 : Kd.V k34 34 w w.heap.size (fun k_ => P0_0_ k_) (.slice A0_0 l0_0.length c0_0) l0_0) (h : foliatelaw06_SchemaMore.f k l0_0 a1 = some r) :
  Calls Try.prog 6 #[.agg #[.slice A0_0 l0_0.length c0_0], .int .i64 a1] w fun e w' => e = .returned (.bool r) ∧ Below w.heap.size w w' := by
 have hu24 := Try.underlying24
 have hu34 := Try.underlying34
 have hu40 := Try.underlying40
 have HO0_0 := am9_ (show Kd.V k34 34 w w.heap.size (fun k_ => (P0_0_ k_ ∨ w.heap.size ≤ k_)) (.slice A0_0 l0_0.length c0_0) l0_0 from Kd.V_mono hs0_0 (fun k_ hk => .inl hk))
 have HB := am9_ (Below.refl w.heap.size w)
 have H : ((foliatelaw06_awake.f k).bind fun t159 => ((foliatelaw06_Few.f k l0_0 10).bind fun t160 => (if t159 = true then (if t160 = true then ((schema_May.f k l0_0).bind fun t161 => (if t161 = true then (if a1 < 0 then (j0 k a1 t159 true l0_0) else (j0 k a1 t159 (decide (a1 ≥ (l0_0.length : Int))) l0_0)) else (j0 k a1 t159 true l0_0))) else (j0 k a1 t159 true l0_0)) else (j0 k a1 t159 true l0_0)))) = some r := h
 clear h
 replace H := Option.bind_eq_some_iff.mp H
 obtain ⟨t159, A30, H⟩ := H
 replace H : ((foliatelaw06_Few.f k l0_0 10).bind fun t160 => (if t159 = true then (if t160 = true then ((schema_May.f k l0_0).bind fun t161 => (if t161 = true then (if a1 < 0 then (j0 k a1 t159 true l0_0) else (j0 k a1 t159 (decide (a1 ≥ (l0_0.length : Int))) l0_0)) else (j0 k a1 t159 true l0_0))) else (j0 k a1 t159 true l0_0)) else (j0 k a1 t159 true l0_0))) = some r := H
 have A3 := Aside0.mk A30
 clear A30
 replace H := Option.bind_eq_some_iff.mp H
 obtain ⟨t160, A40, H⟩ := H
 replace H : (if t159 = true then (if t160 = true then ((schema_May.f k l0_0).bind fun t161 => (if t161 = true then (if a1 < 0 then (j0 k a1 t159 true l0_0) else (j0 k a1 t159 (decide (a1 ≥ (l0_0.length : Int))) l0_0)) else (j0 k a1 t159 true l0_0))) else (j0 k a1 t159 true l0_0)) else (j0 k a1 t159 true l0_0)) = some r := H
 have A4 := Aside0.mk A40
 clear A40
 have HC5 := Aside0.mk H
 clear H
 go_enter Try.func6, Try.ntmps6
 go_upto_region 3 with (first | ((with_reducible refine gate_dst (N := 2) rfl ?_); (try (refine gate_guard (by rfl) ?_; dsimp only)); refine box_event ?hg (N := 2) ?hd (cs := #[.slice A0_0 l0_0.length c0_0]) (t := 24) ?hr ?_; (case hd => rfl); (case hg => rfl); (case hr => first | (go_simp; done) | (go_simp; rfl)); intro gb158 hg w6 hbox hb; replace HO0_0 := am9_ (Kd.V_below (Kd.V_elderB (by (with_reducible repeat (first | apply va9 | apply vb9 | apply vc9)); exact HO0_0.out) gb158 (Nat.le_of_eq hg.symm)) hb); have BK158 := am9_ (hbox); have GW158 := am9_ ((by rw [hg]; exact (below_size (by repeat (first | exact HB.out | apply wa9 | apply wb9 | apply wc9))) : w.heap.size ≤ gb158)); have GE158 := am9_ ((by rw [hg]; exact (below_size (by repeat (first | exact HB.out | apply wa9 | apply wb9 | apply wc9))) : w.heap.size ≤ gb158)); replace HB := am9_ (below_step (by repeat (first | exact HB.out | apply wa9 | apply wb9 | apply wc9)) hb); clear hb hbox hg) | ((with_reducible refine gate_callee (f := 9) rfl ?_); refine goesL_ (some 14) rfl rfl Try.func9 (by kernel_rfl) rfl #[] rfl (by (try simp only [List.map_toArray, List.map_cons, List.map_nil]); first | done | rfl | (simp only [List.length_drop, List.length_take]; rfl)) ?_; (with_reducible refine (foliatelaw06_awake.calls k  t159 _ A3.out).mono ?_); rintro e w7 ⟨rfl, hb⟩; refine ⟨_, rfl, ?_⟩; replace HO0_0 := am9_ (Kd.V_below (by (with_reducible repeat (first | apply va9 | apply vb9 | apply vc9)); exact HO0_0.out) hb); replace BK158 := am9_ (blk_below (g := gb158) (o := .cells #[.slice A0_0 l0_0.length c0_0] 24 (0, 0)) (by (with_reducible repeat (first | refine ba9 ?_ _ | refine bb9 ?_ | refine bc9 ?_ _)); exact BK158.out) hb); replace HB := am9_ (below_step (by repeat (first | (with_reducible first | exact HB.out | apply wa9 | apply wb9 | apply wc9 | refine wd9 ?_ GE158.out) | exact HB.out)) hb); (try clear hb); (try clear hb2); (try clear hk); (try clear hi); have hcz8_0 : w7.cell? ⟨gb158, 0, none⟩ = some (.slice A0_0 l0_0.length c0_0) := (blk_cell BK158.out 0).trans rfl; have hfz8_0 := blk_frozen BK158.out 0) | ((with_reducible refine gate_callee (f := 10) rfl ?_); refine goesL_ (some 16) rfl rfl Try.func10 (by kernel_rfl) rfl #[.agg #[.slice A0_0 l0_0.length c0_0], .int .i64 10] rfl (by (try simp only [List.map_toArray, List.map_cons, List.map_nil]); first | done | rfl | (simp only [List.length_drop, List.length_take]; rfl)) ?_; (with_reducible refine (foliatelaw06_Few.calls k _ _ l0_0 10 t160 _ ?side1 ?side2 A4.out).mono ?_); (case side1 => repeat (first | exact (Kd.V_reads' HO0_0.out).2.2 | (with_reducible first | refine ca9_ ?_ _ | refine cn9_ ?_ _ | refine cd9_ ?_))); (case side2 => exact (Kd.V_reads' HO0_0.out).2.1); rintro e w9 ⟨rfl, hb⟩; refine ⟨_, rfl, ?_⟩; replace HO0_0 := am9_ (Kd.V_below (by (with_reducible repeat (first | apply va9 | apply vb9 | apply vc9)); exact HO0_0.out) hb); replace BK158 := am9_ (blk_below (g := gb158) (o := .cells #[.slice A0_0 l0_0.length c0_0] 24 (0, 0)) (by (with_reducible repeat (first | refine ba9 ?_ _ | refine bb9 ?_ | refine bc9 ?_ _)); exact BK158.out) hb); replace HB := am9_ (below_step (by repeat (first | (with_reducible first | exact HB.out | apply wa9 | apply wb9 | apply wc9 | refine wd9 ?_ GE158.out) | exact HB.out)) hb); (try clear hb); (try clear hb2); (try clear hk); (try clear hi)))
 (try simp only [Act.put, k19, k29, k39])
 go_cut [38] (fun v38 wc => ∃ (kq : Nat) (x38_4 : Bool), v38 = .bool x38_4 ∧ Aside0 (j0 kq a1 t159 x38_4 l0_0 = some r) ∧ Aside0 (kq ≤ k) ∧ Aside0 (Kd.V k34 34 wc w.heap.size (fun k_ => (P0_0_ k_ ∨ w.heap.size ≤ k_) ∧ k_ ≠ gb158) (.slice A0_0 l0_0.length c0_0) l0_0) ∧ Aside0 (wc.heap[gb158]? = some (.cells #[(.slice A0_0 l0_0.length c0_0)] 24 (0, 0))) ∧ Aside0 (Below w.heap.size w wc))
 case first =>
  have H := HC5.out
  clear HC5
  by_cases c10 : t159 = true
  rotate_left
  ·replace c10 := Bool.eq_false_iff.mpr c10
   subst c10
   have H1 : (j0 k a1 false true l0_0) = some r := by rw [if_neg (show ¬ (false = true) by decide)] at H; exact H
   clear H
   have H := H1
   clear H1
   have H' := Aside0.mk H
   clear H
   go_wp2
   go_meet
   case rel => exact ⟨_, (true), (by first | rfl | (simp; done) | (simp [*]; done)), H', ⟨by first | omega | exact Nat.le_refl _⟩, ⟨by (with_reducible repeat (first | apply va9 | apply vb9 | apply vc9)); exact HO0_0.out⟩, ⟨by (with_reducible repeat (first | refine ba9 ?_ _ | refine bb9 ?_ | refine bc9 ?_ _)); exact BK158.out⟩, ⟨by repeat (first | (with_reducible first | exact HB.out | apply wa9 | apply wb9 | apply wc9 | refine wd9 ?_ GE158.out) | exact HB.out)⟩⟩
  subst c10
  have H1 : (if t160 = true then ((schema_May.f k l0_0).bind fun t161 => (if t161 = true then (if a1 < 0 then (j0 k a1 true true l0_0) else (j0 k a1 true (decide (a1 ≥ (l0_0.length : Int))) l0_0)) else (j0 k a1 true true l0_0))) else (j0 k a1 true true l0_0)) = some r := by rw [if_pos rfl] at H; exact H
  clear H
  have H := H1
  clear H1
  by_cases c11 : t160 = true
  rotate_left
  ·replace c11 := Bool.eq_false_iff.mpr c11
   subst c11
   have H1 : (j0 k a1 true true l0_0) = some r := by rw [if_neg (show ¬ (false = true) by decide)] at H; exact H
   clear H
   have H := H1
   clear H1
   have H' := Aside0.mk H
   clear H
   go_wp2
   go_meet
   case rel => exact ⟨_, (true), (by first | rfl | (simp; done) | (simp [*]; done)), H', ⟨by first | omega | exact Nat.le_refl _⟩, ⟨by (with_reducible repeat (first | apply va9 | apply vb9 | apply vc9)); exact HO0_0.out⟩, ⟨by (with_reducible repeat (first | refine ba9 ?_ _ | refine bb9 ?_ | refine bc9 ?_ _)); exact BK158.out⟩, ⟨by repeat (first | (with_reducible first | exact HB.out | apply wa9 | apply wb9 | apply wc9 | refine wd9 ?_ GE158.out) | exact HB.out)⟩⟩
  subst c11
  have H1 : ((schema_May.f k l0_0).bind fun t161 => (if t161 = true then (if a1 < 0 then (j0 k a1 true true l0_0) else (j0 k a1 true (decide (a1 ≥ (l0_0.length : Int))) l0_0)) else (j0 k a1 true true l0_0))) = some r := by rw [if_pos rfl] at H; exact H
  clear H
  have H := H1
  clear H1
  replace H := Option.bind_eq_some_iff.mp H
  obtain ⟨t161, A120, H⟩ := H
  replace H : (if t161 = true then (if a1 < 0 then (j0 k a1 true true l0_0) else (j0 k a1 true (decide (a1 ≥ (l0_0.length : Int))) l0_0)) else (j0 k a1 true true l0_0)) = some r := H
  have A12 := Aside0.mk A120
  clear A120
  by_cases c13 : t161 = true
  rotate_left
  ·replace c13 := Bool.eq_false_iff.mpr c13
   subst c13
   have H1 : (j0 k a1 true true l0_0) = some r := by rw [if_neg (show ¬ (false = true) by decide)] at H; exact H
   clear H
   have H := H1
   clear H1
   have H' := Aside0.mk H
   clear H
   have hcz20_0 : w9.cell? ⟨gb158, 0, none⟩ = some (.slice A0_0 l0_0.length c0_0) := (blk_cell BK158.out 0).trans rfl
   have hfz20_0 := blk_frozen BK158.out 0
   go_wp2_with (first | (go_at_call 17; (with_reducible refine (schema_May.calls k _ _ l0_0 false _ ?side1 ?side2 A12.out).mono ?_); (case side1 => repeat (first | exact (Kd.V_reads' HO0_0.out).2.2 | (with_reducible first | refine ca9_ ?_ _ | refine cn9_ ?_ _ | refine cd9_ ?_))); (case side2 => exact (Kd.V_reads' HO0_0.out).2.1); rintro e w21 ⟨rfl, hb⟩; replace HO0_0 := am9_ (Kd.V_below (by (with_reducible repeat (first | apply va9 | apply vb9 | apply vc9)); exact HO0_0.out) hb); replace BK158 := am9_ (blk_below (g := gb158) (o := .cells #[.slice A0_0 l0_0.length c0_0] 24 (0, 0)) (by (with_reducible repeat (first | refine ba9 ?_ _ | refine bb9 ?_ | refine bc9 ?_ _)); exact BK158.out) hb); replace HB := am9_ (below_step (by repeat (first | (with_reducible first | exact HB.out | apply wa9 | apply wb9 | apply wc9 | refine wd9 ?_ GE158.out) | exact HB.out)) hb); (try clear hb); (try clear hb2); (try clear hk); (try clear hi)))
   go_meet
   case rel => exact ⟨_, (true), (by first | rfl | (simp; done) | (simp [*]; done)), H', ⟨by first | omega | exact Nat.le_refl _⟩, ⟨by (with_reducible repeat (first | apply va9 | apply vb9 | apply vc9)); exact HO0_0.out⟩, ⟨by (with_reducible repeat (first | refine ba9 ?_ _ | refine bb9 ?_ | refine bc9 ?_ _)); exact BK158.out⟩, ⟨by repeat (first | (with_reducible first | exact HB.out | apply wa9 | apply wb9 | apply wc9 | refine wd9 ?_ GE158.out) | exact HB.out)⟩⟩
  subst c13
  have H1 : (if a1 < 0 then (j0 k a1 true true l0_0) else (j0 k a1 true (decide (a1 ≥ (l0_0.length : Int))) l0_0)) = some r := by rw [if_pos rfl] at H; exact H
  clear H
  have H := H1
  clear H1
  by_cases c14 : a1 < 0
  ·replace H := (if_pos c14).symm.trans H
   have c14b0 : decide (a1 < 0) = true := decide_eq_true c14
   clear c14
   (first | rw [c14b0] | (simp only [i64_w, i32_w]; rw [c14b0]) | skip)
   have H' := Aside0.mk H
   clear H
   have hcz15_0 : w9.cell? ⟨gb158, 0, none⟩ = some (.slice A0_0 l0_0.length c0_0) := (blk_cell BK158.out 0).trans rfl
   have hfz15_0 := blk_frozen BK158.out 0
   go_wp2_with (first | (go_at_call 17; (with_reducible refine (schema_May.calls k _ _ l0_0 true _ ?side1 ?side2 A12.out).mono ?_); (case side1 => repeat (first | exact (Kd.V_reads' HO0_0.out).2.2 | (with_reducible first | refine ca9_ ?_ _ | refine cn9_ ?_ _ | refine cd9_ ?_))); (case side2 => exact (Kd.V_reads' HO0_0.out).2.1); rintro e w16 ⟨rfl, hb⟩; replace HO0_0 := am9_ (Kd.V_below (by (with_reducible repeat (first | apply va9 | apply vb9 | apply vc9)); exact HO0_0.out) hb); replace BK158 := am9_ (blk_below (g := gb158) (o := .cells #[.slice A0_0 l0_0.length c0_0] 24 (0, 0)) (by (with_reducible repeat (first | refine ba9 ?_ _ | refine bb9 ?_ | refine bc9 ?_ _)); exact BK158.out) hb); replace HB := am9_ (below_step (by repeat (first | (with_reducible first | exact HB.out | apply wa9 | apply wb9 | apply wc9 | refine wd9 ?_ GE158.out) | exact HB.out)) hb); (try clear hb); (try clear hb2); (try clear hk); (try clear hi)))
   go_meet
   case rel => exact ⟨_, (true), (by first | rfl | (simp; done) | (simp [*]; done)), H', ⟨by first | omega | exact Nat.le_refl _⟩, ⟨by (with_reducible repeat (first | apply va9 | apply vb9 | apply vc9)); exact HO0_0.out⟩, ⟨by (with_reducible repeat (first | refine ba9 ?_ _ | refine bb9 ?_ | refine bc9 ?_ _)); exact BK158.out⟩, ⟨by repeat (first | (with_reducible first | exact HB.out | apply wa9 | apply wb9 | apply wc9 | refine wd9 ?_ GE158.out) | exact HB.out)⟩⟩
  replace H := (if_neg c14).symm.trans H
  have c14b0 : decide (a1 < 0) = false := decide_eq_false c14
  clear c14
  (first | rw [c14b0] | (simp only [i64_w, i32_w]; rw [c14b0]) | skip)
  have H' := Aside0.mk H
  clear H
  have hcz17_0 : w9.cell? ⟨gb158, 0, none⟩ = some (.slice A0_0 l0_0.length c0_0) := (blk_cell BK158.out 0).trans rfl
  have hfz17_0 := blk_frozen BK158.out 0
  go_wp2_with (first | (go_at_call 17; (with_reducible refine (schema_May.calls k _ _ l0_0 true _ ?side1 ?side2 A12.out).mono ?_); (case side1 => repeat (first | exact (Kd.V_reads' HO0_0.out).2.2 | (with_reducible first | refine ca9_ ?_ _ | refine cn9_ ?_ _ | refine cd9_ ?_))); (case side2 => exact (Kd.V_reads' HO0_0.out).2.1); rintro e w18 ⟨rfl, hb⟩; replace HO0_0 := am9_ (Kd.V_below (by (with_reducible repeat (first | apply va9 | apply vb9 | apply vc9)); exact HO0_0.out) hb); replace BK158 := am9_ (blk_below (g := gb158) (o := .cells #[.slice A0_0 l0_0.length c0_0] 24 (0, 0)) (by (with_reducible repeat (first | refine ba9 ?_ _ | refine bb9 ?_ | refine bc9 ?_ _)); exact BK158.out) hb); replace HB := am9_ (below_step (by repeat (first | (with_reducible first | exact HB.out | apply wa9 | apply wb9 | apply wc9 | refine wd9 ?_ GE158.out) | exact HB.out)) hb); (try clear hb); (try clear hb2); (try clear hk); (try clear hi); have hcz19_0 : w18.cell? ⟨gb158, 0, none⟩ = some (.slice A0_0 l0_0.length c0_0) := (blk_cell BK158.out 0).trans rfl; have hfz19_0 := blk_frozen BK158.out 0))
  go_meet
  case rel => exact ⟨_, (decide (a1 ≥ (l0_0.length : Int))), (by first | rfl | (simp; done) | (simp [*]; done)), H', ⟨by first | omega | exact Nat.le_refl _⟩, ⟨by (with_reducible repeat (first | apply va9 | apply vb9 | apply vc9)); exact HO0_0.out⟩, ⟨by (with_reducible repeat (first | refine ba9 ?_ _ | refine bb9 ?_ | refine bc9 ?_ _)); exact BK158.out⟩, ⟨by repeat (first | (with_reducible first | exact HB.out | apply wa9 | apply wb9 | apply wc9 | refine wd9 ?_ GE158.out) | exact HB.out)⟩⟩
 case rest =>
  clear HC5
  try clear c1
  try clear p2
  try clear c6
  try clear c9
  try clear c10
  try clear c11
  try clear c13
  try clear c14
  try clear c14b0
  try clear hcz15_0
  try clear hcz17_0
  try clear hcz19_0
  try clear hcz20_0
  try clear hcz8_0
  try clear hfz15_0
  try clear hfz17_0
  try clear hfz19_0
  try clear hfz20_0
  try clear hfz8_0
  obtain ⟨kq, x38_4, rfl, HA, HJ4, HO_159000, BK158, HB⟩ := hcut
  cases kq with
  | zero => exact absurd HA.out (by simp [j0])
  | succ kj4 =>
   have H := HA.out
   clear HA
   rw [foliatelaw06_SchemaMore.j0.eq_2] at H
   by_cases c22 : x38_4 = true
   ·subst c22
    have H1 : (some t159) = some r := by rw [if_pos rfl] at H; exact H
    clear H
    have H := H1
    clear H1
    obtain rfl := Option.some.inj H
    go_wp2
    go_ret
    exact ⟨by first | rfl | (simp [errW_none, errW_some] <;> rfl) | (simp [*, errW_none, errW_some] <;> rfl), by repeat (first | (with_reducible first | exact HB.out | apply wa9 | apply wb9 | apply wc9 | refine wd9 ?_ GE158.out) | exact HB.out)⟩
   replace c22 := Bool.eq_false_iff.mpr c22
   subst c22
   have H1 : ((schema_Find.f l0_0 (⟨#[122, 122, 122, 122, 57, 57, 57, 57]⟩ : ByteArray)).bind fun t162 => (if t162 ≥ 0 then (j1 kj4 a1 (⟨#[122, 122, 122, 122, 57, 57, 57, 57]⟩ : ByteArray) true l0_0) else (if 0 ≤ a1 then (if a1 < (l0_0.length : Int) then ((schema_Field.f ((rd_T34 l0_0 a1).f0) ((rd_T34 l0_0 a1).f1) (⟨#[122, 122, 122, 122, 57, 57, 57, 57]⟩ : ByteArray)).bind fun t164 => (j1 kj4 a1 (⟨#[122, 122, 122, 122, 57, 57, 57, 57]⟩ : ByteArray) (decide (t164 ≥ 0)) l0_0)) else (none)) else (none)))) = some r := by rw [if_neg (show ¬ (false = true) by decide)] at H; exact H
   clear H
   have H := H1
   clear H1
   have HC23 := Aside0.mk H
   clear H
   go_upto_region 6 with (fail)
   go_cut [53] (fun v53 wc => ∃ (kq : Nat) (x53_22 : Bool), v53 = .bool x53_22 ∧ Aside0 (j1 kq a1 (⟨#[122, 122, 122, 122, 57, 57, 57, 57]⟩ : ByteArray) x53_22 l0_0 = some r) ∧ Aside0 (kq ≤ kj4) ∧ Aside0 (Kd.V k34 34 wc w.heap.size (fun k_ => (P0_0_ k_ ∨ w.heap.size ≤ k_) ∧ k_ ≠ gb158) (.slice A0_0 l0_0.length c0_0) l0_0) ∧ Aside0 (wc.heap[gb158]? = some (.cells #[(.slice A0_0 l0_0.length c0_0)] 24 (0, 0))) ∧ Aside0 (Below w.heap.size w wc))
   case first =>
    have H := HC23.out
    clear HC23
    replace H := Option.bind_eq_some_iff.mp H
    obtain ⟨t162, A240, H⟩ := H
    replace H : (if t162 ≥ 0 then (j1 kj4 a1 (⟨#[122, 122, 122, 122, 57, 57, 57, 57]⟩ : ByteArray) true l0_0) else (if 0 ≤ a1 then (if a1 < (l0_0.length : Int) then ((schema_Field.f ((rd_T34 l0_0 a1).f0) ((rd_T34 l0_0 a1).f1) (⟨#[122, 122, 122, 122, 57, 57, 57, 57]⟩ : ByteArray)).bind fun t164 => (j1 kj4 a1 (⟨#[122, 122, 122, 122, 57, 57, 57, 57]⟩ : ByteArray) (decide (t164 ≥ 0)) l0_0)) else (none)) else (none))) = some r := H
    have A24 := Aside0.mk A240
    clear A240
    by_cases c25 : t162 ≥ 0
    ·replace H := (if_pos c25).symm.trans H
     have c25b0 : decide (0 ≤ t162) = true := decide_eq_true c25
     clear c25
     (first | rw [c25b0] | (simp only [i64_w, i32_w]; rw [c25b0]) | skip)
     have H' := Aside0.mk H
     clear H
     have hcz26_0 : wc.cell? ⟨gb158, 0, none⟩ = some (.slice A0_0 l0_0.length c0_0) := (blk_cell BK158.out 0).trans rfl
     have hfz26_0 := blk_frozen BK158.out 0
     go_wp2_with (first | ((with_reducible refine gate_callee (f := 21) rfl ?_); refine goesL_ (some 42) rfl rfl Try.func21 (by kernel_rfl) rfl #[.agg #[.slice A0_0 l0_0.length c0_0], .string (⟨#[122, 122, 122, 122, 57, 57, 57, 57]⟩ : ByteArray)] rfl (by (try simp only [List.map_toArray, List.map_cons, List.map_nil]); first | done | rfl | (simp only [List.length_drop, List.length_take]; rfl)) ?_; (with_reducible refine (schema_Find.calls _ _ l0_0 (⟨#[122, 122, 122, 122, 57, 57, 57, 57]⟩ : ByteArray) t162 _ ?side1 ?side2 A24.out).mono ?_); (case side1 => repeat (first | exact (Kd.V_reads' HO_159000.out).2.2 | (with_reducible first | refine ca9_ ?_ _ | refine cn9_ ?_ _ | refine cd9_ ?_))); (case side2 => exact (Kd.V_reads' HO_159000.out).2.1); rintro e w27 ⟨rfl, hb⟩; refine ⟨_, rfl, ?_⟩; replace HO_159000 := am9_ (Kd.V_below (by (with_reducible repeat (first | apply va9 | apply vb9 | apply vc9)); exact HO_159000.out) hb); replace BK158 := am9_ (blk_below (g := gb158) (o := .cells #[.slice A0_0 l0_0.length c0_0] 24 (0, 0)) (by (with_reducible repeat (first | refine ba9 ?_ _ | refine bb9 ?_ | refine bc9 ?_ _)); exact BK158.out) hb); replace HB := am9_ (below_step (by repeat (first | (with_reducible first | exact HB.out | apply wa9 | apply wb9 | apply wc9 | refine wd9 ?_ GE158.out) | exact HB.out)) hb); (try clear hb); (try clear hb2); (try clear hk); (try clear hi)))
     go_meet
     case rel => exact ⟨_, (true), (by first | rfl | (simp; done) | (simp [*]; done)), H', ⟨by have := HJ4.out; first | omega | exact Nat.le_refl _⟩, ⟨by (with_reducible repeat (first | apply va9 | apply vb9 | apply vc9)); exact HO_159000.out⟩, ⟨by (with_reducible repeat (first | refine ba9 ?_ _ | refine bb9 ?_ | refine bc9 ?_ _)); exact BK158.out⟩, ⟨by repeat (first | (with_reducible first | exact HB.out | apply wa9 | apply wb9 | apply wc9 | refine wd9 ?_ GE158.out) | exact HB.out)⟩⟩
    replace H := (if_neg c25).symm.trans H
    have c25b0 : decide (0 ≤ t162) = false := decide_eq_false c25
    clear c25
    (first | rw [c25b0] | (simp only [i64_w, i32_w]; rw [c25b0]) | skip)
    by_cases c28 : 0 ≤ a1
    rotate_left
    ·replace H := (if_neg c28).symm.trans H
     exact absurd H (by simp)
    replace H := (if_pos c28).symm.trans H
    have c28b0 : decide (0 ≤ a1) = true := decide_eq_true c28
    clear c28
    by_cases c29 : a1 < (l0_0.length : Int)
    rotate_left
    ·replace H := (if_neg c29).symm.trans H
     exact absurd H (by simp)
    replace H := (if_pos c29).symm.trans H
    have c29b0 : decide (a1 < (l0_0.length : Int)) = true := decide_eq_true c29
    clear c29
    replace H := Option.bind_eq_some_iff.mp H
    obtain ⟨t164, A300, H⟩ := H
    replace H : (j1 kj4 a1 (⟨#[122, 122, 122, 122, 57, 57, 57, 57]⟩ : ByteArray) (decide (t164 ≥ 0)) l0_0) = some r := H
    have A30 := Aside0.mk A300
    clear A300
    have H' := Aside0.mk H
    clear H
    have hcz31_0 : wc.cell? ⟨gb158, 0, none⟩ = some (.slice A0_0 l0_0.length c0_0) := (blk_cell BK158.out 0).trans rfl
    have hfz31_0 := blk_frozen BK158.out 0
    go_wp2_with (first | ((with_reducible refine gate_callee (f := 21) rfl ?_); refine goesL_ (some 42) rfl rfl Try.func21 (by kernel_rfl) rfl #[.agg #[.slice A0_0 l0_0.length c0_0], .string (⟨#[122, 122, 122, 122, 57, 57, 57, 57]⟩ : ByteArray)] rfl (by (try simp only [List.map_toArray, List.map_cons, List.map_nil]); first | done | rfl | (simp only [List.length_drop, List.length_take]; rfl)) ?_; (with_reducible refine (schema_Find.calls _ _ l0_0 (⟨#[122, 122, 122, 122, 57, 57, 57, 57]⟩ : ByteArray) t162 _ ?side1 ?side2 A24.out).mono ?_); (case side1 => repeat (first | exact (Kd.V_reads' HO_159000.out).2.2 | (with_reducible first | refine ca9_ ?_ _ | refine cn9_ ?_ _ | refine cd9_ ?_))); (case side2 => exact (Kd.V_reads' HO_159000.out).2.1); rintro e w32 ⟨rfl, hb⟩; refine ⟨_, rfl, ?_⟩; replace HO_159000 := am9_ (Kd.V_below (by (with_reducible repeat (first | apply va9 | apply vb9 | apply vc9)); exact HO_159000.out) hb); replace BK158 := am9_ (blk_below (g := gb158) (o := .cells #[.slice A0_0 l0_0.length c0_0] 24 (0, 0)) (by (with_reducible repeat (first | refine ba9 ?_ _ | refine bb9 ?_ | refine bc9 ?_ _)); exact BK158.out) hb); replace HB := am9_ (below_step (by repeat (first | (with_reducible first | exact HB.out | apply wa9 | apply wb9 | apply wc9 | refine wd9 ?_ GE158.out) | exact HB.out)) hb); (try clear hb); (try clear hb2); (try clear hk); (try clear hi); have hcz33_0 : w32.cell? ⟨gb158, 0, none⟩ = some (.slice A0_0 l0_0.length c0_0) := (blk_cell BK158.out 0).trans rfl; have hfz33_0 := blk_frozen BK158.out 0; have p163 : 0 ≤ (a1 : Int) := od9 (by first | (with_reducible assumption) | assumption); have q163 : a1 < (l0_0.length : Int) := od9 (by first | (with_reducible assumption) | assumption); obtain ⟨ad163, A163_1, c163_1, e163, hx163_0, hx163_1, hl163_1, hi163_1⟩ := at_T34 (Kd.V_reads' HO_159000.out).2.2 a1 p163 q163; cases e163; obtain ⟨ce163, hce163, hMe163, hcc163⟩ := Kd.V_get HO_159000.out z34 a1 p163 (by first | exact q163 | exact od9 (by first | (with_reducible assumption) | assumption) | (have e_ := (Kd.V_reads' HO_159000.out).1; omega)); obtain ⟨ua163_1, uc163_1, rfl, ul163_1, ge163_1⟩ := k34_openF hMe163; have hv163_1 := hcc163 1 _ rfl; rw [add_field _ _ 1 (by omega)] at hv163_1; replace hv163_1 := Option.some.inj (hv163_1.symm.trans hx163_1); injection hv163_1 with hva_ hvn_ hvc_; rw [hva_] at ge163_1; rw [hvc_] at ul163_1; have HL163_1 := am9_ (show Kd.V k40 40 _ w.heap.size _ _ ((rd_T34 l0_0 a1).f1) from Kd.V_mk ul163_1 ge163_1); clear hva_ hvn_ hvc_ ge163_1 ul163_1; clear hcc163 hce163; have HR163_1 := Aside0.mk hi163_1; have HC163_1 := Aside0.mk hl163_1; clear hi163_1 hl163_1; replace p163 := eq_true p163; replace q163 := eq_true q163) | (go_at_call 15; (with_reducible refine (schema_Field.calls ((rd_T34 l0_0 a1).f0) _ _ ((rd_T34 l0_0 a1).f1) (⟨#[122, 122, 122, 122, 57, 57, 57, 57]⟩ : ByteArray) t164 _ ?side1 ?side2 A30.out).mono ?_); (case side1 => repeat (first | exact (by repeat (first | (with_reducible exact HR163_1.out) | (with_reducible first | refine ca9_ ?_ _ | refine cn9_ ?_ _ | refine cd9_ ?_) | exact HR163_1.out)) | (with_reducible first | refine ca9_ ?_ _ | refine cn9_ ?_ _ | refine cd9_ ?_))); (case side2 => exact HC163_1.out); rintro e w34 ⟨rfl, hb⟩; replace HO_159000 := am9_ (Kd.V_below (by (with_reducible repeat (first | apply va9 | apply vb9 | apply vc9)); exact HO_159000.out) hb); replace HL163_1 := am9_ (Kd.V_below (by (with_reducible repeat (first | apply va9 | apply vb9 | apply vc9)); exact HL163_1.out) hb); replace BK158 := am9_ (blk_below (g := gb158) (o := .cells #[.slice (some ad163) l0_0.length c0_0] 24 (0, 0)) (by (with_reducible repeat (first | refine ba9 ?_ _ | refine bb9 ?_ | refine bc9 ?_ _)); exact BK158.out) hb); replace HR163_1 := am9_ (Kd.C_below (by repeat (first | (with_reducible exact HR163_1.out) | (with_reducible first | refine ca9_ ?_ _ | refine cn9_ ?_ _ | refine cd9_ ?_) | exact HR163_1.out)) hb); replace HB := am9_ (below_step (by repeat (first | (with_reducible first | exact HB.out | apply wa9 | apply wb9 | apply wc9 | refine wd9 ?_ GE158.out) | exact HB.out)) hb); (try clear hb); (try clear hb2); (try clear hk); (try clear hi)))
    go_meet
    case rel => exact ⟨_, (decide (t164 ≥ 0)), (by first | rfl | (simp; done) | (simp [*]; done)), H', ⟨by have := HJ4.out; first | omega | exact Nat.le_refl _⟩, ⟨by (with_reducible repeat (first | apply va9 | apply vb9 | apply vc9)); exact HO_159000.out⟩, ⟨by (with_reducible repeat (first | refine ba9 ?_ _ | refine bb9 ?_ | refine bc9 ?_ _)); exact BK158.out⟩, ⟨by repeat (first | (with_reducible first | exact HB.out | apply wa9 | apply wb9 | apply wc9 | refine wd9 ?_ GE158.out) | exact HB.out)⟩⟩
   case rest =>
    clear HC23
    try clear c1
    try clear p1
    try clear q1
    try clear hx1
    try clear c2
    try clear p2
    try clear c6
    try clear c9
    try clear c10
    try clear c11
    try clear c13
    try clear c14
    try clear c14b0
    try clear c16
    try clear p16
    try clear q16
    try clear hx16
    try clear c21
    try clear c22
    try clear c25
    try clear c25b0
    try clear c28
    try clear c28b0
    try clear c29
    try clear c29b0
    try clear hcz15_0
    try clear hcz17_0
    try clear hcz19_0
    try clear hcz20_0
    try clear hcz26_0
    try clear hcz31_0
    try clear hcz33_0
    try clear hcz8_0
    try clear hfz15_0
    try clear hfz17_0
    try clear hfz19_0
    try clear hfz20_0
    try clear hfz26_0
    try clear hfz31_0
    try clear hfz33_0
    try clear hfz8_0
    try clear hx163_0
    try clear hx163_1
    try clear p163
    try clear p2
    try clear q163
    obtain ⟨kq, x53_22, rfl, HA, HJ22, HO_159000, BK158, HB⟩ := hcut
    cases kq with
    | zero => exact absurd HA.out (by simp [j1])
    | succ kj22 =>
     have H := HA.out
     clear HA
     rw [foliatelaw06_SchemaMore.j1.eq_2] at H
     by_cases c35 : x53_22 = true
     ·subst c35
      have H1 : (some true) = some r := by rw [if_pos rfl] at H; exact H
      clear H
      have H := H1
      clear H1
      obtain rfl := Option.some.inj H
      go_wp2
      go_ret
      exact ⟨by first | rfl | (simp [errW_none, errW_some] <;> rfl) | (simp [*, errW_none, errW_some] <;> rfl), by repeat (first | (with_reducible first | exact HB.out | apply wa9 | apply wb9 | apply wc9 | refine wd9 ?_ GE158.out) | exact HB.out)⟩
     replace c35 := Bool.eq_false_iff.mpr c35
     subst c35
     have H1 : (if ([] : List (S34)).length + l0_0.length < 3518437208883 then ((some (([] : List (S34)) ++ l0_0 : List (S34))).bind fun y165 => ((some (([(⟨(⟨#[122, 122, 122, 122, 57, 57, 57, 57]⟩ : ByteArray), ([] : List (S40))⟩ : S34)] : List (S34)) : List (S34))).bind fun y168 => (if y165.length + y168.length < 3518437208883 then ((some (([] : List (S34)) ++ l0_0 : List (S34))).bind fun y175 => (if 0 ≤ a1 then (if a1 < (l0_0.length : Int) then (if ([] : List (S40)).length + ((rd_T34 l0_0 a1).f1).length < 3518437208883 then ((some (([] : List (S40)) ++ ((rd_T34 l0_0 a1).f1) : List (S40))).bind fun y180 => ((some (([(⟨(⟨#[122, 122, 122, 122, 57, 57, 57, 57]⟩ : ByteArray), 4, (⟨#[]⟩ : ByteArray)⟩ : S40)] : List (S40)) : List (S40))).bind fun y183 => (if y180.length + y183.length < 3518437208883 then (if a1 < (y175.length : Int) then (if a1 ≤ (l0_0.length : Int) then ((some (l0_0.take (a1 : Int).toNat : List (S34))).bind fun y190 => (if ([] : List (S34)).length + y190.length < 3518437208883 then ((some (([] : List (S34)) ++ y190 : List (S34))).bind fun y195 => (if 0 ≤ (wrap64 (a1 + 1)) then (if (wrap64 (a1 + 1)) ≤ (l0_0.length : Int) then ((some (l0_0.drop ((wrap64 (a1 + 1)) : Int).toNat : List (S34))).bind fun y198 => (if y195.length + y198.length < 3518437208883 then (l0 kj22 a1 false 0 l0_0 (y165 ++ y168) (y175.set (a1 : Int).toNat (⟨(rd_T34 y175 a1).f0, (y180 ++ y183)⟩ : S34)) (y195 ++ y198)) else (none))) else (none)) else (none))) else (none))) else (none)) else (none)) else (none)))) else (none)) else (none)) else (none))) else (none)))) else (none)) = some r := by rw [if_neg (show ¬ (false = true) by decide)] at H; exact H
     clear H
     have H := H1
     clear H1
     by_cases c36 : ([] : List (S34)).length + l0_0.length < 3518437208883
     rotate_left
     ·replace H := (if_neg c36).symm.trans H
      exact absurd H (by simp)
     replace H := (if_pos c36).symm.trans H
     have LMc36 := Aside0.mk c36
     clear c36
     obtain ⟨y165, hy165⟩ : ∃ y_ : List (S34), y_ = (([] : List (S34)) ++ l0_0) := ⟨_, rfl⟩
     replace H : ((some (([(⟨(⟨#[122, 122, 122, 122, 57, 57, 57, 57]⟩ : ByteArray), ([] : List (S40))⟩ : S34)] : List (S34)) : List (S34))).bind fun y168 => (if y165.length + y168.length < 3518437208883 then ((some (([] : List (S34)) ++ l0_0 : List (S34))).bind fun y175 => (if 0 ≤ a1 then (if a1 < (l0_0.length : Int) then (if ([] : List (S40)).length + ((rd_T34 l0_0 a1).f1).length < 3518437208883 then ((some (([] : List (S40)) ++ ((rd_T34 l0_0 a1).f1) : List (S40))).bind fun y180 => ((some (([(⟨(⟨#[122, 122, 122, 122, 57, 57, 57, 57]⟩ : ByteArray), 4, (⟨#[]⟩ : ByteArray)⟩ : S40)] : List (S40)) : List (S40))).bind fun y183 => (if y180.length + y183.length < 3518437208883 then (if a1 < (y175.length : Int) then (if a1 ≤ (l0_0.length : Int) then ((some (l0_0.take (a1 : Int).toNat : List (S34))).bind fun y190 => (if ([] : List (S34)).length + y190.length < 3518437208883 then ((some (([] : List (S34)) ++ y190 : List (S34))).bind fun y195 => (if 0 ≤ (wrap64 (a1 + 1)) then (if (wrap64 (a1 + 1)) ≤ (l0_0.length : Int) then ((some (l0_0.drop ((wrap64 (a1 + 1)) : Int).toNat : List (S34))).bind fun y198 => (if y195.length + y198.length < 3518437208883 then (l0 kj22 a1 false 0 l0_0 (y165 ++ y168) (y175.set (a1 : Int).toNat (⟨(rd_T34 y175 a1).f0, (y180 ++ y183)⟩ : S34)) (y195 ++ y198)) else (none))) else (none)) else (none))) else (none))) else (none)) else (none)) else (none)))) else (none)) else (none)) else (none))) else (none))) = some r := by first | (rw [hy165]; with_reducible exact H) | (have H2_ := (Option.bind_some _ _).symm.trans H; rw [hy165]; with_reducible exact H2_) | (have H2_ := (Option.bind_some _ _).symm.trans H; with_reducible exact H2_) | with_reducible exact H | (rw [hy165]; exact H) | exact H
     have Ny165 := Aside0.mk hy165
     clear hy165
     obtain ⟨y168, hy168⟩ : ∃ y_ : List (S34), y_ = (([(⟨(⟨#[122, 122, 122, 122, 57, 57, 57, 57]⟩ : ByteArray), ([] : List (S40))⟩ : S34)] : List (S34))) := ⟨_, rfl⟩
     replace H : (if y165.length + y168.length < 3518437208883 then ((some (([] : List (S34)) ++ l0_0 : List (S34))).bind fun y175 => (if 0 ≤ a1 then (if a1 < (l0_0.length : Int) then (if ([] : List (S40)).length + ((rd_T34 l0_0 a1).f1).length < 3518437208883 then ((some (([] : List (S40)) ++ ((rd_T34 l0_0 a1).f1) : List (S40))).bind fun y180 => ((some (([(⟨(⟨#[122, 122, 122, 122, 57, 57, 57, 57]⟩ : ByteArray), 4, (⟨#[]⟩ : ByteArray)⟩ : S40)] : List (S40)) : List (S40))).bind fun y183 => (if y180.length + y183.length < 3518437208883 then (if a1 < (y175.length : Int) then (if a1 ≤ (l0_0.length : Int) then ((some (l0_0.take (a1 : Int).toNat : List (S34))).bind fun y190 => (if ([] : List (S34)).length + y190.length < 3518437208883 then ((some (([] : List (S34)) ++ y190 : List (S34))).bind fun y195 => (if 0 ≤ (wrap64 (a1 + 1)) then (if (wrap64 (a1 + 1)) ≤ (l0_0.length : Int) then ((some (l0_0.drop ((wrap64 (a1 + 1)) : Int).toNat : List (S34))).bind fun y198 => (if y195.length + y198.length < 3518437208883 then (l0 kj22 a1 false 0 l0_0 (y165 ++ y168) (y175.set (a1 : Int).toNat (⟨(rd_T34 y175 a1).f0, (y180 ++ y183)⟩ : S34)) (y195 ++ y198)) else (none))) else (none)) else (none))) else (none))) else (none)) else (none)) else (none)))) else (none)) else (none)) else (none))) else (none)) = some r := by first | (rw [hy168]; with_reducible exact H) | (have H2_ := (Option.bind_some _ _).symm.trans H; rw [hy168]; with_reducible exact H2_) | (have H2_ := (Option.bind_some _ _).symm.trans H; with_reducible exact H2_) | with_reducible exact H | (rw [hy168]; exact H) | exact H
     have Ny168 := Aside0.mk hy168
     clear hy168
     by_cases c37 : y165.length + y168.length < 3518437208883
     rotate_left
     ·replace H := (if_neg c37).symm.trans H
      exact absurd H (by simp)
     replace H := (if_pos c37).symm.trans H
     have LMc37 := Aside0.mk c37
     clear c37
     obtain ⟨y171, hy171⟩ : ∃ y_ : List (S34), y_ = (y165 ++ y168) := ⟨_, rfl⟩
     replace H : ((some (([] : List (S34)) ++ l0_0 : List (S34))).bind fun y175 => (if 0 ≤ a1 then (if a1 < (l0_0.length : Int) then (if ([] : List (S40)).length + ((rd_T34 l0_0 a1).f1).length < 3518437208883 then ((some (([] : List (S40)) ++ ((rd_T34 l0_0 a1).f1) : List (S40))).bind fun y180 => ((some (([(⟨(⟨#[122, 122, 122, 122, 57, 57, 57, 57]⟩ : ByteArray), 4, (⟨#[]⟩ : ByteArray)⟩ : S40)] : List (S40)) : List (S40))).bind fun y183 => (if y180.length + y183.length < 3518437208883 then (if a1 < (y175.length : Int) then (if a1 ≤ (l0_0.length : Int) then ((some (l0_0.take (a1 : Int).toNat : List (S34))).bind fun y190 => (if ([] : List (S34)).length + y190.length < 3518437208883 then ((some (([] : List (S34)) ++ y190 : List (S34))).bind fun y195 => (if 0 ≤ (wrap64 (a1 + 1)) then (if (wrap64 (a1 + 1)) ≤ (l0_0.length : Int) then ((some (l0_0.drop ((wrap64 (a1 + 1)) : Int).toNat : List (S34))).bind fun y198 => (if y195.length + y198.length < 3518437208883 then (l0 kj22 a1 false 0 l0_0 y171 (y175.set (a1 : Int).toNat (⟨(rd_T34 y175 a1).f0, (y180 ++ y183)⟩ : S34)) (y195 ++ y198)) else (none))) else (none)) else (none))) else (none))) else (none)) else (none)) else (none)))) else (none)) else (none)) else (none))) = some r := by first | (rw [hy171]; with_reducible exact H) | (have H2_ := (Option.bind_some _ _).symm.trans H; rw [hy171]; with_reducible exact H2_) | (have H2_ := (Option.bind_some _ _).symm.trans H; with_reducible exact H2_) | with_reducible exact H | (rw [hy171]; exact H) | exact H
     have Ny171 := Aside0.mk hy171
     clear hy171
     obtain ⟨y175, hy175⟩ : ∃ y_ : List (S34), y_ = (([] : List (S34)) ++ l0_0) := ⟨_, rfl⟩
     replace H : (if 0 ≤ a1 then (if a1 < (l0_0.length : Int) then (if ([] : List (S40)).length + ((rd_T34 l0_0 a1).f1).length < 3518437208883 then ((some (([] : List (S40)) ++ ((rd_T34 l0_0 a1).f1) : List (S40))).bind fun y180 => ((some (([(⟨(⟨#[122, 122, 122, 122, 57, 57, 57, 57]⟩ : ByteArray), 4, (⟨#[]⟩ : ByteArray)⟩ : S40)] : List (S40)) : List (S40))).bind fun y183 => (if y180.length + y183.length < 3518437208883 then (if a1 < (y175.length : Int) then (if a1 ≤ (l0_0.length : Int) then ((some (l0_0.take (a1 : Int).toNat : List (S34))).bind fun y190 => (if ([] : List (S34)).length + y190.length < 3518437208883 then ((some (([] : List (S34)) ++ y190 : List (S34))).bind fun y195 => (if 0 ≤ (wrap64 (a1 + 1)) then (if (wrap64 (a1 + 1)) ≤ (l0_0.length : Int) then ((some (l0_0.drop ((wrap64 (a1 + 1)) : Int).toNat : List (S34))).bind fun y198 => (if y195.length + y198.length < 3518437208883 then (l0 kj22 a1 false 0 l0_0 y171 (y175.set (a1 : Int).toNat (⟨(rd_T34 y175 a1).f0, (y180 ++ y183)⟩ : S34)) (y195 ++ y198)) else (none))) else (none)) else (none))) else (none))) else (none)) else (none)) else (none)))) else (none)) else (none)) else (none)) = some r := by first | (rw [hy175]; with_reducible exact H) | (have H2_ := (Option.bind_some _ _).symm.trans H; rw [hy175]; with_reducible exact H2_) | (have H2_ := (Option.bind_some _ _).symm.trans H; with_reducible exact H2_) | with_reducible exact H | (rw [hy175]; exact H) | exact H
     have Ny175 := Aside0.mk hy175
     clear hy175
     by_cases c38 : 0 ≤ a1
     rotate_left
     ·replace H := (if_neg c38).symm.trans H
      exact absurd H (by simp)
     replace H := (if_pos c38).symm.trans H
     have c38b0 : decide (0 ≤ a1) = true := decide_eq_true c38
     clear c38
     by_cases c39 : a1 < (l0_0.length : Int)
     rotate_left
     ·replace H := (if_neg c39).symm.trans H
      exact absurd H (by simp)
     replace H := (if_pos c39).symm.trans H
     have c39b0 : decide (a1 < (l0_0.length : Int)) = true := decide_eq_true c39
     clear c39
     by_cases c40 : ([] : List (S40)).length + ((rd_T34 l0_0 a1).f1).length < 3518437208883
     rotate_left
     ·replace H := (if_neg c40).symm.trans H
      exact absurd H (by simp)
     replace H := (if_pos c40).symm.trans H
     have LMc40 := Aside0.mk c40
     clear c40
     obtain ⟨y180, hy180⟩ : ∃ y_ : List (S40), y_ = (([] : List (S40)) ++ ((rd_T34 l0_0 a1).f1)) := ⟨_, rfl⟩
     replace H : ((some (([(⟨(⟨#[122, 122, 122, 122, 57, 57, 57, 57]⟩ : ByteArray), 4, (⟨#[]⟩ : ByteArray)⟩ : S40)] : List (S40)) : List (S40))).bind fun y183 => (if y180.length + y183.length < 3518437208883 then (if a1 < (y175.length : Int) then (if a1 ≤ (l0_0.length : Int) then ((some (l0_0.take (a1 : Int).toNat : List (S34))).bind fun y190 => (if ([] : List (S34)).length + y190.length < 3518437208883 then ((some (([] : List (S34)) ++ y190 : List (S34))).bind fun y195 => (if 0 ≤ (wrap64 (a1 + 1)) then (if (wrap64 (a1 + 1)) ≤ (l0_0.length : Int) then ((some (l0_0.drop ((wrap64 (a1 + 1)) : Int).toNat : List (S34))).bind fun y198 => (if y195.length + y198.length < 3518437208883 then (l0 kj22 a1 false 0 l0_0 y171 (y175.set (a1 : Int).toNat (⟨(rd_T34 y175 a1).f0, (y180 ++ y183)⟩ : S34)) (y195 ++ y198)) else (none))) else (none)) else (none))) else (none))) else (none)) else (none)) else (none))) = some r := by first | (rw [hy180]; with_reducible exact H) | (have H2_ := (Option.bind_some _ _).symm.trans H; rw [hy180]; with_reducible exact H2_) | (have H2_ := (Option.bind_some _ _).symm.trans H; with_reducible exact H2_) | with_reducible exact H | (rw [hy180]; exact H) | exact H
     have Ny180 := Aside0.mk hy180
     clear hy180
     obtain ⟨y183, hy183⟩ : ∃ y_ : List (S40), y_ = (([(⟨(⟨#[122, 122, 122, 122, 57, 57, 57, 57]⟩ : ByteArray), 4, (⟨#[]⟩ : ByteArray)⟩ : S40)] : List (S40))) := ⟨_, rfl⟩
     replace H : (if y180.length + y183.length < 3518437208883 then (if a1 < (y175.length : Int) then (if a1 ≤ (l0_0.length : Int) then ((some (l0_0.take (a1 : Int).toNat : List (S34))).bind fun y190 => (if ([] : List (S34)).length + y190.length < 3518437208883 then ((some (([] : List (S34)) ++ y190 : List (S34))).bind fun y195 => (if 0 ≤ (wrap64 (a1 + 1)) then (if (wrap64 (a1 + 1)) ≤ (l0_0.length : Int) then ((some (l0_0.drop ((wrap64 (a1 + 1)) : Int).toNat : List (S34))).bind fun y198 => (if y195.length + y198.length < 3518437208883 then (l0 kj22 a1 false 0 l0_0 y171 (y175.set (a1 : Int).toNat (⟨(rd_T34 y175 a1).f0, (y180 ++ y183)⟩ : S34)) (y195 ++ y198)) else (none))) else (none)) else (none))) else (none))) else (none)) else (none)) else (none)) = some r := by first | (rw [hy183]; with_reducible exact H) | (have H2_ := (Option.bind_some _ _).symm.trans H; rw [hy183]; with_reducible exact H2_) | (have H2_ := (Option.bind_some _ _).symm.trans H; with_reducible exact H2_) | with_reducible exact H | (rw [hy183]; exact H) | exact H
     have Ny183 := Aside0.mk hy183
     clear hy183
     by_cases c41 : y180.length + y183.length < 3518437208883
     rotate_left
     ·replace H := (if_neg c41).symm.trans H
      exact absurd H (by simp)
     replace H := (if_pos c41).symm.trans H
     have LMc41 := Aside0.mk c41
     clear c41
     obtain ⟨y186, hy186⟩ : ∃ y_ : List (S40), y_ = (y180 ++ y183) := ⟨_, rfl⟩
     replace H : (if a1 < (y175.length : Int) then (if a1 ≤ (l0_0.length : Int) then ((some (l0_0.take (a1 : Int).toNat : List (S34))).bind fun y190 => (if ([] : List (S34)).length + y190.length < 3518437208883 then ((some (([] : List (S34)) ++ y190 : List (S34))).bind fun y195 => (if 0 ≤ (wrap64 (a1 + 1)) then (if (wrap64 (a1 + 1)) ≤ (l0_0.length : Int) then ((some (l0_0.drop ((wrap64 (a1 + 1)) : Int).toNat : List (S34))).bind fun y198 => (if y195.length + y198.length < 3518437208883 then (l0 kj22 a1 false 0 l0_0 y171 (y175.set (a1 : Int).toNat (⟨(rd_T34 y175 a1).f0, y186⟩ : S34)) (y195 ++ y198)) else (none))) else (none)) else (none))) else (none))) else (none)) else (none)) = some r := by first | (rw [hy186]; with_reducible exact H) | (have H2_ := (Option.bind_some _ _).symm.trans H; rw [hy186]; with_reducible exact H2_) | (have H2_ := (Option.bind_some _ _).symm.trans H; with_reducible exact H2_) | with_reducible exact H | (rw [hy186]; exact H) | exact H
     have Ny186 := Aside0.mk hy186
     clear hy186
     by_cases c42 : a1 < (y175.length : Int)
     rotate_left
     ·replace H := (if_neg c42).symm.trans H
      exact absurd H (by simp)
     replace H := (if_pos c42).symm.trans H
     have c42b0 : decide (a1 < (y175.length : Int)) = true := decide_eq_true c42
     clear c42
     obtain ⟨y189, hy189⟩ : ∃ y_ : List (S34), y_ = (y175.set (a1 : Int).toNat (⟨(rd_T34 y175 a1).f0, y186⟩ : S34)) := ⟨_, rfl⟩
     replace H : (if a1 ≤ (l0_0.length : Int) then ((some (l0_0.take (a1 : Int).toNat : List (S34))).bind fun y190 => (if ([] : List (S34)).length + y190.length < 3518437208883 then ((some (([] : List (S34)) ++ y190 : List (S34))).bind fun y195 => (if 0 ≤ (wrap64 (a1 + 1)) then (if (wrap64 (a1 + 1)) ≤ (l0_0.length : Int) then ((some (l0_0.drop ((wrap64 (a1 + 1)) : Int).toNat : List (S34))).bind fun y198 => (if y195.length + y198.length < 3518437208883 then (l0 kj22 a1 false 0 l0_0 y171 y189 (y195 ++ y198)) else (none))) else (none)) else (none))) else (none))) else (none)) = some r := by first | (rw [hy189]; with_reducible exact H) | (have H2_ := (Option.bind_some _ _).symm.trans H; rw [hy189]; with_reducible exact H2_) | (have H2_ := (Option.bind_some _ _).symm.trans H; with_reducible exact H2_) | with_reducible exact H | (rw [hy189]; exact H) | exact H
     have Ny189 := Aside0.mk hy189
     clear hy189
     have c44b0 := eq_true (od9 (by first | (with_reducible assumption) | assumption) : 0 ≤ a1)
     by_cases c45 : a1 ≤ (l0_0.length : Int)
     rotate_left
     ·replace H := (if_neg c45).symm.trans H
      exact absurd H (by simp)
     replace H := (if_pos c45).symm.trans H
     have c45b0 := eq_true c45
     have c45b1 : decide (a1 ≤ (l0_0.length : Int)) = true := decide_eq_true c45
     clear c45
     obtain ⟨y190, hy190⟩ : ∃ y_ : List (S34), y_ = (l0_0.take (a1 : Int).toNat) := ⟨_, rfl⟩
     replace H : (if ([] : List (S34)).length + y190.length < 3518437208883 then ((some (([] : List (S34)) ++ y190 : List (S34))).bind fun y195 => (if 0 ≤ (wrap64 (a1 + 1)) then (if (wrap64 (a1 + 1)) ≤ (l0_0.length : Int) then ((some (l0_0.drop ((wrap64 (a1 + 1)) : Int).toNat : List (S34))).bind fun y198 => (if y195.length + y198.length < 3518437208883 then (l0 kj22 a1 false 0 l0_0 y171 y189 (y195 ++ y198)) else (none))) else (none)) else (none))) else (none)) = some r := by first | (rw [hy190]; with_reducible exact H) | (have H2_ := (Option.bind_some _ _).symm.trans H; rw [hy190]; with_reducible exact H2_) | (have H2_ := (Option.bind_some _ _).symm.trans H; with_reducible exact H2_) | with_reducible exact H | (rw [hy190]; exact H) | exact H
     have Ny190 := Aside0.mk hy190
     clear hy190
     by_cases c46 : ([] : List (S34)).length + y190.length < 3518437208883
     rotate_left
     ·replace H := (if_neg c46).symm.trans H
      exact absurd H (by simp)
     replace H := (if_pos c46).symm.trans H
     have LMc46 := Aside0.mk c46
     clear c46
     obtain ⟨y195, hy195⟩ : ∃ y_ : List (S34), y_ = (([] : List (S34)) ++ y190) := ⟨_, rfl⟩
     replace H : (if 0 ≤ (wrap64 (a1 + 1)) then (if (wrap64 (a1 + 1)) ≤ (l0_0.length : Int) then ((some (l0_0.drop ((wrap64 (a1 + 1)) : Int).toNat : List (S34))).bind fun y198 => (if y195.length + y198.length < 3518437208883 then (l0 kj22 a1 false 0 l0_0 y171 y189 (y195 ++ y198)) else (none))) else (none)) else (none)) = some r := by first | (rw [hy195]; with_reducible exact H) | (have H2_ := (Option.bind_some _ _).symm.trans H; rw [hy195]; with_reducible exact H2_) | (have H2_ := (Option.bind_some _ _).symm.trans H; with_reducible exact H2_) | with_reducible exact H | (rw [hy195]; exact H) | exact H
     have Ny195 := Aside0.mk hy195
     clear hy195
     obtain ⟨ji47, hji47⟩ : ∃ j_ : Int, (wrap64 (a1 + 1)) = j_ := ⟨_, rfl⟩
     replace H : (if 0 ≤ (ji47) then (if (ji47) ≤ (l0_0.length : Int) then ((some (l0_0.drop ((ji47) : Int).toNat : List (S34))).bind fun y198 => (if y195.length + y198.length < 3518437208883 then (l0 kj22 a1 false 0 l0_0 y171 y189 (y195 ++ y198)) else (none))) else (none)) else (none)) = some r := by first | (rw [hji47] at H; exact H) | (simp only [hji47] at H ⊢; exact H)
     have hji47w : (IntKind.i64.wrap (a1 + 1)) = ji47 := (i64_w _).trans hji47
     by_cases c48 : 0 ≤ (ji47)
     rotate_left
     ·replace H := (if_neg c48).symm.trans H
      exact absurd H (by simp)
     replace H := (if_pos c48).symm.trans H
     have c48b0 := eq_true c48
     have c48b1 : decide (0 ≤ (ji47)) = true := decide_eq_true c48
     clear c48
     by_cases c49 : (ji47) ≤ (l0_0.length : Int)
     rotate_left
     ·replace H := (if_neg c49).symm.trans H
      exact absurd H (by simp)
     replace H := (if_pos c49).symm.trans H
     have c49b0 := eq_true c49
     have c49b1 : decide ((ji47) ≤ (l0_0.length : Int)) = true := decide_eq_true c49
     clear c49
     obtain ⟨y198, hy198⟩ : ∃ y_ : List (S34), y_ = (l0_0.drop ((ji47) : Int).toNat) := ⟨_, rfl⟩
     replace H : (if y195.length + y198.length < 3518437208883 then (l0 kj22 a1 false 0 l0_0 y171 y189 (y195 ++ y198)) else (none)) = some r := by first | (rw [hy198]; with_reducible exact H) | (have H2_ := (Option.bind_some _ _).symm.trans H; rw [hy198]; with_reducible exact H2_) | (have H2_ := (Option.bind_some _ _).symm.trans H; with_reducible exact H2_) | with_reducible exact H | (rw [hy198]; exact H) | exact H
     have Ny198 := Aside0.mk hy198
     clear hy198
     by_cases c50 : y195.length + y198.length < 3518437208883
     rotate_left
     ·replace H := (if_neg c50).symm.trans H
      exact absurd H (by simp)
     replace H := (if_pos c50).symm.trans H
     have LMc50 := Aside0.mk c50
     clear c50
     obtain ⟨y203, hy203⟩ : ∃ y_ : List (S34), y_ = (y195 ++ y198) := ⟨_, rfl⟩
     replace H : (l0 kj22 a1 false 0 l0_0 y171 y189 y203) = some r := by first | (rw [hy203]; with_reducible exact H) | (have H2_ := (Option.bind_some _ _).symm.trans H; rw [hy203]; with_reducible exact H2_) | (have H2_ := (Option.bind_some _ _).symm.trans H; with_reducible exact H2_) | with_reducible exact H | (rw [hy203]; exact H) | exact H
     have Ny203 := Aside0.mk hy203
     clear hy203
     have H' := Aside0.mk H
     clear H
     have hcz51_0 : wc.cell? ⟨gb158, 0, none⟩ = some (.slice A0_0 l0_0.length c0_0) := (blk_cell BK158.out 0).trans rfl
     have hfz51_0 := blk_frozen BK158.out 0
     try go_wp2_with (first | ((with_reducible refine gate_builtin (b := .append) (xs := #[.const (.slice none 0 0), .tmp 55]) rfl ?_); (try (refine gate_guard (by rfl) ?_; dsimp only)); at_builtin; refine Kd.N_append_rows k34 (w0 := w) w.heap.size rfl (.const (.slice none 0 0)) (.tmp 55) 22 34 (.agg #[(.string ⟨#[]⟩), (.slice none 0 0)]) 40 rfl Try.underlying22 info34 rfl (by decide) (by omega) (.slice none 0 0) ([] : List (S34)) l0_0 _ _ _ (fun k_ => (P0_0_ k_ ∨ w.heap.size ≤ k_) ∧ k_ ≠ gb158) (fun k_ => ((fun k_ => (P0_0_ k_ ∨ w.heap.size ≤ k_) ∧ k_ ≠ gb158)) k_ ∧ some k_ ≠ (.slice none 0 0 : Value).ownBlock) rfl rfl ?aO ?aR (fun _ hk => hk) ?aF ?aB ?aS ?aL ?_; (case aR => exact (by skip; exact Kd.V_F (Kd.V_mono (ok' := (fun k_ => ((fun k_ => (P0_0_ k_ ∨ w.heap.size ≤ k_) ∧ k_ ≠ gb158)) k_ ∧ some k_ ≠ (.slice none 0 0 : Value).ownBlock)) (HO_159000.out) (fun k_ hk => ⟨⟨hk.1, hk.2⟩, (by simp [Value.ownBlock])⟩)))); (case aB => exact (by repeat (first | (with_reducible first | exact HB.out | apply wa9 | apply wb9 | apply wc9 | refine wd9 ?_ GE158.out) | exact HB.out))); (case aF => exact (fun k_ hk => ⟨(.inr (Nat.le_trans (below_size (by repeat (first | (with_reducible first | exact HB.out | apply wa9 | apply wb9 | apply wc9 | refine wd9 ?_ GE158.out) | exact HB.out))) hk)), Kd.freshB (g := gb158) (o := .cells #[.slice A0_0 l0_0.length c0_0] 24 (0, 0)) (by (with_reducible repeat (first | refine ba9 ?_ _ | refine bb9 ?_ | refine bc9 ?_ _)); exact BK158.out) k_ hk⟩)); (case aO => exact ((Kd.N_nil _ _ _ _ (fun k_ => (P0_0_ k_ ∨ w.heap.size ≤ k_) ∧ k_ ≠ gb158)))); (case aS => exact (below_size (by repeat (first | (with_reducible first | exact HB.out | apply wa9 | apply wb9 | apply wc9 | refine wd9 ?_ GE158.out) | exact HB.out)))); (case aL => have := LMc36.out; omega); intro v166 w52 ho hb hg hat; rw [← Ny165.out] at ho; replace HO_159000 := am9_ (Kd.V_afterv (Kd.V_apart_nil (by (with_reducible repeat (first | apply va9 | apply vb9 | apply vc9)); exact HO_159000.out)) hg hat); replace BK158 := am9_ (blk_grown (g := gb158) (o := .cells #[.slice A0_0 l0_0.length c0_0] 24 (0, 0)) (by (with_reducible repeat (first | refine ba9 ?_ _ | refine bb9 ?_ | refine bc9 ?_ _)); exact BK158.out) hg (by simp [Value.ownBlock])); replace HB := am9_ (hb); have HO167 := am9_ (ho); clear ho hb hg hat) | ((with_reducible refine gate_dst (N := 59) rfl ?_); (try (refine gate_guard (by rfl) ?_; dsimp only)); refine Kd.N_lit k34 _ 34 ?hg (N' := 59) ?hd (xs := ([(⟨(⟨#[122, 122, 122, 122, 57, 57, 57, 57]⟩ : ByteArray), ([] : List (S40))⟩ : S34)] : List (S34))) (inner := [.string (⟨#[122, 122, 122, 122, 57, 57, 57, 57]⟩ : ByteArray), .slice none 0 0]) (ok := (fun k_ => (P0_0_ k_ ∨ w.heap.size ≤ k_) ∧ some k_ ≠ (v166 : Value).ownBlock ∧ k_ ≠ gb158)) (okp := (fun k_ => (P0_0_ k_ ∨ w.heap.size ≤ k_) ∧ some k_ ≠ (v166 : Value).ownBlock ∧ k_ ≠ gb158)) ?hr ?hp (fun _ hk => hk) ((show ∀ k_, w52.heap.size ≤ k_ → (fun k_ => (P0_0_ k_ ∨ w.heap.size ≤ k_) ∧ some k_ ≠ (v166 : Value).ownBlock ∧ k_ ≠ gb158) k_ from fun k_ hk => ⟨(.inr (Nat.le_trans (below_size (by repeat (first | (with_reducible first | exact HB.out | apply wa9 | apply wb9 | apply wc9 | refine wd9 ?_ GE158.out) | exact HB.out))) hk)), Kd.fresh' (Kd.N_lt (by (with_reducible repeat (first | apply na9 | apply nb9 | apply nc9)); exact HO167.out)) k_ hk, Kd.freshB (g := gb158) (o := .cells #[.slice A0_0 l0_0.length c0_0] 24 (0, 0)) (by (with_reducible repeat (first | refine ba9 ?_ _ | refine bb9 ?_ | refine bc9 ?_ _)); exact BK158.out) k_ hk⟩) _ (Nat.le_refl _)) (Below.refl _ _) (Nat.le_refl _) (by simp) ?_; (case hd => rfl); (case hg => rfl); (case hr => first | (go_simp; done) | (go_simp; rfl)); (case hp => exact (Reps.c2 (show Kd.FK k34 _ _ (⟨(⟨#[122, 122, 122, 122, 57, 57, 57, 57]⟩ : ByteArray), ([] : List (S40))⟩ : S34) [.string (⟨#[122, 122, 122, 122, 57, 57, 57, 57]⟩ : ByteArray), .slice none 0 0] from (k34_mkF _ _ (⟨(⟨#[122, 122, 122, 122, 57, 57, 57, 57]⟩ : ByteArray), ([] : List (S40))⟩ : S34) (Nat.le_refl _) (Kd.F_nil _ _ _))) (Reps.none _ _))); intro v169 w53 ho54 hb hg_ hnew_; clear hg_ hnew_; (first | rw [← Ny168.out] at ho54 | (simp only [Int.reduceToNat] at ho54; rw [← Ny168.out] at ho54)); replace HO_159000 := am9_ (Kd.V_elder' (by (with_reducible repeat (first | apply va9 | apply vb9 | apply vc9)); exact HO_159000.out) (Kd.N_base ho54) hb); replace HO167 := am9_ (Kd.N_elder' (by (with_reducible repeat (first | apply na9 | apply nb9 | apply nc9)); exact HO167.out) (Kd.N_base ho54) hb); have HO170 := am9_ (Kd.N_lower ho54 (below_size (by repeat (first | (with_reducible first | exact HB.out | apply wa9 | apply wb9 | apply wc9 | refine wd9 ?_ GE158.out) | exact HB.out)))); replace BK158 := am9_ (blk_below (g := gb158) (o := .cells #[.slice A0_0 l0_0.length c0_0] 24 (0, 0)) (by (with_reducible repeat (first | refine ba9 ?_ _ | refine bb9 ?_ | refine bc9 ?_ _)); exact BK158.out) hb); replace HB := am9_ (below_step (by repeat (first | (with_reducible first | exact HB.out | apply wa9 | apply wb9 | apply wc9 | refine wd9 ?_ GE158.out) | exact HB.out)) hb); clear hb ho54; obtain ⟨Ao56, co56, eo56⟩ := Kd.N_slice HO170.out; subst eo56) | ((with_reducible refine gate_builtin (b := .append) (xs := #[.tmp 56, .tmp 59]) rfl ?_); (try (refine gate_guard (by rfl) ?_; dsimp only)); at_builtin; refine Kd.N_append_rows k34 (w0 := w) w.heap.size rfl (.tmp 56) (.tmp 59) 22 34 (.agg #[(.string ⟨#[]⟩), (.slice none 0 0)]) 40 rfl Try.underlying22 info34 rfl (by decide) (by omega) v166 y165 y168 _ _ _ (fun k_ => (P0_0_ k_ ∨ w.heap.size ≤ k_) ∧ k_ ≠ gb158) (fun k_ => ((fun k_ => (P0_0_ k_ ∨ w.heap.size ≤ k_) ∧ k_ ≠ gb158)) k_ ∧ some k_ ≠ (v166 : Value).ownBlock) rfl rfl ?aO ?aR (fun _ hk => hk) ?aF ?aB ?aS ?aL ?_; (case aR => exact (by skip; exact Kd.N_F (Kd.N_mono (ok' := (fun k_ => ((fun k_ => (P0_0_ k_ ∨ w.heap.size ≤ k_) ∧ k_ ≠ gb158)) k_ ∧ some k_ ≠ (v166 : Value).ownBlock)) (HO170.out) (fun k_ hk => ⟨⟨hk.1, hk.2.2⟩, hk.2.1⟩)))); (case aB => exact (by repeat (first | (with_reducible first | exact HB.out | apply wa9 | apply wb9 | apply wc9 | refine wd9 ?_ GE158.out) | exact HB.out))); (case aF => exact (fun k_ hk => ⟨(.inr (Nat.le_trans (below_size (by repeat (first | (with_reducible first | exact HB.out | apply wa9 | apply wb9 | apply wc9 | refine wd9 ?_ GE158.out) | exact HB.out))) hk)), Kd.freshB (g := gb158) (o := .cells #[.slice A0_0 l0_0.length c0_0] 24 (0, 0)) (by (with_reducible repeat (first | refine ba9 ?_ _ | refine bb9 ?_ | refine bc9 ?_ _)); exact BK158.out) k_ hk⟩)); (case aO => exact (by (with_reducible repeat (first | apply na9 | apply nb9 | apply nc9)); exact Kd.N_mono HO167.out (fun _ hk => ⟨hk.1.1, hk.1.2⟩))); (case aS => exact (below_size (by repeat (first | (with_reducible first | exact HB.out | apply wa9 | apply wb9 | apply wc9 | refine wd9 ?_ GE158.out) | exact HB.out)))); (case aL => have := LMc37.out; omega); intro v172 w55 ho hb hg hat; rw [← Ny171.out] at ho; replace HO_159000 := am9_ (Kd.V_afterv (ok := (fun k_ => (P0_0_ k_ ∨ w.heap.size ≤ k_) ∧ some k_ ≠ (.slice Ao56 y168.length co56 : Value).ownBlock ∧ k_ ≠ gb158)) (by (with_reducible repeat (first | apply va9 | apply vb9 | apply vc9)); exact Kd.V_mono HO_159000.out (fun _ hk => ⟨⟨hk.1.1.1, ⟨hk.2, hk.1.1.2⟩⟩, hk.1.2⟩)) hg hat); replace BK158 := am9_ (blk_grown (g := gb158) (o := .cells #[.slice A0_0 l0_0.length c0_0] 24 (0, 0)) (by (with_reducible repeat (first | refine ba9 ?_ _ | refine bb9 ?_ | refine bc9 ?_ _)); exact BK158.out) hg (Kd.N_ne HO167.out BK158.out (by decide))); replace HO170 := am9_ (Kd.N_afterv (ok := (fun k_ => (P0_0_ k_ ∨ w.heap.size ≤ k_) ∧ k_ ≠ gb158)) (by (with_reducible repeat (first | apply na9 | apply nb9 | apply nc9)); exact Kd.N_mono HO170.out (fun _ hk => ⟨⟨hk.1, hk.2.2⟩, hk.2.1⟩)) hg hat); replace HB := am9_ (hb); have HO173 := am9_ (ho); clear HO167 ho hb hg hat; obtain ⟨Ao57, co57, eo57⟩ := Kd.N_slice HO173.out; subst eo57) | ((with_reducible refine gate_dst (N := 8) rfl ?_); (try (refine gate_guard (by rfl) ?_; dsimp only)); refine box_event ?hg (N := 8) ?hd (cs := #[.slice none 0 0]) (t := 24) ?hr ?_; (case hd => rfl); (case hg => rfl); (case hr => first | (go_simp; done) | (go_simp; rfl)); intro gb174 hg w58 hbox hb; replace HO_159000 := am9_ (Kd.V_below (Kd.V_elderB (by (with_reducible repeat (first | apply va9 | apply vb9 | apply vc9)); exact HO_159000.out) gb174 (Nat.le_of_eq hg.symm)) hb); replace HO170 := am9_ (Kd.N_below (Kd.N_elderB (by (with_reducible repeat (first | apply na9 | apply nb9 | apply nc9)); exact HO170.out) gb174 (Nat.le_of_eq hg.symm)) hb); replace HO173 := am9_ (Kd.N_below (Kd.N_elderB (by (with_reducible repeat (first | apply na9 | apply nb9 | apply nc9)); exact HO173.out) gb174 (Nat.le_of_eq hg.symm)) hb); have BK174 := am9_ (hbox); have GW174 := am9_ ((by rw [hg]; exact (below_size (by repeat (first | (with_reducible first | exact HB.out | apply wa9 | apply wb9 | apply wc9 | refine wd9 ?_ GE158.out) | exact HB.out))) : w.heap.size ≤ gb174)); have GE174 := am9_ ((by rw [hg]; exact (below_size (by repeat (first | (with_reducible first | exact HB.out | apply wa9 | apply wb9 | apply wc9 | refine wd9 ?_ GE158.out) | exact HB.out))) : w.heap.size ≤ gb174)); replace HB := am9_ (below_step (by repeat (first | (with_reducible first | exact HB.out | apply wa9 | apply wb9 | apply wc9 | refine wd9 ?_ GE158.out) | exact HB.out)) hb); have NB158_174 := am9_ ((by rw [hg]; exact Nat.ne_of_lt (blk_lt (g := gb158) (o := .cells #[.slice A0_0 l0_0.length c0_0] 24 (0, 0)) (by (with_reducible repeat (first | refine ba9 ?_ _ | refine bb9 ?_ | refine bc9 ?_ _)); exact BK158.out)) : gb158 ≠ gb174)); have NB174_158 := am9_ ((by rw [hg]; exact Nat.ne_of_gt (blk_lt (g := gb158) (o := .cells #[.slice A0_0 l0_0.length c0_0] 24 (0, 0)) (by (with_reducible repeat (first | refine ba9 ?_ _ | refine bb9 ?_ | refine bc9 ?_ _)); exact BK158.out)) : gb174 ≠ gb158)); replace BK158 := am9_ (blk_below (g := gb158) (o := .cells #[.slice A0_0 l0_0.length c0_0] 24 (0, 0)) (by (with_reducible repeat (first | refine ba9 ?_ _ | refine bb9 ?_ | refine bc9 ?_ _)); exact BK158.out) hb); clear hb hbox hg; have hnb59 := NB174_158.out; have hnc59 := NB158_174.out; have hcz60_0 : w58.cell? ⟨gb174, 0, none⟩ = some (.slice none 0 0) := (blk_cell BK174.out 0).trans rfl; have hfz60_0 := blk_frozen BK174.out 0; have hcz61_0 : w58.cell? ⟨gb158, 0, none⟩ = some (.slice A0_0 l0_0.length c0_0) := (blk_cell BK158.out 0).trans rfl; have hfz61_0 := blk_frozen BK158.out 0) | ((with_reducible refine gate_builtin (b := .append) (xs := #[.const (.slice none 0 0), .tmp 63]) rfl ?_); (try (refine gate_guard (by rfl) ?_; dsimp only)); at_builtin; refine Kd.N_append_rows k34 (w0 := w) w.heap.size rfl (.const (.slice none 0 0)) (.tmp 63) 22 34 (.agg #[(.string ⟨#[]⟩), (.slice none 0 0)]) 40 rfl Try.underlying22 info34 rfl (by decide) (by omega) (.slice none 0 0) ([] : List (S34)) l0_0 _ _ _ (fun k_ => (P0_0_ k_ ∨ w.heap.size ≤ k_) ∧ some k_ ≠ (.slice Ao56 y168.length co56 : Value).ownBlock ∧ some k_ ≠ (.slice Ao57 y171.length co57 : Value).ownBlock ∧ k_ ≠ gb158 ∧ k_ ≠ gb174) (fun k_ => ((fun k_ => (P0_0_ k_ ∨ w.heap.size ≤ k_) ∧ some k_ ≠ (.slice Ao56 y168.length co56 : Value).ownBlock ∧ some k_ ≠ (.slice Ao57 y171.length co57 : Value).ownBlock ∧ k_ ≠ gb158 ∧ k_ ≠ gb174)) k_ ∧ some k_ ≠ (.slice none 0 0 : Value).ownBlock) rfl rfl ?aO ?aR (fun _ hk => hk) ?aF ?aB ?aS ?aL ?_; (case aR => exact (by skip; exact Kd.V_F (Kd.V_mono (ok' := (fun k_ => ((fun k_ => (P0_0_ k_ ∨ w.heap.size ≤ k_) ∧ some k_ ≠ (.slice Ao56 y168.length co56 : Value).ownBlock ∧ some k_ ≠ (.slice Ao57 y171.length co57 : Value).ownBlock ∧ k_ ≠ gb158 ∧ k_ ≠ gb174)) k_ ∧ some k_ ≠ (.slice none 0 0 : Value).ownBlock)) ((Kd.V_far (p := ⟨gb174, 0, none⟩) (Kd.V_mono HO_159000.out (fun k_ hk => (⟨hk, hk.2⟩ : _ ∧ k_ ≠ gb174))) (fun _ h => by first | exact h.2 | exact h | trivial) (.slice Ao57 y171.length co57))) (fun k_ hk => ⟨⟨hk.1.1.1.1, ⟨hk.1.1.1.2.1, ⟨hk.1.1.2, ⟨hk.1.1.1.2.2, hk.1.2⟩⟩⟩⟩, (by simp [Value.ownBlock])⟩)))); (case aB => exact (by repeat (first | (with_reducible first | exact HB.out | apply wa9 | apply wb9 | apply wc9 | refine wd9 ?_ GE158.out | refine wd9 ?_ GE174.out) | exact HB.out))); (case aF => exact (fun k_ hk => ⟨(.inr (Nat.le_trans (below_size (by repeat (first | (with_reducible first | exact HB.out | apply wa9 | apply wb9 | apply wc9 | refine wd9 ?_ GE158.out | refine wd9 ?_ GE174.out) | exact HB.out))) hk)), Kd.fresh' (Kd.N_lt (by (with_reducible repeat (first | apply na9 | apply nb9 | apply nc9)); exact (Kd.N_mono (Kd.N_far (p := ⟨gb174, 0, none⟩) (Kd.N_mono HO170.out (fun k_ hk => (⟨hk, hk.2⟩ : _ ∧ k_ ≠ gb174))) (fun _ h => by first | exact h.2 | exact h | trivial) (.slice Ao57 y171.length co57)) (fun _ h_ => h_.1)))) k_ hk, Kd.fresh' (Kd.N_lt (by (with_reducible repeat (first | apply na9 | apply nb9 | apply nc9)); exact (Kd.N_mono (Kd.N_far (p := ⟨gb174, 0, none⟩) (Kd.N_mono HO173.out (fun k_ hk => (⟨hk, hk.2⟩ : _ ∧ k_ ≠ gb174))) (fun _ h => by first | exact h.2 | exact h | trivial) (.slice Ao57 y171.length co57)) (fun _ h_ => h_.1)))) k_ hk, Kd.freshB (g := gb158) (o := .cells #[.slice A0_0 l0_0.length c0_0] 24 (0, 0)) (by (with_reducible repeat (first | refine ba9 ?_ _ | refine bb9 ?_ | refine bc9 ?_ _)); refine blk_far ?_ NB158_174.out _; (with_reducible repeat (first | refine ba9 ?_ _ | refine bb9 ?_ | refine bc9 ?_ _)); exact BK158.out) k_ hk, Kd.freshB (g := gb174) (o := .cells #[.slice Ao57 y171.length co57] 24 (0, 0)) (by (with_reducible repeat (first | refine ba9 ?_ _ | refine bb9 ?_ | refine bc9 ?_ _)); refine blk_put (cs := #[.slice none 0 0]) ?_ 0 _ rfl; (with_reducible repeat (first | refine ba9 ?_ _ | refine bb9 ?_ | refine bc9 ?_ _)); exact BK174.out) k_ hk⟩)); (case aO => exact ((Kd.N_nil _ _ _ _ (fun k_ => (P0_0_ k_ ∨ w.heap.size ≤ k_) ∧ some k_ ≠ (.slice Ao56 y168.length co56 : Value).ownBlock ∧ some k_ ≠ (.slice Ao57 y171.length co57 : Value).ownBlock ∧ k_ ≠ gb158 ∧ k_ ≠ gb174)))); (case aS => exact (below_size (by repeat (first | (with_reducible first | exact HB.out | apply wa9 | apply wb9 | apply wc9 | refine wd9 ?_ GE158.out | refine wd9 ?_ GE174.out) | exact HB.out)))); (case aL => have := LMc36.out; omega); intro v176 w62 ho hb hg hat; rw [← Ny175.out] at ho; replace HO_159000 := am9_ (Kd.V_afterv (Kd.V_apart_nil (by (with_reducible repeat (first | apply va9 | apply vb9 | apply vc9)); exact (Kd.V_mono (Kd.V_far (p := ⟨gb174, 0, none⟩) (Kd.V_mono HO_159000.out (fun k_ hk => (⟨hk, hk.2⟩ : _ ∧ k_ ≠ gb174))) (fun _ h => by first | exact h.2 | exact h | trivial) (.slice Ao57 y171.length co57)) (fun _ h_ => h_.1)))) hg hat); replace BK158 := am9_ (blk_grown (g := gb158) (o := .cells #[.slice A0_0 l0_0.length c0_0] 24 (0, 0)) (by (with_reducible repeat (first | refine ba9 ?_ _ | refine bb9 ?_ | refine bc9 ?_ _)); refine blk_far ?_ NB158_174.out _; (with_reducible repeat (first | refine ba9 ?_ _ | refine bb9 ?_ | refine bc9 ?_ _)); exact BK158.out) hg (by simp [Value.ownBlock])); replace HO170 := am9_ (Kd.N_afterv (Kd.N_apart_nil (by (with_reducible repeat (first | apply na9 | apply nb9 | apply nc9)); exact (Kd.N_mono (Kd.N_far (p := ⟨gb174, 0, none⟩) (Kd.N_mono HO170.out (fun k_ hk => (⟨hk, hk.2⟩ : _ ∧ k_ ≠ gb174))) (fun _ h => by first | exact h.2 | exact h | trivial) (.slice Ao57 y171.length co57)) (fun _ h_ => h_.1)))) hg hat); replace HO173 := am9_ (Kd.N_afterv (Kd.N_apart_nil (by (with_reducible repeat (first | apply na9 | apply nb9 | apply nc9)); exact (Kd.N_mono (Kd.N_far (p := ⟨gb174, 0, none⟩) (Kd.N_mono HO173.out (fun k_ hk => (⟨hk, hk.2⟩ : _ ∧ k_ ≠ gb174))) (fun _ h => by first | exact h.2 | exact h | trivial) (.slice Ao57 y171.length co57)) (fun _ h_ => h_.1)))) hg hat); replace BK174 := am9_ (blk_grown (g := gb174) (o := .cells #[.slice Ao57 y171.length co57] 24 (0, 0)) (by (with_reducible repeat (first | refine ba9 ?_ _ | refine bb9 ?_ | refine bc9 ?_ _)); refine blk_put (cs := #[.slice none 0 0]) ?_ 0 _ rfl; (with_reducible repeat (first | refine ba9 ?_ _ | refine bb9 ?_ | refine bc9 ?_ _)); exact BK174.out) hg (by simp [Value.ownBlock])); replace HB := am9_ (hb); have HO177 := am9_ (ho); clear ho hb hg hat; obtain ⟨Ao63, co63, eo63⟩ := Kd.N_slice HO177.out; subst eo63) | ((with_reducible refine gate_dst (N := 9) rfl ?_); (try (refine gate_guard (by rfl) ?_; dsimp only)); refine box_event ?hg (N := 9) ?hd (cs := #[.slice none 0 0]) (t := 24) ?hr ?_; (case hd => rfl); (case hg => rfl); (case hr => first | (go_simp; done) | (go_simp; rfl)); intro gb178 hg w64 hbox hb; replace HO_159000 := am9_ (Kd.V_below (Kd.V_elderB (by (with_reducible repeat (first | apply va9 | apply vb9 | apply vc9)); exact HO_159000.out) gb178 (Nat.le_of_eq hg.symm)) hb); replace HO170 := am9_ (Kd.N_below (Kd.N_elderB (by (with_reducible repeat (first | apply na9 | apply nb9 | apply nc9)); exact HO170.out) gb178 (Nat.le_of_eq hg.symm)) hb); replace HO173 := am9_ (Kd.N_below (Kd.N_elderB (by (with_reducible repeat (first | apply na9 | apply nb9 | apply nc9)); exact HO173.out) gb178 (Nat.le_of_eq hg.symm)) hb); replace HO177 := am9_ (Kd.N_below (Kd.N_elderB (by (with_reducible repeat (first | apply na9 | apply nb9 | apply nc9)); exact HO177.out) gb178 (Nat.le_of_eq hg.symm)) hb); have BK178 := am9_ (hbox); have GW178 := am9_ ((by rw [hg]; exact (below_size (by repeat (first | (with_reducible first | exact HB.out | apply wa9 | apply wb9 | apply wc9 | refine wd9 ?_ GE158.out | refine wd9 ?_ GE174.out) | exact HB.out))) : w.heap.size ≤ gb178)); have GE178 := am9_ ((by rw [hg]; exact (below_size (by repeat (first | (with_reducible first | exact HB.out | apply wa9 | apply wb9 | apply wc9 | refine wd9 ?_ GE158.out | refine wd9 ?_ GE174.out) | exact HB.out))) : w.heap.size ≤ gb178)); replace HB := am9_ (below_step (by repeat (first | (with_reducible first | exact HB.out | apply wa9 | apply wb9 | apply wc9 | refine wd9 ?_ GE158.out | refine wd9 ?_ GE174.out) | exact HB.out)) hb); have NB158_178 := am9_ ((by rw [hg]; exact Nat.ne_of_lt (blk_lt (g := gb158) (o := .cells #[.slice A0_0 l0_0.length c0_0] 24 (0, 0)) (by (with_reducible repeat (first | refine ba9 ?_ _ | refine bb9 ?_ | refine bc9 ?_ _)); exact BK158.out)) : gb158 ≠ gb178)); have NB178_158 := am9_ ((by rw [hg]; exact Nat.ne_of_gt (blk_lt (g := gb158) (o := .cells #[.slice A0_0 l0_0.length c0_0] 24 (0, 0)) (by (with_reducible repeat (first | refine ba9 ?_ _ | refine bb9 ?_ | refine bc9 ?_ _)); exact BK158.out)) : gb178 ≠ gb158)); replace BK158 := am9_ (blk_below (g := gb158) (o := .cells #[.slice A0_0 l0_0.length c0_0] 24 (0, 0)) (by (with_reducible repeat (first | refine ba9 ?_ _ | refine bb9 ?_ | refine bc9 ?_ _)); exact BK158.out) hb); have NB174_178 := am9_ ((by rw [hg]; exact Nat.ne_of_lt (blk_lt (g := gb174) (o := .cells #[.slice Ao57 y171.length co57] 24 (0, 0)) (by (with_reducible repeat (first | refine ba9 ?_ _ | refine bb9 ?_ | refine bc9 ?_ _)); exact BK174.out)) : gb174 ≠ gb178)); have NB178_174 := am9_ ((by rw [hg]; exact Nat.ne_of_gt (blk_lt (g := gb174) (o := .cells #[.slice Ao57 y171.length co57] 24 (0, 0)) (by (with_reducible repeat (first | refine ba9 ?_ _ | refine bb9 ?_ | refine bc9 ?_ _)); exact BK174.out)) : gb178 ≠ gb174)); replace BK174 := am9_ (blk_below (g := gb174) (o := .cells #[.slice Ao57 y171.length co57] 24 (0, 0)) (by (with_reducible repeat (first | refine ba9 ?_ _ | refine bb9 ?_ | refine bc9 ?_ _)); exact BK174.out) hb); clear hb hbox hg; have hnb65 := NB178_158.out; have hnc65 := NB158_178.out; have hnb66 := NB178_174.out; have hnc66 := NB174_178.out; have hcz67_0 : w64.cell? ⟨gb178, 0, none⟩ = some (.slice none 0 0) := (blk_cell BK178.out 0).trans rfl; have hfz67_0 := blk_frozen BK178.out 0))
     have n0_ : Aside0 (Kd.V k34 34 (w64.setCell ⟨gb178, 0, none⟩ (.slice Ao63 y175.length co63)) w.heap.size (fun k_ => (P0_0_ k_ ∨ w.heap.size ≤ k_) ∧ some k_ ≠ (.slice Ao56 y168.length co56 : Value).ownBlock ∧ some k_ ≠ (.slice Ao57 y171.length co57 : Value).ownBlock ∧ some k_ ≠ (.slice Ao63 y175.length co63 : Value).ownBlock ∧ k_ ≠ gb158 ∧ k_ ≠ gb174 ∧ k_ ≠ gb178) (.slice A0_0 l0_0.length c0_0) l0_0) := ⟨by (with_reducible repeat (first | apply va9 | apply vb9 | apply vc9)); exact Kd.V_mono (Kd.V_far (p := ⟨gb178, 0, none⟩) (Kd.V_mono HO_159000.out (fun k_ hk => (⟨hk, hk.2⟩ : _ ∧ k_ ≠ gb178))) (fun _ h => by first | exact h.2 | exact h | trivial) (.slice Ao63 y175.length co63)) (fun _ hk => ⟨hk.1.1.1.1.1.1, ⟨hk.1.1.1.1.1.2.1, ⟨hk.1.1.1.1.2, ⟨hk.1.1.2, ⟨hk.1.1.1.1.1.2.2, ⟨hk.1.1.1.2, hk.1.2⟩⟩⟩⟩⟩⟩)⟩
     have n1_ : Aside0 (Kd.N k34 34 (w64.setCell ⟨gb178, 0, none⟩ (.slice Ao63 y175.length co63)) w.heap.size (fun k_ => (P0_0_ k_ ∨ w.heap.size ≤ k_) ∧ some k_ ≠ (.slice Ao57 y171.length co57 : Value).ownBlock ∧ some k_ ≠ (.slice Ao63 y175.length co63 : Value).ownBlock ∧ k_ ≠ gb158 ∧ k_ ≠ gb174 ∧ k_ ≠ gb178) (.slice Ao56 y168.length co56) y168) := ⟨by (with_reducible repeat (first | apply na9 | apply nb9 | apply nc9)); exact Kd.N_mono (Kd.N_far (p := ⟨gb178, 0, none⟩) (Kd.N_mono HO170.out (fun k_ hk => (⟨hk, hk.2⟩ : _ ∧ k_ ≠ gb178))) (fun _ h => by first | exact h.2 | exact h | trivial) (.slice Ao63 y175.length co63)) (fun _ hk => ⟨hk.1.1.1.1.1.1, ⟨hk.1.1.1.1.2, ⟨hk.1.1.2, ⟨hk.1.1.1.1.1.2, ⟨hk.1.1.1.2, hk.1.2⟩⟩⟩⟩⟩)⟩
     have n2_ : Aside0 (Kd.N k34 34 (w64.setCell ⟨gb178, 0, none⟩ (.slice Ao63 y175.length co63)) w.heap.size (fun k_ => (P0_0_ k_ ∨ w.heap.size ≤ k_) ∧ some k_ ≠ (.slice Ao63 y175.length co63 : Value).ownBlock ∧ k_ ≠ gb158 ∧ k_ ≠ gb174 ∧ k_ ≠ gb178) (.slice Ao57 y171.length co57) y171) := ⟨by (with_reducible repeat (first | apply na9 | apply nb9 | apply nc9)); exact Kd.N_mono (Kd.N_far (p := ⟨gb178, 0, none⟩) (Kd.N_mono HO173.out (fun k_ hk => (⟨hk, hk.2⟩ : _ ∧ k_ ≠ gb178))) (fun _ h => by first | exact h.2 | exact h | trivial) (.slice Ao63 y175.length co63)) (fun _ hk => ⟨hk.1.1.1.1.1, ⟨hk.1.1.2, ⟨hk.1.1.1.1.2, ⟨hk.1.1.1.2, hk.1.2⟩⟩⟩⟩)⟩
     have n3_ : Aside0 (Kd.N k34 34 (w64.setCell ⟨gb178, 0, none⟩ (.slice Ao63 y175.length co63)) w.heap.size (fun k_ => (P0_0_ k_ ∨ w.heap.size ≤ k_) ∧ some k_ ≠ (.slice Ao56 y168.length co56 : Value).ownBlock ∧ some k_ ≠ (.slice Ao57 y171.length co57 : Value).ownBlock ∧ k_ ≠ gb158 ∧ k_ ≠ gb174 ∧ k_ ≠ gb178) (.slice Ao63 y175.length co63) y175) := ⟨by (with_reducible repeat (first | apply na9 | apply nb9 | apply nc9)); exact Kd.N_mono (Kd.N_far (p := ⟨gb178, 0, none⟩) (Kd.N_mono HO177.out (fun k_ hk => (⟨hk, hk.2⟩ : _ ∧ k_ ≠ gb178))) (fun _ h => by first | exact h.2 | exact h | trivial) (.slice Ao63 y175.length co63)) (fun _ hk => ⟨hk.1.1.1, ⟨hk.1.1.2.1, ⟨hk.1.1.2.2.1, ⟨hk.1.1.2.2.2.1, ⟨hk.1.1.2.2.2.2, hk.1.2⟩⟩⟩⟩⟩)⟩
     have n4_ : Aside0 ((w64.setCell ⟨gb178, 0, none⟩ (.slice Ao63 y175.length co63)).heap[gb158]? = some (.cells #[.slice A0_0 l0_0.length c0_0] 24 (0, 0))) := ⟨by (with_reducible repeat (first | refine ba9 ?_ _ | refine bb9 ?_ | refine bc9 ?_ _)); refine blk_far ?_ NB158_178.out _; (with_reducible repeat (first | refine ba9 ?_ _ | refine bb9 ?_ | refine bc9 ?_ _)); exact BK158.out⟩
     have n5_ : Aside0 ((w64.setCell ⟨gb178, 0, none⟩ (.slice Ao63 y175.length co63)).heap[gb174]? = some (.cells #[.slice Ao57 y171.length co57] 24 (0, 0))) := ⟨by (with_reducible repeat (first | refine ba9 ?_ _ | refine bb9 ?_ | refine bc9 ?_ _)); refine blk_far ?_ NB174_178.out _; (with_reducible repeat (first | refine ba9 ?_ _ | refine bb9 ?_ | refine bc9 ?_ _)); exact BK174.out⟩
     have n6_ : Aside0 ((w64.setCell ⟨gb178, 0, none⟩ (.slice Ao63 y175.length co63)).heap[gb178]? = some (.cells #[.slice Ao63 y175.length co63] 24 (0, 0))) := ⟨by (with_reducible repeat (first | refine ba9 ?_ _ | refine bb9 ?_ | refine bc9 ?_ _)); refine blk_put (cs := #[.slice none 0 0]) ?_ 0 _ rfl; (with_reducible repeat (first | refine ba9 ?_ _ | refine bb9 ?_ | refine bc9 ?_ _)); exact BK178.out⟩
     have n7_ : Aside0 (Below w.heap.size w (w64.setCell ⟨gb178, 0, none⟩ (.slice Ao63 y175.length co63))) := ⟨by repeat (first | (with_reducible first | exact HB.out | apply wa9 | apply wb9 | apply wc9 | refine wd9 ?_ GE158.out | refine wd9 ?_ GE174.out | refine wd9 ?_ GE178.out) | exact HB.out)⟩
     (try clear HO_159000)
     (try clear HO170)
     (try clear HO173)
     (try clear HO177)
     (try clear BK158)
     (try clear BK174)
     (try clear BK178)
     (try clear HB)
     generalize (w64.setCell ⟨gb178, 0, none⟩ (.slice Ao63 y175.length co63)) = w68 at n0_ n1_ n2_ n3_ n4_ n5_ n6_ n7_ ⊢
     have HO_159000 := n0_
     have HO170 := n1_
     have HO173 := n2_
     have HO177 := n3_
     have BK158 := n4_
     have BK174 := n5_
     have BK178 := n6_
     have HB := n7_
     clear n0_ n1_ n2_ n3_ n4_ n5_ n6_ n7_
     replace HO_159000 := am9_ (vc9 HO_159000.out)
     replace HO170 := am9_ (nc9 HO170.out)
     replace HO173 := am9_ (nc9 HO173.out)
     replace HO177 := am9_ (nc9 HO177.out)
     replace BK158 := am9_ (bb9 BK158.out)
     replace BK174 := am9_ (bb9 BK174.out)
     replace BK178 := am9_ (bb9 BK178.out)
     replace HB := am9_ (wc9 HB.out)
     have p179 : 0 ≤ (a1 : Int) := od9 (by first | (with_reducible assumption) | assumption)
     have q179 : a1 < (l0_0.length : Int) := od9 (by first | (with_reducible assumption) | assumption)
     obtain ⟨ad179, A179_1, c179_1, e179, hx179_0, hx179_1, hl179_1, hi179_1⟩ := at_T34 (Kd.V_reads' HO_159000.out).2.2 a1 p179 q179
     cases e179
     obtain ⟨ce179, hce179, hMe179, hcc179⟩ := Kd.V_get HO_159000.out z34 a1 p179 (by first | exact q179 | exact od9 (by first | (with_reducible assumption) | assumption) | (have e_ := (Kd.V_reads' HO_159000.out).1; omega))
     obtain ⟨ua179_1, uc179_1, rfl, ul179_1, ge179_1⟩ := k34_openF hMe179
     have hv179_1 := hcc179 1 _ rfl
     rw [add_field _ _ 1 (by omega)] at hv179_1
     replace hv179_1 := Option.some.inj (hv179_1.symm.trans hx179_1)
     injection hv179_1 with hva_ hvn_ hvc_
     rw [hva_] at ge179_1
     rw [hvc_] at ul179_1
     have HL179_1 := am9_ (show Kd.V k40 40 _ w.heap.size _ _ ((rd_T34 l0_0 a1).f1) from Kd.V_mk ul179_1 ge179_1)
     clear hva_ hvn_ hvc_ ge179_1 ul179_1 hcc179 hce179
     have HR179_1 := Aside0.mk hi179_1
     have HC179_1 := Aside0.mk hl179_1
     clear hi179_1 hl179_1
     replace p179 := eq_true p179
     replace q179 := eq_true q179
     as_aux_lemma =>
     refine start_ (n := 17) (S := fun w' => w'.cell? ⟨gb178, 0, none⟩ = some (.slice Ao63 y175.length co63) ∧ w'.cell? ⟨gb158, 0, none⟩ = some (.slice (some ad179) l0_0.length c0_0) ∧ w'.cell? (ad179.add ((a1).toNat * 2)) = some (.string ((rd_T34 l0_0 a1).f0)) ∧ w'.cell? ⟨(ad179.add ((a1).toNat * 2)).block, (ad179.add ((a1).toNat * 2)).off + 1, none⟩ = some (.slice A179_1 ((rd_T34 l0_0 a1).f1).length c179_1)) (ds := [16]) (z9 17 0) (by kernel_rfl) rfl rfl ⟨(blk_cell BK178.out 0).trans rfl, (blk_cell BK158.out 0).trans rfl, hx179_0, hx179_1⟩ (fun hHeld => ?_); refine with_tabW foliatelaw06_SchemaMore.tab10 foliatelaw06_SchemaMore.bits10 (fun HT_ HW_ => ?_)
     generalize w68.drew = w69 at HO_159000 HO170 HO173 HO177 BK158 BK174 BK178 HB HL179_1 HR179_1 hx179_0 hx179_1 hHeld ⊢
     refine pure_ (i := 0) (N := some 66) (v := ?_) (a' := ?_) (z9 17 1) rfl rfl (ao9 HT_.out (by kernel_rfl)) (fun _ _ _ h => h) (Or.inl ⟨by rfl, ?_⟩) ?_ ?_; rotate_left; (·intro w'; go_simp; with_reducible rfl); rotate_left; (·simp only [Act.put, k19, k29, k39, i64_w, i32_w]; rfl)
     refine pure_ (i := 2) (N := some 68) (v := ?_) (a' := ?_) (z9 17 5) rfl rfl (ao9 HT_.out (by kernel_rfl)) (fun _ _ _ h => h) (Or.inl ⟨by rfl, ?_⟩) ?_ ?_; rotate_left; (·intro w'; go_simp; with_reducible rfl); rotate_left; (·simp only [Act.put, k19, k29, k39, i64_w, i32_w]; rfl)
     refine pure_ (i := 3) (N := some 69) (v := ?_) (a' := ?_) (z9 17 13) rfl rfl (ao9 HT_.out (by kernel_rfl)) (fun _ _ _ h => h) (Or.inl ⟨by rfl, ?_⟩) ?_ ?_; rotate_left; (·intro w'; go_simp; with_reducible rfl); rotate_left; (·simp only [Act.put, k19, k29, k39, i64_w, i32_w]; rfl)
     refine pure_ (i := 5) (N := some 71) (v := ?_) (a' := ?_) (z9 17 45) rfl rfl (ao9 HT_.out (by kernel_rfl)) (fun _ _ _ h => h) (Or.inl ⟨by rfl, ?_⟩) ?_ ?_; rotate_left; (·intro w'; go_simp; with_reducible rfl); rotate_left; (·simp only [Act.put, k19, k29, k39, i64_w, i32_w]; rfl)
     refine pure_ (i := 10) (N := some 76) (v := ?_) (a' := ?_) (z9 17 1069) rfl rfl (ao9 HT_.out (by kernel_rfl)) (fun _ _ _ h => h) (Or.inl ⟨by rfl, ?_⟩) ?_ ?_; rotate_left; (·intro w'; go_simp; with_reducible rfl); rotate_left; (·simp only [Act.put, k19, k29, k39, i64_w, i32_w]; rfl)
     refine pure_ (i := 11) (N := some 77) (v := ?_) (a' := ?_) (z9 17 3117) rfl rfl (ao9 HT_.out (by kernel_rfl)) (fun _ _ _ h => h) (Or.inl ⟨by rfl, ?_⟩) ?_ ?_; rotate_left; (·intro w'; go_simp; with_reducible rfl); rotate_left; (·simp only [Act.put, k19, k29, k39, i64_w, i32_w]; rfl)
     refine take_ (i := 1) (N := some 67) (v := ?_) (a' := ?_) (z9 17 3119) rfl rfl (tw9 HT_.out HW_.out (by kernel_rfl)) (fun _ _ _ h => h) (Or.inl ⟨by rfl, ?_⟩) hHeld ?_ ?_
     rotate_left
     ·rintro w' ⟨s0, s1, s2, s3⟩
      go_simp
      with_reducible rfl
     rotate_left
     ·simp only [Act.put, k19, k29, k39, i64_w, i32_w]
      rfl
     refine take_ (i := 4) (N := some 70) (v := ?_) (a' := ?_) (z9 17 3135) rfl rfl (tw9 HT_.out HW_.out (by kernel_rfl)) (fun _ _ _ h => h) (Or.inl ⟨by rfl, ?_⟩) hHeld ?_ ?_
     rotate_left
     ·rintro w' ⟨s0, s1, s2, s3⟩
      go_simp
      with_reducible rfl
     rotate_left
     ·simp only [Act.put, k19, k29, k39, i64_w, i32_w]
      rfl
     refine pure_ (i := 6) (N := some 72) (v := ?_) (a' := ?_) (z9 17 3199) rfl rfl (ao9 HT_.out (by kernel_rfl)) (fun _ _ _ h => h) (Or.inl ⟨by rfl, ?_⟩) ?_ ?_; rotate_left; (·intro w'; go_simp; with_reducible rfl); rotate_left; (·simp only [Act.put, k19, k29, k39, i64_w, i32_w]; rfl)
     refine pure_ (i := 7) (N := some 73) (v := ?_) (a' := ?_) (z9 17 3327) rfl rfl (ao9 HT_.out (by kernel_rfl)) (fun _ _ _ h => h) (Or.inl ⟨by rfl, ?_⟩) ?_ ?_; rotate_left; (·intro w'; go_simp; with_reducible rfl); rotate_left; (·simp only [Act.put, k19, k29, k39, i64_w, i32_w]; rfl)
     refine take_ (i := 8) (N := some 74) (v := ?_) (a' := ?_) (z9 17 3583) rfl rfl (tw9 HT_.out HW_.out (by kernel_rfl)) (fun _ _ _ h => h) (Or.inl ⟨by rfl, ?_⟩) hHeld ?_ ?_
     rotate_left
     ·rintro w' ⟨s0, s1, s2, s3⟩
      go_simp
      with_reducible rfl
     rotate_left
     ·simp only [Act.put, k19, k29, k39, i64_w, i32_w]
      rfl
     refine join_ (σ := Value × Value) 4 (z9 17 8191) (fun s_ => [(75, s_.1), (78, s_.2)]) (fun s_ w' => (w'.cell? ⟨gb178, 0, none⟩ = some (.slice Ao63 y175.length co63) ∧ w'.cell? ⟨gb158, 0, none⟩ = some (.slice (some ad179) l0_0.length c0_0) ∧ w'.cell? (ad179.add ((a1).toNat * 2)) = some (.string ((rd_T34 l0_0 a1).f0)) ∧ w'.cell? ⟨(ad179.add ((a1).toNat * 2)).block, (ad179.add ((a1).toNat * 2)).off + 1, none⟩ = some (.slice A179_1 ((rd_T34 l0_0 a1).f1).length c179_1)) ∧ (Kd.V k40 40 w' w.heap.size (fun k_ => (P0_0_ k_ ∨ w.heap.size ≤ k_) ∧ some k_ ≠ (.slice Ao56 y168.length co56 : Value).ownBlock ∧ some k_ ≠ (.slice Ao57 y171.length co57 : Value).ownBlock ∧ some k_ ≠ (.slice Ao63 y175.length co63 : Value).ownBlock ∧ some k_ ≠ (s_.1 : Value).ownBlock ∧ some k_ ≠ (s_.2 : Value).ownBlock ∧ k_ ≠ gb158 ∧ k_ ≠ gb174 ∧ k_ ≠ gb178) (.slice A179_1 ((rd_T34 l0_0 a1).f1).length c179_1) ((rd_T34 l0_0 a1).f1)) ∧ (Kd.N k34 34 w' w.heap.size (fun k_ => (P0_0_ k_ ∨ w.heap.size ≤ k_) ∧ some k_ ≠ (.slice Ao57 y171.length co57 : Value).ownBlock ∧ some k_ ≠ (.slice Ao63 y175.length co63 : Value).ownBlock ∧ some k_ ≠ (s_.1 : Value).ownBlock ∧ some k_ ≠ (s_.2 : Value).ownBlock ∧ k_ ≠ gb158 ∧ k_ ≠ gb174 ∧ k_ ≠ gb178) (.slice Ao56 y168.length co56) y168) ∧ (Kd.N k34 34 w' w.heap.size (fun k_ => (P0_0_ k_ ∨ w.heap.size ≤ k_) ∧ some k_ ≠ (.slice Ao63 y175.length co63 : Value).ownBlock ∧ some k_ ≠ (s_.1 : Value).ownBlock ∧ some k_ ≠ (s_.2 : Value).ownBlock ∧ k_ ≠ gb158 ∧ k_ ≠ gb174 ∧ k_ ≠ gb178) (.slice Ao57 y171.length co57) y171) ∧ (Kd.N k34 34 w' w.heap.size (fun k_ => (P0_0_ k_ ∨ w.heap.size ≤ k_) ∧ some k_ ≠ (.slice Ao56 y168.length co56 : Value).ownBlock ∧ some k_ ≠ (.slice Ao57 y171.length co57 : Value).ownBlock ∧ some k_ ≠ (s_.1 : Value).ownBlock ∧ some k_ ≠ (s_.2 : Value).ownBlock ∧ k_ ≠ gb158 ∧ k_ ≠ gb174 ∧ k_ ≠ gb178) (.slice Ao63 y175.length co63) y175) ∧ (Kd.R k40 40 w' w.heap.size (fun k_ => (w.heap.size ≤ k_) ∧ some k_ ≠ (s_.2 : Value).ownBlock) s_.1 y180) ∧ (Kd.R k40 40 w' w.heap.size (fun k_ => (w.heap.size ≤ k_) ∧ some k_ ≠ (s_.1 : Value).ownBlock) s_.2 y183) ∧ (Kd.V k34 34 w' w.heap.size (fun k_ => (P0_0_ k_ ∨ w.heap.size ≤ k_) ∧ some k_ ≠ (.slice Ao56 y168.length co56 : Value).ownBlock ∧ some k_ ≠ (.slice Ao57 y171.length co57 : Value).ownBlock ∧ some k_ ≠ (.slice Ao63 y175.length co63 : Value).ownBlock ∧ some k_ ≠ (s_.1 : Value).ownBlock ∧ some k_ ≠ (s_.2 : Value).ownBlock ∧ k_ ≠ gb158 ∧ k_ ≠ gb174 ∧ k_ ≠ gb178) (.slice (some ad179) l0_0.length c0_0) l0_0) ∧ (w'.heap[gb158]? = some (.cells #[.slice (some ad179) l0_0.length c0_0] 24 (0, 0))) ∧ (w'.heap[gb174]? = some (.cells #[.slice Ao57 y171.length co57] 24 (0, 0))) ∧ (w'.heap[gb178]? = some (.cells #[.slice Ao63 y175.length co63] 24 (0, 0))) ∧ (Below w.heap.size w w')) ?_ ?_
     rotate_left
     ·intro hCont
      refine two_ (i := 9) (j := 12) (Ni := some 75) (Nj := some 78) (z9 17 4095) (z9 17 7679) rfl rfl rfl rfl (two_of HT_.out (by kernel_rfl)) (by decide) (by decide) (fun K hK => ?_) (fun K hK => ?_)
      ·skip
       refine Kd.R_append_rows_step k40 (w0 := w) w.heap.size (by rfl) (.const (.slice none 0 0)) (.tmp 74) 32 40 (.agg #[(.string ⟨#[]⟩), (.int .i64 0), (.string ⟨#[]⟩)]) 40 rfl Try.underlying32 info40 rfl (by decide) (by omega) (.slice none 0 0) ([] : List (S40)) ((rd_T34 l0_0 a1).f1) _ _ _ (fun k_ => (w.heap.size ≤ k_)) (fun _ => False) rfl rfl ?aO ?aR (fun _ _ h => h) (fun _ h => h.elim) ?aF ?aB ?aS ?aL ?_
       (case aR => exact HR179_1.out)
       (case aB => exact HB.out)
       (case aF => exact (fun k_ hk => (Nat.le_trans (below_size HB.out) hk)))
       (case aO => exact ((Kd.R_nil _ _ _ _ (fun k_ => (w.heap.size ≤ k_)))))
       (case aS => exact (below_size HB.out))
       (case aL => have := LMc40.out; omega)
       intro v181 w70 ho hb hg hat
       have HS2_ := cell_grown hg (hHeld.2.2.1) (by first | (rw [add_block]; exact (by simp [Value.ownBlock])) | (show some (Addr.add _ _).block ≠ _; rw [add_block]; exact (by simp [Value.ownBlock])) | exact (by simp [Value.ownBlock]))
       have HS3_ := cell_grown hg (hHeld.2.2.2) (by first | (rw [add_block]; exact (by simp [Value.ownBlock])) | (show some (Addr.add _ _).block ≠ _; rw [add_block]; exact (by simp [Value.ownBlock])) | exact (by simp [Value.ownBlock]))
       rw [← Ny180.out] at ho
       replace HO_159000 := am9_ (Kd.V_afterv (Kd.V_apart_nil HO_159000.out) hg hat)
       replace BK158 := am9_ (blk_grown BK158.out hg (by simp [Value.ownBlock]))
       replace HO170 := am9_ (Kd.N_afterv (Kd.N_apart_nil HO170.out) hg hat)
       replace HO173 := am9_ (Kd.N_afterv (Kd.N_apart_nil HO173.out) hg hat)
       replace BK174 := am9_ (blk_grown BK174.out hg (by simp [Value.ownBlock]))
       replace HO177 := am9_ (Kd.N_afterv (Kd.N_apart_nil HO177.out) hg hat)
       replace BK178 := am9_ (blk_grown BK178.out hg (by simp [Value.ownBlock]))
       replace HL179_1 := am9_ (Kd.V_afterv (Kd.V_apart_nil HL179_1.out) hg hat)
       replace HB := am9_ (hb)
       have HO182 := am9_ (ho)
       clear ho hb hg hat
       refine hK.out _ _ ⟨(blk_cell BK178.out 0).trans rfl, (blk_cell BK158.out 0).trans rfl, HS2_, HS3_⟩ (fun hHeld => ?_)
       clear hK K
       refine norm_ (a' := ?_) ?_ ?_
       rotate_left
       ·show Act.put _ (some 75) _ = _
        simp only [Act.put, k19, k29, k39, i64_w, i32_w]
        rfl
       refine one_ (i := 12) (N := some 78) (z9 17 8191) rfl rfl (one_of HT_.out (by kernel_rfl)) (by decide) (fun K hK => ?_)
       refine Kd.R_lit_step k40 _ 40 ?hg (N := 78) ?hd (xs := ([(⟨(⟨#[122, 122, 122, 122, 57, 57, 57, 57]⟩ : ByteArray), 4, (⟨#[]⟩ : ByteArray)⟩ : S40)] : List (S40))) (inner := [.string (⟨#[122, 122, 122, 122, 57, 57, 57, 57]⟩ : ByteArray), .int .i64 4, .string (⟨#[]⟩ : ByteArray)]) (ok := fun _ => True) (okp := fun _ => True) ?hr ?hp (fun _ hk => hk) trivial (Below.refl _ _) (Nat.le_refl _) (by simp) ?_; (case hd => rfl); (case hg => rfl); (case hr => first | (go_simp; done) | (go_simp; rfl)); (case hp => exact (Reps.c3 (show Kd.M k40 _ _ _ (⟨(⟨#[122, 122, 122, 122, 57, 57, 57, 57]⟩ : ByteArray), 4, (⟨#[]⟩ : ByteArray)⟩ : S40) [.string (⟨#[122, 122, 122, 122, 57, 57, 57, 57]⟩ : ByteArray), .int .i64 4, .string (⟨#[]⟩ : ByteArray)] from (k40_mkM _ _ _ (⟨(⟨#[122, 122, 122, 122, 57, 57, 57, 57]⟩ : ByteArray), 4, (⟨#[]⟩ : ByteArray)⟩ : S40) )) (Reps.none _ _)))
       intro v184 w71 ho72 hb hg_ hnew_
       have HS2_ := (hb.cell (wl9 _ _ (hHeld.2.2.1))).trans (hHeld.2.2.1)
       have HS3_ := (hb.cell (wl9 _ _ (hHeld.2.2.2))).trans (hHeld.2.2.2)
       clear hg_ hnew_
       (first | rw [← Ny183.out] at ho72 | (simp only [Int.reduceToNat] at ho72; rw [← Ny183.out] at ho72))
       replace HO_159000 := am9_ (Kd.V_elder' HO_159000.out (Kd.R_base ho72) hb)
       replace HO170 := am9_ (Kd.N_elder' HO170.out (Kd.R_base ho72) hb)
       replace HO173 := am9_ (Kd.N_elder' HO173.out (Kd.R_base ho72) hb)
       replace HO177 := am9_ (Kd.N_elder' HO177.out (Kd.R_base ho72) hb)
       replace HL179_1 := am9_ (Kd.V_elder' HL179_1.out (Kd.R_base ho72) hb)
       have HO185 := am9_ (Kd.R_lower (Kd.R_new' (Kd.R_newM (M := fun k_ => (w.heap.size ≤ k_)) ho72 (below_size HB.out) (fun k_ h_ => h_)) (Kd.R_lt HO182.out)) (below_size HB.out))
       replace HO182 := am9_ (Kd.R_elder' HO182.out (Kd.R_base ho72) hb)
       replace BK158 := am9_ (blk_below BK158.out hb)
       replace BK174 := am9_ (blk_below BK174.out hb)
       replace BK178 := am9_ (blk_below BK178.out hb)
       replace HB := am9_ (below_step HB.out hb)
       clear hb ho72
       refine hK.out _ _ ⟨(blk_cell BK178.out 0).trans rfl, (blk_cell BK158.out 0).trans rfl, HS2_, HS3_⟩ (fun hHeld => ?_)
       clear hK K
       refine norm_ (a' := ?_) ?_ ?_
       rotate_left
       ·show Act.put _ (some 78) _ = _
        simp only [Act.put, k19, k29, k39, i64_w, i32_w]
        rfl
       exact norm_ (by simp only [putAll, Act.put, List.setIfInBounds_toArray, List.set_cons_zero, List.set_cons_succ]) (hCont (v181, v184) _ ⟨hHeld, (Kd.V_mono HL179_1.out (fun _ hk => ⟨hk.1.1.1, ⟨hk.1.1.2.1, ⟨hk.1.1.2.2.1, ⟨hk.1.1.2.2.2.1, ⟨hk.1.2, ⟨hk.2, ⟨hk.1.1.2.2.2.2.1, ⟨hk.1.1.2.2.2.2.2.1, hk.1.1.2.2.2.2.2.2⟩⟩⟩⟩⟩⟩⟩⟩)), (Kd.N_mono HO170.out (fun _ hk => ⟨hk.1.1.1, ⟨hk.1.1.2.1, ⟨hk.1.1.2.2.1, ⟨hk.1.2, ⟨hk.2, ⟨hk.1.1.2.2.2.1, ⟨hk.1.1.2.2.2.2.1, hk.1.1.2.2.2.2.2⟩⟩⟩⟩⟩⟩⟩)), (Kd.N_mono HO173.out (fun _ hk => ⟨hk.1.1.1, ⟨hk.1.1.2.1, ⟨hk.1.2, ⟨hk.2, ⟨hk.1.1.2.2.1, ⟨hk.1.1.2.2.2.1, hk.1.1.2.2.2.2⟩⟩⟩⟩⟩⟩)), (Kd.N_mono HO177.out (fun _ hk => ⟨hk.1.1.1, ⟨hk.1.1.2.1, ⟨hk.1.1.2.2.1, ⟨hk.1.2, ⟨hk.2, ⟨hk.1.1.2.2.2.1, ⟨hk.1.1.2.2.2.2.1, hk.1.1.2.2.2.2.2⟩⟩⟩⟩⟩⟩⟩)), HO182.out, (Kd.R_mono HO185.out (fun _ hk => ⟨hk.1.1, hk.2⟩)), (Kd.V_mono HO_159000.out (fun _ hk => ⟨hk.1.1.1, ⟨hk.1.1.2.1, ⟨hk.1.1.2.2.1, ⟨hk.1.1.2.2.2.1, ⟨hk.1.2, ⟨hk.2, ⟨hk.1.1.2.2.2.2.1, ⟨hk.1.1.2.2.2.2.2.1, hk.1.1.2.2.2.2.2.2⟩⟩⟩⟩⟩⟩⟩⟩)), BK158.out, BK174.out, BK178.out, HB.out⟩)
      ·skip
       refine Kd.R_lit_step k40 _ 40 ?hg (N := 78) ?hd (xs := ([(⟨(⟨#[122, 122, 122, 122, 57, 57, 57, 57]⟩ : ByteArray), 4, (⟨#[]⟩ : ByteArray)⟩ : S40)] : List (S40))) (inner := [.string (⟨#[122, 122, 122, 122, 57, 57, 57, 57]⟩ : ByteArray), .int .i64 4, .string (⟨#[]⟩ : ByteArray)]) (ok := fun _ => True) (okp := fun _ => True) ?hr ?hp (fun _ hk => hk) trivial (Below.refl _ _) (Nat.le_refl _) (by simp) ?_; (case hd => rfl); (case hg => rfl); (case hr => first | (go_simp; done) | (go_simp; rfl)); (case hp => exact (Reps.c3 (show Kd.M k40 _ _ _ (⟨(⟨#[122, 122, 122, 122, 57, 57, 57, 57]⟩ : ByteArray), 4, (⟨#[]⟩ : ByteArray)⟩ : S40) [.string (⟨#[122, 122, 122, 122, 57, 57, 57, 57]⟩ : ByteArray), .int .i64 4, .string (⟨#[]⟩ : ByteArray)] from (k40_mkM _ _ _ (⟨(⟨#[122, 122, 122, 122, 57, 57, 57, 57]⟩ : ByteArray), 4, (⟨#[]⟩ : ByteArray)⟩ : S40) )) (Reps.none _ _)))
       intro v184 w70 ho71 hb hg_ hnew_
       have HS2_ := (hb.cell (wl9 _ _ (hHeld.2.2.1))).trans (hHeld.2.2.1)
       have HS3_ := (hb.cell (wl9 _ _ (hHeld.2.2.2))).trans (hHeld.2.2.2)
       clear hg_ hnew_
       (first | rw [← Ny183.out] at ho71 | (simp only [Int.reduceToNat] at ho71; rw [← Ny183.out] at ho71))
       replace HO_159000 := am9_ (Kd.V_elder' HO_159000.out (Kd.R_base ho71) hb)
       replace HO170 := am9_ (Kd.N_elder' HO170.out (Kd.R_base ho71) hb)
       replace HO173 := am9_ (Kd.N_elder' HO173.out (Kd.R_base ho71) hb)
       replace HO177 := am9_ (Kd.N_elder' HO177.out (Kd.R_base ho71) hb)
       replace HL179_1 := am9_ (Kd.V_elder' HL179_1.out (Kd.R_base ho71) hb)
       have HO185 := am9_ (Kd.R_lower (Kd.R_newM (M := fun k_ => (w.heap.size ≤ k_)) ho71 (below_size HB.out) (fun k_ h_ => h_)) (below_size HB.out))
       replace BK158 := am9_ (blk_below BK158.out hb)
       replace BK174 := am9_ (blk_below BK174.out hb)
       replace BK178 := am9_ (blk_below BK178.out hb)
       replace HR179_1 := am9_ (Kd.C_below HR179_1.out hb)
       replace HB := am9_ (below_step HB.out hb)
       clear hb ho71
       refine hK.out _ _ ⟨(blk_cell BK178.out 0).trans rfl, (blk_cell BK158.out 0).trans rfl, HS2_, HS3_⟩ (fun hHeld => ?_)
       clear hK K
       refine norm_ (a' := ?_) ?_ ?_
       rotate_left
       ·show Act.put _ (some 78) _ = _
        simp only [Act.put, k19, k29, k39, i64_w, i32_w]
        rfl
       refine one_ (i := 9) (N := some 75) (z9 17 8191) rfl rfl (one_of HT_.out (by kernel_rfl)) (by decide) (fun K hK => ?_)
       refine Kd.R_append_rows_step k40 (w0 := w) w.heap.size (by rfl) (.const (.slice none 0 0)) (.tmp 74) 32 40 (.agg #[(.string ⟨#[]⟩), (.int .i64 0), (.string ⟨#[]⟩)]) 40 rfl Try.underlying32 info40 rfl (by decide) (by omega) (.slice none 0 0) ([] : List (S40)) ((rd_T34 l0_0 a1).f1) _ _ _ (fun k_ => (w.heap.size ≤ k_) ∧ some k_ ≠ (v184 : Value).ownBlock) (fun _ => False) rfl rfl ?aO ?aR (fun _ _ h => h) (fun _ h => h.elim) ?aF ?aB ?aS ?aL ?_
       (case aR => exact HR179_1.out)
       (case aB => exact HB.out)
       (case aF => exact (fun k_ hk => ⟨(Nat.le_trans (below_size HB.out) hk), Kd.fresh' (Kd.R_lt HO185.out) k_ hk⟩))
       (case aO => exact ((Kd.R_nil _ _ _ _ (fun k_ => (w.heap.size ≤ k_) ∧ some k_ ≠ (v184 : Value).ownBlock))))
       (case aS => exact (below_size HB.out))
       (case aL => have := LMc40.out; omega)
       intro v181 w72 ho hb hg hat
       have HS2_ := cell_grown hg (hHeld.2.2.1) (by first | (rw [add_block]; exact (by simp [Value.ownBlock])) | (show some (Addr.add _ _).block ≠ _; rw [add_block]; exact (by simp [Value.ownBlock])) | exact (by simp [Value.ownBlock]))
       have HS3_ := cell_grown hg (hHeld.2.2.2) (by first | (rw [add_block]; exact (by simp [Value.ownBlock])) | (show some (Addr.add _ _).block ≠ _; rw [add_block]; exact (by simp [Value.ownBlock])) | exact (by simp [Value.ownBlock]))
       rw [← Ny180.out] at ho
       replace HO_159000 := am9_ (Kd.V_afterv (Kd.V_apart_nil HO_159000.out) hg hat)
       replace BK158 := am9_ (blk_grown BK158.out hg (by simp [Value.ownBlock]))
       replace HO170 := am9_ (Kd.N_afterv (Kd.N_apart_nil HO170.out) hg hat)
       replace HO173 := am9_ (Kd.N_afterv (Kd.N_apart_nil HO173.out) hg hat)
       replace BK174 := am9_ (blk_grown BK174.out hg (by simp [Value.ownBlock]))
       replace HO177 := am9_ (Kd.N_afterv (Kd.N_apart_nil HO177.out) hg hat)
       replace BK178 := am9_ (blk_grown BK178.out hg (by simp [Value.ownBlock]))
       replace HL179_1 := am9_ (Kd.V_afterv (Kd.V_apart_nil HL179_1.out) hg hat)
       replace HO185 := am9_ (Kd.R_after (Kd.R_apart_nil HO185.out) hg hat)
       replace HB := am9_ (hb)
       have HO182 := am9_ (ho)
       clear ho hb hg hat
       refine hK.out _ _ ⟨(blk_cell BK178.out 0).trans rfl, (blk_cell BK158.out 0).trans rfl, HS2_, HS3_⟩ (fun hHeld => ?_)
       clear hK K
       refine norm_ (a' := ?_) ?_ ?_
       rotate_left
       ·show Act.put _ (some 75) _ = _
        simp only [Act.put, k19, k29, k39, i64_w, i32_w]
        rfl
       exact norm_ (by simp only [putAll, Act.put, List.setIfInBounds_toArray, List.set_cons_zero, List.set_cons_succ]) (hCont (v181, v184) _ ⟨hHeld, (Kd.V_mono HL179_1.out (fun _ hk => ⟨hk.1.1.1, ⟨hk.1.1.2.1, ⟨hk.1.1.2.2.1, ⟨hk.1.1.2.2.2.1, ⟨hk.2, ⟨hk.1.2, ⟨hk.1.1.2.2.2.2.1, ⟨hk.1.1.2.2.2.2.2.1, hk.1.1.2.2.2.2.2.2⟩⟩⟩⟩⟩⟩⟩⟩)), (Kd.N_mono HO170.out (fun _ hk => ⟨hk.1.1.1, ⟨hk.1.1.2.1, ⟨hk.1.1.2.2.1, ⟨hk.2, ⟨hk.1.2, ⟨hk.1.1.2.2.2.1, ⟨hk.1.1.2.2.2.2.1, hk.1.1.2.2.2.2.2⟩⟩⟩⟩⟩⟩⟩)), (Kd.N_mono HO173.out (fun _ hk => ⟨hk.1.1.1, ⟨hk.1.1.2.1, ⟨hk.2, ⟨hk.1.2, ⟨hk.1.1.2.2.1, ⟨hk.1.1.2.2.2.1, hk.1.1.2.2.2.2⟩⟩⟩⟩⟩⟩)), (Kd.N_mono HO177.out (fun _ hk => ⟨hk.1.1.1, ⟨hk.1.1.2.1, ⟨hk.1.1.2.2.1, ⟨hk.2, ⟨hk.1.2, ⟨hk.1.1.2.2.2.1, ⟨hk.1.1.2.2.2.2.1, hk.1.1.2.2.2.2.2⟩⟩⟩⟩⟩⟩⟩)), HO182.out, (Kd.R_mono HO185.out (fun _ hk => ⟨hk.1.1, hk.2⟩)), (Kd.V_mono HO_159000.out (fun _ hk => ⟨hk.1.1.1, ⟨hk.1.1.2.1, ⟨hk.1.1.2.2.1, ⟨hk.1.1.2.2.2.1, ⟨hk.2, ⟨hk.1.2, ⟨hk.1.1.2.2.2.2.1, ⟨hk.1.1.2.2.2.2.2.1, hk.1.1.2.2.2.2.2.2⟩⟩⟩⟩⟩⟩⟩⟩)), BK158.out, BK174.out, BK178.out, HB.out⟩)
     rintro ⟨v181, v184⟩ w73 ⟨hS_, h0_, h1_, h2_, h3_, h4_, h5_, h6_, h7_, h8_, h9_, h10_⟩
     have n0_ : Aside0 (Kd.V k40 40 w73 w.heap.size (fun k_ => (P0_0_ k_ ∨ w.heap.size ≤ k_) ∧ some k_ ≠ (.slice Ao56 y168.length co56 : Value).ownBlock ∧ some k_ ≠ (.slice Ao57 y171.length co57 : Value).ownBlock ∧ some k_ ≠ (.slice Ao63 y175.length co63 : Value).ownBlock ∧ some k_ ≠ (v181 : Value).ownBlock ∧ some k_ ≠ (v184 : Value).ownBlock ∧ k_ ≠ gb158 ∧ k_ ≠ gb174 ∧ k_ ≠ gb178) (.slice A179_1 ((rd_T34 l0_0 a1).f1).length c179_1) ((rd_T34 l0_0 a1).f1)) := ⟨h0_⟩
     have n1_ : Aside0 (Kd.N k34 34 w73 w.heap.size (fun k_ => (P0_0_ k_ ∨ w.heap.size ≤ k_) ∧ some k_ ≠ (.slice Ao57 y171.length co57 : Value).ownBlock ∧ some k_ ≠ (.slice Ao63 y175.length co63 : Value).ownBlock ∧ some k_ ≠ (v181 : Value).ownBlock ∧ some k_ ≠ (v184 : Value).ownBlock ∧ k_ ≠ gb158 ∧ k_ ≠ gb174 ∧ k_ ≠ gb178) (.slice Ao56 y168.length co56) y168) := ⟨h1_⟩
     have n2_ : Aside0 (Kd.N k34 34 w73 w.heap.size (fun k_ => (P0_0_ k_ ∨ w.heap.size ≤ k_) ∧ some k_ ≠ (.slice Ao63 y175.length co63 : Value).ownBlock ∧ some k_ ≠ (v181 : Value).ownBlock ∧ some k_ ≠ (v184 : Value).ownBlock ∧ k_ ≠ gb158 ∧ k_ ≠ gb174 ∧ k_ ≠ gb178) (.slice Ao57 y171.length co57) y171) := ⟨h2_⟩
     have n3_ : Aside0 (Kd.N k34 34 w73 w.heap.size (fun k_ => (P0_0_ k_ ∨ w.heap.size ≤ k_) ∧ some k_ ≠ (.slice Ao56 y168.length co56 : Value).ownBlock ∧ some k_ ≠ (.slice Ao57 y171.length co57 : Value).ownBlock ∧ some k_ ≠ (v181 : Value).ownBlock ∧ some k_ ≠ (v184 : Value).ownBlock ∧ k_ ≠ gb158 ∧ k_ ≠ gb174 ∧ k_ ≠ gb178) (.slice Ao63 y175.length co63) y175) := ⟨h3_⟩
     have n4_ : Aside0 (Kd.R k40 40 w73 w.heap.size (fun k_ => (w.heap.size ≤ k_) ∧ some k_ ≠ (v184 : Value).ownBlock) v181 y180) := ⟨h4_⟩
     have n5_ : Aside0 (Kd.R k40 40 w73 w.heap.size (fun k_ => (w.heap.size ≤ k_) ∧ some k_ ≠ (v181 : Value).ownBlock) v184 y183) := ⟨h5_⟩
     have n6_ : Aside0 (Kd.V k34 34 w73 w.heap.size (fun k_ => (P0_0_ k_ ∨ w.heap.size ≤ k_) ∧ some k_ ≠ (.slice Ao56 y168.length co56 : Value).ownBlock ∧ some k_ ≠ (.slice Ao57 y171.length co57 : Value).ownBlock ∧ some k_ ≠ (.slice Ao63 y175.length co63 : Value).ownBlock ∧ some k_ ≠ (v181 : Value).ownBlock ∧ some k_ ≠ (v184 : Value).ownBlock ∧ k_ ≠ gb158 ∧ k_ ≠ gb174 ∧ k_ ≠ gb178) (.slice (some ad179) l0_0.length c0_0) l0_0) := ⟨h6_⟩
     have n7_ : Aside0 (w73.heap[gb158]? = some (.cells #[.slice (some ad179) l0_0.length c0_0] 24 (0, 0))) := ⟨h7_⟩
     have n8_ : Aside0 (w73.heap[gb174]? = some (.cells #[.slice Ao57 y171.length co57] 24 (0, 0))) := ⟨h8_⟩
     have n9_ : Aside0 (w73.heap[gb178]? = some (.cells #[.slice Ao63 y175.length co63] 24 (0, 0))) := ⟨h9_⟩
     have n10_ : Aside0 (Below w.heap.size w w73) := ⟨h10_⟩
     clear HO_159000 HO170 HO173 HO177 BK158 BK174 BK178 HB h0_ h1_ h2_ h3_ h4_ h5_ h6_ h7_ h8_ h9_ h10_
     have HL179_1 := n0_
     have HO170 := n1_
     have HO173 := n2_
     have HO177 := n3_
     have HO182 := n4_
     have HO185 := n5_
     have HO_159000 := n6_
     have BK158 := n7_
     have BK174 := n8_
     have BK178 := n9_
     have HB := n10_
     clear n0_ n1_ n2_ n3_ n4_ n5_ n6_ n7_ n8_ n9_ n10_
     have hHeld : w73.cell? ⟨gb178, 0, none⟩ = some (.slice Ao63 y175.length co63) ∧ w73.cell? ⟨gb158, 0, none⟩ = some (.slice (some ad179) l0_0.length c0_0) ∧ w73.cell? (ad179.add ((a1).toNat * 2)) = some (.string ((rd_T34 l0_0 a1).f0)) ∧ w73.cell? ⟨(ad179.add ((a1).toNat * 2)).block, (ad179.add ((a1).toNat * 2)).off + 1, none⟩ = some (.slice A179_1 ((rd_T34 l0_0 a1).f1).length c179_1) := hS_
     obtain ⟨Ao75, co75, eo75⟩ := Kd.R_slice HO185.out
     (first | subst eo75 | (injection eo75 with f1_ f2_ f3_; have f4_ := f1_.symm; have f5_ := f3_.symm; clear f1_ f2_ f3_; subst f4_; subst f5_))
     refine norm_ (a' := ?_) ?_ ?_
     rotate_left
     ·simp only [putAll, Act.put, List.setIfInBounds_toArray, List.set_cons_zero, List.set_cons_succ]
      rfl
     refine one_ (i := 13) (N := some 79) (z9 17 16383) rfl rfl (one_of HT_.out (by kernel_rfl)) (by decide) (fun K hK => ?_)
     refine Kd.R_append_rows_step k40 (w0 := w) w.heap.size (by rfl) (.tmp 75) (.tmp 78) 32 40 (.agg #[(.string ⟨#[]⟩), (.int .i64 0), (.string ⟨#[]⟩)]) 40 rfl Try.underlying32 info40 rfl (by decide) (by omega) v181 y180 y183 _ _ _ (fun k_ => (w.heap.size ≤ k_) ∧ some k_ ≠ (.slice Ao75 y183.length co75 : Value).ownBlock) (fun _ => False) rfl rfl ?aO ?aR (fun _ _ h => h) (fun _ h => h.elim) ?aF ?aB ?aS ?aL ?_
     (case aR => repeat (first | exact (Kd.R_reads' HO185.out).2.2 | (with_reducible first | refine ca9_ ?_ _ | refine cn9_ ?_ _ | refine cd9_ ?_)))
     (case aB => exact HB.out)
     (case aF => exact (fun k_ hk => ⟨(Nat.le_trans (below_size HB.out) hk), Kd.fresh' (Kd.R_lt HO185.out) k_ hk⟩))
     (case aO => exact HO182.out)
     (case aS => exact (below_size HB.out))
     (case aL => have := LMc41.out; omega)
     intro v187 w74 ho hb hg hat
     have HN0_ : 0 < l0_0.length := by have h1_ : 0 ≤ (a1 : Int) := od9 (by first | (with_reducible assumption) | assumption); have h2_ : a1 < (l0_0.length : Int) := od9 (by first | (with_reducible assumption) | assumption); omega
     have HS2_ := cell_grown hg (hHeld.2.2.1) (by first | (rw [add_block]; exact (fun he_ => absurd he_ ((Kd.F_in (Kd.V_F HO_159000.out) rfl HN0_ (by decide)).2.2.2.2.1))) | (show some (Addr.add _ _).block ≠ _; rw [add_block]; exact (fun he_ => absurd he_ ((Kd.F_in (Kd.V_F HO_159000.out) rfl HN0_ (by decide)).2.2.2.2.1))) | exact (fun he_ => absurd he_ ((Kd.F_in (Kd.V_F HO_159000.out) rfl HN0_ (by decide)).2.2.2.2.1)))
     have HS3_ := cell_grown hg (hHeld.2.2.2) (by first | (rw [add_block]; exact (fun he_ => absurd he_ ((Kd.F_in (Kd.V_F HO_159000.out) rfl HN0_ (by decide)).2.2.2.2.1))) | (show some (Addr.add _ _).block ≠ _; rw [add_block]; exact (fun he_ => absurd he_ ((Kd.F_in (Kd.V_F HO_159000.out) rfl HN0_ (by decide)).2.2.2.2.1))) | exact (fun he_ => absurd he_ ((Kd.F_in (Kd.V_F HO_159000.out) rfl HN0_ (by decide)).2.2.2.2.1)))
     rw [← Ny186.out] at ho
     replace HO_159000 := am9_ (Kd.V_afterv (ok := (fun k_ => (P0_0_ k_ ∨ w.heap.size ≤ k_) ∧ some k_ ≠ (.slice Ao56 y168.length co56 : Value).ownBlock ∧ some k_ ≠ (.slice Ao57 y171.length co57 : Value).ownBlock ∧ some k_ ≠ (.slice Ao63 y175.length co63 : Value).ownBlock ∧ some k_ ≠ (.slice Ao75 y183.length co75 : Value).ownBlock ∧ k_ ≠ gb158 ∧ k_ ≠ gb174 ∧ k_ ≠ gb178)) (Kd.V_mono HO_159000.out (fun _ hk => ⟨⟨hk.1, ⟨hk.2.1, ⟨hk.2.2.1, ⟨hk.2.2.2.1, ⟨hk.2.2.2.2.2.1, ⟨hk.2.2.2.2.2.2.1, ⟨hk.2.2.2.2.2.2.2.1, hk.2.2.2.2.2.2.2.2⟩⟩⟩⟩⟩⟩⟩, hk.2.2.2.2.1⟩)) hg hat)
     replace BK158 := am9_ (blk_grown BK158.out hg (Kd.R_ne HO182.out BK158.out (by decide)))
     replace HO170 := am9_ (Kd.N_afterv (ok := (fun k_ => (P0_0_ k_ ∨ w.heap.size ≤ k_) ∧ some k_ ≠ (.slice Ao57 y171.length co57 : Value).ownBlock ∧ some k_ ≠ (.slice Ao63 y175.length co63 : Value).ownBlock ∧ some k_ ≠ (.slice Ao75 y183.length co75 : Value).ownBlock ∧ k_ ≠ gb158 ∧ k_ ≠ gb174 ∧ k_ ≠ gb178)) (Kd.N_mono HO170.out (fun _ hk => ⟨⟨hk.1, ⟨hk.2.1, ⟨hk.2.2.1, ⟨hk.2.2.2.2.1, ⟨hk.2.2.2.2.2.1, ⟨hk.2.2.2.2.2.2.1, hk.2.2.2.2.2.2.2⟩⟩⟩⟩⟩⟩, hk.2.2.2.1⟩)) hg hat)
     replace HO173 := am9_ (Kd.N_afterv (ok := (fun k_ => (P0_0_ k_ ∨ w.heap.size ≤ k_) ∧ some k_ ≠ (.slice Ao63 y175.length co63 : Value).ownBlock ∧ some k_ ≠ (.slice Ao75 y183.length co75 : Value).ownBlock ∧ k_ ≠ gb158 ∧ k_ ≠ gb174 ∧ k_ ≠ gb178)) (Kd.N_mono HO173.out (fun _ hk => ⟨⟨hk.1, ⟨hk.2.1, ⟨hk.2.2.2.1, ⟨hk.2.2.2.2.1, ⟨hk.2.2.2.2.2.1, hk.2.2.2.2.2.2⟩⟩⟩⟩⟩, hk.2.2.1⟩)) hg hat)
     replace BK174 := am9_ (blk_grown BK174.out hg (Kd.R_ne HO182.out BK174.out (by decide)))
     replace HO177 := am9_ (Kd.N_afterv (ok := (fun k_ => (P0_0_ k_ ∨ w.heap.size ≤ k_) ∧ some k_ ≠ (.slice Ao56 y168.length co56 : Value).ownBlock ∧ some k_ ≠ (.slice Ao57 y171.length co57 : Value).ownBlock ∧ some k_ ≠ (.slice Ao75 y183.length co75 : Value).ownBlock ∧ k_ ≠ gb158 ∧ k_ ≠ gb174 ∧ k_ ≠ gb178)) (Kd.N_mono HO177.out (fun _ hk => ⟨⟨hk.1, ⟨hk.2.1, ⟨hk.2.2.1, ⟨hk.2.2.2.2.1, ⟨hk.2.2.2.2.2.1, ⟨hk.2.2.2.2.2.2.1, hk.2.2.2.2.2.2.2⟩⟩⟩⟩⟩⟩, hk.2.2.2.1⟩)) hg hat)
     replace BK178 := am9_ (blk_grown BK178.out hg (Kd.R_ne HO182.out BK178.out (by decide)))
     replace HL179_1 := am9_ (Kd.V_afterv (ok := (fun k_ => (P0_0_ k_ ∨ w.heap.size ≤ k_) ∧ some k_ ≠ (.slice Ao56 y168.length co56 : Value).ownBlock ∧ some k_ ≠ (.slice Ao57 y171.length co57 : Value).ownBlock ∧ some k_ ≠ (.slice Ao63 y175.length co63 : Value).ownBlock ∧ some k_ ≠ (.slice Ao75 y183.length co75 : Value).ownBlock ∧ k_ ≠ gb158 ∧ k_ ≠ gb174 ∧ k_ ≠ gb178)) (Kd.V_mono HL179_1.out (fun _ hk => ⟨⟨hk.1, ⟨hk.2.1, ⟨hk.2.2.1, ⟨hk.2.2.2.1, ⟨hk.2.2.2.2.2.1, ⟨hk.2.2.2.2.2.2.1, ⟨hk.2.2.2.2.2.2.2.1, hk.2.2.2.2.2.2.2.2⟩⟩⟩⟩⟩⟩⟩, hk.2.2.2.2.1⟩)) hg hat)
     replace HO185 := am9_ (Kd.R_after (ok := (fun k_ => (w.heap.size ≤ k_))) HO185.out hg hat)
     replace HB := am9_ (hb)
     have HO188 := am9_ (ho)
     clear HO182 ho hb hg hat
     obtain ⟨Ao99, co99, eo99⟩ := Kd.R_slice HO188.out
     subst eo99
     have p43 : 0 ≤ (a1 : Int) := od9 (by first | (with_reducible assumption) | assumption)
     have q43 : (a1 : Int) < ((y175.length : Int) : Int) := od9 (by first | (with_reducible assumption) | assumption)
     obtain ⟨go43, co43, eo43, gb43, gl43, cl43, HG43⟩ := Kd.N_form HO177.out (by omega)
     (first | cases eo43 | (injection eo43 with ea_ en_ ec_; (first | subst ea_ | (injection ea_ with ea_; subst ea_)); subst ec_; clear en_))
     have GB43 := Aside0.mk gb43
     have GG43 := Aside0.mk HG43
     clear gb43 gl43 HG43
     obtain ⟨ce43, hcl43, hM43, hcc43, hfr43⟩ := Kd.N_elem HO177.out z34 (a1 : Int) p43 q43
     obtain ⟨ua43_1, uc43_1, rfl, ul43_1, ge43_1⟩ := k34_openF hM43
     have hx43_0 : World.cell? _ ⟨go43, (a1 : Int).toNat * 2, none⟩ = some (.string ((rd_T34 y175 a1).f0)) := hcc43 0 _ rfl
     have hx43_1 : World.cell? _ ⟨go43, (a1 : Int).toNat * 2 + 1, none⟩ = some (.slice ua43_1 ((rd_T34 y175 a1).f1).length uc43_1) := hcc43 1 _ rfl
     have hf43_0 : World.frozen? _ ⟨go43, (a1 : Int).toNat * 2, none⟩ = false := hfr43 0
     have hf43_1 : World.frozen? _ ⟨go43, (a1 : Int).toNat * 2 + 1, none⟩ = false := hfr43 1
     clear hcl43 hcc43 hfr43 hM43
     replace p43 := eq_true p43
     replace q43 := eq_true q43
     have HX76 := am9_ (show Kd.N k34 34 _ w.heap.size (fun k_ => (P0_0_ k_ ∨ w.heap.size ≤ k_) ∧ some k_ ≠ (.slice Ao56 y168.length co56 : Value).ownBlock ∧ some k_ ≠ (.slice Ao57 y171.length co57 : Value).ownBlock ∧ some k_ ≠ (.slice Ao75 y183.length co75 : Value).ownBlock ∧ some k_ ≠ (.slice Ao99 y186.length co99 : Value).ownBlock ∧ k_ ≠ gb158 ∧ k_ ≠ gb174 ∧ k_ ≠ gb178) (.slice (some ⟨go43, 0, none⟩) y175.length co63) y175 from (Kd.N_mono (HO177.out) (fun k_ hk => ⟨hk.1.1, ⟨hk.1.2.1, ⟨hk.1.2.2.1, ⟨hk.1.2.2.2.1, ⟨hk.2, ⟨hk.1.2.2.2.2.1, ⟨hk.1.2.2.2.2.2.1, hk.1.2.2.2.2.2.2⟩⟩⟩⟩⟩⟩⟩)))
     replace HX76 := am9_ (show Kd.N k34 34 _ w.heap.size (fun k_ => (P0_0_ k_ ∨ w.heap.size ≤ k_) ∧ some k_ ≠ (.slice Ao56 y168.length co56 : Value).ownBlock ∧ some k_ ≠ (.slice Ao57 y171.length co57 : Value).ownBlock ∧ some k_ ≠ (.slice Ao75 y183.length co75 : Value).ownBlock ∧ k_ ≠ gb158 ∧ k_ ≠ gb174 ∧ k_ ≠ gb178) (.slice (some ⟨go43, 0, none⟩) y175.length co63) y175 from Kd.N_mono HX76.out (fun k_ hk => ⟨hk.1, ⟨hk.2.1, ⟨hk.2.2.1, ⟨hk.2.2.2.1, ⟨hk.2.2.2.2.2.1, ⟨hk.2.2.2.2.2.2.1, hk.2.2.2.2.2.2.2⟩⟩⟩⟩⟩⟩))
     obtain ⟨ce76, hcl76, hM76, hcc76, hfr76⟩ := Kd.N_elem HX76.out z34 (a1 : Int) (od9 (by first | (with_reducible assumption) | assumption)) (by have h_ : (a1 : Int) < ((y175.length : Int) : Int) := od9 (by first | (with_reducible assumption) | assumption); first | exact h_ | (have e_ := (Kd.N_reads' HO177.out).1; omega) | simpa using h_)
     obtain ⟨ua76_1, uc76_1, rfl, ul76_1, ge76_1⟩ := k34_openF hM76
     have XR1_ := Kd.R_apart' (HO188.out) (Kd.N_typed HO170.out) (by decide)
     have XR2_ := Kd.R_apart' XR1_ (Kd.N_typed HO173.out) (by decide)
     have XR3_ := Kd.R_apart' XR2_ (Kd.N_typed HO177.out) (by decide)
     have XR4_ := Kd.R_types XR3_ BK158.out (by decide)
     have XR5_ := Kd.R_types XR4_ BK174.out (by decide)
     have XR6_ := Kd.R_types XR5_ BK178.out (by decide)
     have HP76 := (Kd.N_seg HX76.out (a1 : Int) (od9 (by first | (with_reducible assumption) | assumption)) (by have h_ : (a1 : Int) < ((y175.length : Int) : Int) := od9 (by first | (with_reducible assumption) | assumption); first | exact h_ | (have e_ := (Kd.N_reads' HO177.out).1; omega) | simpa using h_) (seg := [.slice Ao99 y186.length co99]) (j := 1) hcl76 hcc76 (show 2 ≤ 2 from by decide) (x' := (⟨(rd_T34 y175 a1).f0, y186⟩ : S34)) (k34_mkF _ _ (⟨(rd_T34 y175 a1).f0, y186⟩ : S34) (Kd.R_reads' (Kd.R_mono (ok' := (fun k_ => ((fun k_ => (P0_0_ k_ ∨ w.heap.size ≤ k_) ∧ some k_ ≠ (.slice Ao56 y168.length co56 : Value).ownBlock ∧ some k_ ≠ (.slice Ao57 y171.length co57 : Value).ownBlock ∧ some k_ ≠ (.slice Ao75 y183.length co75 : Value).ownBlock ∧ k_ ≠ gb158 ∧ k_ ≠ gb174 ∧ k_ ≠ gb178)) k_ ∧ k_ ≠ go43)) XR6_ (fun k_ hk => ⟨⟨(.inr (hk.1.1.1.1.1.1.1)), ⟨hk.1.1.1.1.1.2, ⟨hk.1.1.1.1.2, ⟨hk.1.1.1.1.1.1.2, ⟨hk.1.1.2, ⟨hk.1.2, hk.2⟩⟩⟩⟩⟩⟩, fun e_ => (hk.1.1.1.2) (by rw [e_]; rfl)⟩))).2.1 (Kd.R_F (Kd.R_mono (ok' := (fun k_ => ((fun k_ => (P0_0_ k_ ∨ w.heap.size ≤ k_) ∧ some k_ ≠ (.slice Ao56 y168.length co56 : Value).ownBlock ∧ some k_ ≠ (.slice Ao57 y171.length co57 : Value).ownBlock ∧ some k_ ≠ (.slice Ao75 y183.length co75 : Value).ownBlock ∧ k_ ≠ gb158 ∧ k_ ≠ gb174 ∧ k_ ≠ gb178)) k_ ∧ k_ ≠ go43)) XR6_ (fun k_ hk => ⟨⟨(.inr (hk.1.1.1.1.1.1.1)), ⟨hk.1.1.1.1.1.2, ⟨hk.1.1.1.1.2, ⟨hk.1.1.1.1.1.1.2, ⟨hk.1.1.2, ⟨hk.1.2, hk.2⟩⟩⟩⟩⟩⟩, fun e_ => (hk.1.1.1.2) (by rw [e_]; rfl)⟩)))) (fun _ hk => hk)).1
     rw [← Ny189.out] at HP76
     have HQ76 := Aside0.mk HP76
     clear hcl76 hcc76 hfr76 hM76 HP76
     refine hK.out _ _ ⟨(blk_cell BK178.out 0).trans rfl, (blk_cell BK158.out 0).trans rfl, HS2_, HS3_⟩ (fun hHeld => ?_)
     clear hK K
     refine norm_ (a' := ?_) ?_ ?_
     rotate_left
     ·show Act.put _ (some 79) _ = _
      simp only [Act.put, k19, k29, k39, i64_w, i32_w]
      rfl
     refine pure_ (i := 14) (N := some 80) (v := ?_) (a' := ?_) (z9 17 32767) rfl rfl (ao9 HT_.out (by kernel_rfl)) (fun _ _ _ h => h) (Or.inl ⟨by rfl, ?_⟩) ?_ ?_; rotate_left; (·intro w'; go_simp; with_reducible rfl); rotate_left; (·simp only [Act.put, k19, k29, k39, i64_w, i32_w]; rfl)
     refine pure_ (i := 15) (N := some 81) (v := ?_) (a' := ?_) (z9 17 65535) rfl rfl (ao9 HT_.out (by kernel_rfl)) (fun _ _ _ h => h) (Or.inl ⟨by rfl, ?_⟩) ?_ ?_; rotate_left; (·intro w'; go_simp; with_reducible rfl); rotate_left; (·simp only [Act.put, k19, k29, k39, i64_w, i32_w]; rfl)
     refine last_ (i := 16) (N := none) (z9 17 131071) rfl rfl (one_of HT_.out (by kernel_rfl)) (by decide) (fun K hK => ?_)
     refine skip_ (w1 := ?_) (by rfl) rfl ?_ ?_
     rotate_left
     ·go_simp
      rfl
     refine hK.out _ _ ?_
     clear hK K
     refine done_ (done_of HT_.out (by kernel_rfl)) ?_
     have n0_ : Aside0 (Kd.V k34 34 (w74.setCell ⟨go43, (a1 : Int).toNat * 2 + 1, none⟩ (.slice Ao99 y186.length co99)) w.heap.size (fun k_ => (P0_0_ k_ ∨ w.heap.size ≤ k_) ∧ some k_ ≠ (.slice Ao56 y168.length co56 : Value).ownBlock ∧ some k_ ≠ (.slice Ao57 y171.length co57 : Value).ownBlock ∧ some k_ ≠ (.slice (some ⟨go43, 0, none⟩) y175.length co63 : Value).ownBlock ∧ some k_ ≠ (.slice Ao75 y183.length co75 : Value).ownBlock ∧ k_ ≠ gb158 ∧ k_ ≠ gb174 ∧ k_ ≠ gb178) (.slice (some ad179) l0_0.length c0_0) l0_0) := ⟨by (with_reducible repeat (first | apply va9 | apply vb9 | apply vc9)); exact Kd.V_mono (Kd.V_far (p := ⟨go43, (a1 : Int).toNat * 2 + 1, none⟩) (Kd.V_mono HO_159000.out (fun k_ hk => (⟨hk, fun e_ => hk.1.2.2.2.1 (by rw [e_]; rfl)⟩ : _ ∧ k_ ≠ go43))) (fun _ h => by first | exact h.2 | exact h | trivial) (.slice Ao99 y186.length co99)) (fun _ hk => ⟨hk.1.1.1, ⟨hk.1.1.2.1, ⟨hk.1.1.2.2.1, ⟨hk.1.1.2.2.2.1, ⟨hk.1.1.2.2.2.2.1, ⟨hk.1.1.2.2.2.2.2.1, ⟨hk.1.1.2.2.2.2.2.2.1, hk.1.1.2.2.2.2.2.2.2⟩⟩⟩⟩⟩⟩⟩)⟩
     have n1_ : Aside0 (Kd.N k34 34 (w74.setCell ⟨go43, (a1 : Int).toNat * 2 + 1, none⟩ (.slice Ao99 y186.length co99)) w.heap.size (fun k_ => (P0_0_ k_ ∨ w.heap.size ≤ k_) ∧ some k_ ≠ (.slice Ao57 y171.length co57 : Value).ownBlock ∧ some k_ ≠ (.slice (some ⟨go43, 0, none⟩) y175.length co63 : Value).ownBlock ∧ some k_ ≠ (.slice Ao75 y183.length co75 : Value).ownBlock ∧ k_ ≠ gb158 ∧ k_ ≠ gb174 ∧ k_ ≠ gb178) (.slice Ao56 y168.length co56) y168) := ⟨by (with_reducible repeat (first | apply na9 | apply nb9 | apply nc9)); exact Kd.N_mono (Kd.N_far (p := ⟨go43, (a1 : Int).toNat * 2 + 1, none⟩) (Kd.N_mono HO170.out (fun k_ hk => (⟨hk, fun e_ => hk.1.2.2.1 (by rw [e_]; rfl)⟩ : _ ∧ k_ ≠ go43))) (fun _ h => by first | exact h.2 | exact h | trivial) (.slice Ao99 y186.length co99)) (fun _ hk => ⟨hk.1.1.1, ⟨hk.1.1.2.1, ⟨hk.1.1.2.2.1, ⟨hk.1.1.2.2.2.1, ⟨hk.1.1.2.2.2.2.1, ⟨hk.1.1.2.2.2.2.2.1, hk.1.1.2.2.2.2.2.2⟩⟩⟩⟩⟩⟩)⟩
     have n2_ : Aside0 (Kd.N k34 34 (w74.setCell ⟨go43, (a1 : Int).toNat * 2 + 1, none⟩ (.slice Ao99 y186.length co99)) w.heap.size (fun k_ => (P0_0_ k_ ∨ w.heap.size ≤ k_) ∧ some k_ ≠ (.slice (some ⟨go43, 0, none⟩) y175.length co63 : Value).ownBlock ∧ some k_ ≠ (.slice Ao75 y183.length co75 : Value).ownBlock ∧ k_ ≠ gb158 ∧ k_ ≠ gb174 ∧ k_ ≠ gb178) (.slice Ao57 y171.length co57) y171) := ⟨by (with_reducible repeat (first | apply na9 | apply nb9 | apply nc9)); exact Kd.N_mono (Kd.N_far (p := ⟨go43, (a1 : Int).toNat * 2 + 1, none⟩) (Kd.N_mono HO173.out (fun k_ hk => (⟨hk, fun e_ => hk.1.2.1 (by rw [e_]; rfl)⟩ : _ ∧ k_ ≠ go43))) (fun _ h => by first | exact h.2 | exact h | trivial) (.slice Ao99 y186.length co99)) (fun _ hk => ⟨hk.1.1.1, ⟨hk.1.1.2.1, ⟨hk.1.1.2.2.1, ⟨hk.1.1.2.2.2.1, ⟨hk.1.1.2.2.2.2.1, hk.1.1.2.2.2.2.2⟩⟩⟩⟩⟩)⟩
     have n3_ : Aside0 (Kd.N k34 34 (w74.setCell ⟨go43, (a1 : Int).toNat * 2 + 1, none⟩ (.slice Ao99 y186.length co99)) w.heap.size (fun k_ => (P0_0_ k_ ∨ w.heap.size ≤ k_) ∧ some k_ ≠ (.slice Ao56 y168.length co56 : Value).ownBlock ∧ some k_ ≠ (.slice Ao57 y171.length co57 : Value).ownBlock ∧ some k_ ≠ (.slice Ao75 y183.length co75 : Value).ownBlock ∧ k_ ≠ gb158 ∧ k_ ≠ gb174 ∧ k_ ≠ gb178) (.slice (some ⟨go43, 0, none⟩) y175.length co63) y189) := ⟨by (with_reducible repeat (first | apply na9 | apply nb9 | apply nc9)); exact HQ76.out⟩
     have n4_ : Aside0 (Kd.V k40 40 (w74.setCell ⟨go43, (a1 : Int).toNat * 2 + 1, none⟩ (.slice Ao99 y186.length co99)) w.heap.size (fun k_ => (P0_0_ k_ ∨ w.heap.size ≤ k_) ∧ some k_ ≠ (.slice Ao56 y168.length co56 : Value).ownBlock ∧ some k_ ≠ (.slice Ao57 y171.length co57 : Value).ownBlock ∧ some k_ ≠ (.slice (some ⟨go43, 0, none⟩) y175.length co63 : Value).ownBlock ∧ some k_ ≠ (.slice Ao75 y183.length co75 : Value).ownBlock ∧ k_ ≠ gb158 ∧ k_ ≠ gb174 ∧ k_ ≠ gb178) (.slice A179_1 ((rd_T34 l0_0 a1).f1).length c179_1) ((rd_T34 l0_0 a1).f1)) := ⟨by (with_reducible repeat (first | apply va9 | apply vb9 | apply vc9)); exact Kd.V_mono (Kd.V_far (p := ⟨go43, (a1 : Int).toNat * 2 + 1, none⟩) (Kd.V_mono HL179_1.out (fun k_ hk => (⟨hk, fun e_ => hk.1.2.2.2.1 (by rw [e_]; rfl)⟩ : _ ∧ k_ ≠ go43))) (fun _ h => by first | exact h.2 | exact h | trivial) (.slice Ao99 y186.length co99)) (fun _ hk => ⟨hk.1.1.1, ⟨hk.1.1.2.1, ⟨hk.1.1.2.2.1, ⟨hk.1.1.2.2.2.1, ⟨hk.1.1.2.2.2.2.1, ⟨hk.1.1.2.2.2.2.2.1, ⟨hk.1.1.2.2.2.2.2.2.1, hk.1.1.2.2.2.2.2.2.2⟩⟩⟩⟩⟩⟩⟩)⟩
     have n5_ : Aside0 (Kd.R k40 40 (w74.setCell ⟨go43, (a1 : Int).toNat * 2 + 1, none⟩ (.slice Ao99 y186.length co99)) w.heap.size (fun k_ => (w.heap.size ≤ k_)) (.slice Ao75 y183.length co75) y183) := ⟨by (with_reducible repeat (first | apply ra9_ | apply rn9_ | apply rd9_)); exact Kd.R_mono (Kd.R_far (p := ⟨go43, (a1 : Int).toNat * 2 + 1, none⟩) (Kd.R_types HO185.out GG43.out (by decide)) (fun _ h => by first | exact h.2 | exact h | trivial) (.slice Ao99 y186.length co99)) (fun _ hk => hk.1.1)⟩
     have n6_ : Aside0 ((w74.setCell ⟨go43, (a1 : Int).toNat * 2 + 1, none⟩ (.slice Ao99 y186.length co99)).heap[gb158]? = some (.cells #[.slice (some ad179) l0_0.length c0_0] 24 (0, 0))) := ⟨by (with_reducible repeat (first | refine ba9 ?_ _ | refine bb9 ?_ | refine bc9 ?_ _)); refine blk_far ?_ (by have h_ := Kd.N_away HO177.out (fun _ hk => hk.1.2.2.2.2.1); intro e_; exact h_ (by rw [e_]; rfl)) _; (with_reducible repeat (first | refine ba9 ?_ _ | refine bb9 ?_ | refine bc9 ?_ _)); exact BK158.out⟩
     have n7_ : Aside0 ((w74.setCell ⟨go43, (a1 : Int).toNat * 2 + 1, none⟩ (.slice Ao99 y186.length co99)).heap[gb174]? = some (.cells #[.slice Ao57 y171.length co57] 24 (0, 0))) := ⟨by (with_reducible repeat (first | refine ba9 ?_ _ | refine bb9 ?_ | refine bc9 ?_ _)); refine blk_far ?_ (by have h_ := Kd.N_away HO177.out (fun _ hk => hk.1.2.2.2.2.2.1); intro e_; exact h_ (by rw [e_]; rfl)) _; (with_reducible repeat (first | refine ba9 ?_ _ | refine bb9 ?_ | refine bc9 ?_ _)); exact BK174.out⟩
     have n8_ : Aside0 ((w74.setCell ⟨go43, (a1 : Int).toNat * 2 + 1, none⟩ (.slice Ao99 y186.length co99)).heap[gb178]? = some (.cells #[.slice (some ⟨go43, 0, none⟩) y175.length co63] 24 (0, 0))) := ⟨by (with_reducible repeat (first | refine ba9 ?_ _ | refine bb9 ?_ | refine bc9 ?_ _)); refine blk_far ?_ (by have h_ := Kd.N_away HO177.out (fun _ hk => hk.1.2.2.2.2.2.2); intro e_; exact h_ (by rw [e_]; rfl)) _; (with_reducible repeat (first | refine ba9 ?_ _ | refine bb9 ?_ | refine bc9 ?_ _)); exact BK178.out⟩
     have n9_ : Aside0 (Below w.heap.size w (w74.setCell ⟨go43, (a1 : Int).toNat * 2 + 1, none⟩ (.slice Ao99 y186.length co99))) := ⟨by repeat (first | (with_reducible first | exact HB.out | apply wa9 | apply wb9 | apply wc9 | refine wd9 ?_ GB43.out | refine wd9 ?_ GE158.out | refine wd9 ?_ GE174.out | refine wd9 ?_ GE178.out) | exact HB.out)⟩
     (try clear HO_159000)
     (try clear HO170)
     (try clear HO173)
     (try clear HO177)
     (try clear HL179_1)
     (try clear HO185)
     (try clear BK158)
     (try clear BK174)
     (try clear BK178)
     (try clear HB)
     generalize (w74.setCell ⟨go43, (a1 : Int).toNat * 2 + 1, none⟩ (.slice Ao99 y186.length co99)) = w77 at n0_ n1_ n2_ n3_ n4_ n5_ n6_ n7_ n8_ n9_ ⊢
     have HO_159000 := n0_
     have HO170 := n1_
     have HO173 := n2_
     have HO177 := n3_
     have HL179_1 := n4_
     have HO185 := n5_
     have BK158 := n6_
     have BK174 := n7_
     have BK178 := n8_
     have HB := n9_
     clear n0_ n1_ n2_ n3_ n4_ n5_ n6_ n7_ n8_ n9_
     try go_wp2
     replace HO_159000 := am9_ (vc9 HO_159000.out)
     replace HO170 := am9_ (nc9 HO170.out)
     replace HO173 := am9_ (nc9 HO173.out)
     replace HO177 := am9_ (nc9 HO177.out)
     replace HL179_1 := am9_ (vc9 HL179_1.out)
     replace HO185 := am9_ (Kd.R_drew HO185.out)
     replace BK158 := am9_ (bb9 BK158.out)
     replace BK174 := am9_ (bb9 BK174.out)
     replace BK178 := am9_ (bb9 BK178.out)
     replace HB := am9_ (wc9 HB.out)
     have q79 : (a1 : Int) ≤ ((l0_0.length : Int) : Int) := od9 (by first | (with_reducible assumption) | assumption)
     obtain ⟨i079, hi079, _, hsz79, _⟩ := info_parts info34
     have hroom79 : l0_0.length ≤ c0_0 := (Kd.V_reads' HO_159000.out).2.1
     have hC79 : Kd.F k34 _ _ (some ad179) l0_0.length l0_0 := (Kd.V_at (base := w.heap.size) HO_159000.out).2.2
     have hcut79 := cut_to (P := Try.prog) 22 34 .i64 Try.underlying22 hi079 (some ad179) l0_0.length c0_0 a1 (od9 (by first | (with_reducible assumption) | assumption)) q79 hroom79
     have hr79 := Kd.F_take (m := (a1 : Int).toNat) hC79 (by omega)
     have hy79 : y190.length = (a1 : Int).toNat := (by rw [Ny190.out, List.length_take]; omega)
     rw [← Ny190.out] at hr79
     rw [← hy79] at hcut79
     have HO194 := am9_ (show Kd.V k34 34 _ w.heap.size _ (.slice (some ad179) y190.length c0_0) y190 from Kd.V_mk (by omega) hr79)
     have HC194 := am9_ (show y190.length ≤ c0_0 from by omega)
     clear hr79 hC79 hroom79 hi079 hsz79
     have KY79 := Aside0.mk hy79
     clear hy79
     replace q79 := eq_true q79
     have q80 : ((ji47) : Int) ≤ ((l0_0.length : Int) : Int) := od9 (by first | (with_reducible assumption) | assumption)
     obtain ⟨i080, hi080, _, hsz80, _⟩ := info_parts info34
     have hroom80 : l0_0.length ≤ c0_0 := (Kd.V_reads' HO_159000.out).2.1
     have hC80 : Kd.F k34 _ _ (some ad179) l0_0.length l0_0 := (Kd.V_at (base := w.heap.size) HO_159000.out).2.2
     have q080 : (0 : Int) ≤ ((ji47) : Int) := od9 (by first | (with_reducible assumption) | assumption)
     have hcut80 := cut_from (P := Try.prog) 22 34 .i64 Try.underlying22 hi080 2 hsz80 (some ad179) l0_0.length c0_0 (ji47) q080 q80
     have hr80 := Kd.F_cut (m := ((ji47) : Int).toNat) (c := c0_0) hC80 (by omega) hroom80
     obtain ⟨A80, hA80⟩ : ∃ A1, A1 = (if c0_0 = ((ji47) : Int).toNat then (some ad179) else ((some ad179) : Option Addr).map (·.add (((ji47) : Int).toNat * 2))) := ⟨_, rfl⟩
     obtain ⟨c80, hc80⟩ : ∃ c1, c1 = c0_0 - ((ji47) : Int).toNat := ⟨_, rfl⟩
     have hy80 : y198.length = l0_0.length - ((ji47) : Int).toNat := (by rw [Ny198.out, List.length_drop] <;> omega)
     rw [show (l0_0).drop ((ji47) : Int).toNat = y198 from Ny198.out.symm] at hr80
     replace hr80 : Kd.F k34 _ _ A80 y198.length y198 := (by rw [hA80]; exact hr80)
     rw [← hy80, ← hA80, ← hc80] at hcut80
     have HO202 := am9_ (show Kd.V k34 34 _ w.heap.size _ (.slice A80 y198.length c80) y198 from Kd.V_mk (by rw [hy80, hc80]; exact Nat.sub_le_sub_right hroom80 _) hr80)
     have HC202 := am9_ (show y198.length ≤ c80 from by rw [hy80, hc80]; exact Nat.sub_le_sub_right hroom80 _)
     clear hr80 hC80 hroom80 hi080 hsz80 hc80
     have KY80 := Aside0.mk hy80
     have KA80 := Aside0.mk hA80
     clear hy80 hA80
     replace q80 := eq_true q80
     as_aux_lemma =>
     refine start_ (n := 14) (S := fun w' => w'.cell? ⟨gb158, 0, none⟩ = some (.slice (some ad179) l0_0.length c0_0)) (ds := []) (z9 14 0) (by kernel_rfl) rfl rfl ((blk_cell BK158.out 0).trans rfl) (fun hHeld => ?_); refine with_tabW foliatelaw06_SchemaMore.tab11 foliatelaw06_SchemaMore.bits11 (fun HT_ HW_ => ?_)
     generalize w77.drew = w78 at HO_159000 HO170 HO173 HO177 HL179_1 HO185 BK158 BK174 BK178 HB HO194 HO202 hHeld ⊢
     refine pure_ (i := 0) (N := some 82) (v := ?_) (a' := ?_) (z9 14 1) rfl rfl (ao9 HT_.out (by kernel_rfl)) (fun _ _ _ h => h) (Or.inl ⟨by rfl, ?_⟩) ?_ ?_; rotate_left; (·intro w'; go_simp; with_reducible rfl); rotate_left; (·simp only [Act.put, k19, k29, k39, i64_w, i32_w]; rfl)
     refine pure_ (i := 2) (N := some 84) (v := ?_) (a' := ?_) (z9 14 5) rfl rfl (ao9 HT_.out (by kernel_rfl)) (fun _ _ _ h => h) (Or.inl ⟨by rfl, ?_⟩) ?_ ?_; rotate_left; (·intro w'; go_simp; with_reducible rfl); rotate_left; (·simp only [Act.put, k19, k29, k39, i64_w, i32_w]; rfl)
     refine pure_ (i := 5) (N := some 87) (v := ?_) (a' := ?_) (z9 14 37) rfl rfl (ao9 HT_.out (by kernel_rfl)) (fun _ _ _ h => h) (Or.inl ⟨by rfl, ?_⟩) ?_ ?_; rotate_left; (·intro w'; go_simp; with_reducible rfl); rotate_left; (·simp only [Act.put, k19, k29, k39, i64_w, i32_w]; rfl)
     refine pure_ (i := 7) (N := some 89) (v := ?_) (a' := ?_) (z9 14 165) rfl rfl (ao9 HT_.out (by kernel_rfl)) (fun _ _ _ h => h) (Or.inl ⟨by rfl, ?_⟩) ?_ ?_; rotate_left; (·intro w'; go_simp; with_reducible rfl); rotate_left; (·simp only [Act.put, k19, k29, k39, i64_w, i32_w]; rfl)
     refine pure_ (i := 8) (N := some 90) (v := ?_) (a' := ?_) (z9 14 421) rfl rfl (ao9 HT_.out (by kernel_rfl)) (fun _ _ _ h => h) (Or.inl ⟨by rfl, ?_⟩) ?_ ?_; rotate_left; (·intro w'; go_simp; with_reducible rfl); rotate_left; (·simp only [Act.put, k19, k29, k39, i64_w, i32_w]; rfl)
     refine take_ (i := 1) (N := some 83) (v := ?_) (a' := ?_) (z9 14 423) rfl rfl (tw9 HT_.out HW_.out (by kernel_rfl)) (fun _ _ _ h => h) (Or.inl ⟨by rfl, ?_⟩) hHeld ?_ ?_
     rotate_left
     ·intro w' s0
      go_simp
      with_reducible rfl
     rotate_left
     ·simp only [Act.put, k19, k29, k39, i64_w, i32_w]
      rfl
     refine pure_ (i := 3) (N := some 85) (v := ?_) (a' := ?_) (z9 14 431) rfl rfl (ao9 HT_.out (by kernel_rfl)) (fun _ _ _ h => h) (Or.inl ⟨by rfl, ?_⟩) ?_ ?_; rotate_left; (·intro w'; go_simp; with_reducible rfl); rotate_left; (·simp only [Act.put, k19, k29, k39, i64_w, i32_w]; rfl)
     refine take_ (i := 6) (N := some 88) (v := ?_) (a' := ?_) (z9 14 495) rfl rfl (tw9 HT_.out HW_.out (by kernel_rfl)) (fun _ _ _ h => h) (Or.inl ⟨by rfl, ?_⟩) hHeld ?_ ?_
     rotate_left
     ·intro w' s0
      go_simp
      with_reducible rfl
     rotate_left
     ·simp only [Act.put, k19, k29, k39, i64_w, i32_w]
      rfl
     refine pure_ (i := 9) (N := some 91) (v := ?_) (a' := ?_) (z9 14 1007) rfl rfl (ao9 HT_.out (by kernel_rfl)) (fun _ _ _ h => h) (Or.inl ⟨by rfl, ?_⟩) ?_ ?_; rotate_left; (·intro w'; go_simp; with_reducible rfl); rotate_left; (·simp only [Act.put, k19, k29, k39, i64_w, i32_w]; rfl)
     refine join_ (σ := Value × Value × Nat) 1 (z9 14 8191) (fun s_ => [(86, s_.1), (92, s_.2.1), (10, .pointer (some ⟨s_.2.2, 0, none⟩)), (93, .agg #[s_.2.1])]) (fun s_ w' => (w'.cell? ⟨gb158, 0, none⟩ = some (.slice (some ad179) l0_0.length c0_0)) ∧ (Kd.V k40 40 w' w.heap.size (fun k_ => (P0_0_ k_ ∨ w.heap.size ≤ k_) ∧ some k_ ≠ (.slice Ao56 y168.length co56 : Value).ownBlock ∧ some k_ ≠ (.slice Ao57 y171.length co57 : Value).ownBlock ∧ some k_ ≠ (.slice (some ⟨go43, 0, none⟩) y175.length co63 : Value).ownBlock ∧ some k_ ≠ (.slice Ao75 y183.length co75 : Value).ownBlock ∧ some k_ ≠ (s_.2.1 : Value).ownBlock ∧ k_ ≠ gb158 ∧ k_ ≠ gb174 ∧ k_ ≠ gb178 ∧ k_ ≠ s_.2.2) (.slice A179_1 ((rd_T34 l0_0 a1).f1).length c179_1) ((rd_T34 l0_0 a1).f1)) ∧ (Kd.N k34 34 w' w.heap.size (fun k_ => (P0_0_ k_ ∨ w.heap.size ≤ k_) ∧ some k_ ≠ (.slice Ao57 y171.length co57 : Value).ownBlock ∧ some k_ ≠ (.slice (some ⟨go43, 0, none⟩) y175.length co63 : Value).ownBlock ∧ some k_ ≠ (.slice Ao75 y183.length co75 : Value).ownBlock ∧ some k_ ≠ (s_.2.1 : Value).ownBlock ∧ k_ ≠ gb158 ∧ k_ ≠ gb174 ∧ k_ ≠ gb178 ∧ k_ ≠ s_.2.2) (.slice Ao56 y168.length co56) y168) ∧ (Kd.N k34 34 w' w.heap.size (fun k_ => (P0_0_ k_ ∨ w.heap.size ≤ k_) ∧ some k_ ≠ (.slice (some ⟨go43, 0, none⟩) y175.length co63 : Value).ownBlock ∧ some k_ ≠ (.slice Ao75 y183.length co75 : Value).ownBlock ∧ some k_ ≠ (s_.2.1 : Value).ownBlock ∧ k_ ≠ gb158 ∧ k_ ≠ gb174 ∧ k_ ≠ gb178 ∧ k_ ≠ s_.2.2) (.slice Ao57 y171.length co57) y171) ∧ (Kd.N k34 34 w' w.heap.size (fun k_ => (P0_0_ k_ ∨ w.heap.size ≤ k_) ∧ some k_ ≠ (.slice Ao56 y168.length co56 : Value).ownBlock ∧ some k_ ≠ (.slice Ao57 y171.length co57 : Value).ownBlock ∧ some k_ ≠ (.slice Ao75 y183.length co75 : Value).ownBlock ∧ some k_ ≠ (s_.2.1 : Value).ownBlock ∧ k_ ≠ gb158 ∧ k_ ≠ gb174 ∧ k_ ≠ gb178 ∧ k_ ≠ s_.2.2) (.slice (some ⟨go43, 0, none⟩) y175.length co63) y189) ∧ (Kd.R k40 40 w' w.heap.size (fun k_ => (w.heap.size ≤ k_)) (.slice Ao75 y183.length co75) y183) ∧ (Kd.V k34 34 w' w.heap.size (fun k_ => (P0_0_ k_ ∨ w.heap.size ≤ k_) ∧ some k_ ≠ (.slice Ao56 y168.length co56 : Value).ownBlock ∧ some k_ ≠ (.slice Ao57 y171.length co57 : Value).ownBlock ∧ some k_ ≠ (.slice (some ⟨go43, 0, none⟩) y175.length co63 : Value).ownBlock ∧ some k_ ≠ (.slice Ao75 y183.length co75 : Value).ownBlock ∧ some k_ ≠ (s_.2.1 : Value).ownBlock ∧ k_ ≠ gb158 ∧ k_ ≠ gb174 ∧ k_ ≠ gb178 ∧ k_ ≠ s_.2.2) (.slice (some ad179) y190.length c0_0) y190) ∧ (Kd.V k34 34 w' w.heap.size (fun k_ => (P0_0_ k_ ∨ w.heap.size ≤ k_) ∧ some k_ ≠ (.slice Ao56 y168.length co56 : Value).ownBlock ∧ some k_ ≠ (.slice Ao57 y171.length co57 : Value).ownBlock ∧ some k_ ≠ (.slice (some ⟨go43, 0, none⟩) y175.length co63 : Value).ownBlock ∧ some k_ ≠ (.slice Ao75 y183.length co75 : Value).ownBlock ∧ some k_ ≠ (s_.2.1 : Value).ownBlock ∧ k_ ≠ gb158 ∧ k_ ≠ gb174 ∧ k_ ≠ gb178 ∧ k_ ≠ s_.2.2) (.slice A80 y198.length c80) y198) ∧ (Kd.N k34 34 w' w.heap.size (fun k_ => (P0_0_ k_ ∨ w.heap.size ≤ k_) ∧ some k_ ≠ (.slice Ao56 y168.length co56 : Value).ownBlock ∧ some k_ ≠ (.slice Ao57 y171.length co57 : Value).ownBlock ∧ some k_ ≠ (.slice (some ⟨go43, 0, none⟩) y175.length co63 : Value).ownBlock ∧ some k_ ≠ (.slice Ao75 y183.length co75 : Value).ownBlock ∧ k_ ≠ gb158 ∧ k_ ≠ gb174 ∧ k_ ≠ gb178 ∧ k_ ≠ s_.2.2) s_.2.1 y203) ∧ (Kd.V k34 34 w' w.heap.size (fun k_ => (P0_0_ k_ ∨ w.heap.size ≤ k_) ∧ some k_ ≠ (.slice Ao56 y168.length co56 : Value).ownBlock ∧ some k_ ≠ (.slice Ao57 y171.length co57 : Value).ownBlock ∧ some k_ ≠ (.slice (some ⟨go43, 0, none⟩) y175.length co63 : Value).ownBlock ∧ some k_ ≠ (.slice Ao75 y183.length co75 : Value).ownBlock ∧ some k_ ≠ (s_.2.1 : Value).ownBlock ∧ k_ ≠ gb158 ∧ k_ ≠ gb174 ∧ k_ ≠ gb178 ∧ k_ ≠ s_.2.2) (.slice (some ad179) l0_0.length c0_0) l0_0) ∧ (w'.heap[gb158]? = some (.cells #[.slice (some ad179) l0_0.length c0_0] 24 (0, 0))) ∧ (w'.heap[gb174]? = some (.cells #[.slice Ao57 y171.length co57] 24 (0, 0))) ∧ (w'.heap[gb178]? = some (.cells #[.slice (some ⟨go43, 0, none⟩) y175.length co63] 24 (0, 0))) ∧ (w'.heap[s_.2.2]? = some (.cells #[.slice none 0 0] 24 (0, 0))) ∧ (w.heap.size ≤ s_.2.2) ∧ (w.heap.size ≤ s_.2.2) ∧ (gb158 ≠ s_.2.2) ∧ (s_.2.2 ≠ gb158) ∧ (gb174 ≠ s_.2.2) ∧ (s_.2.2 ≠ gb174) ∧ (gb178 ≠ s_.2.2) ∧ (s_.2.2 ≠ gb178) ∧ (Below w.heap.size w w')) ?_ ?_
     rotate_left
     ·intro hCont
      refine two_ (i := 4) (j := 12) (Ni := some 86) (Nj := some 10) (z9 14 1023) (z9 14 5103) rfl rfl rfl rfl (two_of HT_.out (by kernel_rfl)) (by decide) (by decide) (fun K hK => ?_) (fun K hK => ?_)
      ·skip
       refine Kd.N_append_rows_step k34 (w0 := w) w.heap.size (by rfl) (.const (.slice none 0 0)) (.tmp 85) 22 34 (.agg #[(.string ⟨#[]⟩), (.slice none 0 0)]) 40 rfl Try.underlying22 info34 rfl (by decide) (by omega) (.slice none 0 0) ([] : List (S34)) y190 _ _ _ (fun k_ => (P0_0_ k_ ∨ w.heap.size ≤ k_) ∧ some k_ ≠ (.slice Ao56 y168.length co56 : Value).ownBlock ∧ some k_ ≠ (.slice Ao57 y171.length co57 : Value).ownBlock ∧ some k_ ≠ (.slice (some ⟨go43, 0, none⟩) y175.length co63 : Value).ownBlock ∧ some k_ ≠ (.slice Ao75 y183.length co75 : Value).ownBlock ∧ k_ ≠ gb158 ∧ k_ ≠ gb174 ∧ k_ ≠ gb178) (fun k_ => ((fun k_ => (P0_0_ k_ ∨ w.heap.size ≤ k_) ∧ some k_ ≠ (.slice Ao56 y168.length co56 : Value).ownBlock ∧ some k_ ≠ (.slice Ao57 y171.length co57 : Value).ownBlock ∧ some k_ ≠ (.slice (some ⟨go43, 0, none⟩) y175.length co63 : Value).ownBlock ∧ some k_ ≠ (.slice Ao75 y183.length co75 : Value).ownBlock ∧ k_ ≠ gb158 ∧ k_ ≠ gb174 ∧ k_ ≠ gb178)) k_ ∧ some k_ ≠ (.slice none 0 0 : Value).ownBlock) rfl rfl ?aO ?aR (fun _ hk => hk) ?aF ?aB ?aS ?aL ?_
       (case aR => exact (by skip; exact Kd.V_F (Kd.V_mono (ok' := (fun k_ => ((fun k_ => (P0_0_ k_ ∨ w.heap.size ≤ k_) ∧ some k_ ≠ (.slice Ao56 y168.length co56 : Value).ownBlock ∧ some k_ ≠ (.slice Ao57 y171.length co57 : Value).ownBlock ∧ some k_ ≠ (.slice (some ⟨go43, 0, none⟩) y175.length co63 : Value).ownBlock ∧ some k_ ≠ (.slice Ao75 y183.length co75 : Value).ownBlock ∧ k_ ≠ gb158 ∧ k_ ≠ gb174 ∧ k_ ≠ gb178)) k_ ∧ some k_ ≠ (.slice none 0 0 : Value).ownBlock)) (HO194.out) (fun k_ hk => ⟨⟨hk.1, ⟨hk.2.1, ⟨hk.2.2.1, ⟨hk.2.2.2.1, ⟨hk.2.2.2.2.1, ⟨hk.2.2.2.2.2.1, ⟨hk.2.2.2.2.2.2.1, hk.2.2.2.2.2.2.2⟩⟩⟩⟩⟩⟩⟩, (by simp [Value.ownBlock])⟩))))
       (case aB => exact HB.out)
       (case aF => exact (fun k_ hk => ⟨(.inr (Nat.le_trans (below_size HB.out) hk)), Kd.fresh' (Kd.N_lt HO170.out) k_ hk, Kd.fresh' (Kd.N_lt HO173.out) k_ hk, Kd.fresh' (Kd.N_lt HO177.out) k_ hk, Kd.fresh' (Kd.R_lt HO185.out) k_ hk, Kd.freshB (g := gb158) (o := .cells #[.slice (some ad179) l0_0.length c0_0] 24 (0, 0)) BK158.out k_ hk, Kd.freshB (g := gb174) (o := .cells #[.slice Ao57 y171.length co57] 24 (0, 0)) BK174.out k_ hk, Kd.freshB (g := gb178) (o := .cells #[.slice (some ⟨go43, 0, none⟩) y175.length co63] 24 (0, 0)) BK178.out k_ hk⟩))
       (case aO => exact ((Kd.N_nil _ _ _ _ (fun k_ => (P0_0_ k_ ∨ w.heap.size ≤ k_) ∧ some k_ ≠ (.slice Ao56 y168.length co56 : Value).ownBlock ∧ some k_ ≠ (.slice Ao57 y171.length co57 : Value).ownBlock ∧ some k_ ≠ (.slice (some ⟨go43, 0, none⟩) y175.length co63 : Value).ownBlock ∧ some k_ ≠ (.slice Ao75 y183.length co75 : Value).ownBlock ∧ k_ ≠ gb158 ∧ k_ ≠ gb174 ∧ k_ ≠ gb178))))
       (case aS => exact (below_size HB.out))
       (case aL => have := LMc46.out; omega)
       intro v196 w81 ho hb hg hat
       rw [← Ny195.out] at ho
       replace HO_159000 := am9_ (Kd.V_afterv (Kd.V_apart_nil HO_159000.out) hg hat)
       replace BK158 := am9_ (blk_grown BK158.out hg (by simp [Value.ownBlock]))
       replace HO170 := am9_ (Kd.N_afterv (Kd.N_apart_nil HO170.out) hg hat)
       replace HO173 := am9_ (Kd.N_afterv (Kd.N_apart_nil HO173.out) hg hat)
       replace BK174 := am9_ (blk_grown BK174.out hg (by simp [Value.ownBlock]))
       replace HO177 := am9_ (Kd.N_afterv (Kd.N_apart_nil HO177.out) hg hat)
       replace BK178 := am9_ (blk_grown BK178.out hg (by simp [Value.ownBlock]))
       replace HL179_1 := am9_ (Kd.V_afterv (Kd.V_apart_nil HL179_1.out) hg hat)
       replace HO185 := am9_ (Kd.R_grown HO185.out hg (fun _ _ => by simp [Value.ownBlock]))
       replace HO194 := am9_ (Kd.V_afterv (Kd.V_apart_nil HO194.out) hg hat)
       replace HO202 := am9_ (Kd.V_afterv (Kd.V_apart_nil HO202.out) hg hat)
       replace HB := am9_ (hb)
       have HO197 := am9_ (ho)
       clear ho hb hg hat
       refine hK.out _ _ ((blk_cell BK158.out 0).trans rfl) (fun hHeld => ?_)
       clear hK K
       refine norm_ (a' := ?_) ?_ ?_
       rotate_left
       ·show Act.put _ (some 86) _ = _
        simp only [Act.put, k19, k29, k39, i64_w, i32_w]
        rfl
       refine two_ (i := 10) (j := 12) (Ni := some 92) (Nj := some 10) (z9 14 2047) (z9 14 5119) rfl rfl rfl rfl (two_of HT_.out (by kernel_rfl)) (by decide) (by decide) (fun K hK => ?_) (fun K hK => ?_)
       ·skip
        refine Kd.N_append_rows_step k34 (w0 := w) w.heap.size (by rfl) (.tmp 86) (.tmp 91) 22 34 (.agg #[(.string ⟨#[]⟩), (.slice none 0 0)]) 40 rfl Try.underlying22 info34 rfl (by decide) (by omega) v196 y195 y198 _ _ _ (fun k_ => (P0_0_ k_ ∨ w.heap.size ≤ k_) ∧ some k_ ≠ (.slice Ao56 y168.length co56 : Value).ownBlock ∧ some k_ ≠ (.slice Ao57 y171.length co57 : Value).ownBlock ∧ some k_ ≠ (.slice (some ⟨go43, 0, none⟩) y175.length co63 : Value).ownBlock ∧ some k_ ≠ (.slice Ao75 y183.length co75 : Value).ownBlock ∧ k_ ≠ gb158 ∧ k_ ≠ gb174 ∧ k_ ≠ gb178) (fun k_ => ((fun k_ => (P0_0_ k_ ∨ w.heap.size ≤ k_) ∧ some k_ ≠ (.slice Ao56 y168.length co56 : Value).ownBlock ∧ some k_ ≠ (.slice Ao57 y171.length co57 : Value).ownBlock ∧ some k_ ≠ (.slice (some ⟨go43, 0, none⟩) y175.length co63 : Value).ownBlock ∧ some k_ ≠ (.slice Ao75 y183.length co75 : Value).ownBlock ∧ k_ ≠ gb158 ∧ k_ ≠ gb174 ∧ k_ ≠ gb178)) k_ ∧ some k_ ≠ (v196 : Value).ownBlock) rfl rfl ?aO ?aR (fun _ hk => hk) ?aF ?aB ?aS ?aL ?_
        (case aR => exact (by skip; exact Kd.V_F (Kd.V_mono (ok' := (fun k_ => ((fun k_ => (P0_0_ k_ ∨ w.heap.size ≤ k_) ∧ some k_ ≠ (.slice Ao56 y168.length co56 : Value).ownBlock ∧ some k_ ≠ (.slice Ao57 y171.length co57 : Value).ownBlock ∧ some k_ ≠ (.slice (some ⟨go43, 0, none⟩) y175.length co63 : Value).ownBlock ∧ some k_ ≠ (.slice Ao75 y183.length co75 : Value).ownBlock ∧ k_ ≠ gb158 ∧ k_ ≠ gb174 ∧ k_ ≠ gb178)) k_ ∧ some k_ ≠ (v196 : Value).ownBlock)) (HO202.out) (fun k_ hk => ⟨⟨hk.1.1, ⟨hk.1.2.1, ⟨hk.1.2.2.1, ⟨hk.1.2.2.2.1, ⟨hk.1.2.2.2.2.1, ⟨hk.1.2.2.2.2.2.1, ⟨hk.1.2.2.2.2.2.2.1, hk.1.2.2.2.2.2.2.2⟩⟩⟩⟩⟩⟩⟩, hk.2⟩))))
        (case aB => exact HB.out)
        (case aF => exact (fun k_ hk => ⟨(.inr (Nat.le_trans (below_size HB.out) hk)), Kd.fresh' (Kd.N_lt HO170.out) k_ hk, Kd.fresh' (Kd.N_lt HO173.out) k_ hk, Kd.fresh' (Kd.N_lt HO177.out) k_ hk, Kd.fresh' (Kd.R_lt HO185.out) k_ hk, Kd.freshB (g := gb158) (o := .cells #[.slice (some ad179) l0_0.length c0_0] 24 (0, 0)) BK158.out k_ hk, Kd.freshB (g := gb174) (o := .cells #[.slice Ao57 y171.length co57] 24 (0, 0)) BK174.out k_ hk, Kd.freshB (g := gb178) (o := .cells #[.slice (some ⟨go43, 0, none⟩) y175.length co63] 24 (0, 0)) BK178.out k_ hk⟩))
        (case aO => exact HO197.out)
        (case aS => exact (below_size HB.out))
        (case aL => have := LMc50.out; omega)
        intro v204 w82 ho hb hg hat
        rw [← Ny203.out] at ho
        replace HO_159000 := am9_ (Kd.V_afterv (ok := (fun k_ => (P0_0_ k_ ∨ w.heap.size ≤ k_) ∧ some k_ ≠ (.slice Ao56 y168.length co56 : Value).ownBlock ∧ some k_ ≠ (.slice Ao57 y171.length co57 : Value).ownBlock ∧ some k_ ≠ (.slice (some ⟨go43, 0, none⟩) y175.length co63 : Value).ownBlock ∧ some k_ ≠ (.slice Ao75 y183.length co75 : Value).ownBlock ∧ k_ ≠ gb158 ∧ k_ ≠ gb174 ∧ k_ ≠ gb178)) HO_159000.out hg hat)
        replace BK158 := am9_ (blk_grown BK158.out hg (Kd.N_ne HO197.out BK158.out (by decide)))
        replace HO170 := am9_ (Kd.N_afterv (ok := (fun k_ => (P0_0_ k_ ∨ w.heap.size ≤ k_) ∧ some k_ ≠ (.slice Ao57 y171.length co57 : Value).ownBlock ∧ some k_ ≠ (.slice (some ⟨go43, 0, none⟩) y175.length co63 : Value).ownBlock ∧ some k_ ≠ (.slice Ao75 y183.length co75 : Value).ownBlock ∧ k_ ≠ gb158 ∧ k_ ≠ gb174 ∧ k_ ≠ gb178)) HO170.out hg hat)
        replace HO173 := am9_ (Kd.N_afterv (ok := (fun k_ => (P0_0_ k_ ∨ w.heap.size ≤ k_) ∧ some k_ ≠ (.slice (some ⟨go43, 0, none⟩) y175.length co63 : Value).ownBlock ∧ some k_ ≠ (.slice Ao75 y183.length co75 : Value).ownBlock ∧ k_ ≠ gb158 ∧ k_ ≠ gb174 ∧ k_ ≠ gb178)) HO173.out hg hat)
        replace BK174 := am9_ (blk_grown BK174.out hg (Kd.N_ne HO197.out BK174.out (by decide)))
        replace HO177 := am9_ (Kd.N_afterv (ok := (fun k_ => (P0_0_ k_ ∨ w.heap.size ≤ k_) ∧ some k_ ≠ (.slice Ao56 y168.length co56 : Value).ownBlock ∧ some k_ ≠ (.slice Ao57 y171.length co57 : Value).ownBlock ∧ some k_ ≠ (.slice Ao75 y183.length co75 : Value).ownBlock ∧ k_ ≠ gb158 ∧ k_ ≠ gb174 ∧ k_ ≠ gb178)) HO177.out hg hat)
        replace BK178 := am9_ (blk_grown BK178.out hg (Kd.N_ne HO197.out BK178.out (by decide)))
        replace HL179_1 := am9_ (Kd.V_afterv (ok := (fun k_ => (P0_0_ k_ ∨ w.heap.size ≤ k_) ∧ some k_ ≠ (.slice Ao56 y168.length co56 : Value).ownBlock ∧ some k_ ≠ (.slice Ao57 y171.length co57 : Value).ownBlock ∧ some k_ ≠ (.slice (some ⟨go43, 0, none⟩) y175.length co63 : Value).ownBlock ∧ some k_ ≠ (.slice Ao75 y183.length co75 : Value).ownBlock ∧ k_ ≠ gb158 ∧ k_ ≠ gb174 ∧ k_ ≠ gb178)) HL179_1.out hg hat)
        replace HO185 := am9_ (Kd.R_over' HO185.out (Kd.N_typed HO197.out) (by decide) hg)
        replace HO194 := am9_ (Kd.V_afterv (ok := (fun k_ => (P0_0_ k_ ∨ w.heap.size ≤ k_) ∧ some k_ ≠ (.slice Ao56 y168.length co56 : Value).ownBlock ∧ some k_ ≠ (.slice Ao57 y171.length co57 : Value).ownBlock ∧ some k_ ≠ (.slice (some ⟨go43, 0, none⟩) y175.length co63 : Value).ownBlock ∧ some k_ ≠ (.slice Ao75 y183.length co75 : Value).ownBlock ∧ k_ ≠ gb158 ∧ k_ ≠ gb174 ∧ k_ ≠ gb178)) HO194.out hg hat)
        replace HO202 := am9_ (Kd.V_afterv (ok := (fun k_ => (P0_0_ k_ ∨ w.heap.size ≤ k_) ∧ some k_ ≠ (.slice Ao56 y168.length co56 : Value).ownBlock ∧ some k_ ≠ (.slice Ao57 y171.length co57 : Value).ownBlock ∧ some k_ ≠ (.slice (some ⟨go43, 0, none⟩) y175.length co63 : Value).ownBlock ∧ some k_ ≠ (.slice Ao75 y183.length co75 : Value).ownBlock ∧ k_ ≠ gb158 ∧ k_ ≠ gb174 ∧ k_ ≠ gb178)) HO202.out hg hat)
        replace HB := am9_ (hb)
        have HO205 := am9_ (ho)
        clear HO197 ho hb hg hat
        obtain ⟨Ao83, co83, eo83⟩ := Kd.N_slice HO205.out
        (first | subst eo83 | (injection eo83 with f1_ f2_ f3_; have f4_ := f1_.symm; have f5_ := f3_.symm; clear f1_ f2_ f3_; subst f4_; subst f5_))
        refine hK.out _ _ ((blk_cell BK158.out 0).trans rfl) (fun hHeld => ?_)
        clear hK K
        refine norm_ (a' := ?_) ?_ ?_
        rotate_left
        ·show Act.put _ (some 92) _ = _
         simp only [Act.put, k19, k29, k39, i64_w, i32_w]
         rfl
        refine pure_ (i := 11) (N := some 93) (v := ?_) (a' := ?_) (z9 14 4095) rfl rfl (ao9 HT_.out (by kernel_rfl)) (fun _ _ _ h => h) (Or.inl ⟨by rfl, ?_⟩) ?_ ?_; rotate_left; (·intro w'; go_simp; with_reducible rfl); rotate_left; (·simp only [Act.put, k19, k29, k39, i64_w, i32_w]; rfl)
        refine one_ (i := 12) (N := some 10) (z9 14 8191) rfl rfl (one_of HT_.out (by kernel_rfl)) (by decide) (fun K hK => ?_)
        refine box_step ?hg (N := 10) ?hd (cs := #[.slice none 0 0]) (t := 24) ?hr ?_; (case hd => rfl); (case hg => rfl); (case hr => first | (go_simp; done) | (go_simp; rfl))
        intro gb206 hg w84 hbox hb
        replace HO_159000 := am9_ (Kd.V_below (Kd.V_elderB HO_159000.out gb206 (Nat.le_of_eq hg.symm)) hb)
        replace HO170 := am9_ (Kd.N_below (Kd.N_elderB HO170.out gb206 (Nat.le_of_eq hg.symm)) hb)
        replace HO173 := am9_ (Kd.N_below (Kd.N_elderB HO173.out gb206 (Nat.le_of_eq hg.symm)) hb)
        replace HO177 := am9_ (Kd.N_below (Kd.N_elderB HO177.out gb206 (Nat.le_of_eq hg.symm)) hb)
        replace HL179_1 := am9_ (Kd.V_below (Kd.V_elderB HL179_1.out gb206 (Nat.le_of_eq hg.symm)) hb)
        replace HO185 := am9_ (Kd.R_below HO185.out hb)
        replace HO194 := am9_ (Kd.V_below (Kd.V_elderB HO194.out gb206 (Nat.le_of_eq hg.symm)) hb)
        replace HO202 := am9_ (Kd.V_below (Kd.V_elderB HO202.out gb206 (Nat.le_of_eq hg.symm)) hb)
        replace HO205 := am9_ (Kd.N_below (Kd.N_elderB HO205.out gb206 (Nat.le_of_eq hg.symm)) hb)
        have BK206 := am9_ (hbox)
        have GW206 := am9_ ((by rw [hg]; exact (below_size HB.out) : w.heap.size ≤ gb206))
        have GE206 := am9_ ((by rw [hg]; exact (below_size HB.out) : w.heap.size ≤ gb206))
        replace HB := am9_ (below_step HB.out hb)
        have NB158_206 := am9_ ((by rw [hg]; exact Nat.ne_of_lt (blk_lt BK158.out) : gb158 ≠ gb206))
        have NB206_158 := am9_ ((by rw [hg]; exact Nat.ne_of_gt (blk_lt BK158.out) : gb206 ≠ gb158))
        replace BK158 := am9_ (blk_below BK158.out hb)
        have NB174_206 := am9_ ((by rw [hg]; exact Nat.ne_of_lt (blk_lt BK174.out) : gb174 ≠ gb206))
        have NB206_174 := am9_ ((by rw [hg]; exact Nat.ne_of_gt (blk_lt BK174.out) : gb206 ≠ gb174))
        replace BK174 := am9_ (blk_below BK174.out hb)
        have NB178_206 := am9_ ((by rw [hg]; exact Nat.ne_of_lt (blk_lt BK178.out) : gb178 ≠ gb206))
        have NB206_178 := am9_ ((by rw [hg]; exact Nat.ne_of_gt (blk_lt BK178.out) : gb206 ≠ gb178))
        replace BK178 := am9_ (blk_below BK178.out hb)
        clear hb hbox hg
        refine hK.out _ _ ((blk_cell BK158.out 0).trans rfl) (fun hHeld => ?_)
        clear hK K
        refine norm_ (a' := ?_) ?_ ?_
        rotate_left
        ·show Act.put _ (some 10) _ = _
         simp only [Act.put, k19, k29, k39, i64_w, i32_w]
         rfl
        exact norm_ (by simp only [putAll, Act.put, List.setIfInBounds_toArray, List.set_cons_zero, List.set_cons_succ]) (hCont (v196, .slice Ao83 y203.length co83, gb206) _ ⟨hHeld, (Kd.V_mono HL179_1.out (fun _ hk => ⟨hk.1.1.1, ⟨hk.1.1.2.1, ⟨hk.1.1.2.2.1, ⟨hk.1.1.2.2.2.1, ⟨hk.1.1.2.2.2.2.1, ⟨hk.1.2, ⟨hk.1.1.2.2.2.2.2.1, ⟨hk.1.1.2.2.2.2.2.2.1, ⟨hk.1.1.2.2.2.2.2.2.2, hk.2⟩⟩⟩⟩⟩⟩⟩⟩⟩)), (Kd.N_mono HO170.out (fun _ hk => ⟨hk.1.1.1, ⟨hk.1.1.2.1, ⟨hk.1.1.2.2.1, ⟨hk.1.1.2.2.2.1, ⟨hk.1.2, ⟨hk.1.1.2.2.2.2.1, ⟨hk.1.1.2.2.2.2.2.1, ⟨hk.1.1.2.2.2.2.2.2, hk.2⟩⟩⟩⟩⟩⟩⟩⟩)), (Kd.N_mono HO173.out (fun _ hk => ⟨hk.1.1.1, ⟨hk.1.1.2.1, ⟨hk.1.1.2.2.1, ⟨hk.1.2, ⟨hk.1.1.2.2.2.1, ⟨hk.1.1.2.2.2.2.1, ⟨hk.1.1.2.2.2.2.2, hk.2⟩⟩⟩⟩⟩⟩⟩)), (Kd.N_mono HO177.out (fun _ hk => ⟨hk.1.1.1, ⟨hk.1.1.2.1, ⟨hk.1.1.2.2.1, ⟨hk.1.1.2.2.2.1, ⟨hk.1.2, ⟨hk.1.1.2.2.2.2.1, ⟨hk.1.1.2.2.2.2.2.1, ⟨hk.1.1.2.2.2.2.2.2, hk.2⟩⟩⟩⟩⟩⟩⟩⟩)), HO185.out, (Kd.V_mono HO194.out (fun _ hk => ⟨hk.1.1.1, ⟨hk.1.1.2.1, ⟨hk.1.1.2.2.1, ⟨hk.1.1.2.2.2.1, ⟨hk.1.1.2.2.2.2.1, ⟨hk.1.2, ⟨hk.1.1.2.2.2.2.2.1, ⟨hk.1.1.2.2.2.2.2.2.1, ⟨hk.1.1.2.2.2.2.2.2.2, hk.2⟩⟩⟩⟩⟩⟩⟩⟩⟩)), (Kd.V_mono HO202.out (fun _ hk => ⟨hk.1.1.1, ⟨hk.1.1.2.1, ⟨hk.1.1.2.2.1, ⟨hk.1.1.2.2.2.1, ⟨hk.1.1.2.2.2.2.1, ⟨hk.1.2, ⟨hk.1.1.2.2.2.2.2.1, ⟨hk.1.1.2.2.2.2.2.2.1, ⟨hk.1.1.2.2.2.2.2.2.2, hk.2⟩⟩⟩⟩⟩⟩⟩⟩⟩)), (Kd.N_mono HO205.out (fun _ hk => ⟨hk.1.1, ⟨hk.1.2.1, ⟨hk.1.2.2.1, ⟨hk.1.2.2.2.1, ⟨hk.1.2.2.2.2.1, ⟨hk.1.2.2.2.2.2.1, ⟨hk.1.2.2.2.2.2.2.1, ⟨hk.1.2.2.2.2.2.2.2, hk.2⟩⟩⟩⟩⟩⟩⟩⟩)), (Kd.V_mono HO_159000.out (fun _ hk => ⟨hk.1.1.1, ⟨hk.1.1.2.1, ⟨hk.1.1.2.2.1, ⟨hk.1.1.2.2.2.1, ⟨hk.1.1.2.2.2.2.1, ⟨hk.1.2, ⟨hk.1.1.2.2.2.2.2.1, ⟨hk.1.1.2.2.2.2.2.2.1, ⟨hk.1.1.2.2.2.2.2.2.2, hk.2⟩⟩⟩⟩⟩⟩⟩⟩⟩)), BK158.out, BK174.out, BK178.out, BK206.out, GW206.out, GE206.out, NB158_206.out, NB206_158.out, NB174_206.out, NB206_174.out, NB178_206.out, NB206_178.out, HB.out⟩)
       ·skip
        refine box_step ?hg (N := 10) ?hd (cs := #[.slice none 0 0]) (t := 24) ?hr ?_; (case hd => rfl); (case hg => rfl); (case hr => first | (go_simp; done) | (go_simp; rfl))
        intro gb206 hg w82 hbox hb
        replace HO_159000 := am9_ (Kd.V_below (Kd.V_elderB HO_159000.out gb206 (Nat.le_of_eq hg.symm)) hb)
        replace HO170 := am9_ (Kd.N_below (Kd.N_elderB HO170.out gb206 (Nat.le_of_eq hg.symm)) hb)
        replace HO173 := am9_ (Kd.N_below (Kd.N_elderB HO173.out gb206 (Nat.le_of_eq hg.symm)) hb)
        replace HO177 := am9_ (Kd.N_below (Kd.N_elderB HO177.out gb206 (Nat.le_of_eq hg.symm)) hb)
        replace HL179_1 := am9_ (Kd.V_below (Kd.V_elderB HL179_1.out gb206 (Nat.le_of_eq hg.symm)) hb)
        replace HO185 := am9_ (Kd.R_below HO185.out hb)
        replace HO194 := am9_ (Kd.V_below (Kd.V_elderB HO194.out gb206 (Nat.le_of_eq hg.symm)) hb)
        replace HO202 := am9_ (Kd.V_below (Kd.V_elderB HO202.out gb206 (Nat.le_of_eq hg.symm)) hb)
        replace HO197 := am9_ (Kd.N_below (Kd.N_elderB HO197.out gb206 (Nat.le_of_eq hg.symm)) hb)
        have BK206 := am9_ (hbox)
        have GW206 := am9_ ((by rw [hg]; exact (below_size HB.out) : w.heap.size ≤ gb206))
        have GE206 := am9_ ((by rw [hg]; exact (below_size HB.out) : w.heap.size ≤ gb206))
        replace HB := am9_ (below_step HB.out hb)
        have NB158_206 := am9_ ((by rw [hg]; exact Nat.ne_of_lt (blk_lt BK158.out) : gb158 ≠ gb206))
        have NB206_158 := am9_ ((by rw [hg]; exact Nat.ne_of_gt (blk_lt BK158.out) : gb206 ≠ gb158))
        replace BK158 := am9_ (blk_below BK158.out hb)
        have NB174_206 := am9_ ((by rw [hg]; exact Nat.ne_of_lt (blk_lt BK174.out) : gb174 ≠ gb206))
        have NB206_174 := am9_ ((by rw [hg]; exact Nat.ne_of_gt (blk_lt BK174.out) : gb206 ≠ gb174))
        replace BK174 := am9_ (blk_below BK174.out hb)
        have NB178_206 := am9_ ((by rw [hg]; exact Nat.ne_of_lt (blk_lt BK178.out) : gb178 ≠ gb206))
        have NB206_178 := am9_ ((by rw [hg]; exact Nat.ne_of_gt (blk_lt BK178.out) : gb206 ≠ gb178))
        replace BK178 := am9_ (blk_below BK178.out hb)
        clear hb hbox hg
        refine hK.out _ _ ((blk_cell BK158.out 0).trans rfl) (fun hHeld => ?_)
        clear hK K
        refine norm_ (a' := ?_) ?_ ?_
        rotate_left
        ·show Act.put _ (some 10) _ = _
         simp only [Act.put, k19, k29, k39, i64_w, i32_w]
         rfl
        refine one_ (i := 10) (N := some 92) (z9 14 6143) rfl rfl (one_of HT_.out (by kernel_rfl)) (by decide) (fun K hK => ?_)
        refine Kd.N_append_rows_step k34 (w0 := w) w.heap.size (by rfl) (.tmp 86) (.tmp 91) 22 34 (.agg #[(.string ⟨#[]⟩), (.slice none 0 0)]) 40 rfl Try.underlying22 info34 rfl (by decide) (by omega) v196 y195 y198 _ _ _ (fun k_ => (P0_0_ k_ ∨ w.heap.size ≤ k_) ∧ some k_ ≠ (.slice Ao56 y168.length co56 : Value).ownBlock ∧ some k_ ≠ (.slice Ao57 y171.length co57 : Value).ownBlock ∧ some k_ ≠ (.slice (some ⟨go43, 0, none⟩) y175.length co63 : Value).ownBlock ∧ some k_ ≠ (.slice Ao75 y183.length co75 : Value).ownBlock ∧ k_ ≠ gb158 ∧ k_ ≠ gb174 ∧ k_ ≠ gb178 ∧ k_ ≠ gb206) (fun k_ => ((fun k_ => (P0_0_ k_ ∨ w.heap.size ≤ k_) ∧ some k_ ≠ (.slice Ao56 y168.length co56 : Value).ownBlock ∧ some k_ ≠ (.slice Ao57 y171.length co57 : Value).ownBlock ∧ some k_ ≠ (.slice (some ⟨go43, 0, none⟩) y175.length co63 : Value).ownBlock ∧ some k_ ≠ (.slice Ao75 y183.length co75 : Value).ownBlock ∧ k_ ≠ gb158 ∧ k_ ≠ gb174 ∧ k_ ≠ gb178 ∧ k_ ≠ gb206)) k_ ∧ some k_ ≠ (v196 : Value).ownBlock) rfl rfl ?aO ?aR (fun _ hk => hk) ?aF ?aB ?aS ?aL ?_
        (case aR => exact (by skip; exact Kd.V_F (Kd.V_mono (ok' := (fun k_ => ((fun k_ => (P0_0_ k_ ∨ w.heap.size ≤ k_) ∧ some k_ ≠ (.slice Ao56 y168.length co56 : Value).ownBlock ∧ some k_ ≠ (.slice Ao57 y171.length co57 : Value).ownBlock ∧ some k_ ≠ (.slice (some ⟨go43, 0, none⟩) y175.length co63 : Value).ownBlock ∧ some k_ ≠ (.slice Ao75 y183.length co75 : Value).ownBlock ∧ k_ ≠ gb158 ∧ k_ ≠ gb174 ∧ k_ ≠ gb178 ∧ k_ ≠ gb206)) k_ ∧ some k_ ≠ (v196 : Value).ownBlock)) (HO202.out) (fun k_ hk => ⟨⟨hk.1.1.1, ⟨hk.1.1.2.1, ⟨hk.1.1.2.2.1, ⟨hk.1.1.2.2.2.1, ⟨hk.1.1.2.2.2.2.1, ⟨hk.1.1.2.2.2.2.2.1, ⟨hk.1.1.2.2.2.2.2.2.1, ⟨hk.1.1.2.2.2.2.2.2.2, hk.2⟩⟩⟩⟩⟩⟩⟩⟩, hk.1.2⟩))))
        (case aB => exact HB.out)
        (case aF => exact (fun k_ hk => ⟨(.inr (Nat.le_trans (below_size HB.out) hk)), Kd.fresh' (Kd.N_lt HO170.out) k_ hk, Kd.fresh' (Kd.N_lt HO173.out) k_ hk, Kd.fresh' (Kd.N_lt HO177.out) k_ hk, Kd.fresh' (Kd.R_lt HO185.out) k_ hk, Kd.freshB (g := gb158) (o := .cells #[.slice (some ad179) l0_0.length c0_0] 24 (0, 0)) BK158.out k_ hk, Kd.freshB (g := gb174) (o := .cells #[.slice Ao57 y171.length co57] 24 (0, 0)) BK174.out k_ hk, Kd.freshB (g := gb178) (o := .cells #[.slice (some ⟨go43, 0, none⟩) y175.length co63] 24 (0, 0)) BK178.out k_ hk, Kd.freshB (g := gb206) (o := .cells #[.slice none 0 0] 24 (0, 0)) BK206.out k_ hk⟩))
        (case aO => exact (Kd.N_mono HO197.out (fun _ hk => ⟨hk.1.1, ⟨hk.1.2.1, ⟨hk.1.2.2.1, ⟨hk.1.2.2.2.1, ⟨hk.1.2.2.2.2.1, ⟨hk.1.2.2.2.2.2.1, ⟨hk.1.2.2.2.2.2.2.1, ⟨hk.1.2.2.2.2.2.2.2, hk.2⟩⟩⟩⟩⟩⟩⟩⟩)))
        (case aS => exact (below_size HB.out))
        (case aL => have := LMc50.out; omega)
        intro v204 w83 ho hb hg hat
        rw [← Ny203.out] at ho
        replace HO_159000 := am9_ (Kd.V_afterv (ok := (fun k_ => (P0_0_ k_ ∨ w.heap.size ≤ k_) ∧ some k_ ≠ (.slice Ao56 y168.length co56 : Value).ownBlock ∧ some k_ ≠ (.slice Ao57 y171.length co57 : Value).ownBlock ∧ some k_ ≠ (.slice (some ⟨go43, 0, none⟩) y175.length co63 : Value).ownBlock ∧ some k_ ≠ (.slice Ao75 y183.length co75 : Value).ownBlock ∧ k_ ≠ gb158 ∧ k_ ≠ gb174 ∧ k_ ≠ gb178 ∧ k_ ≠ gb206)) (Kd.V_mono HO_159000.out (fun _ hk => ⟨⟨hk.1.1.1, ⟨hk.1.1.2.1, ⟨hk.1.1.2.2.1, ⟨hk.1.1.2.2.2.1, ⟨hk.1.1.2.2.2.2.1, ⟨hk.1.1.2.2.2.2.2.1, ⟨hk.1.1.2.2.2.2.2.2.1, ⟨hk.1.1.2.2.2.2.2.2.2, hk.2⟩⟩⟩⟩⟩⟩⟩⟩, hk.1.2⟩)) hg hat)
        replace BK158 := am9_ (blk_grown BK158.out hg (Kd.N_ne HO197.out BK158.out (by decide)))
        replace HO170 := am9_ (Kd.N_afterv (ok := (fun k_ => (P0_0_ k_ ∨ w.heap.size ≤ k_) ∧ some k_ ≠ (.slice Ao57 y171.length co57 : Value).ownBlock ∧ some k_ ≠ (.slice (some ⟨go43, 0, none⟩) y175.length co63 : Value).ownBlock ∧ some k_ ≠ (.slice Ao75 y183.length co75 : Value).ownBlock ∧ k_ ≠ gb158 ∧ k_ ≠ gb174 ∧ k_ ≠ gb178 ∧ k_ ≠ gb206)) (Kd.N_mono HO170.out (fun _ hk => ⟨⟨hk.1.1.1, ⟨hk.1.1.2.1, ⟨hk.1.1.2.2.1, ⟨hk.1.1.2.2.2.1, ⟨hk.1.1.2.2.2.2.1, ⟨hk.1.1.2.2.2.2.2.1, ⟨hk.1.1.2.2.2.2.2.2, hk.2⟩⟩⟩⟩⟩⟩⟩, hk.1.2⟩)) hg hat)
        replace HO173 := am9_ (Kd.N_afterv (ok := (fun k_ => (P0_0_ k_ ∨ w.heap.size ≤ k_) ∧ some k_ ≠ (.slice (some ⟨go43, 0, none⟩) y175.length co63 : Value).ownBlock ∧ some k_ ≠ (.slice Ao75 y183.length co75 : Value).ownBlock ∧ k_ ≠ gb158 ∧ k_ ≠ gb174 ∧ k_ ≠ gb178 ∧ k_ ≠ gb206)) (Kd.N_mono HO173.out (fun _ hk => ⟨⟨hk.1.1.1, ⟨hk.1.1.2.1, ⟨hk.1.1.2.2.1, ⟨hk.1.1.2.2.2.1, ⟨hk.1.1.2.2.2.2.1, ⟨hk.1.1.2.2.2.2.2, hk.2⟩⟩⟩⟩⟩⟩, hk.1.2⟩)) hg hat)
        replace BK174 := am9_ (blk_grown BK174.out hg (Kd.N_ne HO197.out BK174.out (by decide)))
        replace HO177 := am9_ (Kd.N_afterv (ok := (fun k_ => (P0_0_ k_ ∨ w.heap.size ≤ k_) ∧ some k_ ≠ (.slice Ao56 y168.length co56 : Value).ownBlock ∧ some k_ ≠ (.slice Ao57 y171.length co57 : Value).ownBlock ∧ some k_ ≠ (.slice Ao75 y183.length co75 : Value).ownBlock ∧ k_ ≠ gb158 ∧ k_ ≠ gb174 ∧ k_ ≠ gb178 ∧ k_ ≠ gb206)) (Kd.N_mono HO177.out (fun _ hk => ⟨⟨hk.1.1.1, ⟨hk.1.1.2.1, ⟨hk.1.1.2.2.1, ⟨hk.1.1.2.2.2.1, ⟨hk.1.1.2.2.2.2.1, ⟨hk.1.1.2.2.2.2.2.1, ⟨hk.1.1.2.2.2.2.2.2, hk.2⟩⟩⟩⟩⟩⟩⟩, hk.1.2⟩)) hg hat)
        replace BK178 := am9_ (blk_grown BK178.out hg (Kd.N_ne HO197.out BK178.out (by decide)))
        replace HL179_1 := am9_ (Kd.V_afterv (ok := (fun k_ => (P0_0_ k_ ∨ w.heap.size ≤ k_) ∧ some k_ ≠ (.slice Ao56 y168.length co56 : Value).ownBlock ∧ some k_ ≠ (.slice Ao57 y171.length co57 : Value).ownBlock ∧ some k_ ≠ (.slice (some ⟨go43, 0, none⟩) y175.length co63 : Value).ownBlock ∧ some k_ ≠ (.slice Ao75 y183.length co75 : Value).ownBlock ∧ k_ ≠ gb158 ∧ k_ ≠ gb174 ∧ k_ ≠ gb178 ∧ k_ ≠ gb206)) (Kd.V_mono HL179_1.out (fun _ hk => ⟨⟨hk.1.1.1, ⟨hk.1.1.2.1, ⟨hk.1.1.2.2.1, ⟨hk.1.1.2.2.2.1, ⟨hk.1.1.2.2.2.2.1, ⟨hk.1.1.2.2.2.2.2.1, ⟨hk.1.1.2.2.2.2.2.2.1, ⟨hk.1.1.2.2.2.2.2.2.2, hk.2⟩⟩⟩⟩⟩⟩⟩⟩, hk.1.2⟩)) hg hat)
        replace HO185 := am9_ (Kd.R_over' HO185.out (Kd.N_typed HO197.out) (by decide) hg)
        replace HO194 := am9_ (Kd.V_afterv (ok := (fun k_ => (P0_0_ k_ ∨ w.heap.size ≤ k_) ∧ some k_ ≠ (.slice Ao56 y168.length co56 : Value).ownBlock ∧ some k_ ≠ (.slice Ao57 y171.length co57 : Value).ownBlock ∧ some k_ ≠ (.slice (some ⟨go43, 0, none⟩) y175.length co63 : Value).ownBlock ∧ some k_ ≠ (.slice Ao75 y183.length co75 : Value).ownBlock ∧ k_ ≠ gb158 ∧ k_ ≠ gb174 ∧ k_ ≠ gb178 ∧ k_ ≠ gb206)) (Kd.V_mono HO194.out (fun _ hk => ⟨⟨hk.1.1.1, ⟨hk.1.1.2.1, ⟨hk.1.1.2.2.1, ⟨hk.1.1.2.2.2.1, ⟨hk.1.1.2.2.2.2.1, ⟨hk.1.1.2.2.2.2.2.1, ⟨hk.1.1.2.2.2.2.2.2.1, ⟨hk.1.1.2.2.2.2.2.2.2, hk.2⟩⟩⟩⟩⟩⟩⟩⟩, hk.1.2⟩)) hg hat)
        replace HO202 := am9_ (Kd.V_afterv (ok := (fun k_ => (P0_0_ k_ ∨ w.heap.size ≤ k_) ∧ some k_ ≠ (.slice Ao56 y168.length co56 : Value).ownBlock ∧ some k_ ≠ (.slice Ao57 y171.length co57 : Value).ownBlock ∧ some k_ ≠ (.slice (some ⟨go43, 0, none⟩) y175.length co63 : Value).ownBlock ∧ some k_ ≠ (.slice Ao75 y183.length co75 : Value).ownBlock ∧ k_ ≠ gb158 ∧ k_ ≠ gb174 ∧ k_ ≠ gb178 ∧ k_ ≠ gb206)) (Kd.V_mono HO202.out (fun _ hk => ⟨⟨hk.1.1.1, ⟨hk.1.1.2.1, ⟨hk.1.1.2.2.1, ⟨hk.1.1.2.2.2.1, ⟨hk.1.1.2.2.2.2.1, ⟨hk.1.1.2.2.2.2.2.1, ⟨hk.1.1.2.2.2.2.2.2.1, ⟨hk.1.1.2.2.2.2.2.2.2, hk.2⟩⟩⟩⟩⟩⟩⟩⟩, hk.1.2⟩)) hg hat)
        replace BK206 := am9_ (blk_grown BK206.out hg (Kd.N_ne HO197.out BK206.out (by decide)))
        replace HB := am9_ (hb)
        have HO205 := am9_ (ho)
        clear HO197 ho hb hg hat
        obtain ⟨Ao84, co84, eo84⟩ := Kd.N_slice HO205.out
        (first | subst eo84 | (injection eo84 with f1_ f2_ f3_; have f4_ := f1_.symm; have f5_ := f3_.symm; clear f1_ f2_ f3_; subst f4_; subst f5_))
        refine hK.out _ _ ((blk_cell BK158.out 0).trans rfl) (fun hHeld => ?_)
        clear hK K
        refine norm_ (a' := ?_) ?_ ?_
        rotate_left
        ·show Act.put _ (some 92) _ = _
         simp only [Act.put, k19, k29, k39, i64_w, i32_w]
         rfl
        refine pure_ (i := 11) (N := some 93) (v := ?_) (a' := ?_) (z9 14 8191) rfl rfl (ao9 HT_.out (by kernel_rfl)) (fun _ _ _ h => h) (Or.inl ⟨by rfl, ?_⟩) ?_ ?_; rotate_left; (·intro w'; go_simp; with_reducible rfl); rotate_left; (·simp only [Act.put, k19, k29, k39, i64_w, i32_w]; rfl)
        exact norm_ (by simp only [putAll, Act.put, List.setIfInBounds_toArray, List.set_cons_zero, List.set_cons_succ]) (hCont (v196, .slice Ao84 y203.length co84, gb206) _ ⟨hHeld, (Kd.V_mono HL179_1.out (fun _ hk => ⟨hk.1.1, ⟨hk.1.2.1, ⟨hk.1.2.2.1, ⟨hk.1.2.2.2.1, ⟨hk.1.2.2.2.2.1, ⟨hk.2, ⟨hk.1.2.2.2.2.2.1, ⟨hk.1.2.2.2.2.2.2.1, ⟨hk.1.2.2.2.2.2.2.2.1, hk.1.2.2.2.2.2.2.2.2⟩⟩⟩⟩⟩⟩⟩⟩⟩)), (Kd.N_mono HO170.out (fun _ hk => ⟨hk.1.1, ⟨hk.1.2.1, ⟨hk.1.2.2.1, ⟨hk.1.2.2.2.1, ⟨hk.2, ⟨hk.1.2.2.2.2.1, ⟨hk.1.2.2.2.2.2.1, ⟨hk.1.2.2.2.2.2.2.1, hk.1.2.2.2.2.2.2.2⟩⟩⟩⟩⟩⟩⟩⟩)), (Kd.N_mono HO173.out (fun _ hk => ⟨hk.1.1, ⟨hk.1.2.1, ⟨hk.1.2.2.1, ⟨hk.2, ⟨hk.1.2.2.2.1, ⟨hk.1.2.2.2.2.1, ⟨hk.1.2.2.2.2.2.1, hk.1.2.2.2.2.2.2⟩⟩⟩⟩⟩⟩⟩)), (Kd.N_mono HO177.out (fun _ hk => ⟨hk.1.1, ⟨hk.1.2.1, ⟨hk.1.2.2.1, ⟨hk.1.2.2.2.1, ⟨hk.2, ⟨hk.1.2.2.2.2.1, ⟨hk.1.2.2.2.2.2.1, ⟨hk.1.2.2.2.2.2.2.1, hk.1.2.2.2.2.2.2.2⟩⟩⟩⟩⟩⟩⟩⟩)), HO185.out, (Kd.V_mono HO194.out (fun _ hk => ⟨hk.1.1, ⟨hk.1.2.1, ⟨hk.1.2.2.1, ⟨hk.1.2.2.2.1, ⟨hk.1.2.2.2.2.1, ⟨hk.2, ⟨hk.1.2.2.2.2.2.1, ⟨hk.1.2.2.2.2.2.2.1, ⟨hk.1.2.2.2.2.2.2.2.1, hk.1.2.2.2.2.2.2.2.2⟩⟩⟩⟩⟩⟩⟩⟩⟩)), (Kd.V_mono HO202.out (fun _ hk => ⟨hk.1.1, ⟨hk.1.2.1, ⟨hk.1.2.2.1, ⟨hk.1.2.2.2.1, ⟨hk.1.2.2.2.2.1, ⟨hk.2, ⟨hk.1.2.2.2.2.2.1, ⟨hk.1.2.2.2.2.2.2.1, ⟨hk.1.2.2.2.2.2.2.2.1, hk.1.2.2.2.2.2.2.2.2⟩⟩⟩⟩⟩⟩⟩⟩⟩)), HO205.out, (Kd.V_mono HO_159000.out (fun _ hk => ⟨hk.1.1, ⟨hk.1.2.1, ⟨hk.1.2.2.1, ⟨hk.1.2.2.2.1, ⟨hk.1.2.2.2.2.1, ⟨hk.2, ⟨hk.1.2.2.2.2.2.1, ⟨hk.1.2.2.2.2.2.2.1, ⟨hk.1.2.2.2.2.2.2.2.1, hk.1.2.2.2.2.2.2.2.2⟩⟩⟩⟩⟩⟩⟩⟩⟩)), BK158.out, BK174.out, BK178.out, BK206.out, GW206.out, GE206.out, NB158_206.out, NB206_158.out, NB174_206.out, NB206_174.out, NB178_206.out, NB206_178.out, HB.out⟩)
      ·skip
       refine box_step ?hg (N := 10) ?hd (cs := #[.slice none 0 0]) (t := 24) ?hr ?_; (case hd => rfl); (case hg => rfl); (case hr => first | (go_simp; done) | (go_simp; rfl))
       intro gb206 hg w81 hbox hb
       replace HO_159000 := am9_ (Kd.V_below (Kd.V_elderB HO_159000.out gb206 (Nat.le_of_eq hg.symm)) hb)
       replace HO170 := am9_ (Kd.N_below (Kd.N_elderB HO170.out gb206 (Nat.le_of_eq hg.symm)) hb)
       replace HO173 := am9_ (Kd.N_below (Kd.N_elderB HO173.out gb206 (Nat.le_of_eq hg.symm)) hb)
       replace HO177 := am9_ (Kd.N_below (Kd.N_elderB HO177.out gb206 (Nat.le_of_eq hg.symm)) hb)
       replace HL179_1 := am9_ (Kd.V_below (Kd.V_elderB HL179_1.out gb206 (Nat.le_of_eq hg.symm)) hb)
       replace HO185 := am9_ (Kd.R_below HO185.out hb)
       replace HO194 := am9_ (Kd.V_below (Kd.V_elderB HO194.out gb206 (Nat.le_of_eq hg.symm)) hb)
       replace HO202 := am9_ (Kd.V_below (Kd.V_elderB HO202.out gb206 (Nat.le_of_eq hg.symm)) hb)
       have BK206 := am9_ (hbox)
       have GW206 := am9_ ((by rw [hg]; exact (below_size HB.out) : w.heap.size ≤ gb206))
       have GE206 := am9_ ((by rw [hg]; exact (below_size HB.out) : w.heap.size ≤ gb206))
       replace HB := am9_ (below_step HB.out hb)
       have NB158_206 := am9_ ((by rw [hg]; exact Nat.ne_of_lt (blk_lt BK158.out) : gb158 ≠ gb206))
       have NB206_158 := am9_ ((by rw [hg]; exact Nat.ne_of_gt (blk_lt BK158.out) : gb206 ≠ gb158))
       replace BK158 := am9_ (blk_below BK158.out hb)
       have NB174_206 := am9_ ((by rw [hg]; exact Nat.ne_of_lt (blk_lt BK174.out) : gb174 ≠ gb206))
       have NB206_174 := am9_ ((by rw [hg]; exact Nat.ne_of_gt (blk_lt BK174.out) : gb206 ≠ gb174))
       replace BK174 := am9_ (blk_below BK174.out hb)
       have NB178_206 := am9_ ((by rw [hg]; exact Nat.ne_of_lt (blk_lt BK178.out) : gb178 ≠ gb206))
       have NB206_178 := am9_ ((by rw [hg]; exact Nat.ne_of_gt (blk_lt BK178.out) : gb206 ≠ gb178))
       replace BK178 := am9_ (blk_below BK178.out hb)
       clear hb hbox hg
       refine hK.out _ _ ((blk_cell BK158.out 0).trans rfl) (fun hHeld => ?_)
       clear hK K
       refine norm_ (a' := ?_) ?_ ?_
       rotate_left
       ·show Act.put _ (some 10) _ = _
        simp only [Act.put, k19, k29, k39, i64_w, i32_w]
        rfl
       refine one_ (i := 4) (N := some 86) (z9 14 5119) rfl rfl (one_of HT_.out (by kernel_rfl)) (by decide) (fun K hK => ?_)
       refine Kd.N_append_rows_step k34 (w0 := w) w.heap.size (by rfl) (.const (.slice none 0 0)) (.tmp 85) 22 34 (.agg #[(.string ⟨#[]⟩), (.slice none 0 0)]) 40 rfl Try.underlying22 info34 rfl (by decide) (by omega) (.slice none 0 0) ([] : List (S34)) y190 _ _ _ (fun k_ => (P0_0_ k_ ∨ w.heap.size ≤ k_) ∧ some k_ ≠ (.slice Ao56 y168.length co56 : Value).ownBlock ∧ some k_ ≠ (.slice Ao57 y171.length co57 : Value).ownBlock ∧ some k_ ≠ (.slice (some ⟨go43, 0, none⟩) y175.length co63 : Value).ownBlock ∧ some k_ ≠ (.slice Ao75 y183.length co75 : Value).ownBlock ∧ k_ ≠ gb158 ∧ k_ ≠ gb174 ∧ k_ ≠ gb178 ∧ k_ ≠ gb206) (fun k_ => ((fun k_ => (P0_0_ k_ ∨ w.heap.size ≤ k_) ∧ some k_ ≠ (.slice Ao56 y168.length co56 : Value).ownBlock ∧ some k_ ≠ (.slice Ao57 y171.length co57 : Value).ownBlock ∧ some k_ ≠ (.slice (some ⟨go43, 0, none⟩) y175.length co63 : Value).ownBlock ∧ some k_ ≠ (.slice Ao75 y183.length co75 : Value).ownBlock ∧ k_ ≠ gb158 ∧ k_ ≠ gb174 ∧ k_ ≠ gb178 ∧ k_ ≠ gb206)) k_ ∧ some k_ ≠ (.slice none 0 0 : Value).ownBlock) rfl rfl ?aO ?aR (fun _ hk => hk) ?aF ?aB ?aS ?aL ?_
       (case aR => exact (by skip; exact Kd.V_F (Kd.V_mono (ok' := (fun k_ => ((fun k_ => (P0_0_ k_ ∨ w.heap.size ≤ k_) ∧ some k_ ≠ (.slice Ao56 y168.length co56 : Value).ownBlock ∧ some k_ ≠ (.slice Ao57 y171.length co57 : Value).ownBlock ∧ some k_ ≠ (.slice (some ⟨go43, 0, none⟩) y175.length co63 : Value).ownBlock ∧ some k_ ≠ (.slice Ao75 y183.length co75 : Value).ownBlock ∧ k_ ≠ gb158 ∧ k_ ≠ gb174 ∧ k_ ≠ gb178 ∧ k_ ≠ gb206)) k_ ∧ some k_ ≠ (.slice none 0 0 : Value).ownBlock)) (HO194.out) (fun k_ hk => ⟨⟨hk.1.1, ⟨hk.1.2.1, ⟨hk.1.2.2.1, ⟨hk.1.2.2.2.1, ⟨hk.1.2.2.2.2.1, ⟨hk.1.2.2.2.2.2.1, ⟨hk.1.2.2.2.2.2.2.1, ⟨hk.1.2.2.2.2.2.2.2, hk.2⟩⟩⟩⟩⟩⟩⟩⟩, (by simp [Value.ownBlock])⟩))))
       (case aB => exact HB.out)
       (case aF => exact (fun k_ hk => ⟨(.inr (Nat.le_trans (below_size HB.out) hk)), Kd.fresh' (Kd.N_lt HO170.out) k_ hk, Kd.fresh' (Kd.N_lt HO173.out) k_ hk, Kd.fresh' (Kd.N_lt HO177.out) k_ hk, Kd.fresh' (Kd.R_lt HO185.out) k_ hk, Kd.freshB (g := gb158) (o := .cells #[.slice (some ad179) l0_0.length c0_0] 24 (0, 0)) BK158.out k_ hk, Kd.freshB (g := gb174) (o := .cells #[.slice Ao57 y171.length co57] 24 (0, 0)) BK174.out k_ hk, Kd.freshB (g := gb178) (o := .cells #[.slice (some ⟨go43, 0, none⟩) y175.length co63] 24 (0, 0)) BK178.out k_ hk, Kd.freshB (g := gb206) (o := .cells #[.slice none 0 0] 24 (0, 0)) BK206.out k_ hk⟩))
       (case aO => exact ((Kd.N_nil _ _ _ _ (fun k_ => (P0_0_ k_ ∨ w.heap.size ≤ k_) ∧ some k_ ≠ (.slice Ao56 y168.length co56 : Value).ownBlock ∧ some k_ ≠ (.slice Ao57 y171.length co57 : Value).ownBlock ∧ some k_ ≠ (.slice (some ⟨go43, 0, none⟩) y175.length co63 : Value).ownBlock ∧ some k_ ≠ (.slice Ao75 y183.length co75 : Value).ownBlock ∧ k_ ≠ gb158 ∧ k_ ≠ gb174 ∧ k_ ≠ gb178 ∧ k_ ≠ gb206))))
       (case aS => exact (below_size HB.out))
       (case aL => have := LMc46.out; omega)
       intro v196 w82 ho hb hg hat
       rw [← Ny195.out] at ho
       replace HO_159000 := am9_ (Kd.V_afterv (Kd.V_apart_nil HO_159000.out) hg hat)
       replace BK158 := am9_ (blk_grown BK158.out hg (by simp [Value.ownBlock]))
       replace HO170 := am9_ (Kd.N_afterv (Kd.N_apart_nil HO170.out) hg hat)
       replace HO173 := am9_ (Kd.N_afterv (Kd.N_apart_nil HO173.out) hg hat)
       replace BK174 := am9_ (blk_grown BK174.out hg (by simp [Value.ownBlock]))
       replace HO177 := am9_ (Kd.N_afterv (Kd.N_apart_nil HO177.out) hg hat)
       replace BK178 := am9_ (blk_grown BK178.out hg (by simp [Value.ownBlock]))
       replace HL179_1 := am9_ (Kd.V_afterv (Kd.V_apart_nil HL179_1.out) hg hat)
       replace HO185 := am9_ (Kd.R_grown HO185.out hg (fun _ _ => by simp [Value.ownBlock]))
       replace HO194 := am9_ (Kd.V_afterv (Kd.V_apart_nil HO194.out) hg hat)
       replace HO202 := am9_ (Kd.V_afterv (Kd.V_apart_nil HO202.out) hg hat)
       replace BK206 := am9_ (blk_grown BK206.out hg (by simp [Value.ownBlock]))
       replace HB := am9_ (hb)
       have HO197 := am9_ (ho)
       clear ho hb hg hat
       refine hK.out _ _ ((blk_cell BK158.out 0).trans rfl) (fun hHeld => ?_)
       clear hK K
       refine norm_ (a' := ?_) ?_ ?_
       rotate_left
       ·show Act.put _ (some 86) _ = _
        simp only [Act.put, k19, k29, k39, i64_w, i32_w]
        rfl
       refine one_ (i := 10) (N := some 92) (z9 14 6143) rfl rfl (one_of HT_.out (by kernel_rfl)) (by decide) (fun K hK => ?_)
       refine Kd.N_append_rows_step k34 (w0 := w) w.heap.size (by rfl) (.tmp 86) (.tmp 91) 22 34 (.agg #[(.string ⟨#[]⟩), (.slice none 0 0)]) 40 rfl Try.underlying22 info34 rfl (by decide) (by omega) v196 y195 y198 _ _ _ (fun k_ => (P0_0_ k_ ∨ w.heap.size ≤ k_) ∧ some k_ ≠ (.slice Ao56 y168.length co56 : Value).ownBlock ∧ some k_ ≠ (.slice Ao57 y171.length co57 : Value).ownBlock ∧ some k_ ≠ (.slice (some ⟨go43, 0, none⟩) y175.length co63 : Value).ownBlock ∧ some k_ ≠ (.slice Ao75 y183.length co75 : Value).ownBlock ∧ k_ ≠ gb158 ∧ k_ ≠ gb174 ∧ k_ ≠ gb178 ∧ k_ ≠ gb206) (fun k_ => ((fun k_ => (P0_0_ k_ ∨ w.heap.size ≤ k_) ∧ some k_ ≠ (.slice Ao56 y168.length co56 : Value).ownBlock ∧ some k_ ≠ (.slice Ao57 y171.length co57 : Value).ownBlock ∧ some k_ ≠ (.slice (some ⟨go43, 0, none⟩) y175.length co63 : Value).ownBlock ∧ some k_ ≠ (.slice Ao75 y183.length co75 : Value).ownBlock ∧ k_ ≠ gb158 ∧ k_ ≠ gb174 ∧ k_ ≠ gb178 ∧ k_ ≠ gb206)) k_ ∧ some k_ ≠ (v196 : Value).ownBlock) rfl rfl ?aO ?aR (fun _ hk => hk) ?aF ?aB ?aS ?aL ?_
       (case aR => exact (by skip; exact Kd.V_F (Kd.V_mono (ok' := (fun k_ => ((fun k_ => (P0_0_ k_ ∨ w.heap.size ≤ k_) ∧ some k_ ≠ (.slice Ao56 y168.length co56 : Value).ownBlock ∧ some k_ ≠ (.slice Ao57 y171.length co57 : Value).ownBlock ∧ some k_ ≠ (.slice (some ⟨go43, 0, none⟩) y175.length co63 : Value).ownBlock ∧ some k_ ≠ (.slice Ao75 y183.length co75 : Value).ownBlock ∧ k_ ≠ gb158 ∧ k_ ≠ gb174 ∧ k_ ≠ gb178 ∧ k_ ≠ gb206)) k_ ∧ some k_ ≠ (v196 : Value).ownBlock)) (HO202.out) (fun k_ hk => ⟨⟨hk.1.1.1, ⟨hk.1.1.2.1, ⟨hk.1.1.2.2.1, ⟨hk.1.1.2.2.2.1, ⟨hk.1.1.2.2.2.2.1, ⟨hk.1.1.2.2.2.2.2.1, ⟨hk.1.1.2.2.2.2.2.2.1, ⟨hk.1.1.2.2.2.2.2.2.2, hk.1.2⟩⟩⟩⟩⟩⟩⟩⟩, hk.2⟩))))
       (case aB => exact HB.out)
       (case aF => exact (fun k_ hk => ⟨(.inr (Nat.le_trans (below_size HB.out) hk)), Kd.fresh' (Kd.N_lt HO170.out) k_ hk, Kd.fresh' (Kd.N_lt HO173.out) k_ hk, Kd.fresh' (Kd.N_lt HO177.out) k_ hk, Kd.fresh' (Kd.R_lt HO185.out) k_ hk, Kd.freshB (g := gb158) (o := .cells #[.slice (some ad179) l0_0.length c0_0] 24 (0, 0)) BK158.out k_ hk, Kd.freshB (g := gb174) (o := .cells #[.slice Ao57 y171.length co57] 24 (0, 0)) BK174.out k_ hk, Kd.freshB (g := gb178) (o := .cells #[.slice (some ⟨go43, 0, none⟩) y175.length co63] 24 (0, 0)) BK178.out k_ hk, Kd.freshB (g := gb206) (o := .cells #[.slice none 0 0] 24 (0, 0)) BK206.out k_ hk⟩))
       (case aO => exact HO197.out)
       (case aS => exact (below_size HB.out))
       (case aL => have := LMc50.out; omega)
       intro v204 w83 ho hb hg hat
       rw [← Ny203.out] at ho
       replace HO_159000 := am9_ (Kd.V_afterv (ok := (fun k_ => (P0_0_ k_ ∨ w.heap.size ≤ k_) ∧ some k_ ≠ (.slice Ao56 y168.length co56 : Value).ownBlock ∧ some k_ ≠ (.slice Ao57 y171.length co57 : Value).ownBlock ∧ some k_ ≠ (.slice (some ⟨go43, 0, none⟩) y175.length co63 : Value).ownBlock ∧ some k_ ≠ (.slice Ao75 y183.length co75 : Value).ownBlock ∧ k_ ≠ gb158 ∧ k_ ≠ gb174 ∧ k_ ≠ gb178 ∧ k_ ≠ gb206)) (Kd.V_mono HO_159000.out (fun _ hk => ⟨⟨hk.1.1.1, ⟨hk.1.1.2.1, ⟨hk.1.1.2.2.1, ⟨hk.1.1.2.2.2.1, ⟨hk.1.1.2.2.2.2.1, ⟨hk.1.1.2.2.2.2.2.1, ⟨hk.1.1.2.2.2.2.2.2.1, ⟨hk.1.1.2.2.2.2.2.2.2, hk.1.2⟩⟩⟩⟩⟩⟩⟩⟩, hk.2⟩)) hg hat)
       replace BK158 := am9_ (blk_grown BK158.out hg (Kd.N_ne HO197.out BK158.out (by decide)))
       replace HO170 := am9_ (Kd.N_afterv (ok := (fun k_ => (P0_0_ k_ ∨ w.heap.size ≤ k_) ∧ some k_ ≠ (.slice Ao57 y171.length co57 : Value).ownBlock ∧ some k_ ≠ (.slice (some ⟨go43, 0, none⟩) y175.length co63 : Value).ownBlock ∧ some k_ ≠ (.slice Ao75 y183.length co75 : Value).ownBlock ∧ k_ ≠ gb158 ∧ k_ ≠ gb174 ∧ k_ ≠ gb178 ∧ k_ ≠ gb206)) (Kd.N_mono HO170.out (fun _ hk => ⟨⟨hk.1.1.1, ⟨hk.1.1.2.1, ⟨hk.1.1.2.2.1, ⟨hk.1.1.2.2.2.1, ⟨hk.1.1.2.2.2.2.1, ⟨hk.1.1.2.2.2.2.2.1, ⟨hk.1.1.2.2.2.2.2.2, hk.1.2⟩⟩⟩⟩⟩⟩⟩, hk.2⟩)) hg hat)
       replace HO173 := am9_ (Kd.N_afterv (ok := (fun k_ => (P0_0_ k_ ∨ w.heap.size ≤ k_) ∧ some k_ ≠ (.slice (some ⟨go43, 0, none⟩) y175.length co63 : Value).ownBlock ∧ some k_ ≠ (.slice Ao75 y183.length co75 : Value).ownBlock ∧ k_ ≠ gb158 ∧ k_ ≠ gb174 ∧ k_ ≠ gb178 ∧ k_ ≠ gb206)) (Kd.N_mono HO173.out (fun _ hk => ⟨⟨hk.1.1.1, ⟨hk.1.1.2.1, ⟨hk.1.1.2.2.1, ⟨hk.1.1.2.2.2.1, ⟨hk.1.1.2.2.2.2.1, ⟨hk.1.1.2.2.2.2.2, hk.1.2⟩⟩⟩⟩⟩⟩, hk.2⟩)) hg hat)
       replace BK174 := am9_ (blk_grown BK174.out hg (Kd.N_ne HO197.out BK174.out (by decide)))
       replace HO177 := am9_ (Kd.N_afterv (ok := (fun k_ => (P0_0_ k_ ∨ w.heap.size ≤ k_) ∧ some k_ ≠ (.slice Ao56 y168.length co56 : Value).ownBlock ∧ some k_ ≠ (.slice Ao57 y171.length co57 : Value).ownBlock ∧ some k_ ≠ (.slice Ao75 y183.length co75 : Value).ownBlock ∧ k_ ≠ gb158 ∧ k_ ≠ gb174 ∧ k_ ≠ gb178 ∧ k_ ≠ gb206)) (Kd.N_mono HO177.out (fun _ hk => ⟨⟨hk.1.1.1, ⟨hk.1.1.2.1, ⟨hk.1.1.2.2.1, ⟨hk.1.1.2.2.2.1, ⟨hk.1.1.2.2.2.2.1, ⟨hk.1.1.2.2.2.2.2.1, ⟨hk.1.1.2.2.2.2.2.2, hk.1.2⟩⟩⟩⟩⟩⟩⟩, hk.2⟩)) hg hat)
       replace BK178 := am9_ (blk_grown BK178.out hg (Kd.N_ne HO197.out BK178.out (by decide)))
       replace HL179_1 := am9_ (Kd.V_afterv (ok := (fun k_ => (P0_0_ k_ ∨ w.heap.size ≤ k_) ∧ some k_ ≠ (.slice Ao56 y168.length co56 : Value).ownBlock ∧ some k_ ≠ (.slice Ao57 y171.length co57 : Value).ownBlock ∧ some k_ ≠ (.slice (some ⟨go43, 0, none⟩) y175.length co63 : Value).ownBlock ∧ some k_ ≠ (.slice Ao75 y183.length co75 : Value).ownBlock ∧ k_ ≠ gb158 ∧ k_ ≠ gb174 ∧ k_ ≠ gb178 ∧ k_ ≠ gb206)) (Kd.V_mono HL179_1.out (fun _ hk => ⟨⟨hk.1.1.1, ⟨hk.1.1.2.1, ⟨hk.1.1.2.2.1, ⟨hk.1.1.2.2.2.1, ⟨hk.1.1.2.2.2.2.1, ⟨hk.1.1.2.2.2.2.2.1, ⟨hk.1.1.2.2.2.2.2.2.1, ⟨hk.1.1.2.2.2.2.2.2.2, hk.1.2⟩⟩⟩⟩⟩⟩⟩⟩, hk.2⟩)) hg hat)
       replace HO185 := am9_ (Kd.R_over' HO185.out (Kd.N_typed HO197.out) (by decide) hg)
       replace HO194 := am9_ (Kd.V_afterv (ok := (fun k_ => (P0_0_ k_ ∨ w.heap.size ≤ k_) ∧ some k_ ≠ (.slice Ao56 y168.length co56 : Value).ownBlock ∧ some k_ ≠ (.slice Ao57 y171.length co57 : Value).ownBlock ∧ some k_ ≠ (.slice (some ⟨go43, 0, none⟩) y175.length co63 : Value).ownBlock ∧ some k_ ≠ (.slice Ao75 y183.length co75 : Value).ownBlock ∧ k_ ≠ gb158 ∧ k_ ≠ gb174 ∧ k_ ≠ gb178 ∧ k_ ≠ gb206)) (Kd.V_mono HO194.out (fun _ hk => ⟨⟨hk.1.1.1, ⟨hk.1.1.2.1, ⟨hk.1.1.2.2.1, ⟨hk.1.1.2.2.2.1, ⟨hk.1.1.2.2.2.2.1, ⟨hk.1.1.2.2.2.2.2.1, ⟨hk.1.1.2.2.2.2.2.2.1, ⟨hk.1.1.2.2.2.2.2.2.2, hk.1.2⟩⟩⟩⟩⟩⟩⟩⟩, hk.2⟩)) hg hat)
       replace HO202 := am9_ (Kd.V_afterv (ok := (fun k_ => (P0_0_ k_ ∨ w.heap.size ≤ k_) ∧ some k_ ≠ (.slice Ao56 y168.length co56 : Value).ownBlock ∧ some k_ ≠ (.slice Ao57 y171.length co57 : Value).ownBlock ∧ some k_ ≠ (.slice (some ⟨go43, 0, none⟩) y175.length co63 : Value).ownBlock ∧ some k_ ≠ (.slice Ao75 y183.length co75 : Value).ownBlock ∧ k_ ≠ gb158 ∧ k_ ≠ gb174 ∧ k_ ≠ gb178 ∧ k_ ≠ gb206)) (Kd.V_mono HO202.out (fun _ hk => ⟨⟨hk.1.1.1, ⟨hk.1.1.2.1, ⟨hk.1.1.2.2.1, ⟨hk.1.1.2.2.2.1, ⟨hk.1.1.2.2.2.2.1, ⟨hk.1.1.2.2.2.2.2.1, ⟨hk.1.1.2.2.2.2.2.2.1, ⟨hk.1.1.2.2.2.2.2.2.2, hk.1.2⟩⟩⟩⟩⟩⟩⟩⟩, hk.2⟩)) hg hat)
       replace BK206 := am9_ (blk_grown BK206.out hg (Kd.N_ne HO197.out BK206.out (by decide)))
       replace HB := am9_ (hb)
       have HO205 := am9_ (ho)
       clear HO197 ho hb hg hat
       obtain ⟨Ao84, co84, eo84⟩ := Kd.N_slice HO205.out
       (first | subst eo84 | (injection eo84 with f1_ f2_ f3_; have f4_ := f1_.symm; have f5_ := f3_.symm; clear f1_ f2_ f3_; subst f4_; subst f5_))
       refine hK.out _ _ ((blk_cell BK158.out 0).trans rfl) (fun hHeld => ?_)
       clear hK K
       refine norm_ (a' := ?_) ?_ ?_
       rotate_left
       ·show Act.put _ (some 92) _ = _
        simp only [Act.put, k19, k29, k39, i64_w, i32_w]
        rfl
       refine pure_ (i := 11) (N := some 93) (v := ?_) (a' := ?_) (z9 14 8191) rfl rfl (ao9 HT_.out (by kernel_rfl)) (fun _ _ _ h => h) (Or.inl ⟨by rfl, ?_⟩) ?_ ?_; rotate_left; (·intro w'; go_simp; with_reducible rfl); rotate_left; (·simp only [Act.put, k19, k29, k39, i64_w, i32_w]; rfl)
       exact norm_ (by simp only [putAll, Act.put, List.setIfInBounds_toArray, List.set_cons_zero, List.set_cons_succ]) (hCont (v196, .slice Ao84 y203.length co84, gb206) _ ⟨hHeld, (Kd.V_mono HL179_1.out (fun _ hk => ⟨hk.1.1, ⟨hk.1.2.1, ⟨hk.1.2.2.1, ⟨hk.1.2.2.2.1, ⟨hk.1.2.2.2.2.1, ⟨hk.2, ⟨hk.1.2.2.2.2.2.1, ⟨hk.1.2.2.2.2.2.2.1, ⟨hk.1.2.2.2.2.2.2.2.1, hk.1.2.2.2.2.2.2.2.2⟩⟩⟩⟩⟩⟩⟩⟩⟩)), (Kd.N_mono HO170.out (fun _ hk => ⟨hk.1.1, ⟨hk.1.2.1, ⟨hk.1.2.2.1, ⟨hk.1.2.2.2.1, ⟨hk.2, ⟨hk.1.2.2.2.2.1, ⟨hk.1.2.2.2.2.2.1, ⟨hk.1.2.2.2.2.2.2.1, hk.1.2.2.2.2.2.2.2⟩⟩⟩⟩⟩⟩⟩⟩)), (Kd.N_mono HO173.out (fun _ hk => ⟨hk.1.1, ⟨hk.1.2.1, ⟨hk.1.2.2.1, ⟨hk.2, ⟨hk.1.2.2.2.1, ⟨hk.1.2.2.2.2.1, ⟨hk.1.2.2.2.2.2.1, hk.1.2.2.2.2.2.2⟩⟩⟩⟩⟩⟩⟩)), (Kd.N_mono HO177.out (fun _ hk => ⟨hk.1.1, ⟨hk.1.2.1, ⟨hk.1.2.2.1, ⟨hk.1.2.2.2.1, ⟨hk.2, ⟨hk.1.2.2.2.2.1, ⟨hk.1.2.2.2.2.2.1, ⟨hk.1.2.2.2.2.2.2.1, hk.1.2.2.2.2.2.2.2⟩⟩⟩⟩⟩⟩⟩⟩)), HO185.out, (Kd.V_mono HO194.out (fun _ hk => ⟨hk.1.1, ⟨hk.1.2.1, ⟨hk.1.2.2.1, ⟨hk.1.2.2.2.1, ⟨hk.1.2.2.2.2.1, ⟨hk.2, ⟨hk.1.2.2.2.2.2.1, ⟨hk.1.2.2.2.2.2.2.1, ⟨hk.1.2.2.2.2.2.2.2.1, hk.1.2.2.2.2.2.2.2.2⟩⟩⟩⟩⟩⟩⟩⟩⟩)), (Kd.V_mono HO202.out (fun _ hk => ⟨hk.1.1, ⟨hk.1.2.1, ⟨hk.1.2.2.1, ⟨hk.1.2.2.2.1, ⟨hk.1.2.2.2.2.1, ⟨hk.2, ⟨hk.1.2.2.2.2.2.1, ⟨hk.1.2.2.2.2.2.2.1, ⟨hk.1.2.2.2.2.2.2.2.1, hk.1.2.2.2.2.2.2.2.2⟩⟩⟩⟩⟩⟩⟩⟩⟩)), HO205.out, (Kd.V_mono HO_159000.out (fun _ hk => ⟨hk.1.1, ⟨hk.1.2.1, ⟨hk.1.2.2.1, ⟨hk.1.2.2.2.1, ⟨hk.1.2.2.2.2.1, ⟨hk.2, ⟨hk.1.2.2.2.2.2.1, ⟨hk.1.2.2.2.2.2.2.1, ⟨hk.1.2.2.2.2.2.2.2.1, hk.1.2.2.2.2.2.2.2.2⟩⟩⟩⟩⟩⟩⟩⟩⟩)), BK158.out, BK174.out, BK178.out, BK206.out, GW206.out, GE206.out, NB158_206.out, NB206_158.out, NB174_206.out, NB206_174.out, NB178_206.out, NB206_178.out, HB.out⟩)
     rintro ⟨v196, v204, gb206⟩ w85 ⟨hS_, h0_, h1_, h2_, h3_, h4_, h5_, h6_, h7_, h8_, h9_, h10_, h11_, h12_, h13_, h14_, h15_, h16_, h17_, h18_, h19_, h20_, h21_⟩
     have n0_ : Aside0 (Kd.V k40 40 w85 w.heap.size (fun k_ => (P0_0_ k_ ∨ w.heap.size ≤ k_) ∧ some k_ ≠ (.slice Ao56 y168.length co56 : Value).ownBlock ∧ some k_ ≠ (.slice Ao57 y171.length co57 : Value).ownBlock ∧ some k_ ≠ (.slice (some ⟨go43, 0, none⟩) y175.length co63 : Value).ownBlock ∧ some k_ ≠ (.slice Ao75 y183.length co75 : Value).ownBlock ∧ some k_ ≠ (v204 : Value).ownBlock ∧ k_ ≠ gb158 ∧ k_ ≠ gb174 ∧ k_ ≠ gb178 ∧ k_ ≠ gb206) (.slice A179_1 ((rd_T34 l0_0 a1).f1).length c179_1) ((rd_T34 l0_0 a1).f1)) := ⟨h0_⟩
     have n1_ : Aside0 (Kd.N k34 34 w85 w.heap.size (fun k_ => (P0_0_ k_ ∨ w.heap.size ≤ k_) ∧ some k_ ≠ (.slice Ao57 y171.length co57 : Value).ownBlock ∧ some k_ ≠ (.slice (some ⟨go43, 0, none⟩) y175.length co63 : Value).ownBlock ∧ some k_ ≠ (.slice Ao75 y183.length co75 : Value).ownBlock ∧ some k_ ≠ (v204 : Value).ownBlock ∧ k_ ≠ gb158 ∧ k_ ≠ gb174 ∧ k_ ≠ gb178 ∧ k_ ≠ gb206) (.slice Ao56 y168.length co56) y168) := ⟨h1_⟩
     have n2_ : Aside0 (Kd.N k34 34 w85 w.heap.size (fun k_ => (P0_0_ k_ ∨ w.heap.size ≤ k_) ∧ some k_ ≠ (.slice (some ⟨go43, 0, none⟩) y175.length co63 : Value).ownBlock ∧ some k_ ≠ (.slice Ao75 y183.length co75 : Value).ownBlock ∧ some k_ ≠ (v204 : Value).ownBlock ∧ k_ ≠ gb158 ∧ k_ ≠ gb174 ∧ k_ ≠ gb178 ∧ k_ ≠ gb206) (.slice Ao57 y171.length co57) y171) := ⟨h2_⟩
     have n3_ : Aside0 (Kd.N k34 34 w85 w.heap.size (fun k_ => (P0_0_ k_ ∨ w.heap.size ≤ k_) ∧ some k_ ≠ (.slice Ao56 y168.length co56 : Value).ownBlock ∧ some k_ ≠ (.slice Ao57 y171.length co57 : Value).ownBlock ∧ some k_ ≠ (.slice Ao75 y183.length co75 : Value).ownBlock ∧ some k_ ≠ (v204 : Value).ownBlock ∧ k_ ≠ gb158 ∧ k_ ≠ gb174 ∧ k_ ≠ gb178 ∧ k_ ≠ gb206) (.slice (some ⟨go43, 0, none⟩) y175.length co63) y189) := ⟨h3_⟩
     have n4_ : Aside0 (Kd.R k40 40 w85 w.heap.size (fun k_ => (w.heap.size ≤ k_)) (.slice Ao75 y183.length co75) y183) := ⟨h4_⟩
     have n5_ : Aside0 (Kd.V k34 34 w85 w.heap.size (fun k_ => (P0_0_ k_ ∨ w.heap.size ≤ k_) ∧ some k_ ≠ (.slice Ao56 y168.length co56 : Value).ownBlock ∧ some k_ ≠ (.slice Ao57 y171.length co57 : Value).ownBlock ∧ some k_ ≠ (.slice (some ⟨go43, 0, none⟩) y175.length co63 : Value).ownBlock ∧ some k_ ≠ (.slice Ao75 y183.length co75 : Value).ownBlock ∧ some k_ ≠ (v204 : Value).ownBlock ∧ k_ ≠ gb158 ∧ k_ ≠ gb174 ∧ k_ ≠ gb178 ∧ k_ ≠ gb206) (.slice (some ad179) y190.length c0_0) y190) := ⟨h5_⟩
     have n6_ : Aside0 (Kd.V k34 34 w85 w.heap.size (fun k_ => (P0_0_ k_ ∨ w.heap.size ≤ k_) ∧ some k_ ≠ (.slice Ao56 y168.length co56 : Value).ownBlock ∧ some k_ ≠ (.slice Ao57 y171.length co57 : Value).ownBlock ∧ some k_ ≠ (.slice (some ⟨go43, 0, none⟩) y175.length co63 : Value).ownBlock ∧ some k_ ≠ (.slice Ao75 y183.length co75 : Value).ownBlock ∧ some k_ ≠ (v204 : Value).ownBlock ∧ k_ ≠ gb158 ∧ k_ ≠ gb174 ∧ k_ ≠ gb178 ∧ k_ ≠ gb206) (.slice A80 y198.length c80) y198) := ⟨h6_⟩
     have n7_ : Aside0 (Kd.N k34 34 w85 w.heap.size (fun k_ => (P0_0_ k_ ∨ w.heap.size ≤ k_) ∧ some k_ ≠ (.slice Ao56 y168.length co56 : Value).ownBlock ∧ some k_ ≠ (.slice Ao57 y171.length co57 : Value).ownBlock ∧ some k_ ≠ (.slice (some ⟨go43, 0, none⟩) y175.length co63 : Value).ownBlock ∧ some k_ ≠ (.slice Ao75 y183.length co75 : Value).ownBlock ∧ k_ ≠ gb158 ∧ k_ ≠ gb174 ∧ k_ ≠ gb178 ∧ k_ ≠ gb206) v204 y203) := ⟨h7_⟩
     have n8_ : Aside0 (Kd.V k34 34 w85 w.heap.size (fun k_ => (P0_0_ k_ ∨ w.heap.size ≤ k_) ∧ some k_ ≠ (.slice Ao56 y168.length co56 : Value).ownBlock ∧ some k_ ≠ (.slice Ao57 y171.length co57 : Value).ownBlock ∧ some k_ ≠ (.slice (some ⟨go43, 0, none⟩) y175.length co63 : Value).ownBlock ∧ some k_ ≠ (.slice Ao75 y183.length co75 : Value).ownBlock ∧ some k_ ≠ (v204 : Value).ownBlock ∧ k_ ≠ gb158 ∧ k_ ≠ gb174 ∧ k_ ≠ gb178 ∧ k_ ≠ gb206) (.slice (some ad179) l0_0.length c0_0) l0_0) := ⟨h8_⟩
     have n9_ : Aside0 (w85.heap[gb158]? = some (.cells #[.slice (some ad179) l0_0.length c0_0] 24 (0, 0))) := ⟨h9_⟩
     have n10_ : Aside0 (w85.heap[gb174]? = some (.cells #[.slice Ao57 y171.length co57] 24 (0, 0))) := ⟨h10_⟩
     have n11_ : Aside0 (w85.heap[gb178]? = some (.cells #[.slice (some ⟨go43, 0, none⟩) y175.length co63] 24 (0, 0))) := ⟨h11_⟩
     have n12_ : Aside0 (w85.heap[gb206]? = some (.cells #[.slice none 0 0] 24 (0, 0))) := ⟨h12_⟩
     have n13_ : Aside0 (w.heap.size ≤ gb206) := ⟨h13_⟩
     have n14_ : Aside0 (w.heap.size ≤ gb206) := ⟨h14_⟩
     have n15_ : Aside0 (gb158 ≠ gb206) := ⟨h15_⟩
     have n16_ : Aside0 (gb206 ≠ gb158) := ⟨h16_⟩
     have n17_ : Aside0 (gb174 ≠ gb206) := ⟨h17_⟩
     have n18_ : Aside0 (gb206 ≠ gb174) := ⟨h18_⟩
     have n19_ : Aside0 (gb178 ≠ gb206) := ⟨h19_⟩
     have n20_ : Aside0 (gb206 ≠ gb178) := ⟨h20_⟩
     have n21_ : Aside0 (Below w.heap.size w w85) := ⟨h21_⟩
     clear HO_159000 HO170 HO173 HO177 HL179_1 HO185 BK158 BK174 BK178 HB h0_ h1_ h2_ h3_ h4_ h5_ h6_ h7_ h8_ h9_ h10_ h11_ h12_ h13_ h14_ h15_ h16_ h17_ h18_ h19_ h20_ h21_
     have HL179_1 := n0_
     have HO170 := n1_
     have HO173 := n2_
     have HO177 := n3_
     have HO185 := n4_
     have HO194 := n5_
     have HO202 := n6_
     have HO205 := n7_
     have HO_159000 := n8_
     have BK158 := n9_
     have BK174 := n10_
     have BK178 := n11_
     have BK206 := n12_
     have GW206 := n13_
     have GE206 := n14_
     have NB158_206 := n15_
     have NB206_158 := n16_
     have NB174_206 := n17_
     have NB206_174 := n18_
     have NB178_206 := n19_
     have NB206_178 := n20_
     have HB := n21_
     clear n0_ n1_ n2_ n3_ n4_ n5_ n6_ n7_ n8_ n9_ n10_ n11_ n12_ n13_ n14_ n15_ n16_ n17_ n18_ n19_ n20_ n21_
     have hHeld : w85.cell? ⟨gb158, 0, none⟩ = some (.slice (some ad179) l0_0.length c0_0) := hS_
     obtain ⟨Ao86, co86, eo86⟩ := Kd.N_slice HO205.out
     (first | subst eo86 | (injection eo86 with f1_ f2_ f3_; have f4_ := f1_.symm; have f5_ := f3_.symm; clear f1_ f2_ f3_; subst f4_; subst f5_))
     refine norm_ (a' := ?_) ?_ ?_
     rotate_left
     ·simp only [putAll, Act.put, List.setIfInBounds_toArray, List.set_cons_zero, List.set_cons_succ]
      rfl
     refine one_ (i := 13) (N := none) (z9 14 16383) rfl rfl (one_of HT_.out (by kernel_rfl)) (by decide) (fun K hK => ?_)
     have hs87 : w85.cell? ⟨gb206, 0, none⟩ = some (.slice none 0 0) := (blk_cell BK206.out 0).trans rfl
     have hfs87 := blk_frozen BK206.out 0
     have hns87_0 := NB158_206.out
     have hns87_1 := NB174_206.out
     have hns87_2 := NB178_206.out
     have hms87_0 := NB206_158.out
     have hms87_1 := NB206_174.out
     have hms87_2 := NB206_178.out
     refine skip_ (w1 := ?_) (by rfl) rfl ?_ ?_
     rotate_left
     ·go_simp
      rfl
     refine hK.out _ _ (((cell_far (p := ⟨gb206, _, none⟩) NB158_206.out _).trans (hHeld))) (fun hHeld => ?_)
     clear hK K
     refine done_ (done_of HT_.out (by kernel_rfl)) ?_
     try go_wp2
     go_loopg [11, 12] kj22 (fun kq v11 v12 w' => ∃ (x11_3 : Bool) (x12_3 : Int), v11 = .bool x11_3 ∧ v12 = .int .i64 x12_3 ∧ Aside0 (l0 kq a1 x11_3 x12_3 l0_0 y171 y189 y203 = some r) ∧ Aside0 (kq ≤ kj22) ∧ Aside0 (Kd.V k34 34 w' w.heap.size (fun k_ => (P0_0_ k_ ∨ w.heap.size ≤ k_) ∧ some k_ ≠ ((.slice Ao57 y171.length co57) : Value).ownBlock ∧ some k_ ≠ ((.slice (some ⟨go43, 0, none⟩) y175.length co63) : Value).ownBlock ∧ some k_ ≠ ((.slice Ao86 y203.length co86) : Value).ownBlock ∧ k_ ≠ gb158 ∧ k_ ≠ gb174 ∧ k_ ≠ gb178 ∧ k_ ≠ gb206) (.slice (some ad179) l0_0.length c0_0) l0_0) ∧ Aside0 (Kd.N k34 34 w' w.heap.size (fun k_ => (P0_0_ k_ ∨ w.heap.size ≤ k_) ∧ some k_ ≠ ((.slice (some ⟨go43, 0, none⟩) y175.length co63) : Value).ownBlock ∧ some k_ ≠ ((.slice Ao86 y203.length co86) : Value).ownBlock ∧ k_ ≠ gb158 ∧ k_ ≠ gb174 ∧ k_ ≠ gb178 ∧ k_ ≠ gb206) (.slice Ao57 y171.length co57) y171) ∧ Aside0 (Kd.N k34 34 w' w.heap.size (fun k_ => (P0_0_ k_ ∨ w.heap.size ≤ k_) ∧ some k_ ≠ ((.slice Ao57 y171.length co57) : Value).ownBlock ∧ some k_ ≠ ((.slice Ao86 y203.length co86) : Value).ownBlock ∧ k_ ≠ gb158 ∧ k_ ≠ gb174 ∧ k_ ≠ gb178 ∧ k_ ≠ gb206) (.slice (some ⟨go43, 0, none⟩) y175.length co63) y189) ∧ Aside0 (Kd.N k34 34 w' w.heap.size (fun k_ => (P0_0_ k_ ∨ w.heap.size ≤ k_) ∧ some k_ ≠ ((.slice Ao57 y171.length co57) : Value).ownBlock ∧ some k_ ≠ ((.slice (some ⟨go43, 0, none⟩) y175.length co63) : Value).ownBlock ∧ k_ ≠ gb158 ∧ k_ ≠ gb174 ∧ k_ ≠ gb178 ∧ k_ ≠ gb206) (.slice Ao86 y203.length co86) y203) ∧ Aside0 (w'.heap[gb158]? = some (.cells #[(.slice (some ad179) l0_0.length c0_0)] 24 (0, 0))) ∧ Aside0 (w'.heap[gb174]? = some (.cells #[(.slice Ao57 y171.length co57)] 24 (0, 0))) ∧ Aside0 (w'.heap[gb178]? = some (.cells #[(.slice (some ⟨go43, 0, none⟩) y175.length co63)] 24 (0, 0))) ∧ Aside0 (w'.heap[gb206]? = some (.cells #[(.slice Ao86 y203.length co86)] 24 (0, 0))) ∧ Aside0 (Below w.heap.size w w'))
     case atStart => exact ⟨(false), (0), (by first | rfl | (simp; done) | (simp [*]; done)), (by first | rfl | (simp; done) | (simp [*]; done)), H', ⟨Nat.le_refl _⟩, ⟨by (with_reducible repeat (first | apply va9 | apply vb9 | apply vc9)); exact Kd.V_mono (Kd.V_far (p := ⟨gb206, 0, none⟩) (Kd.V_mono HO_159000.out (fun k_ hk => (⟨hk, hk.2.2.2.2.2.2.2.2.2⟩ : _ ∧ k_ ≠ gb206))) (fun _ h => by first | exact h.2 | exact h | trivial) (.slice Ao86 y203.length co86)) (fun _ hk => ⟨hk.1.1, ⟨hk.1.2.2.1, ⟨hk.1.2.2.2.1, ⟨hk.1.2.2.2.2.2.1, ⟨hk.1.2.2.2.2.2.2.1, ⟨hk.1.2.2.2.2.2.2.2.1, ⟨hk.1.2.2.2.2.2.2.2.2.1, hk.1.2.2.2.2.2.2.2.2.2⟩⟩⟩⟩⟩⟩⟩)⟩, ⟨by (with_reducible repeat (first | apply na9 | apply nb9 | apply nc9)); exact Kd.N_mono (Kd.N_far (p := ⟨gb206, 0, none⟩) (Kd.N_mono HO173.out (fun k_ hk => (⟨hk, hk.2.2.2.2.2.2.2⟩ : _ ∧ k_ ≠ gb206))) (fun _ h => by first | exact h.2 | exact h | trivial) (.slice Ao86 y203.length co86)) (fun _ hk => ⟨hk.1.1, ⟨hk.1.2.1, ⟨hk.1.2.2.2.1, ⟨hk.1.2.2.2.2.1, ⟨hk.1.2.2.2.2.2.1, ⟨hk.1.2.2.2.2.2.2.1, hk.1.2.2.2.2.2.2.2⟩⟩⟩⟩⟩⟩)⟩, ⟨by (with_reducible repeat (first | apply na9 | apply nb9 | apply nc9)); exact Kd.N_mono (Kd.N_far (p := ⟨gb206, 0, none⟩) (Kd.N_mono HO177.out (fun k_ hk => (⟨hk, hk.2.2.2.2.2.2.2.2⟩ : _ ∧ k_ ≠ gb206))) (fun _ h => by first | exact h.2 | exact h | trivial) (.slice Ao86 y203.length co86)) (fun _ hk => ⟨hk.1.1, ⟨hk.1.2.2.1, ⟨hk.1.2.2.2.2.1, ⟨hk.1.2.2.2.2.2.1, ⟨hk.1.2.2.2.2.2.2.1, ⟨hk.1.2.2.2.2.2.2.2.1, hk.1.2.2.2.2.2.2.2.2⟩⟩⟩⟩⟩⟩)⟩, ⟨by (with_reducible repeat (first | apply na9 | apply nb9 | apply nc9)); exact Kd.N_mono (Kd.N_far (p := ⟨gb206, 0, none⟩) (Kd.N_mono HO205.out (fun k_ hk => (⟨hk, hk.2.2.2.2.2.2.2.2⟩ : _ ∧ k_ ≠ gb206))) (fun _ h => by first | exact h.2 | exact h | trivial) (.slice Ao86 y203.length co86)) (fun _ hk => ⟨hk.1.1, ⟨hk.1.2.2.1, ⟨hk.1.2.2.2.1, ⟨hk.1.2.2.2.2.2.1, ⟨hk.1.2.2.2.2.2.2.1, ⟨hk.1.2.2.2.2.2.2.2.1, hk.1.2.2.2.2.2.2.2.2⟩⟩⟩⟩⟩⟩)⟩, ⟨by (with_reducible repeat (first | refine ba9 ?_ _ | refine bb9 ?_ | refine bc9 ?_ _)); refine blk_far ?_ NB158_206.out _; (with_reducible repeat (first | refine ba9 ?_ _ | refine bb9 ?_ | refine bc9 ?_ _)); exact BK158.out⟩, ⟨by (with_reducible repeat (first | refine ba9 ?_ _ | refine bb9 ?_ | refine bc9 ?_ _)); refine blk_far ?_ NB174_206.out _; (with_reducible repeat (first | refine ba9 ?_ _ | refine bb9 ?_ | refine bc9 ?_ _)); exact BK174.out⟩, ⟨by (with_reducible repeat (first | refine ba9 ?_ _ | refine bb9 ?_ | refine bc9 ?_ _)); refine blk_far ?_ NB178_206.out _; (with_reducible repeat (first | refine ba9 ?_ _ | refine bb9 ?_ | refine bc9 ?_ _)); exact BK178.out⟩, ⟨by (with_reducible repeat (first | refine ba9 ?_ _ | refine bb9 ?_ | refine bc9 ?_ _)); refine blk_put (cs := #[.slice none 0 0]) ?_ 0 _ rfl; (with_reducible repeat (first | refine ba9 ?_ _ | refine bb9 ?_ | refine bc9 ?_ _)); exact BK206.out⟩, ⟨by repeat (first | (with_reducible first | exact HB.out | apply wa9 | apply wb9 | apply wc9 | refine wd9 ?_ GE158.out | refine wd9 ?_ GE174.out | refine wd9 ?_ GE178.out | refine wd9 ?_ GE206.out) | exact HB.out)⟩⟩
     case round =>
      clear H'
      try clear c1
      try clear p2
      try clear c4
      try clear c5
      try clear c8
      try clear c17
      try clear c46
      try clear c50
      try clear c80
      obtain ⟨x11_3, x12_3, rfl, rfl, HA, HK3, HO_159000, HO_175000, HO_179000, HO_207000, BK158, BK174, BK178, BK206, HB⟩ := hrel
      have hl179000_3 := (Kd.N_reads' HO_179000.out).1
      rw [hl179000_3] at HO_179000
      (try simp only [hl179000_3])
      (try simp only [hl179000_3] at BK158)
      (try simp only [hl179000_3] at BK174)
      (try simp only [hl179000_3] at BK178)
      (try simp only [hl179000_3] at BK206)
      (try simp only [hl179000_3] at HO_159000)
      (try simp only [hl179000_3] at HO_175000)
      (try simp only [hl179000_3] at HO_207000)
      cases gk with
      | zero => exact absurd HA.out (by simp [l0])
      | succ k3 =>
       have H := HA.out
       clear HA
       rw [foliatelaw06_SchemaMore.l0.eq_2] at H
       by_cases c88 : x12_3 < (y203.length : Int)
       rotate_left
       ·replace H := (if_neg c88).symm.trans H
        have c88b0 : decide (x12_3 < (y203.length : Int)) = false := decide_eq_false c88
        clear c88
        replace H := Option.bind_eq_some_iff.mp H
        obtain ⟨t207, A1200, H⟩ := H
        replace H : (if (t207 == (decide ((l0_0.length : Int) < 4))) = true then ((schema_May.f k3 y189).bind fun t208 => (if 0 ≤ a1 then (if a1 < (l0_0.length : Int) then (if (t208 == (decide ((((rd_T34 l0_0 a1).f1).length : Int) < 5))) = true then ((schema_May.f k3 y203).bind fun t210 => (if (y203.length : Int) > 0 then (some (t210 == (!x11_3))) else (some (t210 == false)))) else (none)) else (none)) else (none))) else (none)) = some r := H
        have A120 := Aside0.mk A1200
        clear A1200
        by_cases c121 : (t207 == (decide ((l0_0.length : Int) < 4))) = true
        rotate_left
        ·replace H := (if_neg c121).symm.trans H
         have c121b0 : (t207 == (decide ((l0_0.length : Int) < 4))) = false := by simpa using c121
         (try (have c121b1 : decide (t207 = (decide ((l0_0.length : Int) < 4))) = false := by simpa using c121))
         (try (have c121b2 : (t207 == (decide ((l0_0.length : Int) < 4))) = false := by simpa using c121))
         (try (have c121b3 : ¬ (t207 = (decide ((l0_0.length : Int) < 4))) := by simpa using c121))
         clear c121
         exact absurd H (by simp)
        replace H := (if_pos c121).symm.trans H
        have c121b0 : (t207 == (decide ((l0_0.length : Int) < 4))) = true := c121
        (try (have c121b1 : decide (t207 = (decide ((l0_0.length : Int) < 4))) = true := by simpa using c121))
        (try (have c121b2 : (t207 == (decide ((l0_0.length : Int) < 4))) = true := by simpa using c121))
        clear c121
        replace H := Option.bind_eq_some_iff.mp H
        obtain ⟨t208, A1220, H⟩ := H
        replace H : (if 0 ≤ a1 then (if a1 < (l0_0.length : Int) then (if (t208 == (decide ((((rd_T34 l0_0 a1).f1).length : Int) < 5))) = true then ((schema_May.f k3 y203).bind fun t210 => (if (y203.length : Int) > 0 then (some (t210 == (!x11_3))) else (some (t210 == false)))) else (none)) else (none)) else (none)) = some r := H
        have A122 := Aside0.mk A1220
        clear A1220
        by_cases c123 : 0 ≤ a1
        rotate_left
        ·replace H := (if_neg c123).symm.trans H
         exact absurd H (by simp)
        replace H := (if_pos c123).symm.trans H
        have c123b0 : decide (0 ≤ a1) = true := decide_eq_true c123
        clear c123
        by_cases c124 : a1 < (l0_0.length : Int)
        rotate_left
        ·replace H := (if_neg c124).symm.trans H
         exact absurd H (by simp)
        replace H := (if_pos c124).symm.trans H
        have c124b0 : decide (a1 < (l0_0.length : Int)) = true := decide_eq_true c124
        clear c124
        by_cases c125 : (t208 == (decide ((((rd_T34 l0_0 a1).f1).length : Int) < 5))) = true
        rotate_left
        ·replace H := (if_neg c125).symm.trans H
         have c125b0 : (t208 == (decide ((((rd_T34 l0_0 a1).f1).length : Int) < 5))) = false := by simpa using c125
         (try (have c125b1 : decide (t208 = (decide ((((rd_T34 l0_0 a1).f1).length : Int) < 5))) = false := by simpa using c125))
         (try (have c125b2 : (t208 == (decide ((((rd_T34 l0_0 a1).f1).length : Int) < 5))) = false := by simpa using c125))
         (try (have c125b3 : ¬ (t208 = (decide ((((rd_T34 l0_0 a1).f1).length : Int) < 5))) := by simpa using c125))
         clear c125
         exact absurd H (by simp)
        replace H := (if_pos c125).symm.trans H
        have c125b0 : (t208 == (decide ((((rd_T34 l0_0 a1).f1).length : Int) < 5))) = true := c125
        (try (have c125b1 : decide (t208 = (decide ((((rd_T34 l0_0 a1).f1).length : Int) < 5))) = true := by simpa using c125))
        (try (have c125b2 : (t208 == (decide ((((rd_T34 l0_0 a1).f1).length : Int) < 5))) = true := by simpa using c125))
        clear c125
        replace H := Option.bind_eq_some_iff.mp H
        obtain ⟨t210, A1260, H⟩ := H
        replace H : (if (y203.length : Int) > 0 then (some (t210 == (!x11_3))) else (some (t210 == false))) = some r := H
        have A126 := Aside0.mk A1260
        clear A1260
        have hnb128 := NB206_158.out
        have hnc128 := NB158_206.out
        have hnb129 := NB206_174.out
        have hnc129 := NB174_206.out
        have hnb130 := NB206_178.out
        have hnc130 := NB178_206.out
        have hcz131_0 : wr.cell? ⟨gb206, 0, none⟩ = some (.slice Ao86 y203.length co86) := (blk_cell BK206.out 0).trans rfl
        have hfz131_0 := blk_frozen BK206.out 0
        try go_wp2
        replace HO_159000 := am9_ (vc9 HO_159000.out)
        replace HO_175000 := am9_ (nc9 HO_175000.out)
        replace HO_179000 := am9_ (nc9 HO_179000.out)
        replace HO_207000 := am9_ (nc9 HO_207000.out)
        replace BK158 := am9_ (bb9 BK158.out)
        replace BK174 := am9_ (bb9 BK174.out)
        replace BK178 := am9_ (bb9 BK178.out)
        replace BK206 := am9_ (bb9 BK206.out)
        replace HB := am9_ (wc9 HB.out)
        have p209 : 0 ≤ (a1 : Int) := od9 (by first | (with_reducible assumption) | assumption)
        have q209 : a1 < (l0_0.length : Int) := od9 (by first | (with_reducible assumption) | assumption)
        obtain ⟨ad209, A209_1, c209_1, e209, hx209_0, hx209_1, hl209_1, hi209_1⟩ := at_T34 (Kd.V_reads' HO_159000.out).2.2 a1 p209 q209
        obtain rfl : ad179 = ad209 := (by injection e209)
        obtain ⟨ce209, hce209, hMe209, hcc209⟩ := Kd.V_get HO_159000.out z34 a1 p209 (by first | exact q209 | exact od9 (by first | (with_reducible assumption) | assumption) | (have e_ := (Kd.V_reads' HO_159000.out).1; omega))
        obtain ⟨ua209_1, uc209_1, rfl, ul209_1, ge209_1⟩ := k34_openF hMe209
        have hv209_1 := hcc209 1 _ rfl
        rw [add_field _ _ 1 (by omega)] at hv209_1
        replace hv209_1 := Option.some.inj (hv209_1.symm.trans hx209_1)
        injection hv209_1 with hva_ hvn_ hvc_
        rw [hva_] at ge209_1
        rw [hvc_] at ul209_1
        clear hva_ hvn_ hvc_ ge209_1 ul209_1 hcc209 hce209
        have HC209_1 := Aside0.mk hl209_1
        clear hi209_1 hl209_1
        replace p209 := eq_true p209
        replace q209 := eq_true q209
        as_aux_lemma =>
        refine start_ (n := 34) (S := fun w' => w'.cell? ⟨gb174, 0, none⟩ = some (.slice Ao57 y171.length co57) ∧ w'.cell? ⟨gb158, 0, none⟩ = some (.slice (some ad179) l0_0.length c0_0) ∧ w'.cell? ⟨gb178, 0, none⟩ = some (.slice (some ⟨go43, 0, none⟩) y189.length co63) ∧ w'.cell? ⟨gb206, 0, none⟩ = some (.slice Ao86 y203.length co86) ∧ w'.cell? (ad179.add ((a1).toNat * 2)) = some (.string ((rd_T34 l0_0 a1).f0)) ∧ w'.cell? ⟨(ad179.add ((a1).toNat * 2)).block, (ad179.add ((a1).toNat * 2)).off + 1, none⟩ = some (.slice A209_1 ((rd_T34 l0_0 a1).f1).length c209_1)) (ds := []) (z9 34 0) (by kernel_rfl) rfl rfl ⟨(blk_cell BK174.out 0).trans rfl, (blk_cell BK158.out 0).trans rfl, (blk_cell BK178.out 0).trans rfl, (blk_cell BK206.out 0).trans rfl, hx209_0, hx209_1⟩ (fun hHeld => ?_); refine with_tabW foliatelaw06_SchemaMore.tab20 foliatelaw06_SchemaMore.bits20 (fun HT_ HW_ => ?_)
        generalize wr.drew = w132 at HO_159000 HO_175000 HO_179000 HO_207000 BK158 BK174 BK178 BK206 HB hx209_0 hx209_1 hHeld ⊢
        refine pure_ (i := 2) (N := some 147) (v := ?_) (a' := ?_) (z9 34 4) rfl rfl (ao9 HT_.out (by kernel_rfl)) (fun _ _ _ h => h) (Or.inl ⟨by rfl, ?_⟩) ?_ ?_; rotate_left; (·intro w'; go_simp; with_reducible rfl); rotate_left; (·simp only [Act.put, k19, k29, k39, i64_w, i32_w]; rfl)
        refine take_ (i := 0) (N := some 145) (v := ?_) (a' := ?_) (z9 34 5) rfl rfl (tw9 HT_.out HW_.out (by kernel_rfl)) (fun _ _ _ h => h) (Or.inl ⟨by rfl, ?_⟩) hHeld ?_ ?_
        rotate_left
        ·rintro w' ⟨s0, s1, s2, s3, s4, s5⟩
         go_simp
         with_reducible rfl
        rotate_left
        ·simp only [Act.put, k19, k29, k39, i64_w, i32_w]
         rfl
        refine take_ (i := 3) (N := some 148) (v := ?_) (a' := ?_) (z9 34 13) rfl rfl (tw9 HT_.out HW_.out (by kernel_rfl)) (fun _ _ _ h => h) (Or.inl ⟨by rfl, ?_⟩) hHeld ?_ ?_
        rotate_left
        ·rintro w' ⟨s0, s1, s2, s3, s4, s5⟩
         go_simp
         with_reducible rfl
        rotate_left
        ·simp only [Act.put, k19, k29, k39, i64_w, i32_w]
         rfl
        refine pure_ (i := 4) (N := some 149) (v := ?_) (a' := ?_) (z9 34 29) rfl rfl (ao9 HT_.out (by kernel_rfl)) (fun _ _ _ h => h) (Or.inl ⟨by rfl, ?_⟩) ?_ ?_; rotate_left; (·intro w'; go_simp; with_reducible rfl); rotate_left; (·simp only [Act.put, k19, k29, k39, i64_w, i32_w]; rfl)
        refine pure_ (i := 5) (N := some 150) (v := ?_) (a' := ?_) (z9 34 61) rfl rfl (ao9 HT_.out (by kernel_rfl)) (fun _ _ _ h => h) (Or.inl ⟨by rfl, ?_⟩) ?_ ?_; rotate_left; (·intro w'; go_simp; with_reducible rfl); rotate_left; (·simp only [Act.put, k19, k29, k39, i64_w, i32_w]; rfl)
        refine one_ (i := 1) (N := some 146) (z9 34 63) rfl rfl (one_of HT_.out (by kernel_rfl)) (by decide) (fun K hK => ?_)
        refine goes_ Try.func17 (by kernel_rfl) rfl #[.agg #[.slice Ao57 y171.length co57]] (by rfl) rfl rfl (by (try simp only [List.map_toArray, List.map_cons, List.map_nil]); first | done | rfl | (simp only [List.length_drop, List.length_take]; rfl)) ?_
        with_reducible refine (schema_May.calls k3 _ _ y171 t207 _ ?side1 ?side2 A120.out).mono ?_
        (case side1 => repeat (first | exact (Kd.N_reads' HO_175000.out).2.2 | (with_reducible first | refine ca9_ ?_ _ | refine cn9_ ?_ _ | refine cd9_ ?_)))
        (case side2 => exact (Kd.N_reads' HO_175000.out).2.1)
        rintro e w133 ⟨rfl, hb⟩
        have HS4_ := (hb.cell (wl9 _ _ (hHeld.2.2.2.2.1))).trans (hHeld.2.2.2.2.1)
        have HS5_ := (hb.cell (wl9 _ _ (hHeld.2.2.2.2.2))).trans (hHeld.2.2.2.2.2)
        refine ⟨_, rfl, ?_⟩
        replace HO_159000 := am9_ (Kd.V_below HO_159000.out hb)
        replace HO_175000 := am9_ (Kd.N_below HO_175000.out hb)
        replace HO_179000 := am9_ (Kd.N_below HO_179000.out hb)
        replace HO_207000 := am9_ (Kd.N_below HO_207000.out hb)
        replace BK158 := am9_ (blk_below BK158.out hb)
        replace BK174 := am9_ (blk_below BK174.out hb)
        replace BK178 := am9_ (blk_below BK178.out hb)
        replace BK206 := am9_ (blk_below BK206.out hb)
        replace HB := am9_ (below_step HB.out hb)
        (try clear hb)
        (try clear hb2)
        (try clear hk)
        (try clear hi)
        refine hK.out _ _ ⟨(blk_cell BK174.out 0).trans rfl, (blk_cell BK158.out 0).trans rfl, (blk_cell BK178.out 0).trans rfl, (blk_cell BK206.out 0).trans rfl, HS4_, HS5_⟩ (fun hHeld => ?_)
        clear hK K
        refine norm_ (a' := ?_) ?_ ?_
        rotate_left
        ·show Act.put _ (some 146) _ = _
         simp only [Act.put, k19, k29, k39, i64_w, i32_w]
         rfl
        refine pure_ (i := 6) (N := some 151) (v := ?_) (a' := ?_) (z9 34 127) rfl rfl (ao9 HT_.out (by kernel_rfl)) (fun _ _ _ h => h) (Or.inl ⟨by rfl, ?_⟩) ?_ ?_; rotate_left; (·intro w'; go_simp; with_reducible rfl); rotate_left; (·simp only [Act.put, k19, k29, k39, i64_w, i32_w]; rfl)
        refine pure_ (i := 7) (N := some 152) (v := ?_) (a' := ?_) (z9 34 255) rfl rfl (ao9 HT_.out (by kernel_rfl)) (fun _ _ _ h => h) (Or.inl ⟨by rfl, ?_⟩) ?_ ?_; rotate_left; (·intro w'; go_simp; with_reducible rfl); rotate_left; (·simp only [Act.put, k19, k29, k39, i64_w, i32_w]; rfl)
        refine pure_ (i := 10) (N := some 155) (v := ?_) (a' := ?_) (z9 34 1279) rfl rfl (ao9 HT_.out (by kernel_rfl)) (fun _ _ _ h => h) (Or.inl ⟨by rfl, ?_⟩) ?_ ?_; rotate_left; (·intro w'; go_simp; with_reducible rfl); rotate_left; (·simp only [Act.put, k19, k29, k39, i64_w, i32_w]; rfl)
        refine pure_ (i := 12) (N := some 157) (v := ?_) (a' := ?_) (z9 34 5375) rfl rfl (ao9 HT_.out (by kernel_rfl)) (fun _ _ _ h => h) (Or.inl ⟨by rfl, ?_⟩) ?_ ?_; rotate_left; (·intro w'; go_simp; with_reducible rfl); rotate_left; (·simp only [Act.put, k19, k29, k39, i64_w, i32_w]; rfl)
        refine take_ (i := 8) (N := some 153) (v := ?_) (a' := ?_) (z9 34 5631) rfl rfl (tw9 HT_.out HW_.out (by kernel_rfl)) (fun _ _ _ h => h) (Or.inl ⟨by rfl, ?_⟩) hHeld ?_ ?_
        rotate_left
        ·rintro w' ⟨s0, s1, s2, s3, s4, s5⟩
         go_simp
         with_reducible rfl
        rotate_left
        ·simp only [Act.put, k19, k29, k39, i64_w, i32_w]
         rfl
        refine take_ (i := 11) (N := some 156) (v := ?_) (a' := ?_) (z9 34 7679) rfl rfl (tw9 HT_.out HW_.out (by kernel_rfl)) (fun _ _ _ h => h) (Or.inl ⟨by rfl, ?_⟩) hHeld ?_ ?_
        rotate_left
        ·rintro w' ⟨s0, s1, s2, s3, s4, s5⟩
         go_simp
         with_reducible rfl
        rotate_left
        ·simp only [Act.put, k19, k29, k39, i64_w, i32_w]
         rfl
        refine pure_ (i := 13) (N := some 158) (v := ?_) (a' := ?_) (z9 34 15871) rfl rfl (ao9 HT_.out (by kernel_rfl)) (fun _ _ _ h => h) (Or.inl ⟨by rfl, ?_⟩) ?_ ?_; rotate_left; (·intro w'; go_simp; with_reducible rfl); rotate_left; (·simp only [Act.put, k19, k29, k39, i64_w, i32_w]; rfl)
        refine pure_ (i := 14) (N := some 159) (v := ?_) (a' := ?_) (z9 34 32255) rfl rfl (ao9 HT_.out (by kernel_rfl)) (fun _ _ _ h => h) (Or.inl ⟨by rfl, ?_⟩) ?_ ?_; rotate_left; (·intro w'; go_simp; with_reducible rfl); rotate_left; (·simp only [Act.put, k19, k29, k39, i64_w, i32_w]; rfl)
        refine take_ (i := 15) (N := some 160) (v := ?_) (a' := ?_) (z9 34 65023) rfl rfl (tw9 HT_.out HW_.out (by kernel_rfl)) (fun _ _ _ h => h) (Or.inl ⟨by rfl, ?_⟩) hHeld ?_ ?_
        rotate_left
        ·rintro w' ⟨s0, s1, s2, s3, s4, s5⟩
         go_simp
         with_reducible rfl
        rotate_left
        ·simp only [Act.put, k19, k29, k39, i64_w, i32_w]
         rfl
        refine pure_ (i := 16) (N := some 161) (v := ?_) (a' := ?_) (z9 34 130559) rfl rfl (ao9 HT_.out (by kernel_rfl)) (fun _ _ _ h => h) (Or.inl ⟨by rfl, ?_⟩) ?_ ?_; rotate_left; (·intro w'; go_simp; with_reducible rfl); rotate_left; (·simp only [Act.put, k19, k29, k39, i64_w, i32_w]; rfl)
        refine pure_ (i := 17) (N := some 162) (v := ?_) (a' := ?_) (z9 34 261631) rfl rfl (ao9 HT_.out (by kernel_rfl)) (fun _ _ _ h => h) (Or.inl ⟨by rfl, ?_⟩) ?_ ?_; rotate_left; (·intro w'; go_simp; with_reducible rfl); rotate_left; (·simp only [Act.put, k19, k29, k39, i64_w, i32_w]; rfl)
        refine one_ (i := 9) (N := some 154) (z9 34 262143) rfl rfl (one_of HT_.out (by kernel_rfl)) (by decide) (fun K hK => ?_)
        refine goes_ Try.func17 (by kernel_rfl) rfl #[.agg #[.slice (some ⟨go43, 0, none⟩) y189.length co63]] (by rfl) rfl rfl (by (try simp only [List.map_toArray, List.map_cons, List.map_nil]); first | done | rfl | (simp only [List.length_drop, List.length_take]; rfl)) ?_
        with_reducible refine (schema_May.calls k3 _ _ y189 t208 _ ?side1 ?side2 A122.out).mono ?_
        (case side1 => repeat (first | exact (Kd.N_reads' HO_179000.out).2.2 | (with_reducible first | refine ca9_ ?_ _ | refine cn9_ ?_ _ | refine cd9_ ?_)))
        (case side2 => exact (Kd.N_reads' HO_179000.out).2.1)
        rintro e w134 ⟨rfl, hb⟩
        have HS4_ := (hb.cell (wl9 _ _ (hHeld.2.2.2.2.1))).trans (hHeld.2.2.2.2.1)
        have HS5_ := (hb.cell (wl9 _ _ (hHeld.2.2.2.2.2))).trans (hHeld.2.2.2.2.2)
        refine ⟨_, rfl, ?_⟩
        have n0_ := am9_ (Kd.V_below HO_159000.out hb)
        have n1_ := am9_ (Kd.N_below HO_175000.out hb)
        have n2_ := am9_ (Kd.N_below HO_179000.out hb)
        have n3_ := am9_ (Kd.N_below HO_207000.out hb)
        have n4_ := trivial
        have n5_ := am9_ (blk_below BK158.out hb)
        have n6_ := am9_ (blk_below BK174.out hb)
        have n7_ := am9_ (blk_below BK178.out hb)
        have n8_ := am9_ (blk_below BK206.out hb)
        have n9_ := trivial
        have n10_ := am9_ (below_step HB.out hb)
        clear HO_159000 HO_175000 HO_179000 HO_207000 BK158 BK174 BK178 BK206 HB
        have HO_159000 := n0_
        have HO_175000 := n1_
        have HO_179000 := n2_
        have HO_207000 := n3_
        have BK158 := n5_
        have BK174 := n6_
        have BK178 := n7_
        have BK206 := n8_
        have HB := n10_
        clear n0_ n1_ n2_ n3_ n4_ n5_ n6_ n7_ n8_ n9_ n10_
        (try clear hb)
        (try clear hb2)
        (try clear hk)
        (try clear hi)
        refine hK.out _ _ ⟨(blk_cell BK174.out 0).trans rfl, (blk_cell BK158.out 0).trans rfl, (blk_cell BK178.out 0).trans rfl, (blk_cell BK206.out 0).trans rfl, HS4_, HS5_⟩ (fun hHeld => ?_)
        clear hK K
        refine norm_ (a' := ?_) ?_ ?_
        rotate_left
        ·show Act.put _ (some 154) _ = _
         simp only [Act.put, k19, k29, k39, i64_w, i32_w]
         rfl
        refine pure_ (i := 18) (N := some 163) (v := ?_) (a' := ?_) (z9 34 524287) rfl rfl (ao9 HT_.out (by kernel_rfl)) (fun _ _ _ h => h) (Or.inl ⟨by rfl, ?_⟩) ?_ ?_; rotate_left; (·intro w'; go_simp; with_reducible rfl); rotate_left; (·simp only [Act.put, k19, k29, k39, i64_w, i32_w]; rfl)
        refine pure_ (i := 19) (N := some 164) (v := ?_) (a' := ?_) (z9 34 1048575) rfl rfl (ao9 HT_.out (by kernel_rfl)) (fun _ _ _ h => h) (Or.inl ⟨by rfl, ?_⟩) ?_ ?_; rotate_left; (·intro w'; go_simp; with_reducible rfl); rotate_left; (·simp only [Act.put, k19, k29, k39, i64_w, i32_w]; rfl)
        refine pure_ (i := 20) (N := some 165) (v := ?_) (a' := ?_) (z9 34 2097151) rfl rfl (ao9 HT_.out (by kernel_rfl)) (fun _ _ _ h => h) (Or.inl ⟨by rfl, ?_⟩) ?_ ?_; rotate_left; (·intro w'; go_simp; with_reducible rfl); rotate_left; (·simp only [Act.put, k19, k29, k39, i64_w, i32_w]; rfl)
        refine pure_ (i := 23) (N := some 168) (v := ?_) (a' := ?_) (z9 34 10485759) rfl rfl (ao9 HT_.out (by kernel_rfl)) (fun _ _ _ h => h) (Or.inl ⟨by rfl, ?_⟩) ?_ ?_; rotate_left; (·intro w'; go_simp; with_reducible rfl); rotate_left; (·simp only [Act.put, k19, k29, k39, i64_w, i32_w]; rfl)
        refine take_ (i := 21) (N := some 166) (v := ?_) (a' := ?_) (z9 34 12582911) rfl rfl (tw9 HT_.out HW_.out (by kernel_rfl)) (fun _ _ _ h => h) (Or.inl ⟨by rfl, ?_⟩) hHeld ?_ ?_
        rotate_left
        ·rintro w' ⟨s0, s1, s2, s3, s4, s5⟩
         go_simp
         with_reducible rfl
        rotate_left
        ·simp only [Act.put, k19, k29, k39, i64_w, i32_w]
         rfl
        refine take_ (i := 24) (N := some 169) (v := ?_) (a' := ?_) (z9 34 29360127) rfl rfl (tw9 HT_.out HW_.out (by kernel_rfl)) (fun _ _ _ h => h) (Or.inl ⟨by rfl, ?_⟩) hHeld ?_ ?_
        rotate_left
        ·rintro w' ⟨s0, s1, s2, s3, s4, s5⟩
         go_simp
         with_reducible rfl
        rotate_left
        ·simp only [Act.put, k19, k29, k39, i64_w, i32_w]
         rfl
        refine pure_ (i := 25) (N := some 170) (v := ?_) (a' := ?_) (z9 34 62914559) rfl rfl (ao9 HT_.out (by kernel_rfl)) (fun _ _ _ h => h) (Or.inl ⟨by rfl, ?_⟩) ?_ ?_; rotate_left; (·intro w'; go_simp; with_reducible rfl); rotate_left; (·simp only [Act.put, k19, k29, k39, i64_w, i32_w]; rfl)
        by_cases c127 : (y203.length : Int) > 0
        rotate_left
        ·replace H := (if_neg c127).symm.trans H
         have c127b0 : decide (0 < (y203.length : Int)) = false := decide_eq_false c127
         have c127b1 : decide (0 < y203.length) = false := decide_eq_false (by omega)
         clear c127
         obtain rfl := Option.some.inj H
         refine pure_ (i := 26) (N := some 171) (v := ?_) (a' := ?_) (z9 34 130023423) rfl rfl (ao9 HT_.out (by kernel_rfl)) (fun _ _ _ h => h) (Or.inl ⟨by rfl, ?_⟩) ?_ ?_; rotate_left; (·intro w'; go_simp; with_reducible rfl); rotate_left; (·simp only [Act.put, k19, k29, k39, i64_w, i32_w]; rfl)
         refine one_ (i := 22) (N := some 167) (z9 34 134217727) rfl rfl (one_of HT_.out (by kernel_rfl)) (by decide) (fun K hK => ?_)
         refine goes_ Try.func17 (by kernel_rfl) rfl #[.agg #[.slice Ao86 y203.length co86]] (by rfl) rfl rfl (by (try simp only [List.map_toArray, List.map_cons, List.map_nil]); first | done | rfl | (simp only [List.length_drop, List.length_take]; rfl)) ?_
         with_reducible refine (schema_May.calls k3 _ _ y203 t210 _ ?side1 ?side2 A126.out).mono ?_
         (case side1 => repeat (first | exact (Kd.N_reads' HO_207000.out).2.2 | (with_reducible first | refine ca9_ ?_ _ | refine cn9_ ?_ _ | refine cd9_ ?_)))
         (case side2 => exact (Kd.N_reads' HO_207000.out).2.1)
         rintro e w143 ⟨rfl, hb⟩
         have HS4_ := (hb.cell (wl9 _ _ (hHeld.2.2.2.2.1))).trans (hHeld.2.2.2.2.1)
         have HS5_ := (hb.cell (wl9 _ _ (hHeld.2.2.2.2.2))).trans (hHeld.2.2.2.2.2)
         refine ⟨_, rfl, ?_⟩
         have n0_ := am9_ (Kd.V_below HO_159000.out hb)
         have n1_ := am9_ (Kd.N_below HO_175000.out hb)
         have n2_ := am9_ (Kd.N_below HO_179000.out hb)
         have n3_ := am9_ (Kd.N_below HO_207000.out hb)
         have n4_ := trivial
         have n5_ := am9_ (blk_below BK158.out hb)
         have n6_ := am9_ (blk_below BK174.out hb)
         have n7_ := am9_ (blk_below BK178.out hb)
         have n8_ := am9_ (blk_below BK206.out hb)
         have n9_ := trivial
         have n10_ := am9_ (below_step HB.out hb)
         clear HO_159000 HO_175000 HO_179000 HO_207000 BK158 BK174 BK178 BK206 HB
         have HO_159000 := n0_
         have HO_175000 := n1_
         have HO_179000 := n2_
         have HO_207000 := n3_
         have BK158 := n5_
         have BK174 := n6_
         have BK178 := n7_
         have BK206 := n8_
         have HB := n10_
         clear n0_ n1_ n2_ n3_ n4_ n5_ n6_ n7_ n8_ n9_ n10_
         (try clear hb)
         (try clear hb2)
         (try clear hk)
         (try clear hi)
         refine hK.out _ _ ⟨(blk_cell BK174.out 0).trans rfl, (blk_cell BK158.out 0).trans rfl, (blk_cell BK178.out 0).trans rfl, (blk_cell BK206.out 0).trans rfl, HS4_, HS5_⟩ (fun hHeld => ?_)
         clear hK K
         refine norm_ (a' := ?_) ?_ ?_
         rotate_left
         ·show Act.put _ (some 167) _ = _
          simp only [Act.put, k19, k29, k39, i64_w, i32_w]
          rfl
         refine pure_ (i := 27) (N := some 172) (v := ?_) (a' := ?_) (z9 34 268435455) rfl rfl (ao9 HT_.out (by kernel_rfl)) (fun _ _ _ h => h) (Or.inl ⟨by rfl, ?_⟩) ?_ ?_; rotate_left; (·intro w'; go_simp; with_reducible rfl); rotate_left; (·simp only [Act.put, k19, k29, k39, i64_w, i32_w]; rfl)
         refine pure_ (i := 28) (N := some 173) (v := undef) (a' := ?_) (z9 34 536870911) rfl rfl (ao9 HT_.out (by kernel_rfl)) (fun _ _ _ h => h) (Or.inr ⟨by rfl, rfl⟩) ?_ ?_
         rotate_left
         ·simp only [Act.put, k19, k29, k39, i64_w, i32_w]
          rfl
         refine pure_ (i := 29) (N := some 174) (v := undef) (a' := ?_) (z9 34 1073741823) rfl rfl (ao9 HT_.out (by kernel_rfl)) (fun _ _ _ h => h) (Or.inr ⟨by rfl, rfl⟩) ?_ ?_
         rotate_left
         ·simp only [Act.put, k19, k29, k39, i64_w, i32_w]
          rfl
         refine pure_ (i := 30) (N := some 175) (v := ?_) (a' := ?_) (z9 34 2147483647) rfl rfl (ao9 HT_.out (by kernel_rfl)) (fun _ _ _ h => h) (Or.inl ⟨by rfl, ?_⟩) ?_ ?_; rotate_left; (·intro w'; go_simp; with_reducible rfl); rotate_left; (·simp only [Act.put, k19, k29, k39, i64_w, i32_w]; rfl)
         refine pure_ (i := 31) (N := some 176) (v := ?_) (a' := ?_) (z9 34 4294967295) rfl rfl (ao9 HT_.out (by kernel_rfl)) (fun _ _ _ h => h) (Or.inl ⟨by rfl, ?_⟩) ?_ ?_; rotate_left; (·intro w'; go_simp; with_reducible rfl); rotate_left; (·simp only [Act.put, k19, k29, k39, i64_w, i32_w]; rfl)
         refine pure_ (i := 32) (N := some 177) (v := ?_) (a' := ?_) (z9 34 8589934591) rfl rfl (ao9 HT_.out (by kernel_rfl)) (fun _ _ _ h => h) (Or.inl ⟨by rfl, ?_⟩) ?_ ?_; rotate_left; (·intro w'; go_simp; with_reducible rfl); rotate_left; (·simp only [Act.put, k19, k29, k39, i64_w, i32_w]; rfl)
         refine pure_ (i := 33) (N := some 4) (v := ?_) (a' := ?_) (z9 34 17179869183) rfl rfl (ao9 HT_.out (by kernel_rfl)) (fun _ _ _ h => h) (Or.inl ⟨by rfl, ?_⟩) ?_ ?_; rotate_left; (·intro w'; go_simp; with_reducible rfl); rotate_left; (·simp only [Act.put, k19, k29, k39, i64_w, i32_w]; rfl)
         refine done_ (done_of HT_.out (by kernel_rfl)) ?_
         try go_wp2
         go_ret
         exact ⟨by first | rfl | (simp [errW_none, errW_some] <;> rfl) | (simp only [← hji47]; first | rfl | (simp [errW_none, errW_some] <;> rfl)) | (simp [*, errW_none, errW_some] <;> rfl), by repeat (first | (with_reducible first | exact HB.out | apply wa9 | apply wb9 | apply wc9 | refine wd9 ?_ GE158.out | refine wd9 ?_ GE174.out | refine wd9 ?_ GE178.out | refine wd9 ?_ GE206.out) | exact HB.out)⟩
        replace H := (if_pos c127).symm.trans H
        have c127b0 : decide (0 < (y203.length : Int)) = true := decide_eq_true c127
        have c127b1 : decide (0 < y203.length) = true := decide_eq_true (by omega)
        clear c127
        obtain rfl := Option.some.inj H
        refine pure_ (i := 26) (N := some 171) (v := ?_) (a' := ?_) (z9 34 130023423) rfl rfl (ao9 HT_.out (by kernel_rfl)) (fun _ _ _ h => h) (Or.inl ⟨by rfl, ?_⟩) ?_ ?_; rotate_left; (·intro w'; go_simp; with_reducible rfl); rotate_left; (·simp only [Act.put, k19, k29, k39, i64_w, i32_w]; rfl)
        refine one_ (i := 22) (N := some 167) (z9 34 134217727) rfl rfl (one_of HT_.out (by kernel_rfl)) (by decide) (fun K hK => ?_)
        refine goes_ Try.func17 (by kernel_rfl) rfl #[.agg #[.slice Ao86 y203.length co86]] (by rfl) rfl rfl (by (try simp only [List.map_toArray, List.map_cons, List.map_nil]); first | done | rfl | (simp only [List.length_drop, List.length_take]; rfl)) ?_
        with_reducible refine (schema_May.calls k3 _ _ y203 t210 _ ?side1 ?side2 A126.out).mono ?_
        (case side1 => repeat (first | exact (Kd.N_reads' HO_207000.out).2.2 | (with_reducible first | refine ca9_ ?_ _ | refine cn9_ ?_ _ | refine cd9_ ?_)))
        (case side2 => exact (Kd.N_reads' HO_207000.out).2.1)
        rintro e w135 ⟨rfl, hb⟩
        have HS4_ := (hb.cell (wl9 _ _ (hHeld.2.2.2.2.1))).trans (hHeld.2.2.2.2.1)
        have HS5_ := (hb.cell (wl9 _ _ (hHeld.2.2.2.2.2))).trans (hHeld.2.2.2.2.2)
        refine ⟨_, rfl, ?_⟩
        have n0_ := am9_ (Kd.V_below (by (with_reducible repeat (first | apply va9 | apply vb9 | apply vc9)); exact HO_159000.out) hb)
        have n1_ := am9_ (Kd.N_below (by (with_reducible repeat (first | apply na9 | apply nb9 | apply nc9)); exact HO_175000.out) hb)
        have n2_ := am9_ (Kd.N_below (by (with_reducible repeat (first | apply na9 | apply nb9 | apply nc9)); exact HO_179000.out) hb)
        have n3_ := am9_ (Kd.N_below (by (with_reducible repeat (first | apply na9 | apply nb9 | apply nc9)); exact HO_207000.out) hb)
        have n4_ := trivial
        have n5_ := am9_ (blk_below (g := gb158) (o := .cells #[.slice (some ad179) l0_0.length c0_0] 24 (0, 0)) (by (with_reducible repeat (first | refine ba9 ?_ _ | refine bb9 ?_ | refine bc9 ?_ _)); exact BK158.out) hb)
        have n6_ := am9_ (blk_below (g := gb174) (o := .cells #[.slice Ao57 y171.length co57] 24 (0, 0)) (by (with_reducible repeat (first | refine ba9 ?_ _ | refine bb9 ?_ | refine bc9 ?_ _)); exact BK174.out) hb)
        have n7_ := am9_ (blk_below (g := gb178) (o := .cells #[.slice (some ⟨go43, 0, none⟩) y189.length co63] 24 (0, 0)) (by (with_reducible repeat (first | refine ba9 ?_ _ | refine bb9 ?_ | refine bc9 ?_ _)); exact BK178.out) hb)
        have n8_ := am9_ (blk_below (g := gb206) (o := .cells #[.slice Ao86 y203.length co86] 24 (0, 0)) (by (with_reducible repeat (first | refine ba9 ?_ _ | refine bb9 ?_ | refine bc9 ?_ _)); exact BK206.out) hb)
        have n9_ := trivial
        have n10_ := am9_ (below_step (by repeat (first | (with_reducible first | exact HB.out | apply wa9 | apply wb9 | apply wc9 | refine wd9 ?_ GE158.out | refine wd9 ?_ GE174.out | refine wd9 ?_ GE178.out | refine wd9 ?_ GE206.out) | exact HB.out)) hb)
        clear HO_159000 HO_175000 HO_179000 HO_207000 BK158 BK174 BK178 BK206 HB
        have HO_159000 := n0_
        have HO_175000 := n1_
        have HO_179000 := n2_
        have HO_207000 := n3_
        have BK158 := n5_
        have BK174 := n6_
        have BK178 := n7_
        have BK206 := n8_
        have HB := n10_
        clear n0_ n1_ n2_ n3_ n4_ n5_ n6_ n7_ n8_ n9_ n10_
        (try clear hb)
        (try clear hb2)
        (try clear hk)
        (try clear hi)
        refine hK.out _ _ ⟨(blk_cell BK174.out 0).trans rfl, (blk_cell BK158.out 0).trans rfl, (blk_cell BK178.out 0).trans rfl, (blk_cell BK206.out 0).trans rfl, HS4_, HS5_⟩ (fun hHeld => ?_)
        clear hK K
        refine norm_ (a' := ?_) ?_ ?_
        rotate_left
        ·show Act.put _ (some 167) _ = _
         simp only [Act.put, k19, k29, k39, i64_w, i32_w]
         rfl
        refine pure_ (i := 27) (N := some 172) (v := ?_) (a' := ?_) (z9 34 268435455) rfl rfl (ao9 HT_.out (by kernel_rfl)) (fun _ _ _ h => h) (Or.inl ⟨by rfl, ?_⟩) ?_ ?_; rotate_left; (·intro w'; go_simp; with_reducible rfl); rotate_left; (·simp only [Act.put, k19, k29, k39, i64_w, i32_w]; rfl)
        refine pure_ (i := 28) (N := some 173) (v := ?_) (a' := ?_) (z9 34 536870911) rfl rfl (ao9 HT_.out (by kernel_rfl)) (fun _ _ _ h => h) (Or.inl ⟨by rfl, ?_⟩) ?_ ?_; rotate_left; (·intro w'; go_simp; with_reducible rfl); rotate_left; (·simp only [Act.put, k19, k29, k39, i64_w, i32_w]; rfl)
        refine pure_ (i := 29) (N := some 174) (v := ?_) (a' := ?_) (z9 34 1073741823) rfl rfl (ao9 HT_.out (by kernel_rfl)) (fun _ _ _ h => h) (Or.inl ⟨by rfl, ?_⟩) ?_ ?_; rotate_left; (·intro w'; go_simp; with_reducible rfl); rotate_left; (·simp only [Act.put, k19, k29, k39, i64_w, i32_w]; rfl)
        refine pure_ (i := 30) (N := some 175) (v := ?_) (a' := ?_) (z9 34 2147483647) rfl rfl (ao9 HT_.out (by kernel_rfl)) (fun _ _ _ h => h) (Or.inl ⟨by rfl, ?_⟩) ?_ ?_; rotate_left; (·intro w'; go_simp; with_reducible rfl); rotate_left; (·simp only [Act.put, k19, k29, k39, i64_w, i32_w]; rfl)
        refine pure_ (i := 31) (N := some 176) (v := ?_) (a' := ?_) (z9 34 4294967295) rfl rfl (ao9 HT_.out (by kernel_rfl)) (fun _ _ _ h => h) (Or.inl ⟨by rfl, ?_⟩) ?_ ?_; rotate_left; (·intro w'; go_simp; with_reducible rfl); rotate_left; (·simp only [Act.put, k19, k29, k39, i64_w, i32_w]; rfl)
        refine pure_ (i := 32) (N := some 177) (v := ?_) (a' := ?_) (z9 34 8589934591) rfl rfl (ao9 HT_.out (by kernel_rfl)) (fun _ _ _ h => h) (Or.inl ⟨by rfl, ?_⟩) ?_ ?_; rotate_left; (·intro w'; go_simp; with_reducible rfl); rotate_left; (·simp only [Act.put, k19, k29, k39, i64_w, i32_w]; rfl)
        refine pure_ (i := 33) (N := some 4) (v := ?_) (a' := ?_) (z9 34 17179869183) rfl rfl (ao9 HT_.out (by kernel_rfl)) (fun _ _ _ h => h) (Or.inl ⟨by rfl, ?_⟩) ?_ ?_; rotate_left; (·intro w'; go_simp; with_reducible rfl); rotate_left; (·simp only [Act.put, k19, k29, k39, i64_w, i32_w]; rfl)
        refine done_ (done_of HT_.out (by kernel_rfl)) ?_
        try go_wp2
        go_ret
        exact ⟨by first | rfl | (simp [errW_none, errW_some] <;> rfl) | (simp only [← hji47]; first | rfl | (simp [errW_none, errW_some] <;> rfl)) | (simp [*, errW_none, errW_some] <;> rfl), by repeat (first | (with_reducible first | exact HB.out | apply wa9 | apply wb9 | apply wc9 | refine wd9 ?_ GE158.out | refine wd9 ?_ GE174.out | refine wd9 ?_ GE178.out | refine wd9 ?_ GE206.out) | exact HB.out)⟩
       replace H := (if_pos c88).symm.trans H
       have c88b0 : decide (x12_3 < (y203.length : Int)) = true := decide_eq_true c88
       clear c88
       have H' := Aside0.mk H
       clear H
       have hnb89 := NB206_158.out
       have hnc89 := NB158_206.out
       have hnb90 := NB206_174.out
       have hnc90 := NB174_206.out
       have hnb91 := NB206_178.out
       have hnc91 := NB178_206.out
       have hcz92_0 : wr.cell? ⟨gb206, 0, none⟩ = some (.slice Ao86 y203.length co86) := (blk_cell BK206.out 0).trans rfl
       have hfz92_0 := blk_frozen BK206.out 0
       go_wp2
       go_loopg [11, 13] k3 (fun kq v11 v13 w' => ∃ (x11_4 : Bool) (x13_4 : Int), v11 = .bool x11_4 ∧ v13 = .int .i64 x13_4 ∧ Aside0 (l1 kq a1 x11_4 x12_3 x13_4 l0_0 y171 y189 y203 = some r) ∧ Aside0 (kq ≤ k3) ∧ Aside0 (Kd.V k34 34 w' w.heap.size (fun k_ => (P0_0_ k_ ∨ w.heap.size ≤ k_) ∧ some k_ ≠ ((.slice Ao57 y171.length co57) : Value).ownBlock ∧ some k_ ≠ ((.slice (some ⟨go43, 0, none⟩) y189.length co63) : Value).ownBlock ∧ some k_ ≠ ((.slice Ao86 y203.length co86) : Value).ownBlock ∧ k_ ≠ gb158 ∧ k_ ≠ gb174 ∧ k_ ≠ gb178 ∧ k_ ≠ gb206) (.slice (some ad179) l0_0.length c0_0) l0_0) ∧ Aside0 (Kd.N k34 34 w' w.heap.size (fun k_ => (P0_0_ k_ ∨ w.heap.size ≤ k_) ∧ some k_ ≠ ((.slice (some ⟨go43, 0, none⟩) y189.length co63) : Value).ownBlock ∧ some k_ ≠ ((.slice Ao86 y203.length co86) : Value).ownBlock ∧ k_ ≠ gb158 ∧ k_ ≠ gb174 ∧ k_ ≠ gb178 ∧ k_ ≠ gb206) (.slice Ao57 y171.length co57) y171) ∧ Aside0 (Kd.N k34 34 w' w.heap.size (fun k_ => (P0_0_ k_ ∨ w.heap.size ≤ k_) ∧ some k_ ≠ ((.slice Ao57 y171.length co57) : Value).ownBlock ∧ some k_ ≠ ((.slice Ao86 y203.length co86) : Value).ownBlock ∧ k_ ≠ gb158 ∧ k_ ≠ gb174 ∧ k_ ≠ gb178 ∧ k_ ≠ gb206) (.slice (some ⟨go43, 0, none⟩) y189.length co63) y189) ∧ Aside0 (Kd.N k34 34 w' w.heap.size (fun k_ => (P0_0_ k_ ∨ w.heap.size ≤ k_) ∧ some k_ ≠ ((.slice Ao57 y171.length co57) : Value).ownBlock ∧ some k_ ≠ ((.slice (some ⟨go43, 0, none⟩) y189.length co63) : Value).ownBlock ∧ k_ ≠ gb158 ∧ k_ ≠ gb174 ∧ k_ ≠ gb178 ∧ k_ ≠ gb206) (.slice Ao86 y203.length co86) y203) ∧ Aside0 (w'.heap[gb158]? = some (.cells #[(.slice (some ad179) l0_0.length c0_0)] 24 (0, 0))) ∧ Aside0 (w'.heap[gb174]? = some (.cells #[(.slice Ao57 y171.length co57)] 24 (0, 0))) ∧ Aside0 (w'.heap[gb178]? = some (.cells #[(.slice (some ⟨go43, 0, none⟩) y189.length co63)] 24 (0, 0))) ∧ Aside0 (w'.heap[gb206]? = some (.cells #[(.slice Ao86 y203.length co86)] 24 (0, 0))) ∧ Aside0 (Below w.heap.size w w'))
       case atStart => exact ⟨(x11_3), (0), (by first | rfl | (simp; done) | (simp [*]; done)), (by first | rfl | (simp; done) | (simp [*]; done)), H', ⟨Nat.le_refl _⟩, ⟨by (try simp only [hl179000_3]); (with_reducible repeat (first | apply va9 | apply vb9 | apply vc9)); exact HO_159000.out⟩, ⟨by (try simp only [hl179000_3]); (with_reducible repeat (first | apply na9 | apply nb9 | apply nc9)); exact HO_175000.out⟩, ⟨by (try simp only [hl179000_3]); (with_reducible repeat (first | apply na9 | apply nb9 | apply nc9)); exact HO_179000.out⟩, ⟨by (try simp only [hl179000_3]); (with_reducible repeat (first | apply na9 | apply nb9 | apply nc9)); exact HO_207000.out⟩, ⟨by (try simp only [hl179000_3]); (with_reducible repeat (first | refine ba9 ?_ _ | refine bb9 ?_ | refine bc9 ?_ _)); exact BK158.out⟩, ⟨by (try simp only [hl179000_3]); (with_reducible repeat (first | refine ba9 ?_ _ | refine bb9 ?_ | refine bc9 ?_ _)); exact BK174.out⟩, ⟨by (try simp only [hl179000_3]); (with_reducible repeat (first | refine ba9 ?_ _ | refine bb9 ?_ | refine bc9 ?_ _)); exact BK178.out⟩, ⟨by (try simp only [hl179000_3]); (with_reducible repeat (first | refine ba9 ?_ _ | refine bb9 ?_ | refine bc9 ?_ _)); exact BK206.out⟩, ⟨by repeat (first | (with_reducible first | exact HB.out | apply wa9 | apply wb9 | apply wc9 | refine wd9 ?_ GE158.out | refine wd9 ?_ GE174.out | refine wd9 ?_ GE178.out | refine wd9 ?_ GE206.out) | exact HB.out)⟩⟩
       case round =>
        clear H'
        try clear c1
        try clear p2
        try clear c4
        try clear c5
        try clear c8
        try clear c9
        try clear c17
        try clear c46
        try clear c50
        try clear c80
        try clear c88
        try clear c88b0
        try clear c89
        try clear c90
        try clear c91
        try clear hcz92_0
        try clear hfz92_0
        try clear p2
        obtain ⟨x11_4, x13_4, rfl, rfl, HA, HK4, HO_159000, HO_175000, HO_179000, HO_207000, BK158, BK174, BK178, BK206, HB⟩ := hrel
        cases gk with
        | zero => exact absurd HA.out (by simp [l1])
        | succ k4 =>
         have H := HA.out
         clear HA
         rw [foliatelaw06_SchemaMore.l1.eq_2] at H
         by_cases c93 : 0 ≤ x12_3
         rotate_left
         ·replace H := (if_neg c93).symm.trans H
          exact absurd H (by simp)
         replace H := (if_pos c93).symm.trans H
         have c93b0 : decide (0 ≤ x12_3) = true := decide_eq_true c93
         clear c93
         by_cases c94 : x12_3 < (y203.length : Int)
         rotate_left
         ·replace H := (if_neg c94).symm.trans H
          exact absurd H (by simp)
         replace H := (if_pos c94).symm.trans H
         have c94b0 : decide (x12_3 < (y203.length : Int)) = true := decide_eq_true c94
         clear c94
         by_cases c95 : x13_4 < (((rd_T34 y203 x12_3).f1).length : Int)
         rotate_left
         ·replace H := (if_neg c95).symm.trans H
          have c95b0 : decide (x13_4 < (((rd_T34 y203 x12_3).f1).length : Int)) = false := decide_eq_false c95
          clear c95
          have H' := Aside0.mk H
          clear H
          have hnb116 := NB206_158.out
          have hnc116 := NB158_206.out
          have hnb117 := NB206_174.out
          have hnc117 := NB174_206.out
          have hnb118 := NB206_178.out
          have hnc118 := NB178_206.out
          have hcz119_0 : wr.cell? ⟨gb206, 0, none⟩ = some (.slice Ao86 y203.length co86) := (blk_cell BK206.out 0).trans rfl
          have hfz119_0 := blk_frozen BK206.out 0
          have p211 : 0 ≤ (x12_3 : Int) := od9 (by first | (with_reducible assumption) | assumption)
          have q211 : x12_3 < (y203.length : Int) := od9 (by first | (with_reducible assumption) | assumption)
          obtain ⟨ad211, A211_1, c211_1, e211, hx211_0, hx211_1, hl211_1, hi211_1⟩ := at_T34 (Kd.N_reads' HO_207000.out).2.2 x12_3 p211 q211
          cases e211
          obtain ⟨ce211, hce211, hMe211, hcc211⟩ := Kd.N_get HO_207000.out z34 x12_3 p211 (by first | exact q211 | exact od9 (by first | (with_reducible assumption) | assumption) | (have e_ := (Kd.N_reads' HO_207000.out).1; omega))
          obtain ⟨ua211_1, uc211_1, rfl, ul211_1, ge211_1⟩ := k34_openF hMe211
          have hv211_1 := hcc211 1 _ rfl
          rw [add_field _ _ 1 (by omega)] at hv211_1
          replace hv211_1 := Option.some.inj (hv211_1.symm.trans hx211_1)
          injection hv211_1 with hva_ hvn_ hvc_
          rw [hva_] at ge211_1
          rw [hvc_] at ul211_1
          have HL211_1 := am9_ (show Kd.V k40 40 _ w.heap.size _ _ ((rd_T34 y203 x12_3).f1) from Kd.V_mk ul211_1 ge211_1)
          clear hva_ hvn_ hvc_ ge211_1 ul211_1 hcc211 hce211
          have HR211_1 := Aside0.mk hi211_1
          have HC211_1 := Aside0.mk hl211_1
          clear hi211_1 hl211_1
          replace p211 := eq_true p211
          replace q211 := eq_true q211
          go_wp2
          (try simp only [← hl179000_3])
          go_roundg k4
          case measure => have := HJ4.out; have := HJ22.out; have := HK3.out; have := HK4.out; omega
          case rel => exact ⟨(x11_4), (wrap64 (x12_3 + 1)), (by first | rfl | (simp; done) | (simp [*]; done)), (by first | rfl | (simp; done) | (simp [*]; done)), H', ⟨by have := HJ4.out; have := HJ22.out; have := HK3.out; have := HK4.out; omega⟩, ⟨by (try simp only [hl179000_3]); (with_reducible repeat (first | apply va9 | apply vb9 | apply vc9)); exact HO_159000.out⟩, ⟨by (try simp only [hl179000_3]); (with_reducible repeat (first | apply na9 | apply nb9 | apply nc9)); exact HO_175000.out⟩, ⟨by (try simp only [hl179000_3]); (with_reducible repeat (first | apply na9 | apply nb9 | apply nc9)); exact HO_179000.out⟩, ⟨by (try simp only [hl179000_3]); (with_reducible repeat (first | apply na9 | apply nb9 | apply nc9)); exact HO_207000.out⟩, ⟨by (try simp only [hl179000_3]); (with_reducible repeat (first | refine ba9 ?_ _ | refine bb9 ?_ | refine bc9 ?_ _)); exact BK158.out⟩, ⟨by (try simp only [hl179000_3]); (with_reducible repeat (first | refine ba9 ?_ _ | refine bb9 ?_ | refine bc9 ?_ _)); exact BK174.out⟩, ⟨by (try simp only [hl179000_3]); (with_reducible repeat (first | refine ba9 ?_ _ | refine bb9 ?_ | refine bc9 ?_ _)); exact BK178.out⟩, ⟨by (try simp only [hl179000_3]); (with_reducible repeat (first | refine ba9 ?_ _ | refine bb9 ?_ | refine bc9 ?_ _)); exact BK206.out⟩, ⟨by repeat (first | (with_reducible first | exact HB.out | apply wa9 | apply wb9 | apply wc9 | refine wd9 ?_ GE158.out | refine wd9 ?_ GE174.out | refine wd9 ?_ GE178.out | refine wd9 ?_ GE206.out) | exact HB.out)⟩⟩
         replace H := (if_pos c95).symm.trans H
         have c95b0 : decide (x13_4 < (((rd_T34 y203 x12_3).f1).length : Int)) = true := decide_eq_true c95
         clear c95
         by_cases c96 : x11_4 = true
         ·subst c96
          have H1 : (l1 k4 a1 true x12_3 (wrap64 (x13_4 + 1)) l0_0 y171 y189 y203) = some r := by rw [if_pos rfl] at H; exact H
          clear H
          have H := H1
          clear H1
          have H' := Aside0.mk H
          clear H
          have hnb97 := NB206_158.out
          have hnc97 := NB158_206.out
          have hnb98 := NB206_174.out
          have hnc98 := NB174_206.out
          have hnb99 := NB206_178.out
          have hnc99 := NB178_206.out
          have hcz100_0 : wr.cell? ⟨gb206, 0, none⟩ = some (.slice Ao86 y203.length co86) := (blk_cell BK206.out 0).trans rfl
          have hfz100_0 := blk_frozen BK206.out 0
          have p211 : 0 ≤ (x12_3 : Int) := od9 (by first | (with_reducible assumption) | assumption)
          have q211 : x12_3 < (y203.length : Int) := od9 (by first | (with_reducible assumption) | assumption)
          obtain ⟨ad211, A211_1, c211_1, e211, hx211_0, hx211_1, hl211_1, hi211_1⟩ := at_T34 (Kd.N_reads' HO_207000.out).2.2 x12_3 p211 q211
          cases e211
          obtain ⟨ce211, hce211, hMe211, hcc211⟩ := Kd.N_get HO_207000.out z34 x12_3 p211 (by first | exact q211 | exact od9 (by first | (with_reducible assumption) | assumption) | (have e_ := (Kd.N_reads' HO_207000.out).1; omega))
          obtain ⟨ua211_1, uc211_1, rfl, ul211_1, ge211_1⟩ := k34_openF hMe211
          have hv211_1 := hcc211 1 _ rfl
          rw [add_field _ _ 1 (by omega)] at hv211_1
          replace hv211_1 := Option.some.inj (hv211_1.symm.trans hx211_1)
          injection hv211_1 with hva_ hvn_ hvc_
          rw [hva_] at ge211_1
          rw [hvc_] at ul211_1
          have HL211_1 := am9_ (show Kd.V k40 40 _ w.heap.size _ _ ((rd_T34 y203 x12_3).f1) from Kd.V_mk ul211_1 ge211_1)
          clear hva_ hvn_ hvc_ ge211_1 ul211_1 hcc211 hce211
          have HR211_1 := Aside0.mk hi211_1
          have HC211_1 := Aside0.mk hl211_1
          clear hi211_1 hl211_1
          replace p211 := eq_true p211
          replace q211 := eq_true q211
          try go_wp2
          replace HO_159000 := am9_ (vc9 HO_159000.out)
          replace HO_175000 := am9_ (nc9 HO_175000.out)
          replace HO_179000 := am9_ (nc9 HO_179000.out)
          replace HO_207000 := am9_ (nc9 HO_207000.out)
          replace HL211_1 := am9_ (vc9 HL211_1.out)
          replace BK158 := am9_ (bb9 BK158.out)
          replace BK174 := am9_ (bb9 BK174.out)
          replace BK178 := am9_ (bb9 BK178.out)
          replace BK206 := am9_ (bb9 BK206.out)
          replace HR211_1 := am9_ (Kd.C_drew HR211_1.out)
          replace HB := am9_ (wc9 HB.out)
          as_aux_lemma =>
          refine start_ (n := 34) (S := fun w' => True) (ds := []) (z9 34 0) (by kernel_rfl) rfl rfl trivial (fun hHeld => ?_); refine with_tabW foliatelaw06_SchemaMore.tab19 foliatelaw06_SchemaMore.bits19 (fun HT_ HW_ => ?_)
          generalize wr.drew = w101 at HO_159000 HO_175000 HO_179000 HO_207000 HL211_1 BK158 BK174 BK178 BK206 HR211_1 HB hHeld ⊢
          refine pure_ (i := 0) (N := some 112) (v := ?_) (a' := ?_) (z9 34 1) rfl rfl (ao9 HT_.out (by kernel_rfl)) (fun _ _ _ h => h) (Or.inl ⟨by rfl, ?_⟩) ?_ ?_; rotate_left; (·intro w'; go_simp; with_reducible rfl); rotate_left; (·simp only [Act.put, k19, k29, k39, i64_w, i32_w]; rfl)
          refine pure_ (i := 1) (N := some 113) (v := ?_) (a' := ?_) (z9 34 3) rfl rfl (ao9 HT_.out (by kernel_rfl)) (fun _ _ _ h => h) (Or.inl ⟨by rfl, ?_⟩) ?_ ?_; rotate_left; (·intro w'; go_simp; with_reducible rfl); rotate_left; (·simp only [Act.put, k19, k29, k39, i64_w, i32_w]; rfl)
          refine pure_ (i := 2) (N := some 114) (v := undef) (a' := ?_) (z9 34 7) rfl rfl (ao9 HT_.out (by kernel_rfl)) (fun _ _ _ h => h) (Or.inr ⟨by rfl, rfl⟩) ?_ ?_
          rotate_left
          ·simp only [Act.put, k19, k29, k39, i64_w, i32_w]
           rfl
          refine pure_ (i := 3) (N := some 115) (v := undef) (a' := ?_) (z9 34 15) rfl rfl (ao9 HT_.out (by kernel_rfl)) (fun _ _ _ h => h) (Or.inr ⟨by rfl, rfl⟩) ?_ ?_
          rotate_left
          ·simp only [Act.put, k19, k29, k39, i64_w, i32_w]
           rfl
          refine pure_ (i := 4) (N := some 116) (v := undef) (a' := ?_) (z9 34 31) rfl rfl (ao9 HT_.out (by kernel_rfl)) (fun _ _ _ h => h) (Or.inr ⟨by rfl, rfl⟩) ?_ ?_
          rotate_left
          ·simp only [Act.put, k19, k29, k39, i64_w, i32_w]
           rfl
          refine pure_ (i := 5) (N := some 117) (v := undef) (a' := ?_) (z9 34 63) rfl rfl (ao9 HT_.out (by kernel_rfl)) (fun _ _ _ h => h) (Or.inr ⟨by rfl, rfl⟩) ?_ ?_
          rotate_left
          ·simp only [Act.put, k19, k29, k39, i64_w, i32_w]
           rfl
          refine pure_ (i := 6) (N := some 118) (v := undef) (a' := ?_) (z9 34 127) rfl rfl (ao9 HT_.out (by kernel_rfl)) (fun _ _ _ h => h) (Or.inr ⟨by rfl, rfl⟩) ?_ ?_
          rotate_left
          ·simp only [Act.put, k19, k29, k39, i64_w, i32_w]
           rfl
          refine pure_ (i := 7) (N := some 119) (v := undef) (a' := ?_) (z9 34 255) rfl rfl (ao9 HT_.out (by kernel_rfl)) (fun _ _ _ h => h) (Or.inr ⟨by rfl, rfl⟩) ?_ ?_
          rotate_left
          ·simp only [Act.put, k19, k29, k39, i64_w, i32_w]
           rfl
          refine pure_ (i := 8) (N := some 120) (v := undef) (a' := ?_) (z9 34 511) rfl rfl (ao9 HT_.out (by kernel_rfl)) (fun _ _ _ h => h) (Or.inr ⟨by rfl, rfl⟩) ?_ ?_
          rotate_left
          ·simp only [Act.put, k19, k29, k39, i64_w, i32_w]
           rfl
          refine pure_ (i := 9) (N := some 121) (v := undef) (a' := ?_) (z9 34 1023) rfl rfl (ao9 HT_.out (by kernel_rfl)) (fun _ _ _ h => h) (Or.inr ⟨by rfl, rfl⟩) ?_ ?_
          rotate_left
          ·simp only [Act.put, k19, k29, k39, i64_w, i32_w]
           rfl
          refine pure_ (i := 10) (N := some 122) (v := undef) (a' := ?_) (z9 34 2047) rfl rfl (ao9 HT_.out (by kernel_rfl)) (fun _ _ _ h => h) (Or.inr ⟨by rfl, rfl⟩) ?_ ?_
          rotate_left
          ·simp only [Act.put, k19, k29, k39, i64_w, i32_w]
           rfl
          refine pure_ (i := 11) (N := some 123) (v := undef) (a' := ?_) (z9 34 4095) rfl rfl (ao9 HT_.out (by kernel_rfl)) (fun _ _ _ h => h) (Or.inr ⟨by rfl, rfl⟩) ?_ ?_
          rotate_left
          ·simp only [Act.put, k19, k29, k39, i64_w, i32_w]
           rfl
          refine pure_ (i := 12) (N := some 124) (v := undef) (a' := ?_) (z9 34 8191) rfl rfl (ao9 HT_.out (by kernel_rfl)) (fun _ _ _ h => h) (Or.inr ⟨by rfl, rfl⟩) ?_ ?_
          rotate_left
          ·simp only [Act.put, k19, k29, k39, i64_w, i32_w]
           rfl
          refine pure_ (i := 13) (N := some 125) (v := undef) (a' := ?_) (z9 34 16383) rfl rfl (ao9 HT_.out (by kernel_rfl)) (fun _ _ _ h => h) (Or.inr ⟨by rfl, rfl⟩) ?_ ?_
          rotate_left
          ·simp only [Act.put, k19, k29, k39, i64_w, i32_w]
           rfl
          refine pure_ (i := 14) (N := some 126) (v := undef) (a' := ?_) (z9 34 32767) rfl rfl (ao9 HT_.out (by kernel_rfl)) (fun _ _ _ h => h) (Or.inr ⟨by rfl, rfl⟩) ?_ ?_
          rotate_left
          ·simp only [Act.put, k19, k29, k39, i64_w, i32_w]
           rfl
          refine pure_ (i := 15) (N := some 127) (v := undef) (a' := ?_) (z9 34 65535) rfl rfl (ao9 HT_.out (by kernel_rfl)) (fun _ _ _ h => h) (Or.inr ⟨by rfl, rfl⟩) ?_ ?_
          rotate_left
          ·simp only [Act.put, k19, k29, k39, i64_w, i32_w]
           rfl
          refine pure_ (i := 16) (N := some 128) (v := undef) (a' := ?_) (z9 34 131071) rfl rfl (ao9 HT_.out (by kernel_rfl)) (fun _ _ _ h => h) (Or.inr ⟨by rfl, rfl⟩) ?_ ?_
          rotate_left
          ·simp only [Act.put, k19, k29, k39, i64_w, i32_w]
           rfl
          refine pure_ (i := 17) (N := some 129) (v := undef) (a' := ?_) (z9 34 262143) rfl rfl (ao9 HT_.out (by kernel_rfl)) (fun _ _ _ h => h) (Or.inr ⟨by rfl, rfl⟩) ?_ ?_
          rotate_left
          ·simp only [Act.put, k19, k29, k39, i64_w, i32_w]
           rfl
          refine pure_ (i := 18) (N := some 130) (v := undef) (a' := ?_) (z9 34 524287) rfl rfl (ao9 HT_.out (by kernel_rfl)) (fun _ _ _ h => h) (Or.inr ⟨by rfl, rfl⟩) ?_ ?_
          rotate_left
          ·simp only [Act.put, k19, k29, k39, i64_w, i32_w]
           rfl
          refine pure_ (i := 19) (N := some 131) (v := undef) (a' := ?_) (z9 34 1048575) rfl rfl (ao9 HT_.out (by kernel_rfl)) (fun _ _ _ h => h) (Or.inr ⟨by rfl, rfl⟩) ?_ ?_
          rotate_left
          ·simp only [Act.put, k19, k29, k39, i64_w, i32_w]
           rfl
          refine pure_ (i := 20) (N := some 132) (v := undef) (a' := ?_) (z9 34 2097151) rfl rfl (ao9 HT_.out (by kernel_rfl)) (fun _ _ _ h => h) (Or.inr ⟨by rfl, rfl⟩) ?_ ?_
          rotate_left
          ·simp only [Act.put, k19, k29, k39, i64_w, i32_w]
           rfl
          refine pure_ (i := 21) (N := some 133) (v := undef) (a' := ?_) (z9 34 4194303) rfl rfl (ao9 HT_.out (by kernel_rfl)) (fun _ _ _ h => h) (Or.inr ⟨by rfl, rfl⟩) ?_ ?_
          rotate_left
          ·simp only [Act.put, k19, k29, k39, i64_w, i32_w]
           rfl
          refine pure_ (i := 22) (N := some 134) (v := undef) (a' := ?_) (z9 34 8388607) rfl rfl (ao9 HT_.out (by kernel_rfl)) (fun _ _ _ h => h) (Or.inr ⟨by rfl, rfl⟩) ?_ ?_
          rotate_left
          ·simp only [Act.put, k19, k29, k39, i64_w, i32_w]
           rfl
          refine pure_ (i := 23) (N := some 135) (v := undef) (a' := ?_) (z9 34 16777215) rfl rfl (ao9 HT_.out (by kernel_rfl)) (fun _ _ _ h => h) (Or.inr ⟨by rfl, rfl⟩) ?_ ?_
          rotate_left
          ·simp only [Act.put, k19, k29, k39, i64_w, i32_w]
           rfl
          refine pure_ (i := 24) (N := some 136) (v := undef) (a' := ?_) (z9 34 33554431) rfl rfl (ao9 HT_.out (by kernel_rfl)) (fun _ _ _ h => h) (Or.inr ⟨by rfl, rfl⟩) ?_ ?_
          rotate_left
          ·simp only [Act.put, k19, k29, k39, i64_w, i32_w]
           rfl
          refine pure_ (i := 25) (N := some 137) (v := undef) (a' := ?_) (z9 34 67108863) rfl rfl (ao9 HT_.out (by kernel_rfl)) (fun _ _ _ h => h) (Or.inr ⟨by rfl, rfl⟩) ?_ ?_
          rotate_left
          ·simp only [Act.put, k19, k29, k39, i64_w, i32_w]
           rfl
          refine pure_ (i := 26) (N := some 138) (v := undef) (a' := ?_) (z9 34 134217727) rfl rfl (ao9 HT_.out (by kernel_rfl)) (fun _ _ _ h => h) (Or.inr ⟨by rfl, rfl⟩) ?_ ?_
          rotate_left
          ·simp only [Act.put, k19, k29, k39, i64_w, i32_w]
           rfl
          refine pure_ (i := 27) (N := some 139) (v := undef) (a' := ?_) (z9 34 268435455) rfl rfl (ao9 HT_.out (by kernel_rfl)) (fun _ _ _ h => h) (Or.inr ⟨by rfl, rfl⟩) ?_ ?_
          rotate_left
          ·simp only [Act.put, k19, k29, k39, i64_w, i32_w]
           rfl
          refine pure_ (i := 28) (N := some 140) (v := undef) (a' := ?_) (z9 34 536870911) rfl rfl (ao9 HT_.out (by kernel_rfl)) (fun _ _ _ h => h) (Or.inr ⟨by rfl, rfl⟩) ?_ ?_
          rotate_left
          ·simp only [Act.put, k19, k29, k39, i64_w, i32_w]
           rfl
          refine pure_ (i := 29) (N := some 141) (v := undef) (a' := ?_) (z9 34 1073741823) rfl rfl (ao9 HT_.out (by kernel_rfl)) (fun _ _ _ h => h) (Or.inr ⟨by rfl, rfl⟩) ?_ ?_
          rotate_left
          ·simp only [Act.put, k19, k29, k39, i64_w, i32_w]
           rfl
          refine pure_ (i := 30) (N := some 142) (v := undef) (a' := ?_) (z9 34 2147483647) rfl rfl (ao9 HT_.out (by kernel_rfl)) (fun _ _ _ h => h) (Or.inr ⟨by rfl, rfl⟩) ?_ ?_
          rotate_left
          ·simp only [Act.put, k19, k29, k39, i64_w, i32_w]
           rfl
          refine pure_ (i := 31) (N := some 143) (v := undef) (a' := ?_) (z9 34 4294967295) rfl rfl (ao9 HT_.out (by kernel_rfl)) (fun _ _ _ h => h) (Or.inr ⟨by rfl, rfl⟩) ?_ ?_
          rotate_left
          ·simp only [Act.put, k19, k29, k39, i64_w, i32_w]
           rfl
          refine pure_ (i := 32) (N := some 144) (v := ?_) (a' := ?_) (z9 34 8589934591) rfl rfl (ao9 HT_.out (by kernel_rfl)) (fun _ _ _ h => h) (Or.inl ⟨by rfl, ?_⟩) ?_ ?_; rotate_left; (·intro w'; go_simp; with_reducible rfl); rotate_left; (·simp only [Act.put, k19, k29, k39, i64_w, i32_w]; rfl)
          refine pure_ (i := 33) (N := some 11) (v := ?_) (a' := ?_) (z9 34 17179869183) rfl rfl (ao9 HT_.out (by kernel_rfl)) (fun _ _ _ h => h) (Or.inl ⟨by rfl, ?_⟩) ?_ ?_; rotate_left; (·intro w'; go_simp; with_reducible rfl); rotate_left; (·simp only [Act.put, k19, k29, k39, i64_w, i32_w]; rfl)
          refine done_ (done_of HT_.out (by kernel_rfl)) ?_
          try go_wp2
          go_roundg k4
          case measure => have := HJ4.out; have := HJ22.out; have := HK3.out; have := HK4.out; omega
          case rel => exact ⟨(true), (wrap64 (x13_4 + 1)), (by first | rfl | (simp; done) | (simp [*]; done)), (by first | rfl | (simp; done) | (simp [*]; done)), H', ⟨by have := HJ4.out; have := HJ22.out; have := HK3.out; have := HK4.out; omega⟩, ⟨by (try simp only [hl179000_3]); (with_reducible repeat (first | apply va9 | apply vb9 | apply vc9)); exact HO_159000.out⟩, ⟨by (try simp only [hl179000_3]); (with_reducible repeat (first | apply na9 | apply nb9 | apply nc9)); exact HO_175000.out⟩, ⟨by (try simp only [hl179000_3]); (with_reducible repeat (first | apply na9 | apply nb9 | apply nc9)); exact HO_179000.out⟩, ⟨by (try simp only [hl179000_3]); (with_reducible repeat (first | apply na9 | apply nb9 | apply nc9)); exact HO_207000.out⟩, ⟨by (try simp only [hl179000_3]); (with_reducible repeat (first | refine ba9 ?_ _ | refine bb9 ?_ | refine bc9 ?_ _)); exact BK158.out⟩, ⟨by (try simp only [hl179000_3]); (with_reducible repeat (first | refine ba9 ?_ _ | refine bb9 ?_ | refine bc9 ?_ _)); exact BK174.out⟩, ⟨by (try simp only [hl179000_3]); (with_reducible repeat (first | refine ba9 ?_ _ | refine bb9 ?_ | refine bc9 ?_ _)); exact BK178.out⟩, ⟨by (try simp only [hl179000_3]); (with_reducible repeat (first | refine ba9 ?_ _ | refine bb9 ?_ | refine bc9 ?_ _)); exact BK206.out⟩, ⟨by repeat (first | (with_reducible first | exact HB.out | apply wa9 | apply wb9 | apply wc9 | refine wd9 ?_ GE158.out | refine wd9 ?_ GE174.out | refine wd9 ?_ GE178.out | refine wd9 ?_ GE206.out) | exact HB.out)⟩⟩
         replace c96 := Bool.eq_false_iff.mpr c96
         subst c96
         have H1 : (if 0 ≤ x13_4 then (if ((rd_T40 ((rd_T34 y203 x12_3).f1) x13_4).f1) = 5 then (if 0 ≤ a1 then (if a1 < (l0_0.length : Int) then (l1 k4 a1 (((rd_T40 ((rd_T34 y203 x12_3).f1) x13_4).f2).toList == ((rd_T34 l0_0 a1).f0).toList) x12_3 (wrap64 (x13_4 + 1)) l0_0 y171 y189 y203) else (none)) else (none)) else (l1 k4 a1 false x12_3 (wrap64 (x13_4 + 1)) l0_0 y171 y189 y203)) else (none)) = some r := by rw [if_neg (show ¬ (false = true) by decide)] at H; exact H
         clear H
         have H := H1
         clear H1
         by_cases c102 : 0 ≤ x13_4
         rotate_left
         ·replace H := (if_neg c102).symm.trans H
          exact absurd H (by simp)
         replace H := (if_pos c102).symm.trans H
         have c102b0 : decide (0 ≤ x13_4) = true := decide_eq_true c102
         clear c102
         by_cases c103 : ((rd_T40 ((rd_T34 y203 x12_3).f1) x13_4).f1) = 5
         rotate_left
         ·replace H := (if_neg c103).symm.trans H
          have c103b0 : (((rd_T40 ((rd_T34 y203 x12_3).f1) x13_4).f1) == 5) = false := beq_eq_false_iff_ne.mpr c103
          have c103b1 : (((rd_T40 ((rd_T34 y203 x12_3).f1) x13_4).f1) != 5) = true := bne_iff_ne.mpr c103
          have H' := Aside0.mk H
          clear H
          have hnb111 := NB206_158.out
          have hnc111 := NB158_206.out
          have hnb112 := NB206_174.out
          have hnc112 := NB174_206.out
          have hnb113 := NB206_178.out
          have hnc113 := NB178_206.out
          have hcz114_0 : wr.cell? ⟨gb206, 0, none⟩ = some (.slice Ao86 y203.length co86) := (blk_cell BK206.out 0).trans rfl
          have hfz114_0 := blk_frozen BK206.out 0
          have p211 : 0 ≤ (x12_3 : Int) := od9 (by first | (with_reducible assumption) | assumption)
          have q211 : x12_3 < (y203.length : Int) := od9 (by first | (with_reducible assumption) | assumption)
          obtain ⟨ad211, A211_1, c211_1, e211, hx211_0, hx211_1, hl211_1, hi211_1⟩ := at_T34 (Kd.N_reads' HO_207000.out).2.2 x12_3 p211 q211
          cases e211
          obtain ⟨ce211, hce211, hMe211, hcc211⟩ := Kd.N_get HO_207000.out z34 x12_3 p211 (by first | exact q211 | exact od9 (by first | (with_reducible assumption) | assumption) | (have e_ := (Kd.N_reads' HO_207000.out).1; omega))
          obtain ⟨ua211_1, uc211_1, rfl, ul211_1, ge211_1⟩ := k34_openF hMe211
          have hv211_1 := hcc211 1 _ rfl
          rw [add_field _ _ 1 (by omega)] at hv211_1
          replace hv211_1 := Option.some.inj (hv211_1.symm.trans hx211_1)
          injection hv211_1 with hva_ hvn_ hvc_
          rw [hva_] at ge211_1
          rw [hvc_] at ul211_1
          have HL211_1 := am9_ (show Kd.V k40 40 _ w.heap.size _ _ ((rd_T34 y203 x12_3).f1) from Kd.V_mk ul211_1 ge211_1)
          clear hva_ hvn_ hvc_ ge211_1 ul211_1 hcc211 hce211
          have HR211_1 := Aside0.mk hi211_1
          have HC211_1 := Aside0.mk hl211_1
          clear hi211_1 hl211_1
          replace p211 := eq_true p211
          replace q211 := eq_true q211
          try go_wp2
          replace HO_159000 := am9_ (vc9 HO_159000.out)
          replace HO_175000 := am9_ (nc9 HO_175000.out)
          replace HO_179000 := am9_ (nc9 HO_179000.out)
          replace HO_207000 := am9_ (nc9 HO_207000.out)
          replace HL211_1 := am9_ (vc9 HL211_1.out)
          replace BK158 := am9_ (bb9 BK158.out)
          replace BK174 := am9_ (bb9 BK174.out)
          replace BK178 := am9_ (bb9 BK178.out)
          replace BK206 := am9_ (bb9 BK206.out)
          replace HR211_1 := am9_ (Kd.C_drew HR211_1.out)
          replace HB := am9_ (wc9 HB.out)
          have p212 : 0 ≤ (x12_3 : Int) := od9 (by first | (with_reducible assumption) | assumption)
          have q212 : x12_3 < (y203.length : Int) := od9 (by first | (with_reducible assumption) | assumption)
          obtain ⟨ad212, A212_1, c212_1, e212, hx212_0, hx212_1, hl212_1, hi212_1⟩ := at_T34 (Kd.N_reads' HO_207000.out).2.2 x12_3 p212 q212
          obtain rfl : ad211 = ad212 := (by injection e212)
          obtain ⟨ce212, hce212, hMe212, hcc212⟩ := Kd.N_get HO_207000.out z34 x12_3 p212 (by first | exact q212 | exact od9 (by first | (with_reducible assumption) | assumption) | (have e_ := (Kd.N_reads' HO_207000.out).1; omega))
          obtain ⟨ua212_1, uc212_1, rfl, ul212_1, ge212_1⟩ := k34_openF hMe212
          have hv212_1 := hcc212 1 _ rfl
          rw [add_field _ _ 1 (by omega)] at hv212_1
          replace hv212_1 := Option.some.inj (hv212_1.symm.trans hx212_1)
          injection hv212_1 with hva_ hvn_ hvc_
          rw [hva_] at ge212_1
          rw [hvc_] at ul212_1
          have HL212_1 := am9_ (show Kd.V k40 40 _ w.heap.size _ _ ((rd_T34 y203 x12_3).f1) from Kd.V_mk ul212_1 ge212_1)
          clear hva_ hvn_ hvc_ ge212_1 ul212_1 hcc212 hce212
          have HR212_1 := Aside0.mk hi212_1
          have HC212_1 := Aside0.mk hl212_1
          clear hi212_1 hl212_1
          replace p212 := eq_true p212
          replace q212 := eq_true q212
          have p213 : 0 ≤ (x13_4 : Int) := od9 (by first | (with_reducible assumption) | assumption)
          have q213 : x13_4 < (((rd_T34 y203 x12_3).f1).length : Int) := od9 (by first | (with_reducible assumption) | assumption)
          obtain ⟨ad213, e213, hx213_0, hx213_1, hx213_2⟩ := at_T40 (by repeat (first | (with_reducible exact HR212_1.out) | (with_reducible first | refine ca9_ ?_ _ | refine cn9_ ?_ _ | refine cd9_ ?_) | exact HR212_1.out)) x13_4 p213 q213
          cases e213
          replace p213 := eq_true p213
          replace q213 := eq_true q213
          as_aux_lemma =>
          refine start_ (n := 34) (S := fun w' => w'.cell? ⟨gb206, 0, none⟩ = some (.slice (some ad211) y203.length co86) ∧ w'.cell? (ad211.add ((x12_3).toNat * 2)) = some (.string ((rd_T34 y203 x12_3).f0)) ∧ w'.cell? ⟨(ad211.add ((x12_3).toNat * 2)).block, (ad211.add ((x12_3).toNat * 2)).off + 1, none⟩ = some (.slice (some ad213) ((rd_T34 y203 x12_3).f1).length c212_1) ∧ w'.cell? (ad213.add ((x13_4).toNat * 3)) = some (.string ((rd_T40 ((rd_T34 y203 x12_3).f1) x13_4).f0)) ∧ w'.cell? ⟨(ad213.add ((x13_4).toNat * 3)).block, (ad213.add ((x13_4).toNat * 3)).off + 1, none⟩ = some (.int .i64 ((rd_T40 ((rd_T34 y203 x12_3).f1) x13_4).f1)) ∧ w'.cell? ⟨(ad213.add ((x13_4).toNat * 3)).block, (ad213.add ((x13_4).toNat * 3)).off + 2, none⟩ = some (.string ((rd_T40 ((rd_T34 y203 x12_3).f1) x13_4).f2))) (ds := []) (z9 34 0) (by kernel_rfl) rfl rfl ⟨(blk_cell BK206.out 0).trans rfl, hx212_0, hx212_1, hx213_0, hx213_1, hx213_2⟩ (fun hHeld => ?_); refine with_tabW foliatelaw06_SchemaMore.tab19 foliatelaw06_SchemaMore.bits19 (fun HT_ HW_ => ?_)
          generalize wr.drew = w115 at HO_159000 HO_175000 HO_179000 HO_207000 HL211_1 BK158 BK174 BK178 BK206 HR211_1 HB HL212_1 HR212_1 hx212_0 hx212_1 hx213_0 hx213_1 hx213_2 hHeld ⊢
          refine pure_ (i := 0) (N := some 112) (v := ?_) (a' := ?_) (z9 34 1) rfl rfl (ao9 HT_.out (by kernel_rfl)) (fun _ _ _ h => h) (Or.inl ⟨by rfl, ?_⟩) ?_ ?_; rotate_left; (·intro w'; go_simp; with_reducible rfl); rotate_left; (·simp only [Act.put, k19, k29, k39, i64_w, i32_w]; rfl)
          refine pure_ (i := 1) (N := some 113) (v := ?_) (a' := ?_) (z9 34 3) rfl rfl (ao9 HT_.out (by kernel_rfl)) (fun _ _ _ h => h) (Or.inl ⟨by rfl, ?_⟩) ?_ ?_; rotate_left; (·intro w'; go_simp; with_reducible rfl); rotate_left; (·simp only [Act.put, k19, k29, k39, i64_w, i32_w]; rfl)
          refine pure_ (i := 2) (N := some 114) (v := ?_) (a' := ?_) (z9 34 7) rfl rfl (ao9 HT_.out (by kernel_rfl)) (fun _ _ _ h => h) (Or.inl ⟨by rfl, ?_⟩) ?_ ?_; rotate_left; (·intro w'; go_simp; with_reducible rfl); rotate_left; (·simp only [Act.put, k19, k29, k39, i64_w, i32_w]; rfl)
          refine pure_ (i := 4) (N := some 116) (v := ?_) (a' := ?_) (z9 34 23) rfl rfl (ao9 HT_.out (by kernel_rfl)) (fun _ _ _ h => h) (Or.inl ⟨by rfl, ?_⟩) ?_ ?_; rotate_left; (·intro w'; go_simp; with_reducible rfl); rotate_left; (·simp only [Act.put, k19, k29, k39, i64_w, i32_w]; rfl)
          refine pure_ (i := 8) (N := some 120) (v := ?_) (a' := ?_) (z9 34 279) rfl rfl (ao9 HT_.out (by kernel_rfl)) (fun _ _ _ h => h) (Or.inl ⟨by rfl, ?_⟩) ?_ ?_; rotate_left; (·intro w'; go_simp; with_reducible rfl); rotate_left; (·simp only [Act.put, k19, k29, k39, i64_w, i32_w]; rfl)
          refine take_ (i := 3) (N := some 115) (v := ?_) (a' := ?_) (z9 34 287) rfl rfl (tw9 HT_.out HW_.out (by kernel_rfl)) (fun _ _ _ h => h) (Or.inl ⟨by rfl, ?_⟩) hHeld ?_ ?_
          rotate_left
          ·rintro w' ⟨s0, s1, s2, s3, s4, s5⟩
           go_simp
           with_reducible rfl
          rotate_left
          ·simp only [Act.put, k19, k29, k39, i64_w, i32_w]
           rfl
          refine pure_ (i := 5) (N := some 117) (v := ?_) (a' := ?_) (z9 34 319) rfl rfl (ao9 HT_.out (by kernel_rfl)) (fun _ _ _ h => h) (Or.inl ⟨by rfl, ?_⟩) ?_ ?_; rotate_left; (·intro w'; go_simp; with_reducible rfl); rotate_left; (·simp only [Act.put, k19, k29, k39, i64_w, i32_w]; rfl)
          refine pure_ (i := 6) (N := some 118) (v := ?_) (a' := ?_) (z9 34 383) rfl rfl (ao9 HT_.out (by kernel_rfl)) (fun _ _ _ h => h) (Or.inl ⟨by rfl, ?_⟩) ?_ ?_; rotate_left; (·intro w'; go_simp; with_reducible rfl); rotate_left; (·simp only [Act.put, k19, k29, k39, i64_w, i32_w]; rfl)
          refine take_ (i := 7) (N := some 119) (v := ?_) (a' := ?_) (z9 34 511) rfl rfl (tw9 HT_.out HW_.out (by kernel_rfl)) (fun _ _ _ h => h) (Or.inl ⟨by rfl, ?_⟩) hHeld ?_ ?_
          rotate_left
          ·rintro w' ⟨s0, s1, s2, s3, s4, s5⟩
           go_simp
           with_reducible rfl
          rotate_left
          ·simp only [Act.put, k19, k29, k39, i64_w, i32_w]
           rfl
          refine pure_ (i := 9) (N := some 121) (v := ?_) (a' := ?_) (z9 34 1023) rfl rfl (ao9 HT_.out (by kernel_rfl)) (fun _ _ _ h => h) (Or.inl ⟨by rfl, ?_⟩) ?_ ?_; rotate_left; (·intro w'; go_simp; with_reducible rfl); rotate_left; (·simp only [Act.put, k19, k29, k39, i64_w, i32_w]; rfl)
          refine pure_ (i := 10) (N := some 122) (v := ?_) (a' := ?_) (z9 34 2047) rfl rfl (ao9 HT_.out (by kernel_rfl)) (fun _ _ _ h => h) (Or.inl ⟨by rfl, ?_⟩) ?_ ?_; rotate_left; (·intro w'; go_simp; with_reducible rfl); rotate_left; (·simp only [Act.put, k19, k29, k39, i64_w, i32_w]; rfl)
          refine take_ (i := 11) (N := some 123) (v := ?_) (a' := ?_) (z9 34 4095) rfl rfl (tw9 HT_.out HW_.out (by kernel_rfl)) (fun _ _ _ h => h) (Or.inl ⟨by rfl, ?_⟩) hHeld ?_ ?_
          rotate_left
          ·rintro w' ⟨s0, s1, s2, s3, s4, s5⟩
           go_simp
           with_reducible rfl
          rotate_left
          ·simp only [Act.put, k19, k29, k39, i64_w, i32_w]
           rfl
          refine pure_ (i := 12) (N := some 124) (v := ?_) (a' := ?_) (z9 34 8191) rfl rfl (ao9 HT_.out (by kernel_rfl)) (fun _ _ _ h => h) (Or.inl ⟨by rfl, ?_⟩) ?_ ?_; rotate_left; (·intro w'; go_simp; with_reducible rfl); rotate_left; (·simp only [Act.put, k19, k29, k39, i64_w, i32_w]; rfl)
          refine pure_ (i := 13) (N := some 125) (v := ?_) (a' := ?_) (z9 34 16383) rfl rfl (ao9 HT_.out (by kernel_rfl)) (fun _ _ _ h => h) (Or.inl ⟨by rfl, ?_⟩) ?_ ?_; rotate_left; (·intro w'; go_simp; with_reducible rfl); rotate_left; (·simp only [Act.put, k19, k29, k39, i64_w, i32_w]; rfl)
          refine pure_ (i := 14) (N := some 126) (v := undef) (a' := ?_) (z9 34 32767) rfl rfl (ao9 HT_.out (by kernel_rfl)) (fun _ _ _ h => h) (Or.inr ⟨by rfl, rfl⟩) ?_ ?_
          rotate_left
          ·simp only [Act.put, k19, k29, k39, i64_w, i32_w]
           rfl
          refine pure_ (i := 15) (N := some 127) (v := undef) (a' := ?_) (z9 34 65535) rfl rfl (ao9 HT_.out (by kernel_rfl)) (fun _ _ _ h => h) (Or.inr ⟨by rfl, rfl⟩) ?_ ?_
          rotate_left
          ·simp only [Act.put, k19, k29, k39, i64_w, i32_w]
           rfl
          refine pure_ (i := 16) (N := some 128) (v := undef) (a' := ?_) (z9 34 131071) rfl rfl (ao9 HT_.out (by kernel_rfl)) (fun _ _ _ h => h) (Or.inr ⟨by rfl, rfl⟩) ?_ ?_
          rotate_left
          ·simp only [Act.put, k19, k29, k39, i64_w, i32_w]
           rfl
          refine pure_ (i := 17) (N := some 129) (v := undef) (a' := ?_) (z9 34 262143) rfl rfl (ao9 HT_.out (by kernel_rfl)) (fun _ _ _ h => h) (Or.inr ⟨by rfl, rfl⟩) ?_ ?_
          rotate_left
          ·simp only [Act.put, k19, k29, k39, i64_w, i32_w]
           rfl
          refine pure_ (i := 18) (N := some 130) (v := undef) (a' := ?_) (z9 34 524287) rfl rfl (ao9 HT_.out (by kernel_rfl)) (fun _ _ _ h => h) (Or.inr ⟨by rfl, rfl⟩) ?_ ?_
          rotate_left
          ·simp only [Act.put, k19, k29, k39, i64_w, i32_w]
           rfl
          refine pure_ (i := 19) (N := some 131) (v := undef) (a' := ?_) (z9 34 1048575) rfl rfl (ao9 HT_.out (by kernel_rfl)) (fun _ _ _ h => h) (Or.inr ⟨by rfl, rfl⟩) ?_ ?_
          rotate_left
          ·simp only [Act.put, k19, k29, k39, i64_w, i32_w]
           rfl
          refine pure_ (i := 20) (N := some 132) (v := undef) (a' := ?_) (z9 34 2097151) rfl rfl (ao9 HT_.out (by kernel_rfl)) (fun _ _ _ h => h) (Or.inr ⟨by rfl, rfl⟩) ?_ ?_
          rotate_left
          ·simp only [Act.put, k19, k29, k39, i64_w, i32_w]
           rfl
          refine pure_ (i := 21) (N := some 133) (v := undef) (a' := ?_) (z9 34 4194303) rfl rfl (ao9 HT_.out (by kernel_rfl)) (fun _ _ _ h => h) (Or.inr ⟨by rfl, rfl⟩) ?_ ?_
          rotate_left
          ·simp only [Act.put, k19, k29, k39, i64_w, i32_w]
           rfl
          refine pure_ (i := 22) (N := some 134) (v := undef) (a' := ?_) (z9 34 8388607) rfl rfl (ao9 HT_.out (by kernel_rfl)) (fun _ _ _ h => h) (Or.inr ⟨by rfl, rfl⟩) ?_ ?_
          rotate_left
          ·simp only [Act.put, k19, k29, k39, i64_w, i32_w]
           rfl
          refine pure_ (i := 23) (N := some 135) (v := undef) (a' := ?_) (z9 34 16777215) rfl rfl (ao9 HT_.out (by kernel_rfl)) (fun _ _ _ h => h) (Or.inr ⟨by rfl, rfl⟩) ?_ ?_
          rotate_left
          ·simp only [Act.put, k19, k29, k39, i64_w, i32_w]
           rfl
          refine pure_ (i := 24) (N := some 136) (v := undef) (a' := ?_) (z9 34 33554431) rfl rfl (ao9 HT_.out (by kernel_rfl)) (fun _ _ _ h => h) (Or.inr ⟨by rfl, rfl⟩) ?_ ?_
          rotate_left
          ·simp only [Act.put, k19, k29, k39, i64_w, i32_w]
           rfl
          refine pure_ (i := 25) (N := some 137) (v := undef) (a' := ?_) (z9 34 67108863) rfl rfl (ao9 HT_.out (by kernel_rfl)) (fun _ _ _ h => h) (Or.inr ⟨by rfl, rfl⟩) ?_ ?_
          rotate_left
          ·simp only [Act.put, k19, k29, k39, i64_w, i32_w]
           rfl
          refine pure_ (i := 26) (N := some 138) (v := undef) (a' := ?_) (z9 34 134217727) rfl rfl (ao9 HT_.out (by kernel_rfl)) (fun _ _ _ h => h) (Or.inr ⟨by rfl, rfl⟩) ?_ ?_
          rotate_left
          ·simp only [Act.put, k19, k29, k39, i64_w, i32_w]
           rfl
          refine pure_ (i := 27) (N := some 139) (v := undef) (a' := ?_) (z9 34 268435455) rfl rfl (ao9 HT_.out (by kernel_rfl)) (fun _ _ _ h => h) (Or.inr ⟨by rfl, rfl⟩) ?_ ?_
          rotate_left
          ·simp only [Act.put, k19, k29, k39, i64_w, i32_w]
           rfl
          refine pure_ (i := 28) (N := some 140) (v := undef) (a' := ?_) (z9 34 536870911) rfl rfl (ao9 HT_.out (by kernel_rfl)) (fun _ _ _ h => h) (Or.inr ⟨by rfl, rfl⟩) ?_ ?_
          rotate_left
          ·simp only [Act.put, k19, k29, k39, i64_w, i32_w]
           rfl
          refine pure_ (i := 29) (N := some 141) (v := undef) (a' := ?_) (z9 34 1073741823) rfl rfl (ao9 HT_.out (by kernel_rfl)) (fun _ _ _ h => h) (Or.inr ⟨by rfl, rfl⟩) ?_ ?_
          rotate_left
          ·simp only [Act.put, k19, k29, k39, i64_w, i32_w]
           rfl
          refine pure_ (i := 30) (N := some 142) (v := undef) (a' := ?_) (z9 34 2147483647) rfl rfl (ao9 HT_.out (by kernel_rfl)) (fun _ _ _ h => h) (Or.inr ⟨by rfl, rfl⟩) ?_ ?_
          rotate_left
          ·simp only [Act.put, k19, k29, k39, i64_w, i32_w]
           rfl
          refine pure_ (i := 31) (N := some 143) (v := ?_) (a' := ?_) (z9 34 4294967295) rfl rfl (ao9 HT_.out (by kernel_rfl)) (fun _ _ _ h => h) (Or.inl ⟨by rfl, ?_⟩) ?_ ?_; rotate_left; (·intro w'; go_simp; with_reducible rfl); rotate_left; (·simp only [Act.put, k19, k29, k39, i64_w, i32_w]; rfl)
          refine pure_ (i := 32) (N := some 144) (v := ?_) (a' := ?_) (z9 34 8589934591) rfl rfl (ao9 HT_.out (by kernel_rfl)) (fun _ _ _ h => h) (Or.inl ⟨by rfl, ?_⟩) ?_ ?_; rotate_left; (·intro w'; go_simp; with_reducible rfl); rotate_left; (·simp only [Act.put, k19, k29, k39, i64_w, i32_w]; rfl)
          refine pure_ (i := 33) (N := some 11) (v := ?_) (a' := ?_) (z9 34 17179869183) rfl rfl (ao9 HT_.out (by kernel_rfl)) (fun _ _ _ h => h) (Or.inl ⟨by rfl, ?_⟩) ?_ ?_; rotate_left; (·intro w'; go_simp; with_reducible rfl); rotate_left; (·simp only [Act.put, k19, k29, k39, i64_w, i32_w]; rfl)
          refine done_ (done_of HT_.out (by kernel_rfl)) ?_
          try go_wp2
          go_roundg k4
          case measure => have := HJ4.out; have := HJ22.out; have := HK3.out; have := HK4.out; omega
          case rel => exact ⟨(false), (wrap64 (x13_4 + 1)), (by first | rfl | (simp; done) | (simp [*]; done)), (by first | rfl | (simp; done) | (simp [*]; done)), H', ⟨by have := HJ4.out; have := HJ22.out; have := HK3.out; have := HK4.out; omega⟩, ⟨by (try simp only [hl179000_3]); (with_reducible repeat (first | apply va9 | apply vb9 | apply vc9)); exact HO_159000.out⟩, ⟨by (try simp only [hl179000_3]); (with_reducible repeat (first | apply na9 | apply nb9 | apply nc9)); exact HO_175000.out⟩, ⟨by (try simp only [hl179000_3]); (with_reducible repeat (first | apply na9 | apply nb9 | apply nc9)); exact HO_179000.out⟩, ⟨by (try simp only [hl179000_3]); (with_reducible repeat (first | apply na9 | apply nb9 | apply nc9)); exact HO_207000.out⟩, ⟨by (try simp only [hl179000_3]); (with_reducible repeat (first | refine ba9 ?_ _ | refine bb9 ?_ | refine bc9 ?_ _)); exact BK158.out⟩, ⟨by (try simp only [hl179000_3]); (with_reducible repeat (first | refine ba9 ?_ _ | refine bb9 ?_ | refine bc9 ?_ _)); exact BK174.out⟩, ⟨by (try simp only [hl179000_3]); (with_reducible repeat (first | refine ba9 ?_ _ | refine bb9 ?_ | refine bc9 ?_ _)); exact BK178.out⟩, ⟨by (try simp only [hl179000_3]); (with_reducible repeat (first | refine ba9 ?_ _ | refine bb9 ?_ | refine bc9 ?_ _)); exact BK206.out⟩, ⟨by repeat (first | (with_reducible first | exact HB.out | apply wa9 | apply wb9 | apply wc9 | refine wd9 ?_ GE158.out | refine wd9 ?_ GE174.out | refine wd9 ?_ GE178.out | refine wd9 ?_ GE206.out) | exact HB.out)⟩⟩
         replace H := (if_pos c103).symm.trans H
         have c103b0 : (((rd_T40 ((rd_T34 y203 x12_3).f1) x13_4).f1) == 5) = true := beq_iff_eq.mpr c103
         have c103b1 : (((rd_T40 ((rd_T34 y203 x12_3).f1) x13_4).f1) != 5) = false := bne_eq_false_iff_eq.mpr c103
         clear c103
         by_cases c104 : 0 ≤ a1
         rotate_left
         ·replace H := (if_neg c104).symm.trans H
          exact absurd H (by simp)
         replace H := (if_pos c104).symm.trans H
         have c104b0 : decide (0 ≤ a1) = true := decide_eq_true c104
         clear c104
         by_cases c105 : a1 < (l0_0.length : Int)
         rotate_left
         ·replace H := (if_neg c105).symm.trans H
          exact absurd H (by simp)
         replace H := (if_pos c105).symm.trans H
         have c105b0 : decide (a1 < (l0_0.length : Int)) = true := decide_eq_true c105
         clear c105
         have H' := Aside0.mk H
         clear H
         have hnb106 := NB206_158.out
         have hnc106 := NB158_206.out
         have hnb107 := NB206_174.out
         have hnc107 := NB174_206.out
         have hnb108 := NB206_178.out
         have hnc108 := NB178_206.out
         have hcz109_0 : wr.cell? ⟨gb206, 0, none⟩ = some (.slice Ao86 y203.length co86) := (blk_cell BK206.out 0).trans rfl
         have hfz109_0 := blk_frozen BK206.out 0
         have p211 : 0 ≤ (x12_3 : Int) := od9 (by first | (with_reducible assumption) | assumption)
         have q211 : x12_3 < (y203.length : Int) := od9 (by first | (with_reducible assumption) | assumption)
         obtain ⟨ad211, A211_1, c211_1, e211, hx211_0, hx211_1, hl211_1, hi211_1⟩ := at_T34 (Kd.N_reads' HO_207000.out).2.2 x12_3 p211 q211
         cases e211
         obtain ⟨ce211, hce211, hMe211, hcc211⟩ := Kd.N_get HO_207000.out z34 x12_3 p211 (by first | exact q211 | exact od9 (by first | (with_reducible assumption) | assumption) | (have e_ := (Kd.N_reads' HO_207000.out).1; omega))
         obtain ⟨ua211_1, uc211_1, rfl, ul211_1, ge211_1⟩ := k34_openF hMe211
         have hv211_1 := hcc211 1 _ rfl
         rw [add_field _ _ 1 (by omega)] at hv211_1
         replace hv211_1 := Option.some.inj (hv211_1.symm.trans hx211_1)
         injection hv211_1 with hva_ hvn_ hvc_
         rw [hva_] at ge211_1
         rw [hvc_] at ul211_1
         have HL211_1 := am9_ (show Kd.V k40 40 _ w.heap.size _ _ ((rd_T34 y203 x12_3).f1) from Kd.V_mk ul211_1 ge211_1)
         clear hva_ hvn_ hvc_ ge211_1 ul211_1 hcc211 hce211
         have HR211_1 := Aside0.mk hi211_1
         have HC211_1 := Aside0.mk hl211_1
         clear hi211_1 hl211_1
         replace p211 := eq_true p211
         replace q211 := eq_true q211
         try go_wp2
         replace HO_159000 := am9_ (vc9 HO_159000.out)
         replace HO_175000 := am9_ (nc9 HO_175000.out)
         replace HO_179000 := am9_ (nc9 HO_179000.out)
         replace HO_207000 := am9_ (nc9 HO_207000.out)
         replace HL211_1 := am9_ (vc9 HL211_1.out)
         replace BK158 := am9_ (bb9 BK158.out)
         replace BK174 := am9_ (bb9 BK174.out)
         replace BK178 := am9_ (bb9 BK178.out)
         replace BK206 := am9_ (bb9 BK206.out)
         replace HR211_1 := am9_ (Kd.C_drew HR211_1.out)
         replace HB := am9_ (wc9 HB.out)
         have p212 : 0 ≤ (x12_3 : Int) := od9 (by first | (with_reducible assumption) | assumption)
         have q212 : x12_3 < (y203.length : Int) := od9 (by first | (with_reducible assumption) | assumption)
         obtain ⟨ad212, A212_1, c212_1, e212, hx212_0, hx212_1, hl212_1, hi212_1⟩ := at_T34 (Kd.N_reads' HO_207000.out).2.2 x12_3 p212 q212
         obtain rfl : ad211 = ad212 := (by injection e212)
         obtain ⟨ce212, hce212, hMe212, hcc212⟩ := Kd.N_get HO_207000.out z34 x12_3 p212 (by first | exact q212 | exact od9 (by first | (with_reducible assumption) | assumption) | (have e_ := (Kd.N_reads' HO_207000.out).1; omega))
         obtain ⟨ua212_1, uc212_1, rfl, ul212_1, ge212_1⟩ := k34_openF hMe212
         have hv212_1 := hcc212 1 _ rfl
         rw [add_field _ _ 1 (by omega)] at hv212_1
         replace hv212_1 := Option.some.inj (hv212_1.symm.trans hx212_1)
         injection hv212_1 with hva_ hvn_ hvc_
         rw [hva_] at ge212_1
         rw [hvc_] at ul212_1
         have HL212_1 := am9_ (show Kd.V k40 40 _ w.heap.size _ _ ((rd_T34 y203 x12_3).f1) from Kd.V_mk ul212_1 ge212_1)
         clear hva_ hvn_ hvc_ ge212_1 ul212_1 hcc212 hce212
         have HR212_1 := Aside0.mk hi212_1
         have HC212_1 := Aside0.mk hl212_1
         clear hi212_1 hl212_1
         replace p212 := eq_true p212
         replace q212 := eq_true q212
         have p213 : 0 ≤ (x13_4 : Int) := od9 (by first | (with_reducible assumption) | assumption)
         have q213 : x13_4 < (((rd_T34 y203 x12_3).f1).length : Int) := od9 (by first | (with_reducible assumption) | assumption)
         obtain ⟨ad213, e213, hx213_0, hx213_1, hx213_2⟩ := at_T40 (by repeat (first | (with_reducible exact HR212_1.out) | (with_reducible first | refine ca9_ ?_ _ | refine cn9_ ?_ _ | refine cd9_ ?_) | exact HR212_1.out)) x13_4 p213 q213
         cases e213
         replace p213 := eq_true p213
         replace q213 := eq_true q213
         have p214 : 0 ≤ (x12_3 : Int) := od9 (by first | (with_reducible assumption) | assumption)
         have q214 : x12_3 < (y203.length : Int) := od9 (by first | (with_reducible assumption) | assumption)
         obtain ⟨ad214, A214_1, c214_1, e214, hx214_0, hx214_1, hl214_1, hi214_1⟩ := at_T34 (Kd.N_reads' HO_207000.out).2.2 x12_3 p214 q214
         obtain rfl : ad211 = ad214 := (by injection e214)
         obtain ⟨ce214, hce214, hMe214, hcc214⟩ := Kd.N_get HO_207000.out z34 x12_3 p214 (by first | exact q214 | exact od9 (by first | (with_reducible assumption) | assumption) | (have e_ := (Kd.N_reads' HO_207000.out).1; omega))
         obtain ⟨ua214_1, uc214_1, rfl, ul214_1, ge214_1⟩ := k34_openF hMe214
         have hv214_1 := hcc214 1 _ rfl
         rw [add_field _ _ 1 (by omega)] at hv214_1
         replace hv214_1 := Option.some.inj (hv214_1.symm.trans hx214_1)
         injection hv214_1 with hva_ hvn_ hvc_
         rw [hva_] at ge214_1
         rw [hvc_] at ul214_1
         have HL214_1 := am9_ (show Kd.V k40 40 _ w.heap.size _ _ ((rd_T34 y203 x12_3).f1) from Kd.V_mk ul214_1 ge214_1)
         clear hva_ hvn_ hvc_ ge214_1 ul214_1 hcc214 hce214
         have HR214_1 := Aside0.mk hi214_1
         have HC214_1 := Aside0.mk hl214_1
         clear hi214_1 hl214_1
         replace p214 := eq_true p214
         replace q214 := eq_true q214
         have ea_ := Option.some.inj (hx212_1.symm.trans hx214_1)
         injection ea_ with ea_ en_ ec_
         subst ea_
         subst ec_
         clear en_
         have p215 : 0 ≤ (x13_4 : Int) := od9 (by first | (with_reducible assumption) | assumption)
         have q215 : x13_4 < (((rd_T34 y203 x12_3).f1).length : Int) := od9 (by first | (with_reducible assumption) | assumption)
         obtain ⟨ad215, e215, hx215_0, hx215_1, hx215_2⟩ := at_T40 (by repeat (first | (with_reducible exact HR214_1.out) | (with_reducible first | refine ca9_ ?_ _ | refine cn9_ ?_ _ | refine cd9_ ?_) | exact HR214_1.out)) x13_4 p215 q215
         cases e215
         replace p215 := eq_true p215
         replace q215 := eq_true q215
         have p216 : 0 ≤ (a1 : Int) := od9 (by first | (with_reducible assumption) | assumption)
         have q216 : a1 < (l0_0.length : Int) := od9 (by first | (with_reducible assumption) | assumption)
         obtain ⟨ad216, A216_1, c216_1, e216, hx216_0, hx216_1, hl216_1, hi216_1⟩ := at_T34 (Kd.V_reads' HO_159000.out).2.2 a1 p216 q216
         obtain rfl : ad179 = ad216 := (by injection e216)
         obtain ⟨ce216, hce216, hMe216, hcc216⟩ := Kd.V_get HO_159000.out z34 a1 p216 (by first | exact q216 | exact od9 (by first | (with_reducible assumption) | assumption) | (have e_ := (Kd.V_reads' HO_159000.out).1; omega))
         obtain ⟨ua216_1, uc216_1, rfl, ul216_1, ge216_1⟩ := k34_openF hMe216
         have hv216_1 := hcc216 1 _ rfl
         rw [add_field _ _ 1 (by omega)] at hv216_1
         replace hv216_1 := Option.some.inj (hv216_1.symm.trans hx216_1)
         injection hv216_1 with hva_ hvn_ hvc_
         rw [hva_] at ge216_1
         rw [hvc_] at ul216_1
         have HL216_1 := am9_ (show Kd.V k40 40 _ w.heap.size _ _ ((rd_T34 l0_0 a1).f1) from Kd.V_mk ul216_1 ge216_1)
         clear hva_ hvn_ hvc_ ge216_1 ul216_1 hcc216 hce216
         have HR216_1 := Aside0.mk hi216_1
         have HC216_1 := Aside0.mk hl216_1
         clear hi216_1 hl216_1
         replace p216 := eq_true p216
         replace q216 := eq_true q216
         as_aux_lemma =>
         refine start_ (n := 34) (S := fun w' => w'.cell? ⟨gb206, 0, none⟩ = some (.slice (some ad211) y203.length co86) ∧ w'.cell? ⟨gb158, 0, none⟩ = some (.slice (some ad179) l0_0.length c0_0) ∧ w'.cell? (ad211.add ((x12_3).toNat * 2)) = some (.string ((rd_T34 y203 x12_3).f0)) ∧ w'.cell? ⟨(ad211.add ((x12_3).toNat * 2)).block, (ad211.add ((x12_3).toNat * 2)).off + 1, none⟩ = some (.slice (some ad213) ((rd_T34 y203 x12_3).f1).length c212_1) ∧ w'.cell? (ad213.add ((x13_4).toNat * 3)) = some (.string ((rd_T40 ((rd_T34 y203 x12_3).f1) x13_4).f0)) ∧ w'.cell? ⟨(ad213.add ((x13_4).toNat * 3)).block, (ad213.add ((x13_4).toNat * 3)).off + 1, none⟩ = some (.int .i64 ((rd_T40 ((rd_T34 y203 x12_3).f1) x13_4).f1)) ∧ w'.cell? ⟨(ad213.add ((x13_4).toNat * 3)).block, (ad213.add ((x13_4).toNat * 3)).off + 2, none⟩ = some (.string ((rd_T40 ((rd_T34 y203 x12_3).f1) x13_4).f2)) ∧ w'.cell? (ad211.add ((x12_3).toNat * 2)) = some (.string ((rd_T34 y203 x12_3).f0)) ∧ w'.cell? ⟨(ad211.add ((x12_3).toNat * 2)).block, (ad211.add ((x12_3).toNat * 2)).off + 1, none⟩ = some (.slice (some ad213) ((rd_T34 y203 x12_3).f1).length c212_1) ∧ w'.cell? (ad213.add ((x13_4).toNat * 3)) = some (.string ((rd_T40 ((rd_T34 y203 x12_3).f1) x13_4).f0)) ∧ w'.cell? ⟨(ad213.add ((x13_4).toNat * 3)).block, (ad213.add ((x13_4).toNat * 3)).off + 1, none⟩ = some (.int .i64 ((rd_T40 ((rd_T34 y203 x12_3).f1) x13_4).f1)) ∧ w'.cell? ⟨(ad213.add ((x13_4).toNat * 3)).block, (ad213.add ((x13_4).toNat * 3)).off + 2, none⟩ = some (.string ((rd_T40 ((rd_T34 y203 x12_3).f1) x13_4).f2)) ∧ w'.cell? (ad179.add ((a1).toNat * 2)) = some (.string ((rd_T34 l0_0 a1).f0)) ∧ w'.cell? ⟨(ad179.add ((a1).toNat * 2)).block, (ad179.add ((a1).toNat * 2)).off + 1, none⟩ = some (.slice A216_1 ((rd_T34 l0_0 a1).f1).length c216_1)) (ds := []) (z9 34 0) (by kernel_rfl) rfl rfl ⟨(blk_cell BK206.out 0).trans rfl, (blk_cell BK158.out 0).trans rfl, hx212_0, hx212_1, hx213_0, hx213_1, hx213_2, hx214_0, hx214_1, hx215_0, hx215_1, hx215_2, hx216_0, hx216_1⟩ (fun hHeld => ?_); refine with_tabW foliatelaw06_SchemaMore.tab19 foliatelaw06_SchemaMore.bits19 (fun HT_ HW_ => ?_)
         generalize wr.drew = w110 at HO_159000 HO_175000 HO_179000 HO_207000 HL211_1 BK158 BK174 BK178 BK206 HR211_1 HB HL212_1 HL214_1 HL216_1 HR212_1 HR214_1 HR216_1 hx212_0 hx212_1 hx213_0 hx213_1 hx213_2 hx214_0 hx214_1 hx215_0 hx215_1 hx215_2 hx216_0 hx216_1 hHeld ⊢
         refine pure_ (i := 0) (N := some 112) (v := ?_) (a' := ?_) (z9 34 1) rfl rfl (ao9 HT_.out (by kernel_rfl)) (fun _ _ _ h => h) (Or.inl ⟨by rfl, ?_⟩) ?_ ?_; rotate_left; (·intro w'; go_simp; with_reducible rfl); rotate_left; (·simp only [Act.put, k19, k29, k39, i64_w, i32_w]; rfl)
         refine pure_ (i := 1) (N := some 113) (v := ?_) (a' := ?_) (z9 34 3) rfl rfl (ao9 HT_.out (by kernel_rfl)) (fun _ _ _ h => h) (Or.inl ⟨by rfl, ?_⟩) ?_ ?_; rotate_left; (·intro w'; go_simp; with_reducible rfl); rotate_left; (·simp only [Act.put, k19, k29, k39, i64_w, i32_w]; rfl)
         refine pure_ (i := 2) (N := some 114) (v := ?_) (a' := ?_) (z9 34 7) rfl rfl (ao9 HT_.out (by kernel_rfl)) (fun _ _ _ h => h) (Or.inl ⟨by rfl, ?_⟩) ?_ ?_; rotate_left; (·intro w'; go_simp; with_reducible rfl); rotate_left; (·simp only [Act.put, k19, k29, k39, i64_w, i32_w]; rfl)
         refine pure_ (i := 4) (N := some 116) (v := ?_) (a' := ?_) (z9 34 23) rfl rfl (ao9 HT_.out (by kernel_rfl)) (fun _ _ _ h => h) (Or.inl ⟨by rfl, ?_⟩) ?_ ?_; rotate_left; (·intro w'; go_simp; with_reducible rfl); rotate_left; (·simp only [Act.put, k19, k29, k39, i64_w, i32_w]; rfl)
         refine pure_ (i := 8) (N := some 120) (v := ?_) (a' := ?_) (z9 34 279) rfl rfl (ao9 HT_.out (by kernel_rfl)) (fun _ _ _ h => h) (Or.inl ⟨by rfl, ?_⟩) ?_ ?_; rotate_left; (·intro w'; go_simp; with_reducible rfl); rotate_left; (·simp only [Act.put, k19, k29, k39, i64_w, i32_w]; rfl)
         refine take_ (i := 3) (N := some 115) (v := ?_) (a' := ?_) (z9 34 287) rfl rfl (tw9 HT_.out HW_.out (by kernel_rfl)) (fun _ _ _ h => h) (Or.inl ⟨by rfl, ?_⟩) hHeld ?_ ?_
         rotate_left
         ·rintro w' ⟨s0, s1, s2, s3, s4, s5, s6, s7, s8, s9, s10, s11, s12, s13⟩
          go_simp
          with_reducible rfl
         rotate_left
         ·simp only [Act.put, k19, k29, k39, i64_w, i32_w]
          rfl
         refine pure_ (i := 5) (N := some 117) (v := ?_) (a' := ?_) (z9 34 319) rfl rfl (ao9 HT_.out (by kernel_rfl)) (fun _ _ _ h => h) (Or.inl ⟨by rfl, ?_⟩) ?_ ?_; rotate_left; (·intro w'; go_simp; with_reducible rfl); rotate_left; (·simp only [Act.put, k19, k29, k39, i64_w, i32_w]; rfl)
         refine pure_ (i := 6) (N := some 118) (v := ?_) (a' := ?_) (z9 34 383) rfl rfl (ao9 HT_.out (by kernel_rfl)) (fun _ _ _ h => h) (Or.inl ⟨by rfl, ?_⟩) ?_ ?_; rotate_left; (·intro w'; go_simp; with_reducible rfl); rotate_left; (·simp only [Act.put, k19, k29, k39, i64_w, i32_w]; rfl)
         refine take_ (i := 7) (N := some 119) (v := ?_) (a' := ?_) (z9 34 511) rfl rfl (tw9 HT_.out HW_.out (by kernel_rfl)) (fun _ _ _ h => h) (Or.inl ⟨by rfl, ?_⟩) hHeld ?_ ?_
         rotate_left
         ·rintro w' ⟨s0, s1, s2, s3, s4, s5, s6, s7, s8, s9, s10, s11, s12, s13⟩
          go_simp
          with_reducible rfl
         rotate_left
         ·simp only [Act.put, k19, k29, k39, i64_w, i32_w]
          rfl
         refine pure_ (i := 9) (N := some 121) (v := ?_) (a' := ?_) (z9 34 1023) rfl rfl (ao9 HT_.out (by kernel_rfl)) (fun _ _ _ h => h) (Or.inl ⟨by rfl, ?_⟩) ?_ ?_; rotate_left; (·intro w'; go_simp; with_reducible rfl); rotate_left; (·simp only [Act.put, k19, k29, k39, i64_w, i32_w]; rfl)
         refine pure_ (i := 10) (N := some 122) (v := ?_) (a' := ?_) (z9 34 2047) rfl rfl (ao9 HT_.out (by kernel_rfl)) (fun _ _ _ h => h) (Or.inl ⟨by rfl, ?_⟩) ?_ ?_; rotate_left; (·intro w'; go_simp; with_reducible rfl); rotate_left; (·simp only [Act.put, k19, k29, k39, i64_w, i32_w]; rfl)
         refine take_ (i := 11) (N := some 123) (v := ?_) (a' := ?_) (z9 34 4095) rfl rfl (tw9 HT_.out HW_.out (by kernel_rfl)) (fun _ _ _ h => h) (Or.inl ⟨by rfl, ?_⟩) hHeld ?_ ?_
         rotate_left
         ·rintro w' ⟨s0, s1, s2, s3, s4, s5, s6, s7, s8, s9, s10, s11, s12, s13⟩
          go_simp
          with_reducible rfl
         rotate_left
         ·simp only [Act.put, k19, k29, k39, i64_w, i32_w]
          rfl
         refine pure_ (i := 12) (N := some 124) (v := ?_) (a' := ?_) (z9 34 8191) rfl rfl (ao9 HT_.out (by kernel_rfl)) (fun _ _ _ h => h) (Or.inl ⟨by rfl, ?_⟩) ?_ ?_; rotate_left; (·intro w'; go_simp; with_reducible rfl); rotate_left; (·simp only [Act.put, k19, k29, k39, i64_w, i32_w]; rfl)
         refine pure_ (i := 13) (N := some 125) (v := ?_) (a' := ?_) (z9 34 16383) rfl rfl (ao9 HT_.out (by kernel_rfl)) (fun _ _ _ h => h) (Or.inl ⟨by rfl, ?_⟩) ?_ ?_; rotate_left; (·intro w'; go_simp; with_reducible rfl); rotate_left; (·simp only [Act.put, k19, k29, k39, i64_w, i32_w]; rfl)
         refine pure_ (i := 14) (N := some 126) (v := ?_) (a' := ?_) (z9 34 32767) rfl rfl (ao9 HT_.out (by kernel_rfl)) (fun _ _ _ h => h) (Or.inl ⟨by rfl, ?_⟩) ?_ ?_; rotate_left; (·intro w'; go_simp; with_reducible rfl); rotate_left; (·simp only [Act.put, k19, k29, k39, i64_w, i32_w]; rfl)
         refine pure_ (i := 16) (N := some 128) (v := ?_) (a' := ?_) (z9 34 98303) rfl rfl (ao9 HT_.out (by kernel_rfl)) (fun _ _ _ h => h) (Or.inl ⟨by rfl, ?_⟩) ?_ ?_; rotate_left; (·intro w'; go_simp; with_reducible rfl); rotate_left; (·simp only [Act.put, k19, k29, k39, i64_w, i32_w]; rfl)
         refine pure_ (i := 20) (N := some 132) (v := ?_) (a' := ?_) (z9 34 1146879) rfl rfl (ao9 HT_.out (by kernel_rfl)) (fun _ _ _ h => h) (Or.inl ⟨by rfl, ?_⟩) ?_ ?_; rotate_left; (·intro w'; go_simp; with_reducible rfl); rotate_left; (·simp only [Act.put, k19, k29, k39, i64_w, i32_w]; rfl)
         refine pure_ (i := 24) (N := some 136) (v := ?_) (a' := ?_) (z9 34 17924095) rfl rfl (ao9 HT_.out (by kernel_rfl)) (fun _ _ _ h => h) (Or.inl ⟨by rfl, ?_⟩) ?_ ?_; rotate_left; (·intro w'; go_simp; with_reducible rfl); rotate_left; (·simp only [Act.put, k19, k29, k39, i64_w, i32_w]; rfl)
         refine pure_ (i := 26) (N := some 138) (v := ?_) (a' := ?_) (z9 34 85032959) rfl rfl (ao9 HT_.out (by kernel_rfl)) (fun _ _ _ h => h) (Or.inl ⟨by rfl, ?_⟩) ?_ ?_; rotate_left; (·intro w'; go_simp; with_reducible rfl); rotate_left; (·simp only [Act.put, k19, k29, k39, i64_w, i32_w]; rfl)
         refine take_ (i := 15) (N := some 127) (v := ?_) (a' := ?_) (z9 34 85065727) rfl rfl (tw9 HT_.out HW_.out (by kernel_rfl)) (fun _ _ _ h => h) (Or.inl ⟨by rfl, ?_⟩) hHeld ?_ ?_
         rotate_left
         ·rintro w' ⟨s0, s1, s2, s3, s4, s5, s6, s7, s8, s9, s10, s11, s12, s13⟩
          go_simp
          with_reducible rfl
         rotate_left
         ·simp only [Act.put, k19, k29, k39, i64_w, i32_w]
          rfl
         refine pure_ (i := 17) (N := some 129) (v := ?_) (a' := ?_) (z9 34 85196799) rfl rfl (ao9 HT_.out (by kernel_rfl)) (fun _ _ _ h => h) (Or.inl ⟨by rfl, ?_⟩) ?_ ?_; rotate_left; (·intro w'; go_simp; with_reducible rfl); rotate_left; (·simp only [Act.put, k19, k29, k39, i64_w, i32_w]; rfl)
         refine pure_ (i := 18) (N := some 130) (v := ?_) (a' := ?_) (z9 34 85458943) rfl rfl (ao9 HT_.out (by kernel_rfl)) (fun _ _ _ h => h) (Or.inl ⟨by rfl, ?_⟩) ?_ ?_; rotate_left; (·intro w'; go_simp; with_reducible rfl); rotate_left; (·simp only [Act.put, k19, k29, k39, i64_w, i32_w]; rfl)
         refine take_ (i := 19) (N := some 131) (v := ?_) (a' := ?_) (z9 34 85983231) rfl rfl (tw9 HT_.out HW_.out (by kernel_rfl)) (fun _ _ _ h => h) (Or.inl ⟨by rfl, ?_⟩) hHeld ?_ ?_
         rotate_left
         ·rintro w' ⟨s0, s1, s2, s3, s4, s5, s6, s7, s8, s9, s10, s11, s12, s13⟩
          go_simp
          with_reducible rfl
         rotate_left
         ·simp only [Act.put, k19, k29, k39, i64_w, i32_w]
          rfl
         refine pure_ (i := 21) (N := some 133) (v := ?_) (a' := ?_) (z9 34 88080383) rfl rfl (ao9 HT_.out (by kernel_rfl)) (fun _ _ _ h => h) (Or.inl ⟨by rfl, ?_⟩) ?_ ?_; rotate_left; (·intro w'; go_simp; with_reducible rfl); rotate_left; (·simp only [Act.put, k19, k29, k39, i64_w, i32_w]; rfl)
         refine pure_ (i := 22) (N := some 134) (v := ?_) (a' := ?_) (z9 34 92274687) rfl rfl (ao9 HT_.out (by kernel_rfl)) (fun _ _ _ h => h) (Or.inl ⟨by rfl, ?_⟩) ?_ ?_; rotate_left; (·intro w'; go_simp; with_reducible rfl); rotate_left; (·simp only [Act.put, k19, k29, k39, i64_w, i32_w]; rfl)
         refine take_ (i := 23) (N := some 135) (v := ?_) (a' := ?_) (z9 34 100663295) rfl rfl (tw9 HT_.out HW_.out (by kernel_rfl)) (fun _ _ _ h => h) (Or.inl ⟨by rfl, ?_⟩) hHeld ?_ ?_
         rotate_left
         ·rintro w' ⟨s0, s1, s2, s3, s4, s5, s6, s7, s8, s9, s10, s11, s12, s13⟩
          go_simp
          with_reducible rfl
         rotate_left
         ·simp only [Act.put, k19, k29, k39, i64_w, i32_w]
          rfl
         refine take_ (i := 25) (N := some 137) (v := ?_) (a' := ?_) (z9 34 134217727) rfl rfl (tw9 HT_.out HW_.out (by kernel_rfl)) (fun _ _ _ h => h) (Or.inl ⟨by rfl, ?_⟩) hHeld ?_ ?_
         rotate_left
         ·rintro w' ⟨s0, s1, s2, s3, s4, s5, s6, s7, s8, s9, s10, s11, s12, s13⟩
          go_simp
          with_reducible rfl
         rotate_left
         ·simp only [Act.put, k19, k29, k39, i64_w, i32_w]
          rfl
         refine pure_ (i := 27) (N := some 139) (v := ?_) (a' := ?_) (z9 34 268435455) rfl rfl (ao9 HT_.out (by kernel_rfl)) (fun _ _ _ h => h) (Or.inl ⟨by rfl, ?_⟩) ?_ ?_; rotate_left; (·intro w'; go_simp; with_reducible rfl); rotate_left; (·simp only [Act.put, k19, k29, k39, i64_w, i32_w]; rfl)
         refine pure_ (i := 28) (N := some 140) (v := ?_) (a' := ?_) (z9 34 536870911) rfl rfl (ao9 HT_.out (by kernel_rfl)) (fun _ _ _ h => h) (Or.inl ⟨by rfl, ?_⟩) ?_ ?_; rotate_left; (·intro w'; go_simp; with_reducible rfl); rotate_left; (·simp only [Act.put, k19, k29, k39, i64_w, i32_w]; rfl)
         refine take_ (i := 29) (N := some 141) (v := ?_) (a' := ?_) (z9 34 1073741823) rfl rfl (tw9 HT_.out HW_.out (by kernel_rfl)) (fun _ _ _ h => h) (Or.inl ⟨by rfl, ?_⟩) hHeld ?_ ?_
         rotate_left
         ·rintro w' ⟨s0, s1, s2, s3, s4, s5, s6, s7, s8, s9, s10, s11, s12, s13⟩
          go_simp
          with_reducible rfl
         rotate_left
         ·simp only [Act.put, k19, k29, k39, i64_w, i32_w]
          rfl
         refine pure_ (i := 30) (N := some 142) (v := ?_) (a' := ?_) (z9 34 2147483647) rfl rfl (ao9 HT_.out (by kernel_rfl)) (fun _ _ _ h => h) (Or.inl ⟨by rfl, ?_⟩) ?_ ?_; rotate_left; (·intro w'; go_simp; with_reducible rfl); rotate_left; (·simp only [Act.put, k19, k29, k39, i64_w, i32_w]; rfl)
         refine pure_ (i := 31) (N := some 143) (v := ?_) (a' := ?_) (z9 34 4294967295) rfl rfl (ao9 HT_.out (by kernel_rfl)) (fun _ _ _ h => h) (Or.inl ⟨by rfl, ?_⟩) ?_ ?_; rotate_left; (·intro w'; go_simp; with_reducible rfl); rotate_left; (·simp only [Act.put, k19, k29, k39, i64_w, i32_w]; rfl)
         refine pure_ (i := 32) (N := some 144) (v := ?_) (a' := ?_) (z9 34 8589934591) rfl rfl (ao9 HT_.out (by kernel_rfl)) (fun _ _ _ h => h) (Or.inl ⟨by rfl, ?_⟩) ?_ ?_; rotate_left; (·intro w'; go_simp; with_reducible rfl); rotate_left; (·simp only [Act.put, k19, k29, k39, i64_w, i32_w]; rfl)
         refine pure_ (i := 33) (N := some 11) (v := ?_) (a' := ?_) (z9 34 17179869183) rfl rfl (ao9 HT_.out (by kernel_rfl)) (fun _ _ _ h => h) (Or.inl ⟨by rfl, ?_⟩) ?_ ?_; rotate_left; (·intro w'; go_simp; with_reducible rfl); rotate_left; (·simp only [Act.put, k19, k29, k39, i64_w, i32_w]; rfl)
         refine done_ (done_of HT_.out (by kernel_rfl)) ?_
         try go_wp2
         go_roundg k4
         case measure => have := HJ4.out; have := HJ22.out; have := HK3.out; have := HK4.out; omega
         case rel => exact ⟨((((rd_T40 ((rd_T34 y203 x12_3).f1) x13_4).f2).toList == ((rd_T34 l0_0 a1).f0).toList)), (wrap64 (x13_4 + 1)), (by first | rfl | (simp; done) | (simp [*]; done)), (by first | rfl | (simp; done) | (simp [*]; done)), H', ⟨by have := HJ4.out; have := HJ22.out; have := HK3.out; have := HK4.out; omega⟩, ⟨by (try simp only [hl179000_3]); (with_reducible repeat (first | apply va9 | apply vb9 | apply vc9)); exact HO_159000.out⟩, ⟨by (try simp only [hl179000_3]); (with_reducible repeat (first | apply na9 | apply nb9 | apply nc9)); exact HO_175000.out⟩, ⟨by (try simp only [hl179000_3]); (with_reducible repeat (first | apply na9 | apply nb9 | apply nc9)); exact HO_179000.out⟩, ⟨by (try simp only [hl179000_3]); (with_reducible repeat (first | apply na9 | apply nb9 | apply nc9)); exact HO_207000.out⟩, ⟨by (try simp only [hl179000_3]); (with_reducible repeat (first | refine ba9 ?_ _ | refine bb9 ?_ | refine bc9 ?_ _)); exact BK158.out⟩, ⟨by (try simp only [hl179000_3]); (with_reducible repeat (first | refine ba9 ?_ _ | refine bb9 ?_ | refine bc9 ?_ _)); exact BK174.out⟩, ⟨by (try simp only [hl179000_3]); (with_reducible repeat (first | refine ba9 ?_ _ | refine bb9 ?_ | refine bc9 ?_ _)); exact BK178.out⟩, ⟨by (try simp only [hl179000_3]); (with_reducible repeat (first | refine ba9 ?_ _ | refine bb9 ?_ | refine bc9 ?_ _)); exact BK206.out⟩, ⟨by repeat (first | (with_reducible first | exact HB.out | apply wa9 | apply wb9 | apply wc9 | refine wd9 ?_ GE158.out | refine wd9 ?_ GE174.out | refine wd9 ?_ GE178.out | refine wd9 ?_ GE206.out) | exact HB.out)⟩⟩

end Go.Proofs.Ytlcanmndeempfaa.PMo
