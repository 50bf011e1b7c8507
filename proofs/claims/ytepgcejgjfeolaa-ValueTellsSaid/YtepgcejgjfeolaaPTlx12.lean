-- Written by wip/tools/myprint.py, a program of the prover's own, over the kit's print; the contracts named 'HAND' there are typed by hand.
import Derived.Test.YtepgcejgjfeolaaPTlx0
import Derived.Test.YtepgcejgjfeolaaPTlx7
import Derived.Test.YtepgcejgjfeolaaPTlx10
import Derived.Test.YtepgcejgjfeolaaPTlx11
namespace Go.Proofs.Ytepgcejgjfeolaa.PTl
open Go.RowKit Go.Proofs.YtepgcejgjfeolaaW.PrintWords Go.Proofs.YtepgcejgjfeolaaW.PrintLast Go.Proofs.YtepgcejgjfeolaaW.PrintMore
attribute [local go_sem] max2_int min2_int max_two min_two max_three min_three max_four min_four   -- for this text's walks alone
set_option linter.unusedVariables false
set_option linter.unusedSimpArgs false

/-! ### foliateref07_Get: function 14 -/
def foliateref07_Get.j0 : Nat → Int → Int → ByteArray → Int → ByteArray → Int → ByteArray → Int → Option (Int × ByteArray × Int × Int × Bool)
  | 0, _, _, _, _, _, _, _, _ => none
  | k + 1, x7, x8, x173000, x173001, x173002, x178000, x178001, x178002 => if x173001 = 5 then (if x7 > 1073741825 then (some (0, (⟨#[]⟩ : ByteArray), 0, 0, false)) else ((foliateref07_Fits.f k x173000 x173001 x173002 0 (⟨#[]⟩ : ByteArray) (wrap64 ((wrap64 (x7)) - 1))).bind fun t179 => (if t179 = true then (some (0, (⟨#[]⟩ : ByteArray), wrap64 ((wrap64 (x7)) - 1), x8, true)) else (some (0, (⟨#[]⟩ : ByteArray), 0, 0, false))))) else ((foliateref07_Fits.f k x173000 x173001 x173002 x178000 x178001 x178002).bind fun t180 => (if t180 = true then (some (x178000, x178001, x178002, x8, true)) else (some (0, (⟨#[]⟩ : ByteArray), 0, 0, false))))
def foliateref07_Get.f (k : Nat) (a0_0 : ByteArray) (a0_1 : Int) (a0_2 : ByteArray) (l1 : List Int) : Option (Int × ByteArray × Int × Int × Bool) := (foliateref01_Get.f k l1).bind fun bt174 => (if bt174.2 = 0 then (some (0, (⟨#[]⟩ : ByteArray), 0, 0, false)) else ((foliateref01_Zag.f bt174.1).bind fun t176 => (if a0_1 = 4 then (if bt174.1 > 12 then (some (0, (⟨#[]⟩ : ByteArray), 0, 0, false)) else (if (wrap64 (bt174.2 + (wrap64 (bt174.1)))) > (l1.length : Int) then (some (0, (⟨#[]⟩ : ByteArray), 0, 0, false)) else (if 0 ≤ (wrap64 ((wrap64 (bt174.2 + (wrap64 (bt174.1)))) - (wrap64 (bt174.1)))) then (if (wrap64 ((wrap64 (bt174.2 + (wrap64 (bt174.1)))) - (wrap64 (bt174.1)))) ≤ (wrap64 (bt174.2 + (wrap64 (bt174.1)))) then (if (wrap64 (bt174.2 + (wrap64 (bt174.1)))) ≤ (l1.length : Int) then (foliateref07_Get.j0 k bt174.1 (wrap64 (bt174.2 + (wrap64 (bt174.1)))) a0_0 a0_1 a0_2 0 (strOfNums ((l1.take ((wrap64 (bt174.2 + (wrap64 (bt174.1)))) : Int).toNat).drop ((wrap64 ((wrap64 (bt174.2 + (wrap64 (bt174.1)))) - (wrap64 (bt174.1)))) : Int).toNat)) 0) else (none)) else (none)) else (none)))) else (foliateref07_Get.j0 k bt174.1 bt174.2 a0_0 a0_1 a0_2 t176 (⟨#[]⟩ : ByteArray) 0))))
theorem foliateref07_Get.mono_l : ∀ k, (∀ y0 y1 y2 y3 y4 y5 y6 y7, LeO (foliateref07_Get.j0 k y0 y1 y2 y3 y4 y5 y6 y7) (foliateref07_Get.j0 (k + 1) y0 y1 y2 y3 y4 y5 y6 y7))
  | 0 => fun _ _ _ _ _ _ _ _ r h => by simp [foliateref07_Get.j0] at h
  | k + 1 => by
    have ih0 := foliateref07_Get.mono_l k
    · intro y0 y1 y2 y3 y4 y5 y6 y7
      unfold foliateref07_Get.j0
      repeat' first
      | (with_reducible exact ih0 _ _ _ _ _ _ _ _)
      | (with_reducible exact foliateref01_Get.mono _ _)
      | (with_reducible exact foliateref07_Fits.mono _ _ _ _ _ _ _)
      | (with_reducible exact LeO.refl _)
      | (with_reducible exact LeO.none _)
      | (with_reducible refine LeO.ite ?_ ?_)
      | (with_reducible refine LeO.bind ?_ (fun _ => ?_))
      | exact ih0 _ _ _ _ _ _ _ _
      | exact foliateref01_Get.mono _ _
      | exact foliateref07_Fits.mono _ _ _ _ _ _ _
      | exact LeO.none _
      | refine LeO.ite ?_ ?_
      | refine LeO.bind ?_ (fun _ => ?_)
theorem foliateref07_Get.mono : ∀ a0 a1 a2 a3 k, LeO (foliateref07_Get.f k a0 a1 a2 a3) (foliateref07_Get.f (k + 1) a0 a1 a2 a3) := by
  intro a0 a1 a2 a3 k
  have ih0 := foliateref07_Get.mono_l k
  unfold foliateref07_Get.f
  repeat' first
      | (with_reducible exact ih0 _ _ _ _ _ _ _ _)
      | (with_reducible exact foliateref01_Get.mono _ _)
      | (with_reducible exact foliateref07_Fits.mono _ _ _ _ _ _ _)
      | (with_reducible exact LeO.refl _)
      | (with_reducible exact LeO.none _)
      | (with_reducible refine LeO.ite ?_ ?_)
      | (with_reducible refine LeO.bind ?_ (fun _ => ?_))
      | exact ih0 _ _ _ _ _ _ _ _
      | exact foliateref01_Get.mono _ _
      | exact foliateref07_Fits.mono _ _ _ _ _ _ _
      | exact LeO.none _
      | refine LeO.ite ?_ ?_
      | refine LeO.bind ?_ (fun _ => ?_)
set_option maxHeartbeats 8000000 in
set_option maxRecDepth 100000 in
theorem foliateref07_Get.calls (k : Nat) (a0_0 : ByteArray) (a0_1 : Int) (a0_2 : ByteArray) (A1 : Option Addr) (c1 : Nat) (l1 : List Int) (r1 : Int) (r2 : ByteArray) (r3 : Int) (r4 : Int) (r5 : Bool) (w : World) (hr1 : Kd.C (Kd.int .u8) w A1 l1.length l1) (hc1 : l1.length ≤ c1) (h : foliateref07_Get.f k a0_0 a0_1 a0_2 l1 = some (r1, r2, r3, r4, r5)) :
    Calls Try.prog 14 #[.agg #[.string a0_0, .int .i64 a0_1, .string a0_2], .slice A1 l1.length c1] w fun e w' => e = .returned (.tuple #[.agg #[.int .i64 r1, .string r2, .int .i64 r3], .int .i64 r4, .bool r5]) ∧ Below w.heap.size w w' := by
  have hu23 := Try.underlying23
  have hu25 := Try.underlying25
  have HR1 := Aside0.mk hr1
  have HC1 := Aside0.mk hc1
  clear hr1 hc1
  have HB := Aside0.mk (Below.refl w.heap.size w)
  have H : ((foliateref01_Get.f k l1).bind fun bt174 => (if bt174.2 = 0 then (some (0, (⟨#[]⟩ : ByteArray), 0, 0, false)) else ((foliateref01_Zag.f bt174.1).bind fun t176 => (if a0_1 = 4 then (if bt174.1 > 12 then (some (0, (⟨#[]⟩ : ByteArray), 0, 0, false)) else (if (wrap64 (bt174.2 + (wrap64 (bt174.1)))) > (l1.length : Int) then (some (0, (⟨#[]⟩ : ByteArray), 0, 0, false)) else (if 0 ≤ (wrap64 ((wrap64 (bt174.2 + (wrap64 (bt174.1)))) - (wrap64 (bt174.1)))) then (if (wrap64 ((wrap64 (bt174.2 + (wrap64 (bt174.1)))) - (wrap64 (bt174.1)))) ≤ (wrap64 (bt174.2 + (wrap64 (bt174.1)))) then (if (wrap64 (bt174.2 + (wrap64 (bt174.1)))) ≤ (l1.length : Int) then (foliateref07_Get.j0 k bt174.1 (wrap64 (bt174.2 + (wrap64 (bt174.1)))) a0_0 a0_1 a0_2 0 (strOfNums ((l1.take ((wrap64 (bt174.2 + (wrap64 (bt174.1)))) : Int).toNat).drop ((wrap64 ((wrap64 (bt174.2 + (wrap64 (bt174.1)))) - (wrap64 (bt174.1)))) : Int).toNat)) 0) else (none)) else (none)) else (none)))) else (foliateref07_Get.j0 k bt174.1 bt174.2 a0_0 a0_1 a0_2 t176 (⟨#[]⟩ : ByteArray) 0))))) = some (r1, r2, r3, r4, r5) := h
  clear h
  replace H := Option.bind_eq_some_iff.mp H
  obtain ⟨⟨t174, t175⟩, A30, H⟩ := H
  replace H : (if t175 = 0 then (some (0, (⟨#[]⟩ : ByteArray), 0, 0, false)) else ((foliateref01_Zag.f t174).bind fun t176 => (if a0_1 = 4 then (if t174 > 12 then (some (0, (⟨#[]⟩ : ByteArray), 0, 0, false)) else (if (wrap64 (t175 + (wrap64 (t174)))) > (l1.length : Int) then (some (0, (⟨#[]⟩ : ByteArray), 0, 0, false)) else (if 0 ≤ (wrap64 ((wrap64 (t175 + (wrap64 (t174)))) - (wrap64 (t174)))) then (if (wrap64 ((wrap64 (t175 + (wrap64 (t174)))) - (wrap64 (t174)))) ≤ (wrap64 (t175 + (wrap64 (t174)))) then (if (wrap64 (t175 + (wrap64 (t174)))) ≤ (l1.length : Int) then (foliateref07_Get.j0 k t174 (wrap64 (t175 + (wrap64 (t174)))) a0_0 a0_1 a0_2 0 (strOfNums ((l1.take ((wrap64 (t175 + (wrap64 (t174)))) : Int).toNat).drop ((wrap64 ((wrap64 (t175 + (wrap64 (t174)))) - (wrap64 (t174)))) : Int).toNat)) 0) else (none)) else (none)) else (none)))) else (foliateref07_Get.j0 k t174 t175 a0_0 a0_1 a0_2 t176 (⟨#[]⟩ : ByteArray) 0)))) = some (r1, r2, r3, r4, r5) := H
  have A3 := Aside0.mk A30
  clear A30
  by_cases c4 : t175 = 0
  · rw [if_pos c4] at H
    have c4b0 : (t175 == 0) = true := beq_iff_eq.mpr c4
    have c4b1 : (t175 != 0) = false := bne_eq_false_iff_eq.mpr c4
    clear c4
    simp only [Option.some.injEq, Prod.mk.injEq] at H
    obtain ⟨rfl, rfl, rfl, rfl, rfl⟩ := H
    go_enter Try.func14, Try.ntmps14
    go_wp2_with (first | ((with_reducible refine gate_dst (N := 2) rfl ?_); (try (refine gate_guard (by rfl) ?_; dsimp only)); refine box_event ?hg (N := 2) ?hd (cs := #[.string a0_0, .int .i64 a0_1, .string a0_2]) (t := 23) ?hr ?_; (case hd => rfl); (case hg => rfl); (case hr => first | (go_simp; done) | (go_simp; rfl)); intro gb172 hg w5 hbox hb; have n0_ := Aside0.mk (below_step (by repeat (first | (with_reducible first | exact HB.out | apply below_alloc | apply pw_below_drewN | apply below_drew1) | exact HB.out)) hb); have n1_ := Aside0.mk (hbox); have n2_ := Aside0.mk ((by rw [hg]; exact (below_size (by repeat (first | (with_reducible first | exact HB.out | apply below_alloc | apply pw_below_drewN | apply below_drew1) | exact HB.out))) : w.heap.size ≤ gb172)); have n3_ := Aside0.mk ((by rw [hg]; exact (below_size (by repeat (first | (with_reducible first | exact HB.out | apply below_alloc | apply pw_below_drewN | apply below_drew1) | exact HB.out))) : w.heap.size ≤ gb172)); clear HB; have HB := n0_; have BK172 := n1_; have GW172 := n2_; have GE172 := n3_; clear n0_ n1_ n2_ n3_; clear hb hbox hg) | ((with_reducible refine gate_dst (N := 4) rfl ?_); (try (refine gate_guard (by rfl) ?_; dsimp only)); refine box_event ?hg (N := 4) ?hd (cs := #[.int .i64 0, .string (⟨#[]⟩ : ByteArray), .int .i64 0]) (t := 25) ?hr ?_; (case hd => rfl); (case hg => rfl); (case hr => first | (go_simp; done) | (go_simp; rfl)); intro gb173 hg w6 hbox hb; have n0_ := Aside0.mk (blk_below (g := gb172) (o := .cells #[.string a0_0, .int .i64 a0_1, .string a0_2] 23 (0, 0)) (by (with_reducible repeat (first | refine blk_drewN ?_ _ | refine blk_drew ?_ | refine blk_alloc ?_ _)); exact BK172.out) hb); have n1_ := Aside0.mk (below_step (by repeat (first | (with_reducible first | exact HB.out | apply below_alloc | apply pw_below_drewN | apply below_drew1 | refine below_set ?_ GE172.out) | exact HB.out)) hb); have n2_ := Aside0.mk (hbox); have n3_ := Aside0.mk ((by rw [hg]; exact (below_size (by repeat (first | (with_reducible first | exact HB.out | apply below_alloc | apply pw_below_drewN | apply below_drew1 | refine below_set ?_ GE172.out) | exact HB.out))) : w.heap.size ≤ gb173)); have n4_ := Aside0.mk ((by rw [hg]; exact (below_size (by repeat (first | (with_reducible first | exact HB.out | apply below_alloc | apply pw_below_drewN | apply below_drew1 | refine below_set ?_ GE172.out) | exact HB.out))) : w.heap.size ≤ gb173)); have n5_ := Aside0.mk ((by rw [hg]; exact Nat.ne_of_lt (blk_lt (g := gb172) (o := .cells #[.string a0_0, .int .i64 a0_1, .string a0_2] 23 (0, 0)) (by (with_reducible repeat (first | refine blk_drewN ?_ _ | refine blk_drew ?_ | refine blk_alloc ?_ _)); exact BK172.out)) : gb172 ≠ gb173)); have n6_ := Aside0.mk ((by rw [hg]; exact Nat.ne_of_gt (blk_lt (g := gb172) (o := .cells #[.string a0_0, .int .i64 a0_1, .string a0_2] 23 (0, 0)) (by (with_reducible repeat (first | refine blk_drewN ?_ _ | refine blk_drew ?_ | refine blk_alloc ?_ _)); exact BK172.out)) : gb173 ≠ gb172)); clear BK172; clear HB; have BK172 := n0_; have HB := n1_; have BK173 := n2_; have GW173 := n3_; have GE173 := n4_; have NB172_173 := n5_; have NB173_172 := n6_; clear n0_ n1_ n2_ n3_ n4_ n5_ n6_; clear hb hbox hg) | ((with_reducible refine gate_callee (f := 28) rfl ?_); refine goesL_ (some 13) rfl rfl Try.func28 (by kernel_rfl) rfl #[.slice A1 l1.length c1] rfl (by (try simp only [List.map_toArray, List.map_cons, List.map_nil]); first | done | rfl | (simp only [List.length_drop, List.length_take]; rfl)) ?_; (with_reducible refine (foliateref01_Get.calls k _ _ l1 t174 t175 _ ?side1 ?side2 A3.out).mono ?_); (case side1 => repeat (first | exact (Kd.C_below HR1.out HB.out) | (with_reducible refine Kd.C_alloc ?_ _) | (with_reducible refine Kd.C_drewN ?_ _) | (with_reducible refine Kd.C_drew ?_))); (case side2 => exact HC1.out); rintro e w7 ⟨rfl, hb⟩; refine ⟨_, rfl, ?_⟩; have n0_ := Aside0.mk (blk_below (g := gb172) (o := .cells #[.string a0_0, .int .i64 a0_1, .string a0_2] 23 (0, 0)) (by (with_reducible repeat (first | refine blk_drewN ?_ _ | refine blk_drew ?_ | refine blk_alloc ?_ _)); exact BK172.out) hb); have n1_ := Aside0.mk (blk_below (g := gb173) (o := .cells #[.int .i64 0, .string (⟨#[]⟩ : ByteArray), .int .i64 0] 25 (0, 0)) (by (with_reducible repeat (first | refine blk_drewN ?_ _ | refine blk_drew ?_ | refine blk_alloc ?_ _)); exact BK173.out) hb); have n2_ := Aside0.mk (below_step (by repeat (first | (with_reducible first | exact HB.out | apply below_alloc | apply pw_below_drewN | apply below_drew1 | refine below_set ?_ GE172.out | refine below_set ?_ GE173.out) | exact HB.out)) hb); clear BK172; clear BK173; clear HB; have BK172 := n0_; have BK173 := n1_; have HB := n2_; clear n0_ n1_ n2_; (try clear hb); (try clear hb2); (try clear hk); (try clear hi); have hnb8 := NB173_172.out; have hnc8 := NB172_173.out; have hcz9_0 : w7.cell? ⟨gb173, 0, none⟩ = some (.int .i64 0) := (blk_cell BK173.out 0).trans rfl; have hcz9_1 : w7.cell? ⟨gb173, 1, none⟩ = some (.string (⟨#[]⟩ : ByteArray)) := (blk_cell BK173.out 1).trans rfl; have hcz9_2 : w7.cell? ⟨gb173, 2, none⟩ = some (.int .i64 0) := (blk_cell BK173.out 2).trans rfl; have hfz9_0 := blk_frozen BK173.out 0; have hfz9_1 := blk_frozen BK173.out 1; have hfz9_2 := blk_frozen BK173.out 2))
    refine bodyPost_ret (results_ctt rfl _ _ gb173 25 #[.int .i64 0, .string (⟨#[]⟩ : ByteArray), .int .i64 0] (0, 0) _ rfl (by (with_reducible repeat (first | refine blk_drewN ?_ _ | refine blk_drew ?_ | refine blk_alloc ?_ _)); refine blk_put (cs := #[.int .i64 0, .string (⟨#[]⟩ : ByteArray), .int .i64 0]) ?_ 2 _ rfl; (with_reducible repeat (first | refine blk_drewN ?_ _ | refine blk_drew ?_ | refine blk_alloc ?_ _)); refine blk_put (cs := #[.int .i64 0, .string (⟨#[]⟩ : ByteArray), .int .i64 0]) ?_ 1 _ rfl; (with_reducible repeat (first | refine blk_drewN ?_ _ | refine blk_drew ?_ | refine blk_alloc ?_ _)); refine blk_put (cs := #[.int .i64 0, .string (⟨#[]⟩ : ByteArray), .int .i64 0]) ?_ 0 _ rfl; (with_reducible repeat (first | refine blk_drewN ?_ _ | refine blk_drew ?_ | refine blk_alloc ?_ _)); exact BK173.out) Try.underlying25 rfl (by kernel_rfl)) rfl ?_
    exact ⟨by first | rfl | (simp [errW_none, errW_some] <;> rfl) | (simp [*, errW_none, errW_some] <;> rfl), by repeat (first | (with_reducible first | exact HB.out | apply below_alloc | apply pw_below_drewN | apply below_drew1 | refine below_set ?_ GE172.out | refine below_set ?_ GE173.out) | exact HB.out)⟩
  · rw [if_neg c4] at H
    have c4b0 : (t175 == 0) = false := beq_eq_false_iff_ne.mpr c4
    have c4b1 : (t175 != 0) = true := bne_iff_ne.mpr c4
    replace H := Option.bind_eq_some_iff.mp H
    obtain ⟨t176, A100, H⟩ := H
    replace H : (if a0_1 = 4 then (if t174 > 12 then (some (0, (⟨#[]⟩ : ByteArray), 0, 0, false)) else (if (wrap64 (t175 + (wrap64 (t174)))) > (l1.length : Int) then (some (0, (⟨#[]⟩ : ByteArray), 0, 0, false)) else (if 0 ≤ (wrap64 ((wrap64 (t175 + (wrap64 (t174)))) - (wrap64 (t174)))) then (if (wrap64 ((wrap64 (t175 + (wrap64 (t174)))) - (wrap64 (t174)))) ≤ (wrap64 (t175 + (wrap64 (t174)))) then (if (wrap64 (t175 + (wrap64 (t174)))) ≤ (l1.length : Int) then (foliateref07_Get.j0 k t174 (wrap64 (t175 + (wrap64 (t174)))) a0_0 a0_1 a0_2 0 (strOfNums ((l1.take ((wrap64 (t175 + (wrap64 (t174)))) : Int).toNat).drop ((wrap64 ((wrap64 (t175 + (wrap64 (t174)))) - (wrap64 (t174)))) : Int).toNat)) 0) else (none)) else (none)) else (none)))) else (foliateref07_Get.j0 k t174 t175 a0_0 a0_1 a0_2 t176 (⟨#[]⟩ : ByteArray) 0)) = some (r1, r2, r3, r4, r5) := H
    have A10 := Aside0.mk A100
    clear A100
    have HC11 := Aside0.mk H
    clear H
    go_enter Try.func14, Try.ntmps14
    go_upto_if 24 with (first | ((with_reducible refine gate_dst (N := 2) rfl ?_); (try (refine gate_guard (by rfl) ?_; dsimp only)); refine box_event ?hg (N := 2) ?hd (cs := #[.string a0_0, .int .i64 a0_1, .string a0_2]) (t := 23) ?hr ?_; (case hd => rfl); (case hg => rfl); (case hr => first | (go_simp; done) | (go_simp; rfl)); intro gb172 hg w12 hbox hb; have n0_ := Aside0.mk (below_step (by repeat (first | (with_reducible first | exact HB.out | apply below_alloc | apply pw_below_drewN | apply below_drew1) | exact HB.out)) hb); have n1_ := Aside0.mk (hbox); have n2_ := Aside0.mk ((by rw [hg]; exact (below_size (by repeat (first | (with_reducible first | exact HB.out | apply below_alloc | apply pw_below_drewN | apply below_drew1) | exact HB.out))) : w.heap.size ≤ gb172)); have n3_ := Aside0.mk ((by rw [hg]; exact (below_size (by repeat (first | (with_reducible first | exact HB.out | apply below_alloc | apply pw_below_drewN | apply below_drew1) | exact HB.out))) : w.heap.size ≤ gb172)); clear HB; have HB := n0_; have BK172 := n1_; have GW172 := n2_; have GE172 := n3_; clear n0_ n1_ n2_ n3_; clear hb hbox hg) | ((with_reducible refine gate_dst (N := 4) rfl ?_); (try (refine gate_guard (by rfl) ?_; dsimp only)); refine box_event ?hg (N := 4) ?hd (cs := #[.int .i64 0, .string (⟨#[]⟩ : ByteArray), .int .i64 0]) (t := 25) ?hr ?_; (case hd => rfl); (case hg => rfl); (case hr => first | (go_simp; done) | (go_simp; rfl)); intro gb173 hg w13 hbox hb; have n0_ := Aside0.mk (blk_below (g := gb172) (o := .cells #[.string a0_0, .int .i64 a0_1, .string a0_2] 23 (0, 0)) (by (with_reducible repeat (first | refine blk_drewN ?_ _ | refine blk_drew ?_ | refine blk_alloc ?_ _)); exact BK172.out) hb); have n1_ := Aside0.mk (below_step (by repeat (first | (with_reducible first | exact HB.out | apply below_alloc | apply pw_below_drewN | apply below_drew1 | refine below_set ?_ GE172.out) | exact HB.out)) hb); have n2_ := Aside0.mk (hbox); have n3_ := Aside0.mk ((by rw [hg]; exact (below_size (by repeat (first | (with_reducible first | exact HB.out | apply below_alloc | apply pw_below_drewN | apply below_drew1 | refine below_set ?_ GE172.out) | exact HB.out))) : w.heap.size ≤ gb173)); have n4_ := Aside0.mk ((by rw [hg]; exact (below_size (by repeat (first | (with_reducible first | exact HB.out | apply below_alloc | apply pw_below_drewN | apply below_drew1 | refine below_set ?_ GE172.out) | exact HB.out))) : w.heap.size ≤ gb173)); have n5_ := Aside0.mk ((by rw [hg]; exact Nat.ne_of_lt (blk_lt (g := gb172) (o := .cells #[.string a0_0, .int .i64 a0_1, .string a0_2] 23 (0, 0)) (by (with_reducible repeat (first | refine blk_drewN ?_ _ | refine blk_drew ?_ | refine blk_alloc ?_ _)); exact BK172.out)) : gb172 ≠ gb173)); have n6_ := Aside0.mk ((by rw [hg]; exact Nat.ne_of_gt (blk_lt (g := gb172) (o := .cells #[.string a0_0, .int .i64 a0_1, .string a0_2] 23 (0, 0)) (by (with_reducible repeat (first | refine blk_drewN ?_ _ | refine blk_drew ?_ | refine blk_alloc ?_ _)); exact BK172.out)) : gb173 ≠ gb172)); clear BK172; clear HB; have BK172 := n0_; have HB := n1_; have BK173 := n2_; have GW173 := n3_; have GE173 := n4_; have NB172_173 := n5_; have NB173_172 := n6_; clear n0_ n1_ n2_ n3_ n4_ n5_ n6_; clear hb hbox hg) | ((with_reducible refine gate_callee (f := 28) rfl ?_); refine goesL_ (some 13) rfl rfl Try.func28 (by kernel_rfl) rfl #[.slice A1 l1.length c1] rfl (by (try simp only [List.map_toArray, List.map_cons, List.map_nil]); first | done | rfl | (simp only [List.length_drop, List.length_take]; rfl)) ?_; (with_reducible refine (foliateref01_Get.calls k _ _ l1 t174 t175 _ ?side1 ?side2 A3.out).mono ?_); (case side1 => repeat (first | exact (Kd.C_below HR1.out HB.out) | (with_reducible refine Kd.C_alloc ?_ _) | (with_reducible refine Kd.C_drewN ?_ _) | (with_reducible refine Kd.C_drew ?_))); (case side2 => exact HC1.out); rintro e w14 ⟨rfl, hb⟩; refine ⟨_, rfl, ?_⟩; have n0_ := Aside0.mk (blk_below (g := gb172) (o := .cells #[.string a0_0, .int .i64 a0_1, .string a0_2] 23 (0, 0)) (by (with_reducible repeat (first | refine blk_drewN ?_ _ | refine blk_drew ?_ | refine blk_alloc ?_ _)); exact BK172.out) hb); have n1_ := Aside0.mk (blk_below (g := gb173) (o := .cells #[.int .i64 0, .string (⟨#[]⟩ : ByteArray), .int .i64 0] 25 (0, 0)) (by (with_reducible repeat (first | refine blk_drewN ?_ _ | refine blk_drew ?_ | refine blk_alloc ?_ _)); exact BK173.out) hb); have n2_ := Aside0.mk (below_step (by repeat (first | (with_reducible first | exact HB.out | apply below_alloc | apply pw_below_drewN | apply below_drew1 | refine below_set ?_ GE172.out | refine below_set ?_ GE173.out) | exact HB.out)) hb); clear BK172; clear BK173; clear HB; have BK172 := n0_; have BK173 := n1_; have HB := n2_; clear n0_ n1_ n2_; (try clear hb); (try clear hb2); (try clear hk); (try clear hi)) | ((with_reducible refine gate_callee (f := 29) rfl ?_); refine goesL_ (some 20) rfl rfl Try.func29 (by kernel_rfl) rfl #[.int .u64 t174] rfl (by (try simp only [List.map_toArray, List.map_cons, List.map_nil]); first | done | rfl | (simp only [List.length_drop, List.length_take]; rfl)) ?_; (with_reducible refine (foliateref01_Zag.calls t174 t176 _ A10.out).mono ?_); rintro e w' ⟨rfl, ⟨nd, rfl⟩⟩; refine ⟨_, rfl, ?_⟩; (try (rw [drewN_self w14]; generalize hq_ : World.drewN w14 _ = w14; have n0_ : Aside0 (w14.heap[gb172]? = some (.cells #[.string a0_0, .int .i64 a0_1, .string a0_2] 23 (0, 0))) := ⟨by rw [← hq_]; exact (by (with_reducible repeat (first | refine blk_drewN ?_ _ | refine blk_drew ?_ | refine blk_alloc ?_ _)); exact BK172.out)⟩; have n1_ : Aside0 (w14.heap[gb173]? = some (.cells #[.int .i64 0, .string (⟨#[]⟩ : ByteArray), .int .i64 0] 25 (0, 0))) := ⟨by rw [← hq_]; exact (by (with_reducible repeat (first | refine blk_drewN ?_ _ | refine blk_drew ?_ | refine blk_alloc ?_ _)); exact BK173.out)⟩; have n2_ : Aside0 (Below w.heap.size w w14) := ⟨by rw [← hq_]; exact (by repeat (first | (with_reducible first | exact HB.out | apply below_alloc | apply pw_below_drewN | apply below_drew1 | refine below_set ?_ GE172.out | refine below_set ?_ GE173.out) | exact HB.out))⟩; clear BK172 BK173 HB hq_; have BK172 := n0_; have BK173 := n1_; have HB := n2_; clear n0_ n1_ n2_))) | ((with_reducible refine gate_dst (N := 9) rfl ?_); (try (refine gate_guard (by rfl) ?_; dsimp only)); refine box_event ?hg (N := 9) ?hd (cs := #[.int .i64 0, .string (⟨#[]⟩ : ByteArray), .int .i64 0]) (t := 25) ?hr ?_; (case hd => rfl); (case hg => rfl); (case hr => first | (go_simp; done) | (go_simp; rfl)); intro gb177 hg w15 hbox hb; have n0_ := Aside0.mk (blk_below (g := gb172) (o := .cells #[.string a0_0, .int .i64 a0_1, .string a0_2] 23 (0, 0)) (by (with_reducible repeat (first | refine blk_drewN ?_ _ | refine blk_drew ?_ | refine blk_alloc ?_ _)); exact BK172.out) hb); have n1_ := Aside0.mk (blk_below (g := gb173) (o := .cells #[.int .i64 0, .string (⟨#[]⟩ : ByteArray), .int .i64 0] 25 (0, 0)) (by (with_reducible repeat (first | refine blk_drewN ?_ _ | refine blk_drew ?_ | refine blk_alloc ?_ _)); exact BK173.out) hb); have n2_ := Aside0.mk (below_step (by repeat (first | (with_reducible first | exact HB.out | apply below_alloc | apply pw_below_drewN | apply below_drew1 | refine below_set ?_ GE172.out | refine below_set ?_ GE173.out) | exact HB.out)) hb); have n3_ := Aside0.mk (hbox); have n4_ := Aside0.mk ((by rw [hg]; exact (below_size (by repeat (first | (with_reducible first | exact HB.out | apply below_alloc | apply pw_below_drewN | apply below_drew1 | refine below_set ?_ GE172.out | refine below_set ?_ GE173.out) | exact HB.out))) : w.heap.size ≤ gb177)); have n5_ := Aside0.mk ((by rw [hg]; exact (below_size (by repeat (first | (with_reducible first | exact HB.out | apply below_alloc | apply pw_below_drewN | apply below_drew1 | refine below_set ?_ GE172.out | refine below_set ?_ GE173.out) | exact HB.out))) : w.heap.size ≤ gb177)); have n6_ := Aside0.mk ((by rw [hg]; exact Nat.ne_of_lt (blk_lt (g := gb172) (o := .cells #[.string a0_0, .int .i64 a0_1, .string a0_2] 23 (0, 0)) (by (with_reducible repeat (first | refine blk_drewN ?_ _ | refine blk_drew ?_ | refine blk_alloc ?_ _)); exact BK172.out)) : gb172 ≠ gb177)); have n7_ := Aside0.mk ((by rw [hg]; exact Nat.ne_of_gt (blk_lt (g := gb172) (o := .cells #[.string a0_0, .int .i64 a0_1, .string a0_2] 23 (0, 0)) (by (with_reducible repeat (first | refine blk_drewN ?_ _ | refine blk_drew ?_ | refine blk_alloc ?_ _)); exact BK172.out)) : gb177 ≠ gb172)); have n8_ := Aside0.mk ((by rw [hg]; exact Nat.ne_of_lt (blk_lt (g := gb173) (o := .cells #[.int .i64 0, .string (⟨#[]⟩ : ByteArray), .int .i64 0] 25 (0, 0)) (by (with_reducible repeat (first | refine blk_drewN ?_ _ | refine blk_drew ?_ | refine blk_alloc ?_ _)); exact BK173.out)) : gb173 ≠ gb177)); have n9_ := Aside0.mk ((by rw [hg]; exact Nat.ne_of_gt (blk_lt (g := gb173) (o := .cells #[.int .i64 0, .string (⟨#[]⟩ : ByteArray), .int .i64 0] 25 (0, 0)) (by (with_reducible repeat (first | refine blk_drewN ?_ _ | refine blk_drew ?_ | refine blk_alloc ?_ _)); exact BK173.out)) : gb177 ≠ gb173)); clear BK172; clear BK173; clear HB; have BK172 := n0_; have BK173 := n1_; have HB := n2_; have BK177 := n3_; have GW177 := n4_; have GE177 := n5_; have NB172_177 := n6_; have NB177_172 := n7_; have NB173_177 := n8_; have NB177_173 := n9_; clear n0_ n1_ n2_ n3_ n4_ n5_ n6_ n7_ n8_ n9_; clear hb hbox hg; have hnb16 := NB177_172.out; have hnc16 := NB172_177.out; have hnb17 := NB177_173.out; have hnc17 := NB173_177.out; have hcz18_0 : w15.cell? ⟨gb177, 0, none⟩ = some (.int .i64 0) := (blk_cell BK177.out 0).trans rfl; have hcz18_1 : w15.cell? ⟨gb177, 1, none⟩ = some (.string (⟨#[]⟩ : ByteArray)) := (blk_cell BK177.out 1).trans rfl; have hcz18_2 : w15.cell? ⟨gb177, 2, none⟩ = some (.int .i64 0) := (blk_cell BK177.out 2).trans rfl; have hfz18_0 := blk_frozen BK177.out 0; have hfz18_1 := blk_frozen BK177.out 1; have hfz18_2 := blk_frozen BK177.out 2; have hnb19 := NB172_173.out; have hnc19 := NB173_172.out; have hcz20_0 : w15.cell? ⟨gb172, 0, none⟩ = some (.string a0_0) := (blk_cell BK172.out 0).trans rfl; have hcz20_1 : w15.cell? ⟨gb172, 1, none⟩ = some (.int .i64 a0_1) := (blk_cell BK172.out 1).trans rfl; have hcz20_2 : w15.cell? ⟨gb172, 2, none⟩ = some (.string a0_2) := (blk_cell BK172.out 2).trans rfl; have hfz20_0 := blk_frozen BK172.out 0; have hfz20_1 := blk_frozen BK172.out 1; have hfz20_2 := blk_frozen BK172.out 2))
    (try simp only [Act.put, List.setIfInBounds_toArray, List.set_cons_zero, List.set_cons_succ])
    go_cut [8] (fun v8 wc => ∃ (kq : Nat) (x8_10 : Int) (x174000_10 : Int) (x174001_10 : ByteArray) (x174002_10 : Int) (x178000_10 : Int) (x178001_10 : ByteArray) (x178002_10 : Int), v8 = .int .i64 x8_10 ∧ Aside0 (foliateref07_Get.j0 kq t174 x8_10 a0_0 a0_1 a0_2 x178000_10 x178001_10 x178002_10 = some (r1, r2, r3, r4, r5)) ∧ Aside0 (kq ≤ k) ∧ Aside0 (wc.heap[gb172]? = some (.cells #[.string a0_0, .int .i64 a0_1, .string a0_2] 23 (0, 0))) ∧ Aside0 (wc.heap[gb173]? = some (.cells #[.int .i64 x174000_10, .string x174001_10, .int .i64 x174002_10] 25 (0, 0))) ∧ Aside0 (wc.heap[gb177]? = some (.cells #[.int .i64 x178000_10, .string x178001_10, .int .i64 x178002_10] 25 (0, 0))) ∧ Aside0 (Below w.heap.size w wc))
    case first =>
      have H := HC11.out
      clear HC11
      by_cases c21 : a0_1 = 4
      · rw [if_pos c21] at H
        have c21b0 : (a0_1 == 4) = true := beq_iff_eq.mpr c21
        have c21b1 : (a0_1 != 4) = false := bne_eq_false_iff_eq.mpr c21
        clear c21
        (first | rw [c21b0] | (simp only [i64_w, i32_w]; rw [c21b0]) | skip)
        by_cases c22 : t174 > 12
        · rw [if_pos c22] at H
          have c22b0 : decide (12 < t174) = true := decide_eq_true c22
          clear c22
          simp only [Option.some.injEq, Prod.mk.injEq] at H
          obtain ⟨rfl, rfl, rfl, rfl, rfl⟩ := H
          have hnb23 := NB173_172.out
          have hnc23 := NB172_173.out
          have hnb24 := NB173_177.out
          have hnc24 := NB177_173.out
          have hcz25_0 : w15.cell? ⟨gb173, 0, none⟩ = some (.int .i64 0) := (blk_cell BK173.out 0).trans rfl
          have hcz25_1 : w15.cell? ⟨gb173, 1, none⟩ = some (.string (⟨#[]⟩ : ByteArray)) := (blk_cell BK173.out 1).trans rfl
          have hcz25_2 : w15.cell? ⟨gb173, 2, none⟩ = some (.int .i64 0) := (blk_cell BK173.out 2).trans rfl
          have hfz25_0 := blk_frozen BK173.out 0
          have hfz25_1 := blk_frozen BK173.out 1
          have hfz25_2 := blk_frozen BK173.out 2
          go_wp2
          refine bodyPost_ret (results_ctt rfl _ _ gb173 25 #[.int .i64 0, .string (⟨#[]⟩ : ByteArray), .int .i64 0] (0, 0) _ rfl (by (with_reducible repeat (first | refine blk_drewN ?_ _ | refine blk_drew ?_ | refine blk_alloc ?_ _)); refine blk_put (cs := #[.int .i64 0, .string (⟨#[]⟩ : ByteArray), .int .i64 0]) ?_ 2 _ rfl; (with_reducible repeat (first | refine blk_drewN ?_ _ | refine blk_drew ?_ | refine blk_alloc ?_ _)); refine blk_put (cs := #[.int .i64 0, .string (⟨#[]⟩ : ByteArray), .int .i64 0]) ?_ 1 _ rfl; (with_reducible repeat (first | refine blk_drewN ?_ _ | refine blk_drew ?_ | refine blk_alloc ?_ _)); refine blk_put (cs := #[.int .i64 0, .string (⟨#[]⟩ : ByteArray), .int .i64 0]) ?_ 0 _ rfl; (with_reducible repeat (first | refine blk_drewN ?_ _ | refine blk_drew ?_ | refine blk_alloc ?_ _)); refine blk_far ?_ NB173_177.out _; (with_reducible repeat (first | refine blk_drewN ?_ _ | refine blk_drew ?_ | refine blk_alloc ?_ _)); refine blk_far ?_ NB173_177.out _; (with_reducible repeat (first | refine blk_drewN ?_ _ | refine blk_drew ?_ | refine blk_alloc ?_ _)); refine blk_far ?_ NB173_177.out _; (with_reducible repeat (first | refine blk_drewN ?_ _ | refine blk_drew ?_ | refine blk_alloc ?_ _)); exact BK173.out) Try.underlying25 rfl (by kernel_rfl)) rfl ?_
          exact ⟨by first | rfl | (simp [errW_none, errW_some] <;> rfl) | (simp [*, errW_none, errW_some] <;> rfl), by repeat (first | (with_reducible first | exact HB.out | apply below_alloc | apply pw_below_drewN | apply below_drew1 | refine below_set ?_ GE172.out | refine below_set ?_ GE173.out | refine below_set ?_ GE177.out) | exact HB.out)⟩
        · rw [if_neg c22] at H
          have c22b0 : decide (12 < t174) = false := decide_eq_false c22
          clear c22
          by_cases c26 : (wrap64 (t175 + (wrap64 (t174)))) > (l1.length : Int)
          · rw [if_pos c26] at H
            have c26b0 : decide ((l1.length : Int) < (wrap64 (t175 + (wrap64 (t174))))) = true := decide_eq_true c26
            clear c26
            simp only [Option.some.injEq, Prod.mk.injEq] at H
            obtain ⟨rfl, rfl, rfl, rfl, rfl⟩ := H
            have hnb27 := NB173_172.out
            have hnc27 := NB172_173.out
            have hnb28 := NB173_177.out
            have hnc28 := NB177_173.out
            have hcz29_0 : w15.cell? ⟨gb173, 0, none⟩ = some (.int .i64 0) := (blk_cell BK173.out 0).trans rfl
            have hcz29_1 : w15.cell? ⟨gb173, 1, none⟩ = some (.string (⟨#[]⟩ : ByteArray)) := (blk_cell BK173.out 1).trans rfl
            have hcz29_2 : w15.cell? ⟨gb173, 2, none⟩ = some (.int .i64 0) := (blk_cell BK173.out 2).trans rfl
            have hfz29_0 := blk_frozen BK173.out 0
            have hfz29_1 := blk_frozen BK173.out 1
            have hfz29_2 := blk_frozen BK173.out 2
            go_wp2
            refine bodyPost_ret (results_ctt rfl _ _ gb173 25 #[.int .i64 0, .string (⟨#[]⟩ : ByteArray), .int .i64 0] (0, 0) _ rfl (by (with_reducible repeat (first | refine blk_drewN ?_ _ | refine blk_drew ?_ | refine blk_alloc ?_ _)); refine blk_put (cs := #[.int .i64 0, .string (⟨#[]⟩ : ByteArray), .int .i64 0]) ?_ 2 _ rfl; (with_reducible repeat (first | refine blk_drewN ?_ _ | refine blk_drew ?_ | refine blk_alloc ?_ _)); refine blk_put (cs := #[.int .i64 0, .string (⟨#[]⟩ : ByteArray), .int .i64 0]) ?_ 1 _ rfl; (with_reducible repeat (first | refine blk_drewN ?_ _ | refine blk_drew ?_ | refine blk_alloc ?_ _)); refine blk_put (cs := #[.int .i64 0, .string (⟨#[]⟩ : ByteArray), .int .i64 0]) ?_ 0 _ rfl; (with_reducible repeat (first | refine blk_drewN ?_ _ | refine blk_drew ?_ | refine blk_alloc ?_ _)); refine blk_far ?_ NB173_177.out _; (with_reducible repeat (first | refine blk_drewN ?_ _ | refine blk_drew ?_ | refine blk_alloc ?_ _)); refine blk_far ?_ NB173_177.out _; (with_reducible repeat (first | refine blk_drewN ?_ _ | refine blk_drew ?_ | refine blk_alloc ?_ _)); refine blk_far ?_ NB173_177.out _; (with_reducible repeat (first | refine blk_drewN ?_ _ | refine blk_drew ?_ | refine blk_alloc ?_ _)); exact BK173.out) Try.underlying25 rfl (by kernel_rfl)) rfl ?_
            exact ⟨by first | rfl | (simp [errW_none, errW_some] <;> rfl) | (simp [*, errW_none, errW_some] <;> rfl), by repeat (first | (with_reducible first | exact HB.out | apply below_alloc | apply pw_below_drewN | apply below_drew1 | refine below_set ?_ GE172.out | refine below_set ?_ GE173.out | refine below_set ?_ GE177.out) | exact HB.out)⟩
          · rw [if_neg c26] at H
            have c26b0 : decide ((l1.length : Int) < (wrap64 (t175 + (wrap64 (t174))))) = false := decide_eq_false c26
            clear c26
            obtain ⟨ji30, hji30⟩ : ∃ j_ : Int, (wrap64 ((wrap64 (t175 + (wrap64 (t174)))) - (wrap64 (t174)))) = j_ := ⟨_, rfl⟩
            replace H : (if 0 ≤ (ji30) then (if (ji30) ≤ (wrap64 (t175 + (wrap64 (t174)))) then (if (wrap64 (t175 + (wrap64 (t174)))) ≤ (l1.length : Int) then (foliateref07_Get.j0 k t174 (wrap64 (t175 + (wrap64 (t174)))) a0_0 a0_1 a0_2 0 (strOfNums ((l1.take ((wrap64 (t175 + (wrap64 (t174)))) : Int).toNat).drop ((ji30) : Int).toNat)) 0) else (none)) else (none)) else (none)) = some (r1, r2, r3, r4, r5) := by first | (rw [hji30] at H; exact H) | (simp only [hji30] at H ⊢; exact H)
            have hji30w : (IntKind.i64.wrap ((wrap64 (t175 + (wrap64 (t174)))) - (wrap64 (t174)))) = ji30 := (i64_w _).trans hji30
            by_cases c31 : 0 ≤ (ji30)
            · rw [if_pos c31] at H
              have c31b0 := eq_true c31
              have c31b1 : decide (0 ≤ (ji30)) = true := decide_eq_true c31
              clear c31
              by_cases c32 : (ji30) ≤ (wrap64 (t175 + (wrap64 (t174))))
              · rw [if_pos c32] at H
                have c32b0 := eq_true c32
                have c32b1 : decide ((ji30) ≤ (wrap64 (t175 + (wrap64 (t174))))) = true := decide_eq_true c32
                by_cases c33 : (wrap64 (t175 + (wrap64 (t174)))) ≤ (l1.length : Int)
                · rw [if_pos c33] at H
                  have c33b0 := eq_true c33
                  have c33b1 : decide ((wrap64 (t175 + (wrap64 (t174)))) ≤ (l1.length : Int)) = true := decide_eq_true c33
                  have H' := Aside0.mk H
                  clear H
                  obtain ⟨i034, hi034, _, hsz34, _⟩ := info_parts info5
                  obtain ⟨A34, hcut34, hA34, hC34⟩ := print_mid_of (P := Try.prog) (Value.int .u8) 0 26 5 .i64 .i64 Try.underlying26 hi034 hsz34 A1 c1 l1 (ji30) (wrap64 (t175 + (wrap64 (t174)))) (of_decide_eq_true (by first | (with_reducible assumption) | assumption)) (by first | omega | exact of_decide_eq_true (by first | (with_reducible assumption) | assumption)) (of_decide_eq_true (by first | (with_reducible assumption) | assumption)) HC1.out
                  have HR178 := Aside0.mk (Kd.C_of_reads (h1 := fun _ => rfl) (hA34 _ (Kd.reads_of_C HR1.out)))
                  have HC178 := Aside0.mk hC34
                  clear hA34 hC34 hi034 hsz34
                  have hcv35 := Kd.C_string (P := Try.prog) (A := A34) (c := (c1 - (ji30).toNat)) Try.underlying26 Try.underlying5 Try.underlying9 (Kd.C_below HR178.out HB.out)
                  have hcvs35 : ∀ u0_ u1_ u2_ : Value, (convert 26 9 (.slice A34 ((wrap64 (t175 + (wrap64 (t174)))).toNat - ji30.toNat) ((c1 - (ji30).toNat)))).run Try.prog (((w15.setCell ⟨gb177, 0, none⟩ u0_).setCell ⟨gb177, 1, none⟩ u1_).setCell ⟨gb177, 2, none⟩ u2_) = .ok (.string (strOfNums ((l1.take ((wrap64 (t175 + (wrap64 (t174)))) : Int).toNat).drop ((ji30) : Int).toNat))) (((w15.setCell ⟨gb177, 0, none⟩ u0_).setCell ⟨gb177, 1, none⟩ u1_).setCell ⟨gb177, 2, none⟩ u2_) := fun u0_ u1_ u2_ => by
                    have h_ := Kd.C_string (P := Try.prog) (A := A34) (c := (c1 - (ji30).toNat)) Try.underlying26 Try.underlying5 Try.underlying9 (Kd.C_below HR178.out (below_set (below_set (below_set HB.out GE177.out) GE177.out) GE177.out) : Kd.C _ (((w15.setCell ⟨gb177, 0, none⟩ u0_).setCell ⟨gb177, 1, none⟩ u1_).setCell ⟨gb177, 2, none⟩ u2_) _ _ _)
                    rw [show ((l1.take ((wrap64 (t175 + (wrap64 (t174)))) : Int).toNat).drop ((ji30) : Int).toNat).length = (wrap64 (t175 + (wrap64 (t174)))).toNat - ji30.toNat from (by rw [List.length_drop, List.length_take]; have h_ : (wrap64 (t175 + (wrap64 (t174)))) ≤ (l1.length : Int) := of_decide_eq_true (by first | (with_reducible assumption) | assumption); generalize (wrap64 (t175 + (wrap64 (t174)))) = z_ at h_ ⊢; omega)] at h_
                    exact h_
                  have hcvt35 := hcvs35 (.int .i64 t176) (.string (⟨#[]⟩ : ByteArray)) (.int .i64 0)
                  clear hcvs35
                  have hnb36 := NB177_172.out
                  have hnc36 := NB172_177.out
                  have hnb37 := NB177_173.out
                  have hnc37 := NB173_177.out
                  have hcz38_0 : w15.cell? ⟨gb177, 0, none⟩ = some (.int .i64 0) := (blk_cell BK177.out 0).trans rfl
                  have hcz38_1 : w15.cell? ⟨gb177, 1, none⟩ = some (.string (⟨#[]⟩ : ByteArray)) := (blk_cell BK177.out 1).trans rfl
                  have hcz38_2 : w15.cell? ⟨gb177, 2, none⟩ = some (.int .i64 0) := (blk_cell BK177.out 2).trans rfl
                  have hfz38_0 := blk_frozen BK177.out 0
                  have hfz38_1 := blk_frozen BK177.out 1
                  have hfz38_2 := blk_frozen BK177.out 2
                  go_wp2
                  go_meet
                  case rel => exact ⟨_, (wrap64 (t175 + (wrap64 (t174)))), (0), ((⟨#[]⟩ : ByteArray)), (0), (0), (strOfNums ((l1.take ((wrap64 (t175 + (wrap64 (t174)))) : Int).toNat).drop ((ji30) : Int).toNat)), (0), (by first | rfl | (simp; done) | (simp [*]; done)), (by first | exact H' | (simp only [hji30]; exact H') | (have H2_ := H'; simp only [hji30] at H2_ ⊢; exact H2_)), ⟨by first | omega | exact Nat.le_refl _⟩, ⟨by (with_reducible repeat (first | refine blk_drewN ?_ _ | refine blk_drew ?_ | refine blk_alloc ?_ _)); refine blk_far ?_ NB172_177.out _; (with_reducible repeat (first | refine blk_drewN ?_ _ | refine blk_drew ?_ | refine blk_alloc ?_ _)); refine blk_far ?_ NB172_177.out _; (with_reducible repeat (first | refine blk_drewN ?_ _ | refine blk_drew ?_ | refine blk_alloc ?_ _)); refine blk_far ?_ NB172_177.out _; (with_reducible repeat (first | refine blk_drewN ?_ _ | refine blk_drew ?_ | refine blk_alloc ?_ _)); refine blk_far ?_ NB172_177.out _; (with_reducible repeat (first | refine blk_drewN ?_ _ | refine blk_drew ?_ | refine blk_alloc ?_ _)); refine blk_far ?_ NB172_177.out _; (with_reducible repeat (first | refine blk_drewN ?_ _ | refine blk_drew ?_ | refine blk_alloc ?_ _)); refine blk_far ?_ NB172_177.out _; (with_reducible repeat (first | refine blk_drewN ?_ _ | refine blk_drew ?_ | refine blk_alloc ?_ _)); exact BK172.out⟩, ⟨by (with_reducible repeat (first | refine blk_drewN ?_ _ | refine blk_drew ?_ | refine blk_alloc ?_ _)); refine blk_far ?_ NB173_177.out _; (with_reducible repeat (first | refine blk_drewN ?_ _ | refine blk_drew ?_ | refine blk_alloc ?_ _)); refine blk_far ?_ NB173_177.out _; (with_reducible repeat (first | refine blk_drewN ?_ _ | refine blk_drew ?_ | refine blk_alloc ?_ _)); refine blk_far ?_ NB173_177.out _; (with_reducible repeat (first | refine blk_drewN ?_ _ | refine blk_drew ?_ | refine blk_alloc ?_ _)); refine blk_far ?_ NB173_177.out _; (with_reducible repeat (first | refine blk_drewN ?_ _ | refine blk_drew ?_ | refine blk_alloc ?_ _)); refine blk_far ?_ NB173_177.out _; (with_reducible repeat (first | refine blk_drewN ?_ _ | refine blk_drew ?_ | refine blk_alloc ?_ _)); refine blk_far ?_ NB173_177.out _; (with_reducible repeat (first | refine blk_drewN ?_ _ | refine blk_drew ?_ | refine blk_alloc ?_ _)); exact BK173.out⟩, ⟨by (with_reducible repeat (first | refine blk_drewN ?_ _ | refine blk_drew ?_ | refine blk_alloc ?_ _)); refine blk_put (cs := #[.int .i64 0, .string (strOfNums ((l1.take ((wrap64 (t175 + (wrap64 (t174)))) : Int).toNat).drop ((ji30) : Int).toNat)), .int .i64 0]) ?_ 2 _ rfl; (with_reducible repeat (first | refine blk_drewN ?_ _ | refine blk_drew ?_ | refine blk_alloc ?_ _)); refine blk_put (cs := #[.int .i64 0, .string (⟨#[]⟩ : ByteArray), .int .i64 0]) ?_ 1 _ rfl; (with_reducible repeat (first | refine blk_drewN ?_ _ | refine blk_drew ?_ | refine blk_alloc ?_ _)); refine blk_put (cs := #[.int .i64 t176, .string (⟨#[]⟩ : ByteArray), .int .i64 0]) ?_ 0 _ rfl; (with_reducible repeat (first | refine blk_drewN ?_ _ | refine blk_drew ?_ | refine blk_alloc ?_ _)); refine blk_put (cs := #[.int .i64 t176, .string (⟨#[]⟩ : ByteArray), .int .i64 0]) ?_ 2 _ rfl; (with_reducible repeat (first | refine blk_drewN ?_ _ | refine blk_drew ?_ | refine blk_alloc ?_ _)); refine blk_put (cs := #[.int .i64 t176, .string (⟨#[]⟩ : ByteArray), .int .i64 0]) ?_ 1 _ rfl; (with_reducible repeat (first | refine blk_drewN ?_ _ | refine blk_drew ?_ | refine blk_alloc ?_ _)); refine blk_put (cs := #[.int .i64 0, .string (⟨#[]⟩ : ByteArray), .int .i64 0]) ?_ 0 _ rfl; (with_reducible repeat (first | refine blk_drewN ?_ _ | refine blk_drew ?_ | refine blk_alloc ?_ _)); exact BK177.out⟩, ⟨by repeat (first | (with_reducible first | exact HB.out | apply below_alloc | apply pw_below_drewN | apply below_drew1 | refine below_set ?_ GE172.out | refine below_set ?_ GE173.out | refine below_set ?_ GE177.out) | exact HB.out)⟩⟩
                · rw [if_neg c33] at H
                  exact absurd H (by simp)
              · rw [if_neg c32] at H
                exact absurd H (by simp)
            · rw [if_neg c31] at H
              exact absurd H (by simp)
      · rw [if_neg c21] at H
        have c21b0 : (a0_1 == 4) = false := beq_eq_false_iff_ne.mpr c21
        have c21b1 : (a0_1 != 4) = true := bne_iff_ne.mpr c21
        (first | rw [c21b0] | (simp only [i64_w, i32_w]; rw [c21b0]) | skip)
        have H' := Aside0.mk H
        clear H
        go_wp2
        go_meet
        case rel => exact ⟨_, (t175), (0), ((⟨#[]⟩ : ByteArray)), (0), (t176), ((⟨#[]⟩ : ByteArray)), (0), (by first | rfl | (simp; done) | (simp [*]; done)), H', ⟨by first | omega | exact Nat.le_refl _⟩, ⟨by (with_reducible repeat (first | refine blk_drewN ?_ _ | refine blk_drew ?_ | refine blk_alloc ?_ _)); refine blk_far ?_ NB172_177.out _; (with_reducible repeat (first | refine blk_drewN ?_ _ | refine blk_drew ?_ | refine blk_alloc ?_ _)); refine blk_far ?_ NB172_177.out _; (with_reducible repeat (first | refine blk_drewN ?_ _ | refine blk_drew ?_ | refine blk_alloc ?_ _)); refine blk_far ?_ NB172_177.out _; (with_reducible repeat (first | refine blk_drewN ?_ _ | refine blk_drew ?_ | refine blk_alloc ?_ _)); exact BK172.out⟩, ⟨by (with_reducible repeat (first | refine blk_drewN ?_ _ | refine blk_drew ?_ | refine blk_alloc ?_ _)); refine blk_far ?_ NB173_177.out _; (with_reducible repeat (first | refine blk_drewN ?_ _ | refine blk_drew ?_ | refine blk_alloc ?_ _)); refine blk_far ?_ NB173_177.out _; (with_reducible repeat (first | refine blk_drewN ?_ _ | refine blk_drew ?_ | refine blk_alloc ?_ _)); refine blk_far ?_ NB173_177.out _; (with_reducible repeat (first | refine blk_drewN ?_ _ | refine blk_drew ?_ | refine blk_alloc ?_ _)); exact BK173.out⟩, ⟨by (with_reducible repeat (first | refine blk_drewN ?_ _ | refine blk_drew ?_ | refine blk_alloc ?_ _)); refine blk_put (cs := #[.int .i64 t176, .string (⟨#[]⟩ : ByteArray), .int .i64 0]) ?_ 2 _ rfl; (with_reducible repeat (first | refine blk_drewN ?_ _ | refine blk_drew ?_ | refine blk_alloc ?_ _)); refine blk_put (cs := #[.int .i64 t176, .string (⟨#[]⟩ : ByteArray), .int .i64 0]) ?_ 1 _ rfl; (with_reducible repeat (first | refine blk_drewN ?_ _ | refine blk_drew ?_ | refine blk_alloc ?_ _)); refine blk_put (cs := #[.int .i64 0, .string (⟨#[]⟩ : ByteArray), .int .i64 0]) ?_ 0 _ rfl; (with_reducible repeat (first | refine blk_drewN ?_ _ | refine blk_drew ?_ | refine blk_alloc ?_ _)); exact BK177.out⟩, ⟨by repeat (first | (with_reducible first | exact HB.out | apply below_alloc | apply pw_below_drewN | apply below_drew1 | refine below_set ?_ GE172.out | refine below_set ?_ GE173.out | refine below_set ?_ GE177.out) | exact HB.out)⟩⟩
    case rest =>
      clear HC11
      try clear c1
      try clear c2
      try clear p2
      try clear c3
      try clear hcv3
      try clear c4
      try clear c4b0
      try clear c4b1
      try clear p6
      try clear c8
      try clear c14
      try clear c16
      try clear c17
      try clear c19
      try clear c21
      try clear c21b0
      try clear c21b1
      try clear c22
      try clear c22b0
      try clear c23
      try clear c24
      try clear c26
      try clear c26b0
      try clear c27
      try clear c28
      try clear c29
      try clear c31
      try clear c31b0
      try clear c31b1
      try clear c32
      try clear c32b0
      try clear c32b1
      try clear c33
      try clear c33b0
      try clear c33b1
      try clear hcv35
      try clear c36
      try clear c37
      try clear hcz18_0
      try clear hcz18_1
      try clear hcz18_2
      try clear hcz20_0
      try clear hcz20_1
      try clear hcz20_2
      try clear hcz25_0
      try clear hcz25_1
      try clear hcz25_2
      try clear hcz29_0
      try clear hcz29_1
      try clear hcz29_2
      try clear hcz38_0
      try clear hcz38_1
      try clear hcz38_2
      try clear hcz9_0
      try clear hcz9_1
      try clear hcz9_2
      try clear hfz18_0
      try clear hfz18_1
      try clear hfz18_2
      try clear hfz20_0
      try clear hfz20_1
      try clear hfz20_2
      try clear hfz25_0
      try clear hfz25_1
      try clear hfz25_2
      try clear hfz29_0
      try clear hfz29_1
      try clear hfz29_2
      try clear hfz38_0
      try clear hfz38_1
      try clear hfz38_2
      try clear hfz9_0
      try clear hfz9_1
      try clear hfz9_2
      obtain ⟨kq, x8_10, x174000_10, x174001_10, x174002_10, x178000_10, x178001_10, x178002_10, rfl, HA, HJ10, BK172, BK173, BK177, HB⟩ := hcut
      cases kq with
      | zero => exact absurd HA.out (by simp [foliateref07_Get.j0])
      | succ kj10 =>
        have H := HA.out
        clear HA
        simp only [foliateref07_Get.j0] at H
        by_cases c39 : a0_1 = 5
        · rw [if_pos c39] at H
          have c39b0 : (a0_1 == 5) = true := beq_iff_eq.mpr c39
          have c39b1 : (a0_1 != 5) = false := bne_eq_false_iff_eq.mpr c39
          clear c39
          by_cases c40 : t174 > 1073741825
          · rw [if_pos c40] at H
            have c40b0 : decide (1073741825 < t174) = true := decide_eq_true c40
            clear c40
            simp only [Option.some.injEq, Prod.mk.injEq] at H
            obtain ⟨rfl, rfl, rfl, rfl, rfl⟩ := H
            have hnb41 := NB172_173.out
            have hnc41 := NB173_172.out
            have hnb42 := NB172_177.out
            have hnc42 := NB177_172.out
            have hcz43_0 : wc.cell? ⟨gb172, 0, none⟩ = some (.string a0_0) := (blk_cell BK172.out 0).trans rfl
            have hcz43_1 : wc.cell? ⟨gb172, 1, none⟩ = some (.int .i64 a0_1) := (blk_cell BK172.out 1).trans rfl
            have hcz43_2 : wc.cell? ⟨gb172, 2, none⟩ = some (.string a0_2) := (blk_cell BK172.out 2).trans rfl
            have hfz43_0 := blk_frozen BK172.out 0
            have hfz43_1 := blk_frozen BK172.out 1
            have hfz43_2 := blk_frozen BK172.out 2
            have hnb44 := NB173_177.out
            have hnc44 := NB177_173.out
            have hcz45_0 : wc.cell? ⟨gb173, 0, none⟩ = some (.int .i64 x174000_10) := (blk_cell BK173.out 0).trans rfl
            have hcz45_1 : wc.cell? ⟨gb173, 1, none⟩ = some (.string x174001_10) := (blk_cell BK173.out 1).trans rfl
            have hcz45_2 : wc.cell? ⟨gb173, 2, none⟩ = some (.int .i64 x174002_10) := (blk_cell BK173.out 2).trans rfl
            have hfz45_0 := blk_frozen BK173.out 0
            have hfz45_1 := blk_frozen BK173.out 1
            have hfz45_2 := blk_frozen BK173.out 2
            go_wp2
            refine bodyPost_ret (results_ctt rfl _ _ gb173 25 #[.int .i64 0, .string (⟨#[]⟩ : ByteArray), .int .i64 0] (0, 0) _ rfl (by (with_reducible repeat (first | refine blk_drewN ?_ _ | refine blk_drew ?_ | refine blk_alloc ?_ _)); refine blk_put (cs := #[.int .i64 0, .string (⟨#[]⟩ : ByteArray), .int .i64 x174002_10]) ?_ 2 _ rfl; (with_reducible repeat (first | refine blk_drewN ?_ _ | refine blk_drew ?_ | refine blk_alloc ?_ _)); refine blk_put (cs := #[.int .i64 0, .string x174001_10, .int .i64 x174002_10]) ?_ 1 _ rfl; (with_reducible repeat (first | refine blk_drewN ?_ _ | refine blk_drew ?_ | refine blk_alloc ?_ _)); refine blk_put (cs := #[.int .i64 x174000_10, .string x174001_10, .int .i64 x174002_10]) ?_ 0 _ rfl; (with_reducible repeat (first | refine blk_drewN ?_ _ | refine blk_drew ?_ | refine blk_alloc ?_ _)); exact BK173.out) Try.underlying25 rfl (by kernel_rfl)) rfl ?_
            exact ⟨by first | rfl | (simp [errW_none, errW_some] <;> rfl) | (simp [*, errW_none, errW_some] <;> rfl), by repeat (first | (with_reducible first | exact HB.out | apply below_alloc | apply pw_below_drewN | apply below_drew1 | refine below_set ?_ GE172.out | refine below_set ?_ GE173.out | refine below_set ?_ GE177.out) | exact HB.out)⟩
          · rw [if_neg c40] at H
            have c40b0 : decide (1073741825 < t174) = false := decide_eq_false c40
            clear c40
            replace H := Option.bind_eq_some_iff.mp H
            obtain ⟨t179, A460, H⟩ := H
            replace H : (if t179 = true then (some (0, (⟨#[]⟩ : ByteArray), wrap64 ((wrap64 (t174)) - 1), x8_10, true)) else (some (0, (⟨#[]⟩ : ByteArray), 0, 0, false))) = some (r1, r2, r3, r4, r5) := H
            have A46 := Aside0.mk A460
            clear A460
            by_cases c47 : t179 = true
            · subst c47
              have H1 : (some (0, (⟨#[]⟩ : ByteArray), wrap64 ((wrap64 (t174)) - 1), x8_10, true)) = some (r1, r2, r3, r4, r5) := by rw [if_pos rfl] at H; exact H
              clear H
              have H := H1
              clear H1
              simp only [Option.some.injEq, Prod.mk.injEq] at H
              obtain ⟨rfl, rfl, rfl, rfl, rfl⟩ := H
              have hnb48 := NB172_173.out
              have hnc48 := NB173_172.out
              have hnb49 := NB172_177.out
              have hnc49 := NB177_172.out
              have hcz50_0 : wc.cell? ⟨gb172, 0, none⟩ = some (.string a0_0) := (blk_cell BK172.out 0).trans rfl
              have hcz50_1 : wc.cell? ⟨gb172, 1, none⟩ = some (.int .i64 a0_1) := (blk_cell BK172.out 1).trans rfl
              have hcz50_2 : wc.cell? ⟨gb172, 2, none⟩ = some (.string a0_2) := (blk_cell BK172.out 2).trans rfl
              have hfz50_0 := blk_frozen BK172.out 0
              have hfz50_1 := blk_frozen BK172.out 1
              have hfz50_2 := blk_frozen BK172.out 2
              have hnb51 := NB177_173.out
              have hnc51 := NB173_177.out
              have hcz52_0 : wc.cell? ⟨gb177, 0, none⟩ = some (.int .i64 x178000_10) := (blk_cell BK177.out 0).trans rfl
              have hcz52_1 : wc.cell? ⟨gb177, 1, none⟩ = some (.string x178001_10) := (blk_cell BK177.out 1).trans rfl
              have hcz52_2 : wc.cell? ⟨gb177, 2, none⟩ = some (.int .i64 x178002_10) := (blk_cell BK177.out 2).trans rfl
              have hfz52_0 := blk_frozen BK177.out 0
              have hfz52_1 := blk_frozen BK177.out 1
              have hfz52_2 := blk_frozen BK177.out 2
              go_wp2_with (first | ((with_reducible refine gate_callee (f := 15) rfl ?_); refine goesL_ (some 62) rfl rfl Try.func15 (by kernel_rfl) rfl #[.agg #[.string a0_0, .int .i64 a0_1, .string a0_2], .agg #[.int .i64 0, .string (⟨#[]⟩ : ByteArray), .int .i64 (wrap64 ((wrap64 (t174)) - 1))]] rfl (by (try simp only [List.map_toArray, List.map_cons, List.map_nil]); first | done | rfl | (simp only [List.length_drop, List.length_take]; rfl)) ?_; (with_reducible refine (foliateref07_Fits.calls kj10 a0_0 a0_1 a0_2 0 (⟨#[]⟩ : ByteArray) (wrap64 ((wrap64 (t174)) - 1)) true _ A46.out).mono ?_); rintro e w53 ⟨rfl, hb⟩; refine ⟨_, rfl, ?_⟩; have n0_ := Aside0.mk (blk_below (g := gb172) (o := .cells #[.string a0_0, .int .i64 a0_1, .string a0_2] 23 (0, 0)) (by (with_reducible repeat (first | refine blk_drewN ?_ _ | refine blk_drew ?_ | refine blk_alloc ?_ _)); refine blk_far ?_ NB172_177.out _; (with_reducible repeat (first | refine blk_drewN ?_ _ | refine blk_drew ?_ | refine blk_alloc ?_ _)); refine blk_far ?_ NB172_177.out _; (with_reducible repeat (first | refine blk_drewN ?_ _ | refine blk_drew ?_ | refine blk_alloc ?_ _)); refine blk_far ?_ NB172_177.out _; (with_reducible repeat (first | refine blk_drewN ?_ _ | refine blk_drew ?_ | refine blk_alloc ?_ _)); exact BK172.out) hb); have n1_ := Aside0.mk (blk_below (g := gb173) (o := .cells #[.int .i64 x174000_10, .string x174001_10, .int .i64 x174002_10] 25 (0, 0)) (by (with_reducible repeat (first | refine blk_drewN ?_ _ | refine blk_drew ?_ | refine blk_alloc ?_ _)); refine blk_far ?_ NB173_177.out _; (with_reducible repeat (first | refine blk_drewN ?_ _ | refine blk_drew ?_ | refine blk_alloc ?_ _)); refine blk_far ?_ NB173_177.out _; (with_reducible repeat (first | refine blk_drewN ?_ _ | refine blk_drew ?_ | refine blk_alloc ?_ _)); refine blk_far ?_ NB173_177.out _; (with_reducible repeat (first | refine blk_drewN ?_ _ | refine blk_drew ?_ | refine blk_alloc ?_ _)); exact BK173.out) hb); have n2_ := Aside0.mk (blk_below (g := gb177) (o := .cells #[.int .i64 0, .string (⟨#[]⟩ : ByteArray), .int .i64 (wrap64 ((wrap64 (t174)) - 1))] 25 (0, 0)) (by (with_reducible repeat (first | refine blk_drewN ?_ _ | refine blk_drew ?_ | refine blk_alloc ?_ _)); refine blk_put (cs := #[.int .i64 0, .string (⟨#[]⟩ : ByteArray), .int .i64 x178002_10]) ?_ 2 _ rfl; (with_reducible repeat (first | refine blk_drewN ?_ _ | refine blk_drew ?_ | refine blk_alloc ?_ _)); refine blk_put (cs := #[.int .i64 0, .string x178001_10, .int .i64 x178002_10]) ?_ 1 _ rfl; (with_reducible repeat (first | refine blk_drewN ?_ _ | refine blk_drew ?_ | refine blk_alloc ?_ _)); refine blk_put (cs := #[.int .i64 x178000_10, .string x178001_10, .int .i64 x178002_10]) ?_ 0 _ rfl; (with_reducible repeat (first | refine blk_drewN ?_ _ | refine blk_drew ?_ | refine blk_alloc ?_ _)); exact BK177.out) hb); have n3_ := Aside0.mk (below_step (by repeat (first | (with_reducible first | exact HB.out | apply below_alloc | apply pw_below_drewN | apply below_drew1 | refine below_set ?_ GE172.out | refine below_set ?_ GE173.out | refine below_set ?_ GE177.out) | exact HB.out)) hb); clear BK172; clear BK173; clear BK177; clear HB; have BK172 := n0_; have BK173 := n1_; have BK177 := n2_; have HB := n3_; clear n0_ n1_ n2_ n3_; (try clear hb); (try clear hb2); (try clear hk); (try clear hi); have hcz54_0 : w53.cell? ⟨gb177, 0, none⟩ = some (.int .i64 0) := (blk_cell BK177.out 0).trans rfl; have hcz54_1 : w53.cell? ⟨gb177, 1, none⟩ = some (.string (⟨#[]⟩ : ByteArray)) := (blk_cell BK177.out 1).trans rfl; have hcz54_2 : w53.cell? ⟨gb177, 2, none⟩ = some (.int .i64 (wrap64 ((wrap64 (t174)) - 1))) := (blk_cell BK177.out 2).trans rfl; have hfz54_0 := blk_frozen BK177.out 0; have hfz54_1 := blk_frozen BK177.out 1; have hfz54_2 := blk_frozen BK177.out 2; have hcz55_0 : w53.cell? ⟨gb173, 0, none⟩ = some (.int .i64 x174000_10) := (blk_cell BK173.out 0).trans rfl; have hcz55_1 : w53.cell? ⟨gb173, 1, none⟩ = some (.string x174001_10) := (blk_cell BK173.out 1).trans rfl; have hcz55_2 : w53.cell? ⟨gb173, 2, none⟩ = some (.int .i64 x174002_10) := (blk_cell BK173.out 2).trans rfl; have hfz55_0 := blk_frozen BK173.out 0; have hfz55_1 := blk_frozen BK173.out 1; have hfz55_2 := blk_frozen BK173.out 2))
              refine bodyPost_ret (results_ctt rfl _ _ gb173 25 #[.int .i64 0, .string (⟨#[]⟩ : ByteArray), .int .i64 (wrap64 ((wrap64 (t174)) - 1))] (0, 0) _ rfl (by (with_reducible repeat (first | refine blk_drewN ?_ _ | refine blk_drew ?_ | refine blk_alloc ?_ _)); refine blk_put (cs := #[.int .i64 0, .string (⟨#[]⟩ : ByteArray), .int .i64 x174002_10]) ?_ 2 _ rfl; (with_reducible repeat (first | refine blk_drewN ?_ _ | refine blk_drew ?_ | refine blk_alloc ?_ _)); refine blk_put (cs := #[.int .i64 0, .string x174001_10, .int .i64 x174002_10]) ?_ 1 _ rfl; (with_reducible repeat (first | refine blk_drewN ?_ _ | refine blk_drew ?_ | refine blk_alloc ?_ _)); refine blk_put (cs := #[.int .i64 x174000_10, .string x174001_10, .int .i64 x174002_10]) ?_ 0 _ rfl; (with_reducible repeat (first | refine blk_drewN ?_ _ | refine blk_drew ?_ | refine blk_alloc ?_ _)); exact BK173.out) Try.underlying25 rfl (by kernel_rfl)) rfl ?_
              exact ⟨by first | rfl | (simp [errW_none, errW_some] <;> rfl) | (simp [*, errW_none, errW_some] <;> rfl), by repeat (first | (with_reducible first | exact HB.out | apply below_alloc | apply pw_below_drewN | apply below_drew1 | refine below_set ?_ GE172.out | refine below_set ?_ GE173.out | refine below_set ?_ GE177.out) | exact HB.out)⟩
            · replace c47 := Bool.eq_false_iff.mpr c47
              subst c47
              have H1 : (some (0, (⟨#[]⟩ : ByteArray), 0, 0, false)) = some (r1, r2, r3, r4, r5) := by rw [if_neg (show ¬ (false = true) by decide)] at H; exact H
              clear H
              have H := H1
              clear H1
              simp only [Option.some.injEq, Prod.mk.injEq] at H
              obtain ⟨rfl, rfl, rfl, rfl, rfl⟩ := H
              have hnb56 := NB172_173.out
              have hnc56 := NB173_172.out
              have hnb57 := NB172_177.out
              have hnc57 := NB177_172.out
              have hcz58_0 : wc.cell? ⟨gb172, 0, none⟩ = some (.string a0_0) := (blk_cell BK172.out 0).trans rfl
              have hcz58_1 : wc.cell? ⟨gb172, 1, none⟩ = some (.int .i64 a0_1) := (blk_cell BK172.out 1).trans rfl
              have hcz58_2 : wc.cell? ⟨gb172, 2, none⟩ = some (.string a0_2) := (blk_cell BK172.out 2).trans rfl
              have hfz58_0 := blk_frozen BK172.out 0
              have hfz58_1 := blk_frozen BK172.out 1
              have hfz58_2 := blk_frozen BK172.out 2
              have hnb59 := NB177_173.out
              have hnc59 := NB173_177.out
              have hcz60_0 : wc.cell? ⟨gb177, 0, none⟩ = some (.int .i64 x178000_10) := (blk_cell BK177.out 0).trans rfl
              have hcz60_1 : wc.cell? ⟨gb177, 1, none⟩ = some (.string x178001_10) := (blk_cell BK177.out 1).trans rfl
              have hcz60_2 : wc.cell? ⟨gb177, 2, none⟩ = some (.int .i64 x178002_10) := (blk_cell BK177.out 2).trans rfl
              have hfz60_0 := blk_frozen BK177.out 0
              have hfz60_1 := blk_frozen BK177.out 1
              have hfz60_2 := blk_frozen BK177.out 2
              go_wp2_with (first | ((with_reducible refine gate_callee (f := 15) rfl ?_); refine goesL_ (some 62) rfl rfl Try.func15 (by kernel_rfl) rfl #[.agg #[.string a0_0, .int .i64 a0_1, .string a0_2], .agg #[.int .i64 0, .string (⟨#[]⟩ : ByteArray), .int .i64 (wrap64 ((wrap64 (t174)) - 1))]] rfl (by (try simp only [List.map_toArray, List.map_cons, List.map_nil]); first | done | rfl | (simp only [List.length_drop, List.length_take]; rfl)) ?_; (with_reducible refine (foliateref07_Fits.calls kj10 a0_0 a0_1 a0_2 0 (⟨#[]⟩ : ByteArray) (wrap64 ((wrap64 (t174)) - 1)) false _ A46.out).mono ?_); rintro e w61 ⟨rfl, hb⟩; refine ⟨_, rfl, ?_⟩; have n0_ := Aside0.mk (blk_below (g := gb172) (o := .cells #[.string a0_0, .int .i64 a0_1, .string a0_2] 23 (0, 0)) (by (with_reducible repeat (first | refine blk_drewN ?_ _ | refine blk_drew ?_ | refine blk_alloc ?_ _)); refine blk_far ?_ NB172_177.out _; (with_reducible repeat (first | refine blk_drewN ?_ _ | refine blk_drew ?_ | refine blk_alloc ?_ _)); refine blk_far ?_ NB172_177.out _; (with_reducible repeat (first | refine blk_drewN ?_ _ | refine blk_drew ?_ | refine blk_alloc ?_ _)); refine blk_far ?_ NB172_177.out _; (with_reducible repeat (first | refine blk_drewN ?_ _ | refine blk_drew ?_ | refine blk_alloc ?_ _)); exact BK172.out) hb); have n1_ := Aside0.mk (blk_below (g := gb173) (o := .cells #[.int .i64 x174000_10, .string x174001_10, .int .i64 x174002_10] 25 (0, 0)) (by (with_reducible repeat (first | refine blk_drewN ?_ _ | refine blk_drew ?_ | refine blk_alloc ?_ _)); refine blk_far ?_ NB173_177.out _; (with_reducible repeat (first | refine blk_drewN ?_ _ | refine blk_drew ?_ | refine blk_alloc ?_ _)); refine blk_far ?_ NB173_177.out _; (with_reducible repeat (first | refine blk_drewN ?_ _ | refine blk_drew ?_ | refine blk_alloc ?_ _)); refine blk_far ?_ NB173_177.out _; (with_reducible repeat (first | refine blk_drewN ?_ _ | refine blk_drew ?_ | refine blk_alloc ?_ _)); exact BK173.out) hb); have n2_ := Aside0.mk (blk_below (g := gb177) (o := .cells #[.int .i64 0, .string (⟨#[]⟩ : ByteArray), .int .i64 (wrap64 ((wrap64 (t174)) - 1))] 25 (0, 0)) (by (with_reducible repeat (first | refine blk_drewN ?_ _ | refine blk_drew ?_ | refine blk_alloc ?_ _)); refine blk_put (cs := #[.int .i64 0, .string (⟨#[]⟩ : ByteArray), .int .i64 x178002_10]) ?_ 2 _ rfl; (with_reducible repeat (first | refine blk_drewN ?_ _ | refine blk_drew ?_ | refine blk_alloc ?_ _)); refine blk_put (cs := #[.int .i64 0, .string x178001_10, .int .i64 x178002_10]) ?_ 1 _ rfl; (with_reducible repeat (first | refine blk_drewN ?_ _ | refine blk_drew ?_ | refine blk_alloc ?_ _)); refine blk_put (cs := #[.int .i64 x178000_10, .string x178001_10, .int .i64 x178002_10]) ?_ 0 _ rfl; (with_reducible repeat (first | refine blk_drewN ?_ _ | refine blk_drew ?_ | refine blk_alloc ?_ _)); exact BK177.out) hb); have n3_ := Aside0.mk (below_step (by repeat (first | (with_reducible first | exact HB.out | apply below_alloc | apply pw_below_drewN | apply below_drew1 | refine below_set ?_ GE172.out | refine below_set ?_ GE173.out | refine below_set ?_ GE177.out) | exact HB.out)) hb); clear BK172; clear BK173; clear BK177; clear HB; have BK172 := n0_; have BK173 := n1_; have BK177 := n2_; have HB := n3_; clear n0_ n1_ n2_ n3_; (try clear hb); (try clear hb2); (try clear hk); (try clear hi); have hcz62_0 : w61.cell? ⟨gb173, 0, none⟩ = some (.int .i64 x174000_10) := (blk_cell BK173.out 0).trans rfl; have hcz62_1 : w61.cell? ⟨gb173, 1, none⟩ = some (.string x174001_10) := (blk_cell BK173.out 1).trans rfl; have hcz62_2 : w61.cell? ⟨gb173, 2, none⟩ = some (.int .i64 x174002_10) := (blk_cell BK173.out 2).trans rfl; have hfz62_0 := blk_frozen BK173.out 0; have hfz62_1 := blk_frozen BK173.out 1; have hfz62_2 := blk_frozen BK173.out 2))
              refine bodyPost_ret (results_ctt rfl _ _ gb173 25 #[.int .i64 0, .string (⟨#[]⟩ : ByteArray), .int .i64 0] (0, 0) _ rfl (by (with_reducible repeat (first | refine blk_drewN ?_ _ | refine blk_drew ?_ | refine blk_alloc ?_ _)); refine blk_put (cs := #[.int .i64 0, .string (⟨#[]⟩ : ByteArray), .int .i64 x174002_10]) ?_ 2 _ rfl; (with_reducible repeat (first | refine blk_drewN ?_ _ | refine blk_drew ?_ | refine blk_alloc ?_ _)); refine blk_put (cs := #[.int .i64 0, .string x174001_10, .int .i64 x174002_10]) ?_ 1 _ rfl; (with_reducible repeat (first | refine blk_drewN ?_ _ | refine blk_drew ?_ | refine blk_alloc ?_ _)); refine blk_put (cs := #[.int .i64 x174000_10, .string x174001_10, .int .i64 x174002_10]) ?_ 0 _ rfl; (with_reducible repeat (first | refine blk_drewN ?_ _ | refine blk_drew ?_ | refine blk_alloc ?_ _)); exact BK173.out) Try.underlying25 rfl (by kernel_rfl)) rfl ?_
              exact ⟨by first | rfl | (simp [errW_none, errW_some] <;> rfl) | (simp [*, errW_none, errW_some] <;> rfl), by repeat (first | (with_reducible first | exact HB.out | apply below_alloc | apply pw_below_drewN | apply below_drew1 | refine below_set ?_ GE172.out | refine below_set ?_ GE173.out | refine below_set ?_ GE177.out) | exact HB.out)⟩
        · rw [if_neg c39] at H
          have c39b0 : (a0_1 == 5) = false := beq_eq_false_iff_ne.mpr c39
          have c39b1 : (a0_1 != 5) = true := bne_iff_ne.mpr c39
          replace H := Option.bind_eq_some_iff.mp H
          obtain ⟨t180, A630, H⟩ := H
          replace H : (if t180 = true then (some (x178000_10, x178001_10, x178002_10, x8_10, true)) else (some (0, (⟨#[]⟩ : ByteArray), 0, 0, false))) = some (r1, r2, r3, r4, r5) := H
          have A63 := Aside0.mk A630
          clear A630
          by_cases c64 : t180 = true
          · subst c64
            have H1 : (some (x178000_10, x178001_10, x178002_10, x8_10, true)) = some (r1, r2, r3, r4, r5) := by rw [if_pos rfl] at H; exact H
            clear H
            have H := H1
            clear H1
            simp only [Option.some.injEq, Prod.mk.injEq] at H
            obtain ⟨rfl, rfl, rfl, rfl, rfl⟩ := H
            have hnb65 := NB172_173.out
            have hnc65 := NB173_172.out
            have hnb66 := NB172_177.out
            have hnc66 := NB177_172.out
            have hcz67_0 : wc.cell? ⟨gb172, 0, none⟩ = some (.string a0_0) := (blk_cell BK172.out 0).trans rfl
            have hcz67_1 : wc.cell? ⟨gb172, 1, none⟩ = some (.int .i64 a0_1) := (blk_cell BK172.out 1).trans rfl
            have hcz67_2 : wc.cell? ⟨gb172, 2, none⟩ = some (.string a0_2) := (blk_cell BK172.out 2).trans rfl
            have hfz67_0 := blk_frozen BK172.out 0
            have hfz67_1 := blk_frozen BK172.out 1
            have hfz67_2 := blk_frozen BK172.out 2
            have hnb68 := NB177_173.out
            have hnc68 := NB173_177.out
            have hcz69_0 : wc.cell? ⟨gb177, 0, none⟩ = some (.int .i64 x178000_10) := (blk_cell BK177.out 0).trans rfl
            have hcz69_1 : wc.cell? ⟨gb177, 1, none⟩ = some (.string x178001_10) := (blk_cell BK177.out 1).trans rfl
            have hcz69_2 : wc.cell? ⟨gb177, 2, none⟩ = some (.int .i64 x178002_10) := (blk_cell BK177.out 2).trans rfl
            have hfz69_0 := blk_frozen BK177.out 0
            have hfz69_1 := blk_frozen BK177.out 1
            have hfz69_2 := blk_frozen BK177.out 2
            go_wp2_with (first | ((with_reducible refine gate_callee (f := 15) rfl ?_); refine goesL_ (some 62) rfl rfl Try.func15 (by kernel_rfl) rfl #[.agg #[.string a0_0, .int .i64 a0_1, .string a0_2], .agg #[.int .i64 x178000_10, .string x178001_10, .int .i64 x178002_10]] rfl (by (try simp only [List.map_toArray, List.map_cons, List.map_nil]); first | done | rfl | (simp only [List.length_drop, List.length_take]; rfl)) ?_; (with_reducible refine (foliateref07_Fits.calls kj10 a0_0 a0_1 a0_2 x178000_10 x178001_10 x178002_10 true _ A63.out).mono ?_); rintro e w70 ⟨rfl, hb⟩; refine ⟨_, rfl, ?_⟩; have n0_ := Aside0.mk (blk_below (g := gb172) (o := .cells #[.string a0_0, .int .i64 a0_1, .string a0_2] 23 (0, 0)) (by (with_reducible repeat (first | refine blk_drewN ?_ _ | refine blk_drew ?_ | refine blk_alloc ?_ _)); exact BK172.out) hb); have n1_ := Aside0.mk (blk_below (g := gb173) (o := .cells #[.int .i64 x174000_10, .string x174001_10, .int .i64 x174002_10] 25 (0, 0)) (by (with_reducible repeat (first | refine blk_drewN ?_ _ | refine blk_drew ?_ | refine blk_alloc ?_ _)); exact BK173.out) hb); have n2_ := Aside0.mk (blk_below (g := gb177) (o := .cells #[.int .i64 x178000_10, .string x178001_10, .int .i64 x178002_10] 25 (0, 0)) (by (with_reducible repeat (first | refine blk_drewN ?_ _ | refine blk_drew ?_ | refine blk_alloc ?_ _)); exact BK177.out) hb); have n3_ := Aside0.mk (below_step (by repeat (first | (with_reducible first | exact HB.out | apply below_alloc | apply pw_below_drewN | apply below_drew1 | refine below_set ?_ GE172.out | refine below_set ?_ GE173.out | refine below_set ?_ GE177.out) | exact HB.out)) hb); clear BK172; clear BK173; clear BK177; clear HB; have BK172 := n0_; have BK173 := n1_; have BK177 := n2_; have HB := n3_; clear n0_ n1_ n2_ n3_; (try clear hb); (try clear hb2); (try clear hk); (try clear hi); have hcz71_0 : w70.cell? ⟨gb177, 0, none⟩ = some (.int .i64 x178000_10) := (blk_cell BK177.out 0).trans rfl; have hcz71_1 : w70.cell? ⟨gb177, 1, none⟩ = some (.string x178001_10) := (blk_cell BK177.out 1).trans rfl; have hcz71_2 : w70.cell? ⟨gb177, 2, none⟩ = some (.int .i64 x178002_10) := (blk_cell BK177.out 2).trans rfl; have hfz71_0 := blk_frozen BK177.out 0; have hfz71_1 := blk_frozen BK177.out 1; have hfz71_2 := blk_frozen BK177.out 2; have hcz72_0 : w70.cell? ⟨gb173, 0, none⟩ = some (.int .i64 x174000_10) := (blk_cell BK173.out 0).trans rfl; have hcz72_1 : w70.cell? ⟨gb173, 1, none⟩ = some (.string x174001_10) := (blk_cell BK173.out 1).trans rfl; have hcz72_2 : w70.cell? ⟨gb173, 2, none⟩ = some (.int .i64 x174002_10) := (blk_cell BK173.out 2).trans rfl; have hfz72_0 := blk_frozen BK173.out 0; have hfz72_1 := blk_frozen BK173.out 1; have hfz72_2 := blk_frozen BK173.out 2))
            refine bodyPost_ret (results_ctt rfl _ _ gb173 25 #[.int .i64 x178000_10, .string x178001_10, .int .i64 x178002_10] (0, 0) _ rfl (by (with_reducible repeat (first | refine blk_drewN ?_ _ | refine blk_drew ?_ | refine blk_alloc ?_ _)); refine blk_put (cs := #[.int .i64 x178000_10, .string x178001_10, .int .i64 x174002_10]) ?_ 2 _ rfl; (with_reducible repeat (first | refine blk_drewN ?_ _ | refine blk_drew ?_ | refine blk_alloc ?_ _)); refine blk_put (cs := #[.int .i64 x178000_10, .string x174001_10, .int .i64 x174002_10]) ?_ 1 _ rfl; (with_reducible repeat (first | refine blk_drewN ?_ _ | refine blk_drew ?_ | refine blk_alloc ?_ _)); refine blk_put (cs := #[.int .i64 x174000_10, .string x174001_10, .int .i64 x174002_10]) ?_ 0 _ rfl; (with_reducible repeat (first | refine blk_drewN ?_ _ | refine blk_drew ?_ | refine blk_alloc ?_ _)); exact BK173.out) Try.underlying25 rfl (by kernel_rfl)) rfl ?_
            exact ⟨by first | rfl | (simp [errW_none, errW_some] <;> rfl) | (simp [*, errW_none, errW_some] <;> rfl), by repeat (first | (with_reducible first | exact HB.out | apply below_alloc | apply pw_below_drewN | apply below_drew1 | refine below_set ?_ GE172.out | refine below_set ?_ GE173.out | refine below_set ?_ GE177.out) | exact HB.out)⟩
          · replace c64 := Bool.eq_false_iff.mpr c64
            subst c64
            have H1 : (some (0, (⟨#[]⟩ : ByteArray), 0, 0, false)) = some (r1, r2, r3, r4, r5) := by rw [if_neg (show ¬ (false = true) by decide)] at H; exact H
            clear H
            have H := H1
            clear H1
            simp only [Option.some.injEq, Prod.mk.injEq] at H
            obtain ⟨rfl, rfl, rfl, rfl, rfl⟩ := H
            have hnb73 := NB172_173.out
            have hnc73 := NB173_172.out
            have hnb74 := NB172_177.out
            have hnc74 := NB177_172.out
            have hcz75_0 : wc.cell? ⟨gb172, 0, none⟩ = some (.string a0_0) := (blk_cell BK172.out 0).trans rfl
            have hcz75_1 : wc.cell? ⟨gb172, 1, none⟩ = some (.int .i64 a0_1) := (blk_cell BK172.out 1).trans rfl
            have hcz75_2 : wc.cell? ⟨gb172, 2, none⟩ = some (.string a0_2) := (blk_cell BK172.out 2).trans rfl
            have hfz75_0 := blk_frozen BK172.out 0
            have hfz75_1 := blk_frozen BK172.out 1
            have hfz75_2 := blk_frozen BK172.out 2
            have hnb76 := NB177_173.out
            have hnc76 := NB173_177.out
            have hcz77_0 : wc.cell? ⟨gb177, 0, none⟩ = some (.int .i64 x178000_10) := (blk_cell BK177.out 0).trans rfl
            have hcz77_1 : wc.cell? ⟨gb177, 1, none⟩ = some (.string x178001_10) := (blk_cell BK177.out 1).trans rfl
            have hcz77_2 : wc.cell? ⟨gb177, 2, none⟩ = some (.int .i64 x178002_10) := (blk_cell BK177.out 2).trans rfl
            have hfz77_0 := blk_frozen BK177.out 0
            have hfz77_1 := blk_frozen BK177.out 1
            have hfz77_2 := blk_frozen BK177.out 2
            go_wp2_with (first | ((with_reducible refine gate_callee (f := 15) rfl ?_); refine goesL_ (some 62) rfl rfl Try.func15 (by kernel_rfl) rfl #[.agg #[.string a0_0, .int .i64 a0_1, .string a0_2], .agg #[.int .i64 x178000_10, .string x178001_10, .int .i64 x178002_10]] rfl (by (try simp only [List.map_toArray, List.map_cons, List.map_nil]); first | done | rfl | (simp only [List.length_drop, List.length_take]; rfl)) ?_; (with_reducible refine (foliateref07_Fits.calls kj10 a0_0 a0_1 a0_2 x178000_10 x178001_10 x178002_10 false _ A63.out).mono ?_); rintro e w78 ⟨rfl, hb⟩; refine ⟨_, rfl, ?_⟩; have n0_ := Aside0.mk (blk_below (g := gb172) (o := .cells #[.string a0_0, .int .i64 a0_1, .string a0_2] 23 (0, 0)) (by (with_reducible repeat (first | refine blk_drewN ?_ _ | refine blk_drew ?_ | refine blk_alloc ?_ _)); exact BK172.out) hb); have n1_ := Aside0.mk (blk_below (g := gb173) (o := .cells #[.int .i64 x174000_10, .string x174001_10, .int .i64 x174002_10] 25 (0, 0)) (by (with_reducible repeat (first | refine blk_drewN ?_ _ | refine blk_drew ?_ | refine blk_alloc ?_ _)); exact BK173.out) hb); have n2_ := Aside0.mk (blk_below (g := gb177) (o := .cells #[.int .i64 x178000_10, .string x178001_10, .int .i64 x178002_10] 25 (0, 0)) (by (with_reducible repeat (first | refine blk_drewN ?_ _ | refine blk_drew ?_ | refine blk_alloc ?_ _)); exact BK177.out) hb); have n3_ := Aside0.mk (below_step (by repeat (first | (with_reducible first | exact HB.out | apply below_alloc | apply pw_below_drewN | apply below_drew1 | refine below_set ?_ GE172.out | refine below_set ?_ GE173.out | refine below_set ?_ GE177.out) | exact HB.out)) hb); clear BK172; clear BK173; clear BK177; clear HB; have BK172 := n0_; have BK173 := n1_; have BK177 := n2_; have HB := n3_; clear n0_ n1_ n2_ n3_; (try clear hb); (try clear hb2); (try clear hk); (try clear hi); have hcz79_0 : w78.cell? ⟨gb173, 0, none⟩ = some (.int .i64 x174000_10) := (blk_cell BK173.out 0).trans rfl; have hcz79_1 : w78.cell? ⟨gb173, 1, none⟩ = some (.string x174001_10) := (blk_cell BK173.out 1).trans rfl; have hcz79_2 : w78.cell? ⟨gb173, 2, none⟩ = some (.int .i64 x174002_10) := (blk_cell BK173.out 2).trans rfl; have hfz79_0 := blk_frozen BK173.out 0; have hfz79_1 := blk_frozen BK173.out 1; have hfz79_2 := blk_frozen BK173.out 2))
            refine bodyPost_ret (results_ctt rfl _ _ gb173 25 #[.int .i64 0, .string (⟨#[]⟩ : ByteArray), .int .i64 0] (0, 0) _ rfl (by (with_reducible repeat (first | refine blk_drewN ?_ _ | refine blk_drew ?_ | refine blk_alloc ?_ _)); refine blk_put (cs := #[.int .i64 0, .string (⟨#[]⟩ : ByteArray), .int .i64 x174002_10]) ?_ 2 _ rfl; (with_reducible repeat (first | refine blk_drewN ?_ _ | refine blk_drew ?_ | refine blk_alloc ?_ _)); refine blk_put (cs := #[.int .i64 0, .string x174001_10, .int .i64 x174002_10]) ?_ 1 _ rfl; (with_reducible repeat (first | refine blk_drewN ?_ _ | refine blk_drew ?_ | refine blk_alloc ?_ _)); refine blk_put (cs := #[.int .i64 x174000_10, .string x174001_10, .int .i64 x174002_10]) ?_ 0 _ rfl; (with_reducible repeat (first | refine blk_drewN ?_ _ | refine blk_drew ?_ | refine blk_alloc ?_ _)); exact BK173.out) Try.underlying25 rfl (by kernel_rfl)) rfl ?_
            exact ⟨by first | rfl | (simp [errW_none, errW_some] <;> rfl) | (simp [*, errW_none, errW_some] <;> rfl), by repeat (first | (with_reducible first | exact HB.out | apply below_alloc | apply pw_below_drewN | apply below_drew1 | refine below_set ?_ GE172.out | refine below_set ?_ GE173.out | refine below_set ?_ GE177.out) | exact HB.out)⟩

end Go.Proofs.Ytepgcejgjfeolaa.PTl
