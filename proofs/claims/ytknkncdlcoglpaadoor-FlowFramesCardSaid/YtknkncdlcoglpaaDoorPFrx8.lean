-- Written by wip/tools/myprint.py, a program of the prover's own, over the kit's print; the contracts named 'HAND' there are typed by hand.
import Derived.Test.YtknkncdlcoglpaaDoorPFrx0
import Derived.Test.YtknkncdlcoglpaaDoorPFrx2
import Derived.Test.YtknkncdlcoglpaaDoorPFrx6
import Derived.Test.YtknkncdlcoglpaaDoorPFrx7
namespace Go.Proofs.YtknkncdlcoglpaaDoor.PFr
open Go.RowKit Go.Proofs.YtknkncdlcoglpaaDoorW.PrintWords Go.Proofs.YtknkncdlcoglpaaDoorW.PrintLast Go.Proofs.YtknkncdlcoglpaaDoorW.PrintMore
attribute [local go_sem] max2_int min2_int max_two min_two max_three min_three max_four min_four   -- for this text's walks alone
set_option linter.unusedVariables false
set_option linter.unusedSimpArgs false

theorem q1_8 {α : Type} (l : List α) (i : Nat) (a : α) : l.toArray.setIfInBounds i a = (l.set i a).toArray := List.setIfInBounds_toArray ..
theorem q2_8 {α : Type} (x : α) (l : List α) (a : α) : (x :: l).set 0 a = a :: l := rfl
theorem q3_8 {α : Type} (x : α) (l : List α) (i : Nat) (a : α) : (x :: l).set (i + 1) a = x :: l.set i a := rfl
abbrev t_8 : Bool := true
abbrev f_8 : Bool := false
theorem am8_ {p : Prop} (h : p) : Aside0 p := ⟨h⟩
abbrev ra8_ := @Kd.R_alloc
abbrev rn8_ := @Kd.R_drewN
abbrev rd8_ := @Kd.R_drew
abbrev ca8_ := @Kd.C_alloc
abbrev cn8_ := @Kd.C_drewN
abbrev cd8_ := @Kd.C_drew
/-! ### foliatelaw04_FlowFrames: function 6 -/
mutual
def foliatelaw04_FlowFrames.j0 : Nat → Int → Int → Bool → List Int → Bool → Int → List (List Int) → Option (Bool)
 | 0, _, _, _, _, _, _, _ => none
 | k + 1, x1, x2, x7, x9, x42, x239000, x239001 => if x42 = true then (some x7) else ((flow_Cuts.f k x9).bind fun bt245 => (if bt245.2 = true then (if (bt245.1.length : Int) = (wrap64 ((x239001.length : Int) + 3)) then (if x1 < 0 then (foliatelaw04_FlowFrames.j1 k x1 x2 x9 bt245.1 bt245.2 true x239000 x239001) else (if x2 ≤ x1 then (foliatelaw04_FlowFrames.j1 k x1 x2 x9 bt245.1 bt245.2 true x239000 x239001) else (foliatelaw04_FlowFrames.j1 k x1 x2 x9 bt245.1 bt245.2 (decide (x2 ≥ (wrap64 ((bt245.1.length : Int) - 1)))) x239000 x239001))) else (foliatelaw04_FlowFrames.j1 k x1 x2 x9 bt245.1 bt245.2 true x239000 x239001)) else (foliatelaw04_FlowFrames.j1 k x1 x2 x9 bt245.1 bt245.2 true x239000 x239001)))
def foliatelaw04_FlowFrames.j1 : Nat → Int → Int → List Int → List Int → Bool → Bool → Int → List (List Int) → Option (Bool)
 | 0, _, _, _, _, _, _, _, _ => none
 | k + 1, x1, x2, x9, x11, x12, x75, x239000, x239001 => if x75 = true then (if x12 = true then (some ((x11.length : Int) == (wrap64 ((x239001.length : Int) + 3)))) else (none)) else (foliatelaw04_FlowFrames.l0 k x1 x2 x9 x11 1)
def foliatelaw04_FlowFrames.l0 : Nat → Int → Int → List Int → List Int → Int → Option (Bool)
 | 0, _, _, _, _, _ => none
 | k + 1, x1, x2, x9, x11, x13 => if x13 < (x11.length : Int) then (if 0 ≤ x13 then (if 0 ≤ (wrap64 (x13 - 1)) then (if (wrap64 (x13 - 1)) < (x11.length : Int) then (if (rd x11 x13) ≤ (rd x11 (wrap64 (x13 - 1))) then (none) else (if (rd x11 x13) > (x9.length : Int) then (none) else (foliatelaw04_FlowFrames.l0 k x1 x2 x9 x11 (wrap64 (x13 + 1))))) else (none)) else (none)) else (none)) else (if 0 ≤ x1 then (if x1 < (x11.length : Int) then (if 0 ≤ (wrap64 (x1 + 1)) then (if (wrap64 (x1 + 1)) < (x11.length : Int) then (if 0 ≤ (rd x11 x1) then (if (rd x11 x1) ≤ (rd x11 (wrap64 (x1 + 1))) then (if (rd x11 (wrap64 (x1 + 1))) ≤ (x9.length : Int) then ((some ((x9.take ((rd x11 (wrap64 (x1 + 1))) : Int).toNat).drop ((rd x11 x1) : Int).toNat : List Int)).bind fun y254 => (if 0 ≤ x2 then (if x2 < (x11.length : Int) then (if 0 ≤ (wrap64 (x2 + 1)) then (if (wrap64 (x2 + 1)) < (x11.length : Int) then (if 0 ≤ (rd x11 x2) then (if (rd x11 x2) ≤ (rd x11 (wrap64 (x2 + 1))) then (if (rd x11 (wrap64 (x2 + 1))) ≤ (x9.length : Int) then ((some ((x9.take ((rd x11 (wrap64 (x2 + 1))) : Int).toNat).drop ((rd x11 x2) : Int).toNat : List Int)).bind fun y260 => (if (rd x11 x1) ≤ (x9.length : Int) then ((some (x9.take ((rd x11 x1) : Int).toNat : List Int)).bind fun y265 => (if ([] : List Int).length + y265.length < 140737488355328 then ((some (([] : List Int) ++ y265 : List Int)).bind fun y269 => (if 0 ≤ (rd x11 (wrap64 (x1 + 1))) then ((some (x9.drop ((rd x11 (wrap64 (x1 + 1))) : Int).toNat : List Int)).bind fun y273 => (if y269.length + y273.length < 140737488355328 then ((some (x9.take ((rd x11 (wrap64 (x1 + 1))) : Int).toNat : List Int)).bind fun y281 => (if ([] : List Int).length + y281.length < 140737488355328 then ((some (([] : List Int) ++ y281 : List Int)).bind fun y285 => (if y285.length + y254.length < 140737488355328 then ((some (y285 ++ y254 : List Int)).bind fun y288 => ((some (x9.drop ((rd x11 (wrap64 (x1 + 1))) : Int).toNat : List Int)).bind fun y292 => (if y288.length + y292.length < 140737488355328 then ((some (x9.take ((rd x11 x1) : Int).toNat : List Int)).bind fun y300 => (if ([] : List Int).length + y300.length < 140737488355328 then ((some (([] : List Int) ++ y300 : List Int)).bind fun y304 => (if y304.length + y260.length < 140737488355328 then ((some (y304 ++ y260 : List Int)).bind fun y307 => (if (rd x11 (wrap64 (x1 + 1))) ≤ (rd x11 x2) then (if (rd x11 x2) ≤ (x9.length : Int) then ((some ((x9.take ((rd x11 x2) : Int).toNat).drop ((rd x11 (wrap64 (x1 + 1))) : Int).toNat : List Int)).bind fun y312 => (if y307.length + y312.length < 140737488355328 then ((some (y307 ++ y312 : List Int)).bind fun y316 => (if y316.length + y254.length < 140737488355328 then ((some (y316 ++ y254 : List Int)).bind fun y319 => (if 0 ≤ (rd x11 (wrap64 (x2 + 1))) then ((some (x9.drop ((rd x11 (wrap64 (x2 + 1))) : Int).toNat : List Int)).bind fun y323 => (if y319.length + y323.length < 140737488355328 then ((flow_Get.f k (y269 ++ y273)).bind fun bt330 => ((flow_Get.f k (y288 ++ y292)).bind fun bt336 => ((flow_Get.f k (y319 ++ y323)).bind fun bt342 => (if bt330.2.2 = 0 then (none) else (if bt336.2.2 = 0 then (none) else (some (bt342.2.2 != 0))))))) else (none))) else (none))) else (none))) else (none))) else (none)) else (none))) else (none))) else (none))) else (none)))) else (none))) else (none))) else (none))) else (none))) else (none))) else (none))) else (none)) else (none)) else (none)) else (none)) else (none)) else (none)) else (none))) else (none)) else (none)) else (none)) else (none)) else (none)) else (none)) else (none))
end
def foliatelaw04_FlowFrames.f (k : Nat) (a0_0 : Int) (l0_1 : List (List Int)) (a1 : Int) (a2 : Int) : Option (Bool) := (foliatelaw04_awake.f k).bind fun t239 => ((foliatelaw04_Few.f k a0_0 l0_1 40).bind fun t240 => ((flow_Put.f k a0_0 l0_1).bind fun bt241 => (if t239 = true then (if t240 = true then (foliatelaw04_FlowFrames.j0 k a1 a2 t239 bt241.1 (bt241.2 != 0) a0_0 l0_1) else (foliatelaw04_FlowFrames.j0 k a1 a2 t239 bt241.1 true a0_0 l0_1)) else (foliatelaw04_FlowFrames.j0 k a1 a2 t239 bt241.1 true a0_0 l0_1))))
def foliatelaw04_FlowFrames.T12 : Bool × List (List Nat × List Nat) := (true, [([], []), ([], []), ([0, 1], [0, 1]), ([2], [2]), ([], []), ([], []), ([5], [5]), ([4, 6], [4, 6]), ([7], [7]), ([3, 8], [3, 8]), ([9], [9]), ([10], [10]), ([10], [10]), ([11, 12, 10], [10, 11, 12]), ([13, 10], [10, 13]), ([10], [10]), ([15, 10], [10, 15]), ([14, 16, 10], [10, 14, 16]), ([10, 17], [10, 17])])
def foliatelaw04_FlowFrames.B12 : List Nat := [0, 0, 3, 7, 0, 0, 32, 112, 240, 511, 1023, 2047, 2047, 8191, 16383, 2047, 34815, 131071, 262143]
theorem foliatelaw04_FlowFrames.tab12 : rtab .any (opsOf Tryd.f6 12) = foliatelaw04_FlowFrames.T12 := by kernel_rfl
theorem foliatelaw04_FlowFrames.bits12 : waitsOk foliatelaw04_FlowFrames.T12.2 foliatelaw04_FlowFrames.B12 = true := by kernel_rfl
def foliatelaw04_FlowFrames.T14 : Bool × List (List Nat × List Nat) := (true, [([], []), ([], []), ([], []), ([1, 2], [1, 2]), ([3], [3]), ([], []), ([], []), ([6], [6]), ([5, 7], [5, 7]), ([8], [8]), ([0, 4, 9], [0, 4, 9]), ([10, 0, 1, 2, 3, 4, 5, 6, 7, 8, 9, 10], [10])])
def foliatelaw04_FlowFrames.B14 : List Nat := [0, 0, 0, 6, 14, 0, 0, 64, 224, 480, 1023, 2047]
theorem foliatelaw04_FlowFrames.tab14 : rtab .any (opsOf Tryd.f6 14) = foliatelaw04_FlowFrames.T14 := by kernel_rfl
theorem foliatelaw04_FlowFrames.bits14 : waitsOk foliatelaw04_FlowFrames.T14.2 foliatelaw04_FlowFrames.B14 = true := by kernel_rfl
def foliatelaw04_FlowFrames.T15 : Bool × List (List Nat × List Nat) := (true, [([], []), ([], []), ([], []), ([1, 2], [1, 2]), ([3], [3]), ([], []), ([], []), ([6], [6]), ([5, 7], [5, 7]), ([8], [8]), ([0, 4, 9], [0, 4, 9]), ([10, 0, 1, 2, 3, 4, 5, 6, 7, 8, 9, 10], [10])])
def foliatelaw04_FlowFrames.B15 : List Nat := [0, 0, 0, 6, 14, 0, 0, 64, 224, 480, 1023, 2047]
theorem foliatelaw04_FlowFrames.tab15 : rtab .any (opsOf Tryd.f6 15) = foliatelaw04_FlowFrames.T15 := by kernel_rfl
theorem foliatelaw04_FlowFrames.bits15 : waitsOk foliatelaw04_FlowFrames.T15.2 foliatelaw04_FlowFrames.B15 = true := by kernel_rfl
def foliatelaw04_FlowFrames.T16 : Bool × List (List Nat × List Nat) := (true, [([], []), ([], []), ([], []), ([1, 2], [1, 2]), ([3], [3]), ([0, 4], [0, 4]), ([5], [5]), ([], []), ([], []), ([], []), ([9], [9]), ([8, 10], [8, 10]), ([11], [11]), ([7, 12], [7, 12]), ([6, 13, 6], [6, 13]), ([14, 14, 0, 1, 2, 3, 4, 5, 6, 7, 8, 9, 10, 11, 12, 13, 14], [14])])
def foliatelaw04_FlowFrames.B16 : List Nat := [0, 0, 0, 6, 14, 31, 63, 0, 0, 0, 512, 1792, 3840, 8064, 16383, 32767]
theorem foliatelaw04_FlowFrames.tab16 : rtab .any (opsOf Tryd.f6 16) = foliatelaw04_FlowFrames.T16 := by kernel_rfl
theorem foliatelaw04_FlowFrames.bits16 : waitsOk foliatelaw04_FlowFrames.T16.2 foliatelaw04_FlowFrames.B16 = true := by kernel_rfl
def foliatelaw04_FlowFrames.T17 : Bool × List (List Nat × List Nat) := (true, [([], []), ([], []), ([], []), ([2], [2]), ([1, 3], [1, 3]), ([4], [4]), ([0, 5], [0, 5]), ([6], [6]), ([], []), ([7, 8, 7], [7, 8]), ([], []), ([], []), ([], []), ([12], [12]), ([11, 13], [11, 13]), ([14], [14]), ([10, 15], [10, 15]), ([9, 16, 9], [9, 16]), ([17, 17, 0, 1, 2, 3, 4, 5, 6, 7, 8, 9, 10, 11, 12, 13, 14, 15, 16, 17], [17])])
def foliatelaw04_FlowFrames.B17 : List Nat := [0, 0, 0, 4, 14, 30, 63, 127, 0, 511, 0, 0, 0, 4096, 14336, 30720, 64512, 131071, 262143]
theorem foliatelaw04_FlowFrames.tab17 : rtab .any (opsOf Tryd.f6 17) = foliatelaw04_FlowFrames.T17 := by kernel_rfl
theorem foliatelaw04_FlowFrames.bits17 : waitsOk foliatelaw04_FlowFrames.T17.2 foliatelaw04_FlowFrames.B17 = true := by kernel_rfl
def foliatelaw04_FlowFrames.T19 : Bool × List (List Nat × List Nat) := (true, [([], []), ([], []), ([], []), ([], []), ([3], [3]), ([2, 4], [2, 4]), ([5], [5]), ([], []), ([], []), ([7, 8], [7, 8]), ([9], [9]), ([1, 6, 10], [1, 6, 10]), ([0, 11], [0, 11]), ([12, 12, 0, 1, 2, 3, 4, 5, 6, 7, 8, 9, 10, 11, 12], [0, 12])])
def foliatelaw04_FlowFrames.B19 : List Nat := [0, 0, 0, 0, 8, 28, 60, 0, 0, 384, 896, 2046, 4095, 8191]
theorem foliatelaw04_FlowFrames.tab19 : rtab .any (opsOf Tryd.f6 19) = foliatelaw04_FlowFrames.T19 := by kernel_rfl
theorem foliatelaw04_FlowFrames.bits19 : waitsOk foliatelaw04_FlowFrames.T19.2 foliatelaw04_FlowFrames.B19 = true := by kernel_rfl
set_option maxHeartbeats 8000000 in
set_option maxRecDepth 100000 in
theorem foliatelaw04_FlowFrames.calls (k : Nat) (a0_0 : Int) (A0_1 : Option Addr) (c0_1 : Nat) (l0_1 : List (List Int)) (a1 : Int) (a2 : Int) (r : Bool) (w : World) (hr0_1 : Kd.C (Kd.slice 5 (Kd.int .u8)) w A0_1 l0_1.length l0_1) (hc0_1 : l0_1.length ≤ c0_1) (h : foliatelaw04_FlowFrames.f k a0_0 l0_1 a1 a2 = some r) (hE : errT w) :
  Calls Tryd.prog 6 #[.agg #[.int .u32 a0_0, .slice A0_1 l0_1.length c0_1], .int .i64 a1, .int .i64 a2] w fun e w' => e = .returned (.bool r) ∧ Below w.heap.size w w' := by
 have HE := Aside0.mk hE
 clear hE
 have hu25 := Tryd.underlying25
 have HR0_1 := Aside0.mk hr0_1
 have HC0_1 := Aside0.mk hc0_1
 clear hr0_1 hc0_1
 have HB := am8_ (Below.refl w.heap.size w)
 have H : ((foliatelaw04_awake.f k).bind fun t239 => ((foliatelaw04_Few.f k a0_0 l0_1 40).bind fun t240 => ((flow_Put.f k a0_0 l0_1).bind fun bt241 => (if t239 = true then (if t240 = true then (foliatelaw04_FlowFrames.j0 k a1 a2 t239 bt241.1 (bt241.2 != 0) a0_0 l0_1) else (foliatelaw04_FlowFrames.j0 k a1 a2 t239 bt241.1 true a0_0 l0_1)) else (foliatelaw04_FlowFrames.j0 k a1 a2 t239 bt241.1 true a0_0 l0_1))))) = some r := h
 clear h
 replace H := Option.bind_eq_some_iff.mp H
 obtain ⟨t239, A40, H⟩ := H
 replace H : ((foliatelaw04_Few.f k a0_0 l0_1 40).bind fun t240 => ((flow_Put.f k a0_0 l0_1).bind fun bt241 => (if t239 = true then (if t240 = true then (foliatelaw04_FlowFrames.j0 k a1 a2 t239 bt241.1 (bt241.2 != 0) a0_0 l0_1) else (foliatelaw04_FlowFrames.j0 k a1 a2 t239 bt241.1 true a0_0 l0_1)) else (foliatelaw04_FlowFrames.j0 k a1 a2 t239 bt241.1 true a0_0 l0_1)))) = some r := H
 have A4 := Aside0.mk A40
 clear A40
 replace H := Option.bind_eq_some_iff.mp H
 obtain ⟨t240, A50, H⟩ := H
 replace H : ((flow_Put.f k a0_0 l0_1).bind fun bt241 => (if t239 = true then (if t240 = true then (foliatelaw04_FlowFrames.j0 k a1 a2 t239 bt241.1 (bt241.2 != 0) a0_0 l0_1) else (foliatelaw04_FlowFrames.j0 k a1 a2 t239 bt241.1 true a0_0 l0_1)) else (foliatelaw04_FlowFrames.j0 k a1 a2 t239 bt241.1 true a0_0 l0_1))) = some r := H
 have A5 := Aside0.mk A50
 clear A50
 replace H := Option.bind_eq_some_iff.mp H
 obtain ⟨⟨t241, t244⟩, A60, H⟩ := H
 replace H : (if t239 = true then (if t240 = true then (foliatelaw04_FlowFrames.j0 k a1 a2 t239 t241 (t244 != 0) a0_0 l0_1) else (foliatelaw04_FlowFrames.j0 k a1 a2 t239 t241 true a0_0 l0_1)) else (foliatelaw04_FlowFrames.j0 k a1 a2 t239 t241 true a0_0 l0_1)) = some r := H
 have A6 := Aside0.mk A60
 clear A60
 have HC7 := Aside0.mk H
 clear H
 go_enter Tryd.func6, Tryd.ntmps6
 go_upto_region 4 with (first | ((with_reducible refine gate_dst (N := 3) rfl ?_); (try (refine gate_guard (by rfl) ?_; dsimp only)); refine box_event ?hg (N := 3) ?hd (cs := #[.int .u32 a0_0, .slice A0_1 l0_1.length c0_1]) (t := 25) ?hr ?_; (case hd => rfl); (case hg => rfl); (case hr => first | (go_simp; done) | (go_simp; rfl)); intro gb238 hg w8 hbox hb; have n0_ := am8_ (below_step (by repeat (first | exact HB.out | apply below_alloc | apply pw_below_drewN | apply below_drew1)) hb); have n1_ := am8_ (hbox); have n2_ := am8_ ((by rw [hg]; exact (below_size (by repeat (first | exact HB.out | apply below_alloc | apply pw_below_drewN | apply below_drew1))) : w.heap.size ≤ gb238)); have n3_ := am8_ ((by rw [hg]; exact (below_size (by repeat (first | exact HB.out | apply below_alloc | apply pw_below_drewN | apply below_drew1))) : w.heap.size ≤ gb238)); clear HB; have HB := n0_; have BK238 := n1_; have GW238 := n2_; have GE238 := n3_; clear n0_ n1_ n2_ n3_; clear hb hbox hg) | ((with_reducible refine gate_callee (f := 10) rfl ?_); refine goesL_ (some 25) rfl rfl Tryd.func10 (by kernel_rfl) rfl #[] rfl (by (try simp only [List.map_toArray, List.map_cons, List.map_nil]); first | done | rfl | (simp only [List.length_drop, List.length_take]; rfl)) ?_; (with_reducible refine (foliatelaw04_awake.calls k  t239 _ A4.out ?errE).mono ?_); (case errE => exact errT_below HE.out (by repeat (first | (with_reducible first | exact HB.out | apply below_alloc | apply pw_below_drewN | apply below_drew1 | refine below_set ?_ GE238.out) | exact HB.out)) (Nat.le_refl _)); rintro e w9 ⟨rfl, hb⟩; refine ⟨_, rfl, ?_⟩; have n0_ := am8_ (blk_below (g := gb238) (o := .cells #[.int .u32 a0_0, .slice A0_1 l0_1.length c0_1] 25 (0, 0)) (by (with_reducible repeat (first | refine blk_drewN ?_ _ | refine blk_drew ?_ | refine blk_alloc ?_ _)); exact BK238.out) hb); have n1_ := am8_ (below_step (by repeat (first | (with_reducible first | exact HB.out | apply below_alloc | apply pw_below_drewN | apply below_drew1 | refine below_set ?_ GE238.out) | exact HB.out)) hb); clear BK238; clear HB; have BK238 := n0_; have HB := n1_; clear n0_ n1_; (try clear hb); (try clear hb2); (try clear hk); (try clear hi); have hcz10_0 : w9.cell? ⟨gb238, 0, none⟩ = some (.int .u32 a0_0) := (blk_cell BK238.out 0).trans rfl; have hcz10_1 : w9.cell? ⟨gb238, 1, none⟩ = some (.slice A0_1 l0_1.length c0_1) := (blk_cell BK238.out 1).trans rfl; have hfz10_0 := blk_frozen BK238.out 0; have hfz10_1 := blk_frozen BK238.out 1) | ((with_reducible refine gate_callee (f := 11) rfl ?_); refine goesL_ (some 27) rfl rfl Tryd.func11 (by kernel_rfl) rfl #[.agg #[.int .u32 a0_0, .slice A0_1 l0_1.length c0_1], .int .i64 40] rfl (by (try simp only [List.map_toArray, List.map_cons, List.map_nil]); first | done | rfl | (simp only [List.length_drop, List.length_take]; rfl)) ?_; (with_reducible refine (foliatelaw04_Few.calls k a0_0 _ _ l0_1 40 t240 _ ?side1 ?side2 A5.out).mono ?_); (case side1 => repeat (first | exact (Kd.C_below HR0_1.out HB.out) | (with_reducible first | refine ca8_ ?_ _ | refine cn8_ ?_ _ | refine cd8_ ?_))); (case side2 => exact HC0_1.out); rintro e w11 ⟨rfl, hb⟩; refine ⟨_, rfl, ?_⟩; have n0_ := am8_ (blk_below (g := gb238) (o := .cells #[.int .u32 a0_0, .slice A0_1 l0_1.length c0_1] 25 (0, 0)) (by (with_reducible repeat (first | refine blk_drewN ?_ _ | refine blk_drew ?_ | refine blk_alloc ?_ _)); exact BK238.out) hb); have n1_ := am8_ (below_step (by repeat (first | (with_reducible first | exact HB.out | apply below_alloc | apply pw_below_drewN | apply below_drew1 | refine below_set ?_ GE238.out) | exact HB.out)) hb); clear BK238; clear HB; have BK238 := n0_; have HB := n1_; clear n0_ n1_; (try clear hb); (try clear hb2); (try clear hk); (try clear hi); have hcz12_0 : w11.cell? ⟨gb238, 0, none⟩ = some (.int .u32 a0_0) := (blk_cell BK238.out 0).trans rfl; have hcz12_1 : w11.cell? ⟨gb238, 1, none⟩ = some (.slice A0_1 l0_1.length c0_1) := (blk_cell BK238.out 1).trans rfl; have hfz12_0 := blk_frozen BK238.out 0; have hfz12_1 := blk_frozen BK238.out 1) | ((with_reducible refine gate_callee (f := 12) rfl ?_); refine goesL_ (some 30) rfl rfl Tryd.func12 (by kernel_rfl) rfl #[.agg #[.int .u32 a0_0, .slice A0_1 l0_1.length c0_1]] rfl (by (try simp only [List.map_toArray, List.map_cons, List.map_nil]); first | done | rfl | (simp only [List.length_drop, List.length_take]; rfl)) ?_; (with_reducible refine (flow_Put.calls k a0_0 _ _ l0_1 t241 t244 _ ?side1 ?side2 A6.out).mono ?_); (case side1 => repeat (first | exact (Kd.C_below HR0_1.out HB.out) | (with_reducible first | refine ca8_ ?_ _ | refine cn8_ ?_ _ | refine cd8_ ?_))); (case side2 => exact HC0_1.out); rintro e w13 ⟨v242, rfl, ho0, hb⟩; refine ⟨_, rfl, ?_⟩; have n0_ := am8_ (Kd.R_lower ho0 (below_size (by repeat (first | (with_reducible first | exact HB.out | apply below_alloc | apply pw_below_drewN | apply below_drew1 | refine below_set ?_ GE238.out) | exact HB.out)))); have n1_ := am8_ (blk_below (g := gb238) (o := .cells #[.int .u32 a0_0, .slice A0_1 l0_1.length c0_1] 25 (0, 0)) (by (with_reducible repeat (first | refine blk_drewN ?_ _ | refine blk_drew ?_ | refine blk_alloc ?_ _)); exact BK238.out) hb); have n2_ := am8_ (below_step (by repeat (first | (with_reducible first | exact HB.out | apply below_alloc | apply pw_below_drewN | apply below_drew1 | refine below_set ?_ GE238.out) | exact HB.out)) hb); clear BK238; clear HB; have HO243 := n0_; have BK238 := n1_; have HB := n2_; clear n0_ n1_ n2_; (try clear hb); (try clear hb2); (try clear hk); (try clear hi); (try clear ho0)))
 (try simp only [Act.put, q1_8, q2_8, q3_8])
 go_cut [42] (fun v42 wc => ∃ (kq : Nat) (x42_6 : Bool), v42 = .bool x42_6 ∧ Aside0 (foliatelaw04_FlowFrames.j0 kq a1 a2 t239 t241 x42_6 a0_0 l0_1 = some r) ∧ Aside0 (kq ≤ k) ∧ Aside0 (Kd.R (Kd.int .u8) 5 wc w.heap.size (fun _ => True) v242 t241) ∧ Aside0 (wc.heap[gb238]? = some (.cells #[.int .u32 a0_0, (.slice A0_1 l0_1.length c0_1)] 25 (0, 0))) ∧ Aside0 (Below w.heap.size w wc))
 case first =>
  have H := HC7.out
  clear HC7
  by_cases c14 : t239 = true
  ·subst c14
   have H1 : (if t240 = true then (foliatelaw04_FlowFrames.j0 k a1 a2 true t241 (t244 != 0) a0_0 l0_1) else (foliatelaw04_FlowFrames.j0 k a1 a2 true t241 true a0_0 l0_1)) = some r := by rw [if_pos rfl] at H; exact H
   clear H
   have H := H1
   clear H1
   by_cases c15 : t240 = true
   ·subst c15
    have H1 : (foliatelaw04_FlowFrames.j0 k a1 a2 true t241 (t244 != 0) a0_0 l0_1) = some r := by rw [if_pos rfl] at H; exact H
    clear H
    have H := H1
    clear H1
    have H' := Aside0.mk H
    clear H
    go_wp2
    go_meet
    case rel => exact ⟨_, ((t244 != 0)), (by first | rfl | (simp; done) | (simp [*]; done)), H', ⟨by first | omega | exact Nat.le_refl _⟩, ⟨by (with_reducible repeat (first | apply ra8_ | apply rn8_ | apply rd8_)); exact HO243.out⟩, ⟨by (with_reducible repeat (first | refine blk_drewN ?_ _ | refine blk_drew ?_ | refine blk_alloc ?_ _)); exact BK238.out⟩, ⟨by repeat (first | (with_reducible first | exact HB.out | apply below_alloc | apply pw_below_drewN | apply below_drew1 | refine below_set ?_ GE238.out) | exact HB.out)⟩⟩
   ·replace c15 := Bool.eq_false_iff.mpr c15
    subst c15
    have H1 : (foliatelaw04_FlowFrames.j0 k a1 a2 true t241 true a0_0 l0_1) = some r := by rw [if_neg (show ¬ (false = true) by decide)] at H; exact H
    clear H
    have H := H1
    clear H1
    have H' := Aside0.mk H
    clear H
    go_wp2
    go_meet
    case rel => exact ⟨_, (true), (by first | rfl | (simp; done) | (simp [*]; done)), H', ⟨by first | omega | exact Nat.le_refl _⟩, ⟨by (with_reducible repeat (first | apply ra8_ | apply rn8_ | apply rd8_)); exact HO243.out⟩, ⟨by (with_reducible repeat (first | refine blk_drewN ?_ _ | refine blk_drew ?_ | refine blk_alloc ?_ _)); exact BK238.out⟩, ⟨by repeat (first | (with_reducible first | exact HB.out | apply below_alloc | apply pw_below_drewN | apply below_drew1 | refine below_set ?_ GE238.out) | exact HB.out)⟩⟩
  ·replace c14 := Bool.eq_false_iff.mpr c14
   subst c14
   have H1 : (foliatelaw04_FlowFrames.j0 k a1 a2 false t241 true a0_0 l0_1) = some r := by rw [if_neg (show ¬ (false = true) by decide)] at H; exact H
   clear H
   have H := H1
   clear H1
   have H' := Aside0.mk H
   clear H
   go_wp2
   go_meet
   case rel => exact ⟨_, (true), (by first | rfl | (simp; done) | (simp [*]; done)), H', ⟨by first | omega | exact Nat.le_refl _⟩, ⟨by (with_reducible repeat (first | apply ra8_ | apply rn8_ | apply rd8_)); exact HO243.out⟩, ⟨by (with_reducible repeat (first | refine blk_drewN ?_ _ | refine blk_drew ?_ | refine blk_alloc ?_ _)); exact BK238.out⟩, ⟨by repeat (first | (with_reducible first | exact HB.out | apply below_alloc | apply pw_below_drewN | apply below_drew1 | refine below_set ?_ GE238.out) | exact HB.out)⟩⟩
 case rest =>
  clear HC7
  try clear c1
  try clear p2
  try clear c6
  try clear c10
  try clear c11
  try clear c12
  try clear c14
  try clear c15
  try clear hcz10_0
  try clear hcz10_1
  try clear hcz12_0
  try clear hcz12_1
  try clear hfz10_0
  try clear hfz10_1
  try clear hfz12_0
  try clear hfz12_1
  obtain ⟨kq, x42_6, rfl, HA, HJ6, HO_9, BK238, HB⟩ := hcut
  cases kq with
  | zero => exact absurd HA.out (by simp [foliatelaw04_FlowFrames.j0])
  | succ kj6 =>
   have H := HA.out
   clear HA
   simp only [foliatelaw04_FlowFrames.j0] at H
   by_cases c16 : x42_6 = true
   ·subst c16
    have H1 : (some t239) = some r := by rw [if_pos rfl] at H; exact H
    clear H
    have H := H1
    clear H1
    obtain rfl := Option.some.inj H
    go_wp2
    go_ret
    exact ⟨by first | rfl | (simp [errW_none, errW_some] <;> rfl) | (simp [*, errW_none, errW_some] <;> rfl), by repeat (first | (with_reducible first | exact HB.out | apply below_alloc | apply pw_below_drewN | apply below_drew1 | refine below_set ?_ GE238.out) | exact HB.out)⟩
   ·replace c16 := Bool.eq_false_iff.mpr c16
    subst c16
    have H1 : ((flow_Cuts.f kj6 t241).bind fun bt245 => (if bt245.2 = true then (if (bt245.1.length : Int) = (wrap64 ((l0_1.length : Int) + 3)) then (if a1 < 0 then (foliatelaw04_FlowFrames.j1 kj6 a1 a2 t241 bt245.1 bt245.2 true a0_0 l0_1) else (if a2 ≤ a1 then (foliatelaw04_FlowFrames.j1 kj6 a1 a2 t241 bt245.1 bt245.2 true a0_0 l0_1) else (foliatelaw04_FlowFrames.j1 kj6 a1 a2 t241 bt245.1 bt245.2 (decide (a2 ≥ (wrap64 ((bt245.1.length : Int) - 1)))) a0_0 l0_1))) else (foliatelaw04_FlowFrames.j1 kj6 a1 a2 t241 bt245.1 bt245.2 true a0_0 l0_1)) else (foliatelaw04_FlowFrames.j1 kj6 a1 a2 t241 bt245.1 bt245.2 true a0_0 l0_1))) = some r := by rw [if_neg (show ¬ (false = true) by decide)] at H; exact H
    clear H
    have H := H1
    clear H1
    replace H := Option.bind_eq_some_iff.mp H
    obtain ⟨⟨t245, t246⟩, A170, H⟩ := H
    replace H : (if t246 = true then (if (t245.length : Int) = (wrap64 ((l0_1.length : Int) + 3)) then (if a1 < 0 then (foliatelaw04_FlowFrames.j1 kj6 a1 a2 t241 t245 t246 true a0_0 l0_1) else (if a2 ≤ a1 then (foliatelaw04_FlowFrames.j1 kj6 a1 a2 t241 t245 t246 true a0_0 l0_1) else (foliatelaw04_FlowFrames.j1 kj6 a1 a2 t241 t245 t246 (decide (a2 ≥ (wrap64 ((t245.length : Int) - 1)))) a0_0 l0_1))) else (foliatelaw04_FlowFrames.j1 kj6 a1 a2 t241 t245 t246 true a0_0 l0_1)) else (foliatelaw04_FlowFrames.j1 kj6 a1 a2 t241 t245 t246 true a0_0 l0_1)) = some r := H
    have A17 := Aside0.mk A170
    clear A170
    have HC18 := Aside0.mk H
    clear H
    obtain ⟨Ao19, co19, eo19⟩ := Kd.R_slice HO_9.out
    subst eo19
    go_upto_region 7 with (first | ((with_reducible refine gate_callee (f := 16) rfl ?_); refine goesL_ (some 46) rfl rfl Tryd.func16 (by kernel_rfl) rfl #[.slice Ao19 t241.length co19] rfl (by (try simp only [List.map_toArray, List.map_cons, List.map_nil]); first | done | rfl | (simp only [List.length_drop, List.length_take]; rfl)) ?_; (with_reducible refine (flow_Cuts.calls kj6 _ _ t241 t245 t246 _ ?side1 ?side2 A17.out ?errE).mono ?_); (case errE => exact errT_below HE.out (by repeat (first | (with_reducible first | exact HB.out | apply below_alloc | apply pw_below_drewN | apply below_drew1 | refine below_set ?_ GE238.out) | exact HB.out)) (Nat.le_refl _)); (case side1 => repeat (first | exact (Kd.R_reads' HO_9.out).2.2 | (with_reducible first | refine ca8_ ?_ _ | refine cn8_ ?_ _ | refine cd8_ ?_))); (case side2 => exact (Kd.R_reads' HO_9.out).2.1); rintro e w20 ⟨v247, rfl, ho0, hb⟩; refine ⟨_, rfl, ?_⟩; have n0_ := am8_ (Kd.R_below (by (with_reducible repeat (first | apply ra8_ | apply rn8_ | apply rd8_)); exact HO_9.out) hb); have n1_ := am8_ (Kd.R_lower ho0 (below_size (by repeat (first | (with_reducible first | exact HB.out | apply below_alloc | apply pw_below_drewN | apply below_drew1 | refine below_set ?_ GE238.out) | exact HB.out)))); have n2_ := am8_ (blk_below (g := gb238) (o := .cells #[.int .u32 a0_0, .slice A0_1 l0_1.length c0_1] 25 (0, 0)) (by (with_reducible repeat (first | refine blk_drewN ?_ _ | refine blk_drew ?_ | refine blk_alloc ?_ _)); exact BK238.out) hb); have n3_ := am8_ (below_step (by repeat (first | (with_reducible first | exact HB.out | apply below_alloc | apply pw_below_drewN | apply below_drew1 | refine below_set ?_ GE238.out) | exact HB.out)) hb); clear HO_9; clear BK238; clear HB; have HO_9 := n0_; have HO248 := n1_; have BK238 := n2_; have HB := n3_; clear n0_ n1_ n2_ n3_; (try clear hb); (try clear hb2); (try clear hk); (try clear hi); (try clear ho0)))
    (try simp only [Act.put, q1_8, q2_8, q3_8])
    go_cut [75] (fun v75 wc => ∃ (kq : Nat) (x75_17 : Bool), v75 = .bool x75_17 ∧ Aside0 (foliatelaw04_FlowFrames.j1 kq a1 a2 t241 t245 t246 x75_17 a0_0 l0_1 = some r) ∧ Aside0 (kq ≤ kj6) ∧ Aside0 (Kd.R (Kd.int .u8) 5 wc w.heap.size (fun _ => True) (.slice Ao19 t241.length co19) t241) ∧ Aside0 (Kd.R (Kd.int .i64) 3 wc w.heap.size (fun _ => True) v247 t245) ∧ Aside0 (wc.heap[gb238]? = some (.cells #[.int .u32 a0_0, (.slice A0_1 l0_1.length c0_1)] 25 (0, 0))) ∧ Aside0 (Below w.heap.size w wc))
    case first =>
     have H := HC18.out
     clear HC18
     by_cases c21 : t246 = true
     ·subst c21
      have H1 : (if (t245.length : Int) = (wrap64 ((l0_1.length : Int) + 3)) then (if a1 < 0 then (foliatelaw04_FlowFrames.j1 kj6 a1 a2 t241 t245 true true a0_0 l0_1) else (if a2 ≤ a1 then (foliatelaw04_FlowFrames.j1 kj6 a1 a2 t241 t245 true true a0_0 l0_1) else (foliatelaw04_FlowFrames.j1 kj6 a1 a2 t241 t245 true (decide (a2 ≥ (wrap64 ((t245.length : Int) - 1)))) a0_0 l0_1))) else (foliatelaw04_FlowFrames.j1 kj6 a1 a2 t241 t245 true true a0_0 l0_1)) = some r := by rw [if_pos rfl] at H; exact H
      clear H
      have H := H1
      clear H1
      by_cases c22 : (t245.length : Int) = (wrap64 ((l0_1.length : Int) + 3))
      ·rw [if_pos c22] at H
       have c22b0 : ((t245.length : Int) == (wrap64 ((l0_1.length : Int) + 3))) = true := beq_iff_eq.mpr c22
       have c22b1 : ((t245.length : Int) != (wrap64 ((l0_1.length : Int) + 3))) = false := bne_eq_false_iff_eq.mpr c22
       clear c22
       (first | rw [c22b0] | (simp only [i64_w, i32_w]; rw [c22b0]) | skip)
       by_cases c23 : a1 < 0
       ·rw [if_pos c23] at H
        have c23b0 : decide (a1 < 0) = true := decide_eq_true c23
        clear c23
        have H' := Aside0.mk H
        clear H
        obtain ⟨Ao24, co24, eo24⟩ := Kd.R_slice HO248.out
        subst eo24
        have hcz25_0 : w20.cell? ⟨gb238, 0, none⟩ = some (.int .u32 a0_0) := (blk_cell BK238.out 0).trans rfl
        have hcz25_1 : w20.cell? ⟨gb238, 1, none⟩ = some (.slice A0_1 l0_1.length c0_1) := (blk_cell BK238.out 1).trans rfl
        have hfz25_0 := blk_frozen BK238.out 0
        have hfz25_1 := blk_frozen BK238.out 1
        go_wp2
        go_meet
        case rel => exact ⟨_, (true), (by first | rfl | (simp; done) | (simp [*]; done)), H', ⟨by have := HJ6.out; first | omega | exact Nat.le_refl _⟩, ⟨by (with_reducible repeat (first | apply ra8_ | apply rn8_ | apply rd8_)); exact HO_9.out⟩, ⟨by (with_reducible repeat (first | apply ra8_ | apply rn8_ | apply rd8_)); exact HO248.out⟩, ⟨by (with_reducible repeat (first | refine blk_drewN ?_ _ | refine blk_drew ?_ | refine blk_alloc ?_ _)); exact BK238.out⟩, ⟨by repeat (first | (with_reducible first | exact HB.out | apply below_alloc | apply pw_below_drewN | apply below_drew1 | refine below_set ?_ GE238.out) | exact HB.out)⟩⟩
       ·rw [if_neg c23] at H
        have c23b0 : decide (a1 < 0) = false := decide_eq_false c23
        clear c23
        by_cases c26 : a2 ≤ a1
        ·rw [if_pos c26] at H
         have c26b0 : decide (a2 ≤ a1) = true := decide_eq_true c26
         clear c26
         have H' := Aside0.mk H
         clear H
         obtain ⟨Ao27, co27, eo27⟩ := Kd.R_slice HO248.out
         subst eo27
         have hcz28_0 : w20.cell? ⟨gb238, 0, none⟩ = some (.int .u32 a0_0) := (blk_cell BK238.out 0).trans rfl
         have hcz28_1 : w20.cell? ⟨gb238, 1, none⟩ = some (.slice A0_1 l0_1.length c0_1) := (blk_cell BK238.out 1).trans rfl
         have hfz28_0 := blk_frozen BK238.out 0
         have hfz28_1 := blk_frozen BK238.out 1
         go_wp2
         go_meet
         case rel => exact ⟨_, (true), (by first | rfl | (simp; done) | (simp [*]; done)), H', ⟨by have := HJ6.out; first | omega | exact Nat.le_refl _⟩, ⟨by (with_reducible repeat (first | apply ra8_ | apply rn8_ | apply rd8_)); exact HO_9.out⟩, ⟨by (with_reducible repeat (first | apply ra8_ | apply rn8_ | apply rd8_)); exact HO248.out⟩, ⟨by (with_reducible repeat (first | refine blk_drewN ?_ _ | refine blk_drew ?_ | refine blk_alloc ?_ _)); exact BK238.out⟩, ⟨by repeat (first | (with_reducible first | exact HB.out | apply below_alloc | apply pw_below_drewN | apply below_drew1 | refine below_set ?_ GE238.out) | exact HB.out)⟩⟩
        ·rw [if_neg c26] at H
         have c26b0 : decide (a2 ≤ a1) = false := decide_eq_false c26
         clear c26
         have H' := Aside0.mk H
         clear H
         obtain ⟨Ao29, co29, eo29⟩ := Kd.R_slice HO248.out
         subst eo29
         have hcz30_0 : w20.cell? ⟨gb238, 0, none⟩ = some (.int .u32 a0_0) := (blk_cell BK238.out 0).trans rfl
         have hcz30_1 : w20.cell? ⟨gb238, 1, none⟩ = some (.slice A0_1 l0_1.length c0_1) := (blk_cell BK238.out 1).trans rfl
         have hfz30_0 := blk_frozen BK238.out 0
         have hfz30_1 := blk_frozen BK238.out 1
         go_wp2
         go_meet
         case rel => exact ⟨_, (decide (a2 ≥ (wrap64 ((t245.length : Int) - 1)))), (by first | rfl | (simp; done) | (simp [*]; done)), H', ⟨by have := HJ6.out; first | omega | exact Nat.le_refl _⟩, ⟨by (with_reducible repeat (first | apply ra8_ | apply rn8_ | apply rd8_)); exact HO_9.out⟩, ⟨by (with_reducible repeat (first | apply ra8_ | apply rn8_ | apply rd8_)); exact HO248.out⟩, ⟨by (with_reducible repeat (first | refine blk_drewN ?_ _ | refine blk_drew ?_ | refine blk_alloc ?_ _)); exact BK238.out⟩, ⟨by repeat (first | (with_reducible first | exact HB.out | apply below_alloc | apply pw_below_drewN | apply below_drew1 | refine below_set ?_ GE238.out) | exact HB.out)⟩⟩
      ·rw [if_neg c22] at H
       have c22b0 : ((t245.length : Int) == (wrap64 ((l0_1.length : Int) + 3))) = false := beq_eq_false_iff_ne.mpr c22
       have c22b1 : ((t245.length : Int) != (wrap64 ((l0_1.length : Int) + 3))) = true := bne_iff_ne.mpr c22
       (first | rw [c22b0] | (simp only [i64_w, i32_w]; rw [c22b0]) | skip)
       have H' := Aside0.mk H
       clear H
       obtain ⟨Ao31, co31, eo31⟩ := Kd.R_slice HO248.out
       subst eo31
       have hcz32_0 : w20.cell? ⟨gb238, 0, none⟩ = some (.int .u32 a0_0) := (blk_cell BK238.out 0).trans rfl
       have hcz32_1 : w20.cell? ⟨gb238, 1, none⟩ = some (.slice A0_1 l0_1.length c0_1) := (blk_cell BK238.out 1).trans rfl
       have hfz32_0 := blk_frozen BK238.out 0
       have hfz32_1 := blk_frozen BK238.out 1
       go_wp2
       go_meet
       case rel => exact ⟨_, (true), (by first | rfl | (simp; done) | (simp [*]; done)), H', ⟨by have := HJ6.out; first | omega | exact Nat.le_refl _⟩, ⟨by (with_reducible repeat (first | apply ra8_ | apply rn8_ | apply rd8_)); exact HO_9.out⟩, ⟨by (with_reducible repeat (first | apply ra8_ | apply rn8_ | apply rd8_)); exact HO248.out⟩, ⟨by (with_reducible repeat (first | refine blk_drewN ?_ _ | refine blk_drew ?_ | refine blk_alloc ?_ _)); exact BK238.out⟩, ⟨by repeat (first | (with_reducible first | exact HB.out | apply below_alloc | apply pw_below_drewN | apply below_drew1 | refine below_set ?_ GE238.out) | exact HB.out)⟩⟩
     ·replace c21 := Bool.eq_false_iff.mpr c21
      subst c21
      have H1 : (foliatelaw04_FlowFrames.j1 kj6 a1 a2 t241 t245 false true a0_0 l0_1) = some r := by rw [if_neg (show ¬ (false = true) by decide)] at H; exact H
      clear H
      have H := H1
      clear H1
      have H' := Aside0.mk H
      clear H
      go_wp2
      go_meet
      case rel => exact ⟨_, (true), (by first | rfl | (simp; done) | (simp [*]; done)), H', ⟨by have := HJ6.out; first | omega | exact Nat.le_refl _⟩, ⟨by (with_reducible repeat (first | apply ra8_ | apply rn8_ | apply rd8_)); exact HO_9.out⟩, ⟨by (with_reducible repeat (first | apply ra8_ | apply rn8_ | apply rd8_)); exact HO248.out⟩, ⟨by (with_reducible repeat (first | refine blk_drewN ?_ _ | refine blk_drew ?_ | refine blk_alloc ?_ _)); exact BK238.out⟩, ⟨by repeat (first | (with_reducible first | exact HB.out | apply below_alloc | apply pw_below_drewN | apply below_drew1 | refine below_set ?_ GE238.out) | exact HB.out)⟩⟩
    case rest =>
     clear HC18
     try clear c1
     try clear c2
     try clear p2
     try clear c6
     try clear p6
     try clear c10
     try clear c11
     try clear c12
     try clear c14
     try clear c15
     try clear c16
     try clear c21
     try clear c22
     try clear c22b0
     try clear c22b1
     try clear c23
     try clear c23b0
     try clear c26
     try clear c26b0
     try clear hcz10_0
     try clear hcz10_1
     try clear hcz12_0
     try clear hcz12_1
     try clear hcz25_0
     try clear hcz25_1
     try clear hcz28_0
     try clear hcz28_1
     try clear hcz30_0
     try clear hcz30_1
     try clear hcz32_0
     try clear hcz32_1
     try clear hfz10_0
     try clear hfz10_1
     try clear hfz12_0
     try clear hfz12_1
     try clear hfz25_0
     try clear hfz25_1
     try clear hfz28_0
     try clear hfz28_1
     try clear hfz30_0
     try clear hfz30_1
     try clear hfz32_0
     try clear hfz32_1
     try clear p2
     obtain ⟨kq, x75_17, rfl, HA, HJ17, HO_9, HO_11, BK238, HB⟩ := hcut
     cases kq with
     | zero => exact absurd HA.out (by simp [foliatelaw04_FlowFrames.j1])
     | succ kj17 =>
      have H := HA.out
      clear HA
      simp only [foliatelaw04_FlowFrames.j1] at H
      by_cases c33 : x75_17 = true
      ·subst c33
       have H1 : (if t246 = true then (some ((t245.length : Int) == (wrap64 ((l0_1.length : Int) + 3)))) else (none)) = some r := by rw [if_pos rfl] at H; exact H
       clear H
       have H := H1
       clear H1
       by_cases c34 : t246 = true
       ·subst c34
        have H1 : (some ((t245.length : Int) == (wrap64 ((l0_1.length : Int) + 3)))) = some r := by rw [if_pos rfl] at H; exact H
        clear H
        have H := H1
        clear H1
        obtain rfl := Option.some.inj H
        obtain ⟨Ao35, co35, eo35⟩ := Kd.R_slice HO_11.out
        subst eo35
        have hcz36_0 : wc.cell? ⟨gb238, 0, none⟩ = some (.int .u32 a0_0) := (blk_cell BK238.out 0).trans rfl
        have hcz36_1 : wc.cell? ⟨gb238, 1, none⟩ = some (.slice A0_1 l0_1.length c0_1) := (blk_cell BK238.out 1).trans rfl
        have hfz36_0 := blk_frozen BK238.out 0
        have hfz36_1 := blk_frozen BK238.out 1
        go_wp2
        go_ret
        exact ⟨by first | rfl | (simp [errW_none, errW_some] <;> rfl) | (simp [*, errW_none, errW_some] <;> rfl), by repeat (first | (with_reducible first | exact HB.out | apply below_alloc | apply pw_below_drewN | apply below_drew1 | refine below_set ?_ GE238.out) | exact HB.out)⟩
       ·replace c34 := Bool.eq_false_iff.mpr c34
        subst c34
        have H1 : (none) = some r := by rw [if_neg (show ¬ (false = true) by decide)] at H; exact H
        clear H
        have H := H1
        clear H1
        exact absurd H (by simp)
      ·replace c33 := Bool.eq_false_iff.mpr c33
       subst c33
       have H1 : (foliatelaw04_FlowFrames.l0 kj17 a1 a2 t241 t245 1) = some r := by rw [if_neg (show ¬ (false = true) by decide)] at H; exact H
       clear H
       have H := H1
       clear H1
       have H' := Aside0.mk H
       clear H
       go_wp2
       go_loopg [13] kj17 (fun kq v13 w' => ∃ (x13_3 : Int), v13 = .int .i64 x13_3 ∧ Aside0 (foliatelaw04_FlowFrames.l0 kq a1 a2 t241 t245 x13_3 = some r) ∧ Aside0 (kq ≤ kj17) ∧ Aside0 (Kd.R (Kd.int .u8) 5 w' w.heap.size (fun _ => True) (.slice Ao19 t241.length co19) t241) ∧ Aside0 (Kd.R (Kd.int .i64) 3 w' w.heap.size (fun _ => True) v247 t245) ∧ Aside0 (w'.heap[gb238]? = some (.cells #[.int .u32 a0_0, (.slice A0_1 l0_1.length c0_1)] 25 (0, 0))) ∧ Aside0 (Below w.heap.size w w'))
       case atStart => exact ⟨(1), (by first | rfl | (simp; done) | (simp [*]; done)), H', ⟨Nat.le_refl _⟩, ⟨by (with_reducible repeat (first | apply ra8_ | apply rn8_ | apply rd8_)); exact HO_9.out⟩, ⟨by (with_reducible repeat (first | apply ra8_ | apply rn8_ | apply rd8_)); exact HO_11.out⟩, ⟨by (with_reducible repeat (first | refine blk_drewN ?_ _ | refine blk_drew ?_ | refine blk_alloc ?_ _)); exact BK238.out⟩, ⟨by repeat (first | (with_reducible first | exact HB.out | apply below_alloc | apply pw_below_drewN | apply below_drew1 | refine below_set ?_ GE238.out) | exact HB.out)⟩⟩
       case round =>
        clear H'
        try clear c1
        try clear c2
        try clear p2
        try clear c3
        try clear c6
        try clear p6
        try clear c10
        try clear c11
        try clear c12
        try clear c14
        try clear c15
        try clear c16
        try clear c21
        try clear c22
        try clear c22b0
        try clear c22b1
        try clear c23
        try clear c23b0
        try clear c26
        try clear c26b0
        try clear c33
        try clear c34
        try clear hcz10_0
        try clear hcz10_1
        try clear hcz12_0
        try clear hcz12_1
        try clear hcz25_0
        try clear hcz25_1
        try clear hcz28_0
        try clear hcz28_1
        try clear hcz30_0
        try clear hcz30_1
        try clear hcz32_0
        try clear hcz32_1
        try clear hcz36_0
        try clear hcz36_1
        try clear hfz10_0
        try clear hfz10_1
        try clear hfz12_0
        try clear hfz12_1
        try clear hfz25_0
        try clear hfz25_1
        try clear hfz28_0
        try clear hfz28_1
        try clear hfz30_0
        try clear hfz30_1
        try clear hfz32_0
        try clear hfz32_1
        try clear hfz36_0
        try clear hfz36_1
        try clear p2
        try clear p6
        obtain ⟨x13_3, rfl, HA, HK3, HO_9, HO_11, BK238, HB⟩ := hrel
        cases gk with
        | zero => exact absurd HA.out (by simp [foliatelaw04_FlowFrames.l0])
        | succ k3 =>
         have H := HA.out
         clear HA
         simp only [foliatelaw04_FlowFrames.l0] at H
         by_cases c37 : x13_3 < (t245.length : Int)
         ·rw [if_pos c37] at H
          have c37b0 : decide (x13_3 < (t245.length : Int)) = true := decide_eq_true c37
          clear c37
          by_cases c38 : 0 ≤ x13_3
          ·rw [if_pos c38] at H
           have c38b0 : decide (0 ≤ x13_3) = true := decide_eq_true c38
           clear c38
           obtain ⟨ji39, hji39⟩ : ∃ j_ : Int, (wrap64 (x13_3 - 1)) = j_ := ⟨_, rfl⟩
           replace H : (if 0 ≤ (ji39) then (if (ji39) < (t245.length : Int) then (if (rd t245 x13_3) ≤ (rd t245 (ji39)) then (none) else (if (rd t245 x13_3) > (t241.length : Int) then (none) else (foliatelaw04_FlowFrames.l0 k3 a1 a2 t241 t245 (wrap64 (x13_3 + 1))))) else (none)) else (none)) = some r := by first | (rw [hji39] at H; exact H) | (simp only [hji39] at H ⊢; exact H)
           have hji39w : (IntKind.i64.wrap (x13_3 - 1)) = ji39 := (i64_w _).trans hji39
           by_cases c40 : 0 ≤ (ji39)
           ·rw [if_pos c40] at H
            have c40b0 : decide (0 ≤ (ji39)) = true := decide_eq_true c40
            clear c40
            by_cases c41 : (ji39) < (t245.length : Int)
            ·rw [if_pos c41] at H
             have c41b0 : decide ((ji39) < (t245.length : Int)) = true := decide_eq_true c41
             clear c41
             by_cases c42 : (rd t245 x13_3) ≤ (rd t245 (ji39))
             ·rw [if_pos c42] at H
              have c42b0 : decide ((rd t245 x13_3) ≤ (rd t245 (ji39))) = true := decide_eq_true c42
              clear c42
              exact absurd H (by simp)
             ·rw [if_neg c42] at H
              have c42b0 : decide ((rd t245 x13_3) ≤ (rd t245 (ji39))) = false := decide_eq_false c42
              clear c42
              by_cases c43 : (rd t245 x13_3) > (t241.length : Int)
              ·rw [if_pos c43] at H
               exact absurd H (by simp)
              ·rw [if_neg c43] at H
               have c43b0 : decide ((t241.length : Int) < (rd t245 x13_3)) = false := decide_eq_false c43
               clear c43
               have H' := Aside0.mk H
               clear H
               obtain ⟨Ao44, co44, eo44⟩ := Kd.R_slice HO_11.out
               subst eo44
               try go_wp2
               have n0_ := am8_ (Kd.R_drew HO_9.out)
               have n1_ := am8_ (Kd.R_drew HO_11.out)
               have n2_ := am8_ (blk_drew BK238.out)
               have n3_ := am8_ (below_drew1 HB.out)
               clear HO_9
               clear HO_11
               clear BK238
               clear HB
               have HO_9 := n0_
               have HO_11 := n1_
               have BK238 := n2_
               have HB := n3_
               clear n0_ n1_ n2_ n3_
               have p249 : 0 ≤ (x13_3 : Int) := of_decide_eq_true (by first | (with_reducible assumption) | assumption)
               have q249 : x13_3 < (t245.length : Int) := of_decide_eq_true (by first | (with_reducible assumption) | assumption)
               obtain ⟨ad249, e249, hx249_0⟩ := Kd.at_int (Kd.R_reads' HO_11.out).2.2 x13_3 p249 q249
               cases e249
               replace p249 := eq_true p249
               replace q249 := eq_true q249
               have p250 : 0 ≤ ((ji39) : Int) := of_decide_eq_true (by first | (with_reducible assumption) | assumption)
               have q250 : (ji39) < (t245.length : Int) := of_decide_eq_true (by first | (with_reducible assumption) | assumption)
               obtain ⟨ad250, e250, hx250_0⟩ := Kd.at_int (Kd.R_reads' HO_11.out).2.2 (ji39) p250 q250
               obtain rfl : ad249 = ad250 := (by injection e250)
               replace p250 := eq_true p250
               replace q250 := eq_true q250
               have p251 : 0 ≤ (x13_3 : Int) := of_decide_eq_true (by first | (with_reducible assumption) | assumption)
               have q251 : x13_3 < (t245.length : Int) := of_decide_eq_true (by first | (with_reducible assumption) | assumption)
               obtain ⟨ad251, e251, hx251_0⟩ := Kd.at_int (Kd.R_reads' HO_11.out).2.2 x13_3 p251 q251
               obtain rfl : ad249 = ad251 := (by injection e251)
               replace p251 := eq_true p251
               replace q251 := eq_true q251
               refine start_ (n := 19) (S := fun w' => w'.cell? (ad249.add (x13_3).toNat) = some (.int .i64 (rd t245 x13_3)) ∧ w'.cell? (ad249.add ((ji39)).toNat) = some (.int .i64 (rd t245 (ji39))) ∧ w'.cell? (ad249.add (x13_3).toNat) = some (.int .i64 (rd t245 x13_3))) (ds := []) #[f_8,f_8,f_8,f_8,f_8,f_8,f_8,f_8,f_8,f_8,f_8,f_8,f_8,f_8,f_8,f_8,f_8,f_8,f_8] (by kernel_rfl) rfl rfl ⟨hx249_0, hx250_0, hx251_0⟩ (fun hHeld => ?_); refine with_tabW foliatelaw04_FlowFrames.tab12 foliatelaw04_FlowFrames.bits12 (fun HT_ HW_ => ?_)
               generalize wr.drew = w45 at HO_9 HO_11 BK238 HB hx249_0 hx250_0 hx251_0 hHeld ⊢
               refine pure_ (i := 0) (N := some 92) (v := ?_) (a' := ?_) #[t_8,f_8,f_8,f_8,f_8,f_8,f_8,f_8,f_8,f_8,f_8,f_8,f_8,f_8,f_8,f_8,f_8,f_8,f_8] rfl rfl (any_of HT_.out (by kernel_rfl)) (fun _ _ _ h => h) (Or.inl ⟨by rfl, ?_⟩) ?_ ?_; rotate_left; (·intro w'; go_simp; with_reducible rfl); rotate_left; (·simp only [Act.put, q1_8, q2_8, q3_8, i64_w, i32_w]; rfl)
               refine pure_ (i := 1) (N := some 93) (v := ?_) (a' := ?_) #[t_8,t_8,f_8,f_8,f_8,f_8,f_8,f_8,f_8,f_8,f_8,f_8,f_8,f_8,f_8,f_8,f_8,f_8,f_8] rfl rfl (any_of HT_.out (by kernel_rfl)) (fun _ _ _ h => h) (Or.inl ⟨by rfl, ?_⟩) ?_ ?_; rotate_left; (·intro w'; go_simp; with_reducible rfl); rotate_left; (·simp only [Act.put, q1_8, q2_8, q3_8, i64_w, i32_w]; rfl)
               refine pure_ (i := 2) (N := some 94) (v := ?_) (a' := ?_) #[t_8,t_8,t_8,f_8,f_8,f_8,f_8,f_8,f_8,f_8,f_8,f_8,f_8,f_8,f_8,f_8,f_8,f_8,f_8] rfl rfl (any_of HT_.out (by kernel_rfl)) (fun _ _ _ h => h) (Or.inl ⟨by rfl, ?_⟩) ?_ ?_; rotate_left; (·intro w'; go_simp; with_reducible rfl); rotate_left; (·simp only [Act.put, q1_8, q2_8, q3_8, i64_w, i32_w]; rfl)
               refine pure_ (i := 4) (N := some 96) (v := ?_) (a' := ?_) #[t_8,t_8,t_8,f_8,t_8,f_8,f_8,f_8,f_8,f_8,f_8,f_8,f_8,f_8,f_8,f_8,f_8,f_8,f_8] rfl rfl (any_of HT_.out (by kernel_rfl)) (fun _ _ _ h => h) (Or.inl ⟨by rfl, ?_⟩) ?_ ?_; rotate_left; (·intro w'; go_simp; with_reducible rfl); rotate_left; (·simp only [Act.put, q1_8, q2_8, q3_8, i64_w, i32_w]; rfl)
               refine pure_ (i := 5) (N := some 97) (v := ?_) (a' := ?_) #[t_8,t_8,t_8,f_8,t_8,t_8,f_8,f_8,f_8,f_8,f_8,f_8,f_8,f_8,f_8,f_8,f_8,f_8,f_8] rfl rfl (any_of HT_.out (by kernel_rfl)) (fun _ _ _ h => h) (Or.inl ⟨by rfl, ?_⟩) ?_ ?_; rotate_left; (·intro w'; go_simp; with_reducible rfl); rotate_left; (·simp only [Act.put, q1_8, q2_8, q3_8, i64_w, i32_w]; rfl)
               refine pure_ (i := 6) (N := some 98) (v := ?_) (a' := ?_) #[t_8,t_8,t_8,f_8,t_8,t_8,t_8,f_8,f_8,f_8,f_8,f_8,f_8,f_8,f_8,f_8,f_8,f_8,f_8] rfl rfl (any_of HT_.out (by kernel_rfl)) (fun _ _ _ h => h) (Or.inl ⟨by rfl, ?_⟩) ?_ ?_; rotate_left; (·intro w'; go_simp; with_reducible rfl); rotate_left; (·simp only [Act.put, q1_8, q2_8, q3_8, i64_w, i32_w]; rfl)
               refine pure_ (i := 7) (N := some 99) (v := ?_) (a' := ?_) #[t_8,t_8,t_8,f_8,t_8,t_8,t_8,t_8,f_8,f_8,f_8,f_8,f_8,f_8,f_8,f_8,f_8,f_8,f_8] rfl rfl (any_of HT_.out (by kernel_rfl)) (fun _ _ _ h => h) (Or.inl ⟨by rfl, ?_⟩) ?_ ?_; rotate_left; (·intro w'; go_simp; with_reducible rfl); rotate_left; (·simp only [Act.put, q1_8, q2_8, q3_8, i64_w, i32_w]; rfl)
               refine take_ (i := 3) (N := some 95) (v := ?_) (a' := ?_) #[t_8,t_8,t_8,t_8,t_8,t_8,t_8,t_8,f_8,f_8,f_8,f_8,f_8,f_8,f_8,f_8,f_8,f_8,f_8] rfl rfl (take_ofW HT_.out HW_.out (by kernel_rfl)) (fun _ _ _ h => h) (Or.inl ⟨by rfl, ?_⟩) hHeld ?_ ?_
               rotate_left
               ·rintro w' ⟨s0, s1, s2⟩
                go_simp
                with_reducible rfl
               rotate_left
               ·simp only [Act.put, q1_8, q2_8, q3_8, i64_w, i32_w]
                rfl
               refine take_ (i := 8) (N := some 100) (v := ?_) (a' := ?_) #[t_8,t_8,t_8,t_8,t_8,t_8,t_8,t_8,t_8,f_8,f_8,f_8,f_8,f_8,f_8,f_8,f_8,f_8,f_8] rfl rfl (take_ofW HT_.out HW_.out (by kernel_rfl)) (fun _ _ _ h => h) (Or.inl ⟨by rfl, ?_⟩) hHeld ?_ ?_
               rotate_left
               ·rintro w' ⟨s0, s1, s2⟩
                go_simp
                with_reducible rfl
               rotate_left
               ·simp only [Act.put, q1_8, q2_8, q3_8, i64_w, i32_w]
                rfl
               refine pure_ (i := 9) (N := some 101) (v := ?_) (a' := ?_) #[t_8,t_8,t_8,t_8,t_8,t_8,t_8,t_8,t_8,t_8,f_8,f_8,f_8,f_8,f_8,f_8,f_8,f_8,f_8] rfl rfl (any_of HT_.out (by kernel_rfl)) (fun _ _ _ h => h) (Or.inl ⟨by rfl, ?_⟩) ?_ ?_; rotate_left; (·intro w'; go_simp; with_reducible rfl); rotate_left; (·simp only [Act.put, q1_8, q2_8, q3_8, i64_w, i32_w]; rfl)
               refine pure_ (i := 10) (N := some 102) (v := ?_) (a' := ?_) #[t_8,t_8,t_8,t_8,t_8,t_8,t_8,t_8,t_8,t_8,t_8,f_8,f_8,f_8,f_8,f_8,f_8,f_8,f_8] rfl rfl (any_of HT_.out (by kernel_rfl)) (fun _ _ _ h => h) (Or.inl ⟨by rfl, ?_⟩) ?_ ?_; rotate_left; (·intro w'; go_simp; with_reducible rfl); rotate_left; (·simp only [Act.put, q1_8, q2_8, q3_8, i64_w, i32_w]; rfl)
               refine pure_ (i := 11) (N := some 103) (v := ?_) (a' := ?_) #[t_8,t_8,t_8,t_8,t_8,t_8,t_8,t_8,t_8,t_8,t_8,t_8,f_8,f_8,f_8,f_8,f_8,f_8,f_8] rfl rfl (any_of HT_.out (by kernel_rfl)) (fun _ _ _ h => h) (Or.inl ⟨by rfl, ?_⟩) ?_ ?_; rotate_left; (·intro w'; go_simp; with_reducible rfl); rotate_left; (·simp only [Act.put, q1_8, q2_8, q3_8, i64_w, i32_w]; rfl)
               refine pure_ (i := 12) (N := some 104) (v := ?_) (a' := ?_) #[t_8,t_8,t_8,t_8,t_8,t_8,t_8,t_8,t_8,t_8,t_8,t_8,t_8,f_8,f_8,f_8,f_8,f_8,f_8] rfl rfl (any_of HT_.out (by kernel_rfl)) (fun _ _ _ h => h) (Or.inl ⟨by rfl, ?_⟩) ?_ ?_; rotate_left; (·intro w'; go_simp; with_reducible rfl); rotate_left; (·simp only [Act.put, q1_8, q2_8, q3_8, i64_w, i32_w]; rfl)
               refine pure_ (i := 13) (N := some 105) (v := ?_) (a' := ?_) #[t_8,t_8,t_8,t_8,t_8,t_8,t_8,t_8,t_8,t_8,t_8,t_8,t_8,t_8,f_8,f_8,f_8,f_8,f_8] rfl rfl (any_of HT_.out (by kernel_rfl)) (fun _ _ _ h => h) (Or.inl ⟨by rfl, ?_⟩) ?_ ?_; rotate_left; (·intro w'; go_simp; with_reducible rfl); rotate_left; (·simp only [Act.put, q1_8, q2_8, q3_8, i64_w, i32_w]; rfl)
               refine pure_ (i := 15) (N := some 107) (v := ?_) (a' := ?_) #[t_8,t_8,t_8,t_8,t_8,t_8,t_8,t_8,t_8,t_8,t_8,t_8,t_8,t_8,f_8,t_8,f_8,f_8,f_8] rfl rfl (any_of HT_.out (by kernel_rfl)) (fun _ _ _ h => h) (Or.inl ⟨by rfl, ?_⟩) ?_ ?_; rotate_left; (·intro w'; go_simp; with_reducible rfl); rotate_left; (·simp only [Act.put, q1_8, q2_8, q3_8, i64_w, i32_w]; rfl)
               refine pure_ (i := 16) (N := some 108) (v := ?_) (a' := ?_) #[t_8,t_8,t_8,t_8,t_8,t_8,t_8,t_8,t_8,t_8,t_8,t_8,t_8,t_8,f_8,t_8,t_8,f_8,f_8] rfl rfl (any_of HT_.out (by kernel_rfl)) (fun _ _ _ h => h) (Or.inl ⟨by rfl, ?_⟩) ?_ ?_; rotate_left; (·intro w'; go_simp; with_reducible rfl); rotate_left; (·simp only [Act.put, q1_8, q2_8, q3_8, i64_w, i32_w]; rfl)
               refine take_ (i := 14) (N := some 106) (v := ?_) (a' := ?_) #[t_8,t_8,t_8,t_8,t_8,t_8,t_8,t_8,t_8,t_8,t_8,t_8,t_8,t_8,t_8,t_8,t_8,f_8,f_8] rfl rfl (take_ofW HT_.out HW_.out (by kernel_rfl)) (fun _ _ _ h => h) (Or.inl ⟨by rfl, ?_⟩) hHeld ?_ ?_
               rotate_left
               ·rintro w' ⟨s0, s1, s2⟩
                go_simp
                with_reducible rfl
               rotate_left
               ·simp only [Act.put, q1_8, q2_8, q3_8, i64_w, i32_w]
                rfl
               refine pure_ (i := 17) (N := some 109) (v := ?_) (a' := ?_) #[t_8,t_8,t_8,t_8,t_8,t_8,t_8,t_8,t_8,t_8,t_8,t_8,t_8,t_8,t_8,t_8,t_8,t_8,f_8] rfl rfl (any_of HT_.out (by kernel_rfl)) (fun _ _ _ h => h) (Or.inl ⟨by rfl, ?_⟩) ?_ ?_; rotate_left; (·intro w'; go_simp; with_reducible rfl); rotate_left; (·simp only [Act.put, q1_8, q2_8, q3_8, i64_w, i32_w]; rfl)
               refine pure_ (i := 18) (N := some 110) (v := ?_) (a' := ?_) #[t_8,t_8,t_8,t_8,t_8,t_8,t_8,t_8,t_8,t_8,t_8,t_8,t_8,t_8,t_8,t_8,t_8,t_8,t_8] rfl rfl (any_of HT_.out (by kernel_rfl)) (fun _ _ _ h => h) (Or.inl ⟨by rfl, ?_⟩) ?_ ?_; rotate_left; (·intro w'; go_simp; with_reducible rfl); rotate_left; (·simp only [Act.put, q1_8, q2_8, q3_8, i64_w, i32_w]; rfl)
               refine done_ (done_of HT_.out (by kernel_rfl)) ?_
               try go_wp2
               go_roundg k3
               case measure => have := HJ6.out; have := HJ17.out; have := HK3.out; omega
               case rel => exact ⟨(wrap64 (x13_3 + 1)), (by first | rfl | (simp; done) | (simp [*]; done)), H', ⟨by have := HJ6.out; have := HJ17.out; have := HK3.out; omega⟩, ⟨by (with_reducible repeat (first | apply ra8_ | apply rn8_ | apply rd8_)); exact HO_9.out⟩, ⟨by (with_reducible repeat (first | apply ra8_ | apply rn8_ | apply rd8_)); exact HO_11.out⟩, ⟨by (with_reducible repeat (first | refine blk_drewN ?_ _ | refine blk_drew ?_ | refine blk_alloc ?_ _)); exact BK238.out⟩, ⟨by repeat (first | (with_reducible first | exact HB.out | apply below_alloc | apply pw_below_drewN | apply below_drew1 | refine below_set ?_ GE238.out) | exact HB.out)⟩⟩
            ·rw [if_neg c41] at H
             exact absurd H (by simp)
           ·rw [if_neg c40] at H
            exact absurd H (by simp)
          ·rw [if_neg c38] at H
           exact absurd H (by simp)
         ·rw [if_neg c37] at H
          have c37b0 : decide (x13_3 < (t245.length : Int)) = false := decide_eq_false c37
          clear c37
          by_cases c46 : 0 ≤ a1
          ·rw [if_pos c46] at H
           have c46b0 : decide (0 ≤ a1) = true := decide_eq_true c46
           clear c46
           by_cases c47 : a1 < (t245.length : Int)
           ·rw [if_pos c47] at H
            have c47b0 : decide (a1 < (t245.length : Int)) = true := decide_eq_true c47
            clear c47
            obtain ⟨ji48, hji48⟩ : ∃ j_ : Int, (wrap64 (a1 + 1)) = j_ := ⟨_, rfl⟩
            replace H : (if 0 ≤ (ji48) then (if (ji48) < (t245.length : Int) then (if 0 ≤ (rd t245 a1) then (if (rd t245 a1) ≤ (rd t245 (ji48)) then (if (rd t245 (ji48)) ≤ (t241.length : Int) then ((some ((t241.take ((rd t245 (ji48)) : Int).toNat).drop ((rd t245 a1) : Int).toNat : List Int)).bind fun y254 => (if 0 ≤ a2 then (if a2 < (t245.length : Int) then (if 0 ≤ (wrap64 (a2 + 1)) then (if (wrap64 (a2 + 1)) < (t245.length : Int) then (if 0 ≤ (rd t245 a2) then (if (rd t245 a2) ≤ (rd t245 (wrap64 (a2 + 1))) then (if (rd t245 (wrap64 (a2 + 1))) ≤ (t241.length : Int) then ((some ((t241.take ((rd t245 (wrap64 (a2 + 1))) : Int).toNat).drop ((rd t245 a2) : Int).toNat : List Int)).bind fun y260 => (if (rd t245 a1) ≤ (t241.length : Int) then ((some (t241.take ((rd t245 a1) : Int).toNat : List Int)).bind fun y265 => (if ([] : List Int).length + y265.length < 140737488355328 then ((some (([] : List Int) ++ y265 : List Int)).bind fun y269 => (if 0 ≤ (rd t245 (ji48)) then ((some (t241.drop ((rd t245 (ji48)) : Int).toNat : List Int)).bind fun y273 => (if y269.length + y273.length < 140737488355328 then ((some (t241.take ((rd t245 (ji48)) : Int).toNat : List Int)).bind fun y281 => (if ([] : List Int).length + y281.length < 140737488355328 then ((some (([] : List Int) ++ y281 : List Int)).bind fun y285 => (if y285.length + y254.length < 140737488355328 then ((some (y285 ++ y254 : List Int)).bind fun y288 => ((some (t241.drop ((rd t245 (ji48)) : Int).toNat : List Int)).bind fun y292 => (if y288.length + y292.length < 140737488355328 then ((some (t241.take ((rd t245 a1) : Int).toNat : List Int)).bind fun y300 => (if ([] : List Int).length + y300.length < 140737488355328 then ((some (([] : List Int) ++ y300 : List Int)).bind fun y304 => (if y304.length + y260.length < 140737488355328 then ((some (y304 ++ y260 : List Int)).bind fun y307 => (if (rd t245 (ji48)) ≤ (rd t245 a2) then (if (rd t245 a2) ≤ (t241.length : Int) then ((some ((t241.take ((rd t245 a2) : Int).toNat).drop ((rd t245 (ji48)) : Int).toNat : List Int)).bind fun y312 => (if y307.length + y312.length < 140737488355328 then ((some (y307 ++ y312 : List Int)).bind fun y316 => (if y316.length + y254.length < 140737488355328 then ((some (y316 ++ y254 : List Int)).bind fun y319 => (if 0 ≤ (rd t245 (wrap64 (a2 + 1))) then ((some (t241.drop ((rd t245 (wrap64 (a2 + 1))) : Int).toNat : List Int)).bind fun y323 => (if y319.length + y323.length < 140737488355328 then ((flow_Get.f k3 (y269 ++ y273)).bind fun bt330 => ((flow_Get.f k3 (y288 ++ y292)).bind fun bt336 => ((flow_Get.f k3 (y319 ++ y323)).bind fun bt342 => (if bt330.2.2 = 0 then (none) else (if bt336.2.2 = 0 then (none) else (some (bt342.2.2 != 0))))))) else (none))) else (none))) else (none))) else (none))) else (none)) else (none))) else (none))) else (none))) else (none)))) else (none))) else (none))) else (none))) else (none))) else (none))) else (none))) else (none)) else (none)) else (none)) else (none)) else (none)) else (none)) else (none))) else (none)) else (none)) else (none)) else (none)) else (none)) = some r := by first | (rw [hji48] at H; exact H) | (simp only [hji48] at H ⊢; exact H)
            have hji48w : (IntKind.i64.wrap (a1 + 1)) = ji48 := (i64_w _).trans hji48
            by_cases c49 : 0 ≤ (ji48)
            ·rw [if_pos c49] at H
             have c49b0 : decide (0 ≤ (ji48)) = true := decide_eq_true c49
             clear c49
             by_cases c50 : (ji48) < (t245.length : Int)
             ·rw [if_pos c50] at H
              have c50b0 : decide ((ji48) < (t245.length : Int)) = true := decide_eq_true c50
              clear c50
              by_cases c51 : 0 ≤ (rd t245 a1)
              ·rw [if_pos c51] at H
               have c51b0 := eq_true c51
               have c51b1 : decide (0 ≤ (rd t245 a1)) = true := decide_eq_true c51
               clear c51
               by_cases c52 : (rd t245 a1) ≤ (rd t245 (ji48))
               ·rw [if_pos c52] at H
                have c52b0 := eq_true c52
                have c52b1 : decide ((rd t245 a1) ≤ (rd t245 (ji48))) = true := decide_eq_true c52
                clear c52
                by_cases c53 : (rd t245 (ji48)) ≤ (t241.length : Int)
                ·rw [if_pos c53] at H
                 have c53b0 := eq_true c53
                 have c53b1 : decide ((rd t245 (ji48)) ≤ (t241.length : Int)) = true := decide_eq_true c53
                 clear c53
                 obtain ⟨y254, hy254⟩ : ∃ y_ : List Int, y_ = ((t241.take ((rd t245 (ji48)) : Int).toNat).drop ((rd t245 a1) : Int).toNat) := ⟨_, rfl⟩
                 replace H : (if 0 ≤ a2 then (if a2 < (t245.length : Int) then (if 0 ≤ (wrap64 (a2 + 1)) then (if (wrap64 (a2 + 1)) < (t245.length : Int) then (if 0 ≤ (rd t245 a2) then (if (rd t245 a2) ≤ (rd t245 (wrap64 (a2 + 1))) then (if (rd t245 (wrap64 (a2 + 1))) ≤ (t241.length : Int) then ((some ((t241.take ((rd t245 (wrap64 (a2 + 1))) : Int).toNat).drop ((rd t245 a2) : Int).toNat : List Int)).bind fun y260 => (if (rd t245 a1) ≤ (t241.length : Int) then ((some (t241.take ((rd t245 a1) : Int).toNat : List Int)).bind fun y265 => (if ([] : List Int).length + y265.length < 140737488355328 then ((some (([] : List Int) ++ y265 : List Int)).bind fun y269 => (if 0 ≤ (rd t245 (ji48)) then ((some (t241.drop ((rd t245 (ji48)) : Int).toNat : List Int)).bind fun y273 => (if y269.length + y273.length < 140737488355328 then ((some (t241.take ((rd t245 (ji48)) : Int).toNat : List Int)).bind fun y281 => (if ([] : List Int).length + y281.length < 140737488355328 then ((some (([] : List Int) ++ y281 : List Int)).bind fun y285 => (if y285.length + y254.length < 140737488355328 then ((some (y285 ++ y254 : List Int)).bind fun y288 => ((some (t241.drop ((rd t245 (ji48)) : Int).toNat : List Int)).bind fun y292 => (if y288.length + y292.length < 140737488355328 then ((some (t241.take ((rd t245 a1) : Int).toNat : List Int)).bind fun y300 => (if ([] : List Int).length + y300.length < 140737488355328 then ((some (([] : List Int) ++ y300 : List Int)).bind fun y304 => (if y304.length + y260.length < 140737488355328 then ((some (y304 ++ y260 : List Int)).bind fun y307 => (if (rd t245 (ji48)) ≤ (rd t245 a2) then (if (rd t245 a2) ≤ (t241.length : Int) then ((some ((t241.take ((rd t245 a2) : Int).toNat).drop ((rd t245 (ji48)) : Int).toNat : List Int)).bind fun y312 => (if y307.length + y312.length < 140737488355328 then ((some (y307 ++ y312 : List Int)).bind fun y316 => (if y316.length + y254.length < 140737488355328 then ((some (y316 ++ y254 : List Int)).bind fun y319 => (if 0 ≤ (rd t245 (wrap64 (a2 + 1))) then ((some (t241.drop ((rd t245 (wrap64 (a2 + 1))) : Int).toNat : List Int)).bind fun y323 => (if y319.length + y323.length < 140737488355328 then ((flow_Get.f k3 (y269 ++ y273)).bind fun bt330 => ((flow_Get.f k3 (y288 ++ y292)).bind fun bt336 => ((flow_Get.f k3 (y319 ++ y323)).bind fun bt342 => (if bt330.2.2 = 0 then (none) else (if bt336.2.2 = 0 then (none) else (some (bt342.2.2 != 0))))))) else (none))) else (none))) else (none))) else (none))) else (none)) else (none))) else (none))) else (none))) else (none)))) else (none))) else (none))) else (none))) else (none))) else (none))) else (none))) else (none)) else (none)) else (none)) else (none)) else (none)) else (none)) else (none)) = some r := by first | (rw [hy254]; with_reducible exact H) | (have H2_ := (Option.bind_some _ _).symm.trans H; rw [hy254]; with_reducible exact H2_) | (have H2_ := (Option.bind_some _ _).symm.trans H; with_reducible exact H2_) | with_reducible exact H | (rw [hy254]; exact H) | exact H
                 have Ny254 := Aside0.mk hy254
                 clear hy254
                 by_cases c54 : 0 ≤ a2
                 ·rw [if_pos c54] at H
                  have c54b0 : decide (0 ≤ a2) = true := decide_eq_true c54
                  clear c54
                  by_cases c55 : a2 < (t245.length : Int)
                  ·rw [if_pos c55] at H
                   have c55b0 : decide (a2 < (t245.length : Int)) = true := decide_eq_true c55
                   clear c55
                   obtain ⟨ji56, hji56⟩ : ∃ j_ : Int, (wrap64 (a2 + 1)) = j_ := ⟨_, rfl⟩
                   replace H : (if 0 ≤ (ji56) then (if (ji56) < (t245.length : Int) then (if 0 ≤ (rd t245 a2) then (if (rd t245 a2) ≤ (rd t245 (ji56)) then (if (rd t245 (ji56)) ≤ (t241.length : Int) then ((some ((t241.take ((rd t245 (ji56)) : Int).toNat).drop ((rd t245 a2) : Int).toNat : List Int)).bind fun y260 => (if (rd t245 a1) ≤ (t241.length : Int) then ((some (t241.take ((rd t245 a1) : Int).toNat : List Int)).bind fun y265 => (if ([] : List Int).length + y265.length < 140737488355328 then ((some (([] : List Int) ++ y265 : List Int)).bind fun y269 => (if 0 ≤ (rd t245 (ji48)) then ((some (t241.drop ((rd t245 (ji48)) : Int).toNat : List Int)).bind fun y273 => (if y269.length + y273.length < 140737488355328 then ((some (t241.take ((rd t245 (ji48)) : Int).toNat : List Int)).bind fun y281 => (if ([] : List Int).length + y281.length < 140737488355328 then ((some (([] : List Int) ++ y281 : List Int)).bind fun y285 => (if y285.length + y254.length < 140737488355328 then ((some (y285 ++ y254 : List Int)).bind fun y288 => ((some (t241.drop ((rd t245 (ji48)) : Int).toNat : List Int)).bind fun y292 => (if y288.length + y292.length < 140737488355328 then ((some (t241.take ((rd t245 a1) : Int).toNat : List Int)).bind fun y300 => (if ([] : List Int).length + y300.length < 140737488355328 then ((some (([] : List Int) ++ y300 : List Int)).bind fun y304 => (if y304.length + y260.length < 140737488355328 then ((some (y304 ++ y260 : List Int)).bind fun y307 => (if (rd t245 (ji48)) ≤ (rd t245 a2) then (if (rd t245 a2) ≤ (t241.length : Int) then ((some ((t241.take ((rd t245 a2) : Int).toNat).drop ((rd t245 (ji48)) : Int).toNat : List Int)).bind fun y312 => (if y307.length + y312.length < 140737488355328 then ((some (y307 ++ y312 : List Int)).bind fun y316 => (if y316.length + y254.length < 140737488355328 then ((some (y316 ++ y254 : List Int)).bind fun y319 => (if 0 ≤ (rd t245 (ji56)) then ((some (t241.drop ((rd t245 (ji56)) : Int).toNat : List Int)).bind fun y323 => (if y319.length + y323.length < 140737488355328 then ((flow_Get.f k3 (y269 ++ y273)).bind fun bt330 => ((flow_Get.f k3 (y288 ++ y292)).bind fun bt336 => ((flow_Get.f k3 (y319 ++ y323)).bind fun bt342 => (if bt330.2.2 = 0 then (none) else (if bt336.2.2 = 0 then (none) else (some (bt342.2.2 != 0))))))) else (none))) else (none))) else (none))) else (none))) else (none)) else (none))) else (none))) else (none))) else (none)))) else (none))) else (none))) else (none))) else (none))) else (none))) else (none))) else (none)) else (none)) else (none)) else (none)) else (none)) = some r := by first | (rw [hji56] at H; exact H) | (simp only [hji56] at H ⊢; exact H)
                   have hji56w : (IntKind.i64.wrap (a2 + 1)) = ji56 := (i64_w _).trans hji56
                   by_cases c57 : 0 ≤ (ji56)
                   ·rw [if_pos c57] at H
                    have c57b0 : decide (0 ≤ (ji56)) = true := decide_eq_true c57
                    clear c57
                    by_cases c58 : (ji56) < (t245.length : Int)
                    ·rw [if_pos c58] at H
                     have c58b0 : decide ((ji56) < (t245.length : Int)) = true := decide_eq_true c58
                     clear c58
                     by_cases c59 : 0 ≤ (rd t245 a2)
                     ·rw [if_pos c59] at H
                      have c59b0 := eq_true c59
                      have c59b1 : decide (0 ≤ (rd t245 a2)) = true := decide_eq_true c59
                      clear c59
                      by_cases c60 : (rd t245 a2) ≤ (rd t245 (ji56))
                      ·rw [if_pos c60] at H
                       have c60b0 := eq_true c60
                       have c60b1 : decide ((rd t245 a2) ≤ (rd t245 (ji56))) = true := decide_eq_true c60
                       clear c60
                       by_cases c61 : (rd t245 (ji56)) ≤ (t241.length : Int)
                       ·rw [if_pos c61] at H
                        have c61b0 := eq_true c61
                        have c61b1 : decide ((rd t245 (ji56)) ≤ (t241.length : Int)) = true := decide_eq_true c61
                        clear c61
                        obtain ⟨y260, hy260⟩ : ∃ y_ : List Int, y_ = ((t241.take ((rd t245 (ji56)) : Int).toNat).drop ((rd t245 a2) : Int).toNat) := ⟨_, rfl⟩
                        replace H : (if (rd t245 a1) ≤ (t241.length : Int) then ((some (t241.take ((rd t245 a1) : Int).toNat : List Int)).bind fun y265 => (if ([] : List Int).length + y265.length < 140737488355328 then ((some (([] : List Int) ++ y265 : List Int)).bind fun y269 => (if 0 ≤ (rd t245 (ji48)) then ((some (t241.drop ((rd t245 (ji48)) : Int).toNat : List Int)).bind fun y273 => (if y269.length + y273.length < 140737488355328 then ((some (t241.take ((rd t245 (ji48)) : Int).toNat : List Int)).bind fun y281 => (if ([] : List Int).length + y281.length < 140737488355328 then ((some (([] : List Int) ++ y281 : List Int)).bind fun y285 => (if y285.length + y254.length < 140737488355328 then ((some (y285 ++ y254 : List Int)).bind fun y288 => ((some (t241.drop ((rd t245 (ji48)) : Int).toNat : List Int)).bind fun y292 => (if y288.length + y292.length < 140737488355328 then ((some (t241.take ((rd t245 a1) : Int).toNat : List Int)).bind fun y300 => (if ([] : List Int).length + y300.length < 140737488355328 then ((some (([] : List Int) ++ y300 : List Int)).bind fun y304 => (if y304.length + y260.length < 140737488355328 then ((some (y304 ++ y260 : List Int)).bind fun y307 => (if (rd t245 (ji48)) ≤ (rd t245 a2) then (if (rd t245 a2) ≤ (t241.length : Int) then ((some ((t241.take ((rd t245 a2) : Int).toNat).drop ((rd t245 (ji48)) : Int).toNat : List Int)).bind fun y312 => (if y307.length + y312.length < 140737488355328 then ((some (y307 ++ y312 : List Int)).bind fun y316 => (if y316.length + y254.length < 140737488355328 then ((some (y316 ++ y254 : List Int)).bind fun y319 => (if 0 ≤ (rd t245 (ji56)) then ((some (t241.drop ((rd t245 (ji56)) : Int).toNat : List Int)).bind fun y323 => (if y319.length + y323.length < 140737488355328 then ((flow_Get.f k3 (y269 ++ y273)).bind fun bt330 => ((flow_Get.f k3 (y288 ++ y292)).bind fun bt336 => ((flow_Get.f k3 (y319 ++ y323)).bind fun bt342 => (if bt330.2.2 = 0 then (none) else (if bt336.2.2 = 0 then (none) else (some (bt342.2.2 != 0))))))) else (none))) else (none))) else (none))) else (none))) else (none)) else (none))) else (none))) else (none))) else (none)))) else (none))) else (none))) else (none))) else (none))) else (none))) else (none)) = some r := by first | (rw [hy260]; with_reducible exact H) | (have H2_ := (Option.bind_some _ _).symm.trans H; rw [hy260]; with_reducible exact H2_) | (have H2_ := (Option.bind_some _ _).symm.trans H; with_reducible exact H2_) | with_reducible exact H | (rw [hy260]; exact H) | exact H
                        have Ny260 := Aside0.mk hy260
                        clear hy260
                        have c62b0 := eq_true (of_decide_eq_true (by first | (with_reducible assumption) | assumption) : 0 ≤ (rd t245 a1))
                        by_cases c63 : (rd t245 a1) ≤ (t241.length : Int)
                        ·rw [if_pos c63] at H
                         have c63b0 := eq_true c63
                         have c63b1 : decide ((rd t245 a1) ≤ (t241.length : Int)) = true := decide_eq_true c63
                         clear c63
                         obtain ⟨y265, hy265⟩ : ∃ y_ : List Int, y_ = (t241.take ((rd t245 a1) : Int).toNat) := ⟨_, rfl⟩
                         replace H : (if ([] : List Int).length + y265.length < 140737488355328 then ((some (([] : List Int) ++ y265 : List Int)).bind fun y269 => (if 0 ≤ (rd t245 (ji48)) then ((some (t241.drop ((rd t245 (ji48)) : Int).toNat : List Int)).bind fun y273 => (if y269.length + y273.length < 140737488355328 then ((some (t241.take ((rd t245 (ji48)) : Int).toNat : List Int)).bind fun y281 => (if ([] : List Int).length + y281.length < 140737488355328 then ((some (([] : List Int) ++ y281 : List Int)).bind fun y285 => (if y285.length + y254.length < 140737488355328 then ((some (y285 ++ y254 : List Int)).bind fun y288 => ((some (t241.drop ((rd t245 (ji48)) : Int).toNat : List Int)).bind fun y292 => (if y288.length + y292.length < 140737488355328 then ((some (t241.take ((rd t245 a1) : Int).toNat : List Int)).bind fun y300 => (if ([] : List Int).length + y300.length < 140737488355328 then ((some (([] : List Int) ++ y300 : List Int)).bind fun y304 => (if y304.length + y260.length < 140737488355328 then ((some (y304 ++ y260 : List Int)).bind fun y307 => (if (rd t245 (ji48)) ≤ (rd t245 a2) then (if (rd t245 a2) ≤ (t241.length : Int) then ((some ((t241.take ((rd t245 a2) : Int).toNat).drop ((rd t245 (ji48)) : Int).toNat : List Int)).bind fun y312 => (if y307.length + y312.length < 140737488355328 then ((some (y307 ++ y312 : List Int)).bind fun y316 => (if y316.length + y254.length < 140737488355328 then ((some (y316 ++ y254 : List Int)).bind fun y319 => (if 0 ≤ (rd t245 (ji56)) then ((some (t241.drop ((rd t245 (ji56)) : Int).toNat : List Int)).bind fun y323 => (if y319.length + y323.length < 140737488355328 then ((flow_Get.f k3 (y269 ++ y273)).bind fun bt330 => ((flow_Get.f k3 (y288 ++ y292)).bind fun bt336 => ((flow_Get.f k3 (y319 ++ y323)).bind fun bt342 => (if bt330.2.2 = 0 then (none) else (if bt336.2.2 = 0 then (none) else (some (bt342.2.2 != 0))))))) else (none))) else (none))) else (none))) else (none))) else (none)) else (none))) else (none))) else (none))) else (none)))) else (none))) else (none))) else (none))) else (none))) else (none)) = some r := by first | (rw [hy265]; with_reducible exact H) | (have H2_ := (Option.bind_some _ _).symm.trans H; rw [hy265]; with_reducible exact H2_) | (have H2_ := (Option.bind_some _ _).symm.trans H; with_reducible exact H2_) | with_reducible exact H | (rw [hy265]; exact H) | exact H
                         have Ny265 := Aside0.mk hy265
                         clear hy265
                         by_cases c64 : ([] : List Int).length + y265.length < 140737488355328
                         ·rw [if_pos c64] at H
                          have LMc64 := Aside0.mk c64
                          clear c64
                          obtain ⟨y269, hy269⟩ : ∃ y_ : List Int, y_ = (([] : List Int) ++ y265) := ⟨_, rfl⟩
                          replace H : (if 0 ≤ (rd t245 (ji48)) then ((some (t241.drop ((rd t245 (ji48)) : Int).toNat : List Int)).bind fun y273 => (if y269.length + y273.length < 140737488355328 then ((some (t241.take ((rd t245 (ji48)) : Int).toNat : List Int)).bind fun y281 => (if ([] : List Int).length + y281.length < 140737488355328 then ((some (([] : List Int) ++ y281 : List Int)).bind fun y285 => (if y285.length + y254.length < 140737488355328 then ((some (y285 ++ y254 : List Int)).bind fun y288 => ((some (t241.drop ((rd t245 (ji48)) : Int).toNat : List Int)).bind fun y292 => (if y288.length + y292.length < 140737488355328 then ((some (t241.take ((rd t245 a1) : Int).toNat : List Int)).bind fun y300 => (if ([] : List Int).length + y300.length < 140737488355328 then ((some (([] : List Int) ++ y300 : List Int)).bind fun y304 => (if y304.length + y260.length < 140737488355328 then ((some (y304 ++ y260 : List Int)).bind fun y307 => (if (rd t245 (ji48)) ≤ (rd t245 a2) then (if (rd t245 a2) ≤ (t241.length : Int) then ((some ((t241.take ((rd t245 a2) : Int).toNat).drop ((rd t245 (ji48)) : Int).toNat : List Int)).bind fun y312 => (if y307.length + y312.length < 140737488355328 then ((some (y307 ++ y312 : List Int)).bind fun y316 => (if y316.length + y254.length < 140737488355328 then ((some (y316 ++ y254 : List Int)).bind fun y319 => (if 0 ≤ (rd t245 (ji56)) then ((some (t241.drop ((rd t245 (ji56)) : Int).toNat : List Int)).bind fun y323 => (if y319.length + y323.length < 140737488355328 then ((flow_Get.f k3 (y269 ++ y273)).bind fun bt330 => ((flow_Get.f k3 (y288 ++ y292)).bind fun bt336 => ((flow_Get.f k3 (y319 ++ y323)).bind fun bt342 => (if bt330.2.2 = 0 then (none) else (if bt336.2.2 = 0 then (none) else (some (bt342.2.2 != 0))))))) else (none))) else (none))) else (none))) else (none))) else (none)) else (none))) else (none))) else (none))) else (none)))) else (none))) else (none))) else (none))) else (none)) = some r := by first | (rw [hy269]; with_reducible exact H) | (have H2_ := (Option.bind_some _ _).symm.trans H; rw [hy269]; with_reducible exact H2_) | (have H2_ := (Option.bind_some _ _).symm.trans H; with_reducible exact H2_) | with_reducible exact H | (rw [hy269]; exact H) | exact H
                          have Ny269 := Aside0.mk hy269
                          clear hy269
                          by_cases c65 : 0 ≤ (rd t245 (ji48))
                          ·rw [if_pos c65] at H
                           have c65b0 := eq_true c65
                           have c65b1 : decide (0 ≤ (rd t245 (ji48))) = true := decide_eq_true c65
                           clear c65
                           have c66b0 := eq_true (of_decide_eq_true (by first | (with_reducible assumption) | assumption) : (rd t245 (ji48)) ≤ (t241.length : Int))
                           obtain ⟨y273, hy273⟩ : ∃ y_ : List Int, y_ = (t241.drop ((rd t245 (ji48)) : Int).toNat) := ⟨_, rfl⟩
                           replace H : (if y269.length + y273.length < 140737488355328 then ((some (t241.take ((rd t245 (ji48)) : Int).toNat : List Int)).bind fun y281 => (if ([] : List Int).length + y281.length < 140737488355328 then ((some (([] : List Int) ++ y281 : List Int)).bind fun y285 => (if y285.length + y254.length < 140737488355328 then ((some (y285 ++ y254 : List Int)).bind fun y288 => ((some (t241.drop ((rd t245 (ji48)) : Int).toNat : List Int)).bind fun y292 => (if y288.length + y292.length < 140737488355328 then ((some (t241.take ((rd t245 a1) : Int).toNat : List Int)).bind fun y300 => (if ([] : List Int).length + y300.length < 140737488355328 then ((some (([] : List Int) ++ y300 : List Int)).bind fun y304 => (if y304.length + y260.length < 140737488355328 then ((some (y304 ++ y260 : List Int)).bind fun y307 => (if (rd t245 (ji48)) ≤ (rd t245 a2) then (if (rd t245 a2) ≤ (t241.length : Int) then ((some ((t241.take ((rd t245 a2) : Int).toNat).drop ((rd t245 (ji48)) : Int).toNat : List Int)).bind fun y312 => (if y307.length + y312.length < 140737488355328 then ((some (y307 ++ y312 : List Int)).bind fun y316 => (if y316.length + y254.length < 140737488355328 then ((some (y316 ++ y254 : List Int)).bind fun y319 => (if 0 ≤ (rd t245 (ji56)) then ((some (t241.drop ((rd t245 (ji56)) : Int).toNat : List Int)).bind fun y323 => (if y319.length + y323.length < 140737488355328 then ((flow_Get.f k3 (y269 ++ y273)).bind fun bt330 => ((flow_Get.f k3 (y288 ++ y292)).bind fun bt336 => ((flow_Get.f k3 (y319 ++ y323)).bind fun bt342 => (if bt330.2.2 = 0 then (none) else (if bt336.2.2 = 0 then (none) else (some (bt342.2.2 != 0))))))) else (none))) else (none))) else (none))) else (none))) else (none)) else (none))) else (none))) else (none))) else (none)))) else (none))) else (none))) else (none)) = some r := by first | (rw [hy273]; with_reducible exact H) | (have H2_ := (Option.bind_some _ _).symm.trans H; rw [hy273]; with_reducible exact H2_) | (have H2_ := (Option.bind_some _ _).symm.trans H; with_reducible exact H2_) | with_reducible exact H | (rw [hy273]; exact H) | exact H
                           have Ny273 := Aside0.mk hy273
                           clear hy273
                           by_cases c67 : y269.length + y273.length < 140737488355328
                           ·rw [if_pos c67] at H
                            have LMc67 := Aside0.mk c67
                            clear c67
                            obtain ⟨y277, hy277⟩ : ∃ y_ : List Int, y_ = (y269 ++ y273) := ⟨_, rfl⟩
                            replace H : ((some (t241.take ((rd t245 (ji48)) : Int).toNat : List Int)).bind fun y281 => (if ([] : List Int).length + y281.length < 140737488355328 then ((some (([] : List Int) ++ y281 : List Int)).bind fun y285 => (if y285.length + y254.length < 140737488355328 then ((some (y285 ++ y254 : List Int)).bind fun y288 => ((some (t241.drop ((rd t245 (ji48)) : Int).toNat : List Int)).bind fun y292 => (if y288.length + y292.length < 140737488355328 then ((some (t241.take ((rd t245 a1) : Int).toNat : List Int)).bind fun y300 => (if ([] : List Int).length + y300.length < 140737488355328 then ((some (([] : List Int) ++ y300 : List Int)).bind fun y304 => (if y304.length + y260.length < 140737488355328 then ((some (y304 ++ y260 : List Int)).bind fun y307 => (if (rd t245 (ji48)) ≤ (rd t245 a2) then (if (rd t245 a2) ≤ (t241.length : Int) then ((some ((t241.take ((rd t245 a2) : Int).toNat).drop ((rd t245 (ji48)) : Int).toNat : List Int)).bind fun y312 => (if y307.length + y312.length < 140737488355328 then ((some (y307 ++ y312 : List Int)).bind fun y316 => (if y316.length + y254.length < 140737488355328 then ((some (y316 ++ y254 : List Int)).bind fun y319 => (if 0 ≤ (rd t245 (ji56)) then ((some (t241.drop ((rd t245 (ji56)) : Int).toNat : List Int)).bind fun y323 => (if y319.length + y323.length < 140737488355328 then ((flow_Get.f k3 y277).bind fun bt330 => ((flow_Get.f k3 (y288 ++ y292)).bind fun bt336 => ((flow_Get.f k3 (y319 ++ y323)).bind fun bt342 => (if bt330.2.2 = 0 then (none) else (if bt336.2.2 = 0 then (none) else (some (bt342.2.2 != 0))))))) else (none))) else (none))) else (none))) else (none))) else (none)) else (none))) else (none))) else (none))) else (none)))) else (none))) else (none))) = some r := by first | (rw [hy277]; with_reducible exact H) | (have H2_ := (Option.bind_some _ _).symm.trans H; rw [hy277]; with_reducible exact H2_) | (have H2_ := (Option.bind_some _ _).symm.trans H; with_reducible exact H2_) | with_reducible exact H | (rw [hy277]; exact H) | exact H
                            have Ny277 := Aside0.mk hy277
                            clear hy277
                            have c68b0 := eq_true (of_decide_eq_true (by first | (with_reducible assumption) | assumption) : 0 ≤ (rd t245 (ji48)))
                            have c69b0 := eq_true (of_decide_eq_true (by first | (with_reducible assumption) | assumption) : (rd t245 (ji48)) ≤ (t241.length : Int))
                            obtain ⟨y281, hy281⟩ : ∃ y_ : List Int, y_ = (t241.take ((rd t245 (ji48)) : Int).toNat) := ⟨_, rfl⟩
                            replace H : (if ([] : List Int).length + y281.length < 140737488355328 then ((some (([] : List Int) ++ y281 : List Int)).bind fun y285 => (if y285.length + y254.length < 140737488355328 then ((some (y285 ++ y254 : List Int)).bind fun y288 => ((some (t241.drop ((rd t245 (ji48)) : Int).toNat : List Int)).bind fun y292 => (if y288.length + y292.length < 140737488355328 then ((some (t241.take ((rd t245 a1) : Int).toNat : List Int)).bind fun y300 => (if ([] : List Int).length + y300.length < 140737488355328 then ((some (([] : List Int) ++ y300 : List Int)).bind fun y304 => (if y304.length + y260.length < 140737488355328 then ((some (y304 ++ y260 : List Int)).bind fun y307 => (if (rd t245 (ji48)) ≤ (rd t245 a2) then (if (rd t245 a2) ≤ (t241.length : Int) then ((some ((t241.take ((rd t245 a2) : Int).toNat).drop ((rd t245 (ji48)) : Int).toNat : List Int)).bind fun y312 => (if y307.length + y312.length < 140737488355328 then ((some (y307 ++ y312 : List Int)).bind fun y316 => (if y316.length + y254.length < 140737488355328 then ((some (y316 ++ y254 : List Int)).bind fun y319 => (if 0 ≤ (rd t245 (ji56)) then ((some (t241.drop ((rd t245 (ji56)) : Int).toNat : List Int)).bind fun y323 => (if y319.length + y323.length < 140737488355328 then ((flow_Get.f k3 y277).bind fun bt330 => ((flow_Get.f k3 (y288 ++ y292)).bind fun bt336 => ((flow_Get.f k3 (y319 ++ y323)).bind fun bt342 => (if bt330.2.2 = 0 then (none) else (if bt336.2.2 = 0 then (none) else (some (bt342.2.2 != 0))))))) else (none))) else (none))) else (none))) else (none))) else (none)) else (none))) else (none))) else (none))) else (none)))) else (none))) else (none)) = some r := by first | (rw [hy281]; with_reducible exact H) | (have H2_ := (Option.bind_some _ _).symm.trans H; rw [hy281]; with_reducible exact H2_) | (have H2_ := (Option.bind_some _ _).symm.trans H; with_reducible exact H2_) | with_reducible exact H | (rw [hy281]; exact H) | exact H
                            have Ny281 := Aside0.mk hy281
                            clear hy281
                            by_cases c70 : ([] : List Int).length + y281.length < 140737488355328
                            ·rw [if_pos c70] at H
                             have LMc70 := Aside0.mk c70
                             clear c70
                             obtain ⟨y285, hy285⟩ : ∃ y_ : List Int, y_ = (([] : List Int) ++ y281) := ⟨_, rfl⟩
                             replace H : (if y285.length + y254.length < 140737488355328 then ((some (y285 ++ y254 : List Int)).bind fun y288 => ((some (t241.drop ((rd t245 (ji48)) : Int).toNat : List Int)).bind fun y292 => (if y288.length + y292.length < 140737488355328 then ((some (t241.take ((rd t245 a1) : Int).toNat : List Int)).bind fun y300 => (if ([] : List Int).length + y300.length < 140737488355328 then ((some (([] : List Int) ++ y300 : List Int)).bind fun y304 => (if y304.length + y260.length < 140737488355328 then ((some (y304 ++ y260 : List Int)).bind fun y307 => (if (rd t245 (ji48)) ≤ (rd t245 a2) then (if (rd t245 a2) ≤ (t241.length : Int) then ((some ((t241.take ((rd t245 a2) : Int).toNat).drop ((rd t245 (ji48)) : Int).toNat : List Int)).bind fun y312 => (if y307.length + y312.length < 140737488355328 then ((some (y307 ++ y312 : List Int)).bind fun y316 => (if y316.length + y254.length < 140737488355328 then ((some (y316 ++ y254 : List Int)).bind fun y319 => (if 0 ≤ (rd t245 (ji56)) then ((some (t241.drop ((rd t245 (ji56)) : Int).toNat : List Int)).bind fun y323 => (if y319.length + y323.length < 140737488355328 then ((flow_Get.f k3 y277).bind fun bt330 => ((flow_Get.f k3 (y288 ++ y292)).bind fun bt336 => ((flow_Get.f k3 (y319 ++ y323)).bind fun bt342 => (if bt330.2.2 = 0 then (none) else (if bt336.2.2 = 0 then (none) else (some (bt342.2.2 != 0))))))) else (none))) else (none))) else (none))) else (none))) else (none)) else (none))) else (none))) else (none))) else (none)))) else (none)) = some r := by first | (rw [hy285]; with_reducible exact H) | (have H2_ := (Option.bind_some _ _).symm.trans H; rw [hy285]; with_reducible exact H2_) | (have H2_ := (Option.bind_some _ _).symm.trans H; with_reducible exact H2_) | with_reducible exact H | (rw [hy285]; exact H) | exact H
                             have Ny285 := Aside0.mk hy285
                             clear hy285
                             by_cases c71 : y285.length + y254.length < 140737488355328
                             ·rw [if_pos c71] at H
                              have LMc71 := Aside0.mk c71
                              clear c71
                              obtain ⟨y288, hy288⟩ : ∃ y_ : List Int, y_ = (y285 ++ y254) := ⟨_, rfl⟩
                              replace H : ((some (t241.drop ((rd t245 (ji48)) : Int).toNat : List Int)).bind fun y292 => (if y288.length + y292.length < 140737488355328 then ((some (t241.take ((rd t245 a1) : Int).toNat : List Int)).bind fun y300 => (if ([] : List Int).length + y300.length < 140737488355328 then ((some (([] : List Int) ++ y300 : List Int)).bind fun y304 => (if y304.length + y260.length < 140737488355328 then ((some (y304 ++ y260 : List Int)).bind fun y307 => (if (rd t245 (ji48)) ≤ (rd t245 a2) then (if (rd t245 a2) ≤ (t241.length : Int) then ((some ((t241.take ((rd t245 a2) : Int).toNat).drop ((rd t245 (ji48)) : Int).toNat : List Int)).bind fun y312 => (if y307.length + y312.length < 140737488355328 then ((some (y307 ++ y312 : List Int)).bind fun y316 => (if y316.length + y254.length < 140737488355328 then ((some (y316 ++ y254 : List Int)).bind fun y319 => (if 0 ≤ (rd t245 (ji56)) then ((some (t241.drop ((rd t245 (ji56)) : Int).toNat : List Int)).bind fun y323 => (if y319.length + y323.length < 140737488355328 then ((flow_Get.f k3 y277).bind fun bt330 => ((flow_Get.f k3 (y288 ++ y292)).bind fun bt336 => ((flow_Get.f k3 (y319 ++ y323)).bind fun bt342 => (if bt330.2.2 = 0 then (none) else (if bt336.2.2 = 0 then (none) else (some (bt342.2.2 != 0))))))) else (none))) else (none))) else (none))) else (none))) else (none)) else (none))) else (none))) else (none))) else (none))) = some r := by first | (rw [hy288]; with_reducible exact H) | (have H2_ := (Option.bind_some _ _).symm.trans H; rw [hy288]; with_reducible exact H2_) | (have H2_ := (Option.bind_some _ _).symm.trans H; with_reducible exact H2_) | with_reducible exact H | (rw [hy288]; exact H) | exact H
                              have Ny288 := Aside0.mk hy288
                              clear hy288
                              have c72b0 := eq_true (of_decide_eq_true (by first | (with_reducible assumption) | assumption) : 0 ≤ (rd t245 (ji48)))
                              have c73b0 := eq_true (of_decide_eq_true (by first | (with_reducible assumption) | assumption) : (rd t245 (ji48)) ≤ (t241.length : Int))
                              obtain ⟨y292, hy292⟩ : ∃ y_ : List Int, y_ = (t241.drop ((rd t245 (ji48)) : Int).toNat) := ⟨_, rfl⟩
                              replace H : (if y288.length + y292.length < 140737488355328 then ((some (t241.take ((rd t245 a1) : Int).toNat : List Int)).bind fun y300 => (if ([] : List Int).length + y300.length < 140737488355328 then ((some (([] : List Int) ++ y300 : List Int)).bind fun y304 => (if y304.length + y260.length < 140737488355328 then ((some (y304 ++ y260 : List Int)).bind fun y307 => (if (rd t245 (ji48)) ≤ (rd t245 a2) then (if (rd t245 a2) ≤ (t241.length : Int) then ((some ((t241.take ((rd t245 a2) : Int).toNat).drop ((rd t245 (ji48)) : Int).toNat : List Int)).bind fun y312 => (if y307.length + y312.length < 140737488355328 then ((some (y307 ++ y312 : List Int)).bind fun y316 => (if y316.length + y254.length < 140737488355328 then ((some (y316 ++ y254 : List Int)).bind fun y319 => (if 0 ≤ (rd t245 (ji56)) then ((some (t241.drop ((rd t245 (ji56)) : Int).toNat : List Int)).bind fun y323 => (if y319.length + y323.length < 140737488355328 then ((flow_Get.f k3 y277).bind fun bt330 => ((flow_Get.f k3 (y288 ++ y292)).bind fun bt336 => ((flow_Get.f k3 (y319 ++ y323)).bind fun bt342 => (if bt330.2.2 = 0 then (none) else (if bt336.2.2 = 0 then (none) else (some (bt342.2.2 != 0))))))) else (none))) else (none))) else (none))) else (none))) else (none)) else (none))) else (none))) else (none))) else (none)) = some r := by first | (rw [hy292]; with_reducible exact H) | (have H2_ := (Option.bind_some _ _).symm.trans H; rw [hy292]; with_reducible exact H2_) | (have H2_ := (Option.bind_some _ _).symm.trans H; with_reducible exact H2_) | with_reducible exact H | (rw [hy292]; exact H) | exact H
                              have Ny292 := Aside0.mk hy292
                              clear hy292
                              by_cases c74 : y288.length + y292.length < 140737488355328
                              ·rw [if_pos c74] at H
                               have LMc74 := Aside0.mk c74
                               clear c74
                               obtain ⟨y296, hy296⟩ : ∃ y_ : List Int, y_ = (y288 ++ y292) := ⟨_, rfl⟩
                               replace H : ((some (t241.take ((rd t245 a1) : Int).toNat : List Int)).bind fun y300 => (if ([] : List Int).length + y300.length < 140737488355328 then ((some (([] : List Int) ++ y300 : List Int)).bind fun y304 => (if y304.length + y260.length < 140737488355328 then ((some (y304 ++ y260 : List Int)).bind fun y307 => (if (rd t245 (ji48)) ≤ (rd t245 a2) then (if (rd t245 a2) ≤ (t241.length : Int) then ((some ((t241.take ((rd t245 a2) : Int).toNat).drop ((rd t245 (ji48)) : Int).toNat : List Int)).bind fun y312 => (if y307.length + y312.length < 140737488355328 then ((some (y307 ++ y312 : List Int)).bind fun y316 => (if y316.length + y254.length < 140737488355328 then ((some (y316 ++ y254 : List Int)).bind fun y319 => (if 0 ≤ (rd t245 (ji56)) then ((some (t241.drop ((rd t245 (ji56)) : Int).toNat : List Int)).bind fun y323 => (if y319.length + y323.length < 140737488355328 then ((flow_Get.f k3 y277).bind fun bt330 => ((flow_Get.f k3 y296).bind fun bt336 => ((flow_Get.f k3 (y319 ++ y323)).bind fun bt342 => (if bt330.2.2 = 0 then (none) else (if bt336.2.2 = 0 then (none) else (some (bt342.2.2 != 0))))))) else (none))) else (none))) else (none))) else (none))) else (none)) else (none))) else (none))) else (none))) = some r := by first | (rw [hy296]; with_reducible exact H) | (have H2_ := (Option.bind_some _ _).symm.trans H; rw [hy296]; with_reducible exact H2_) | (have H2_ := (Option.bind_some _ _).symm.trans H; with_reducible exact H2_) | with_reducible exact H | (rw [hy296]; exact H) | exact H
                               have Ny296 := Aside0.mk hy296
                               clear hy296
                               have c75b0 := eq_true (of_decide_eq_true (by first | (with_reducible assumption) | assumption) : 0 ≤ (rd t245 a1))
                               have c76b0 := eq_true (of_decide_eq_true (by first | (with_reducible assumption) | assumption) : (rd t245 a1) ≤ (t241.length : Int))
                               obtain ⟨y300, hy300⟩ : ∃ y_ : List Int, y_ = (t241.take ((rd t245 a1) : Int).toNat) := ⟨_, rfl⟩
                               replace H : (if ([] : List Int).length + y300.length < 140737488355328 then ((some (([] : List Int) ++ y300 : List Int)).bind fun y304 => (if y304.length + y260.length < 140737488355328 then ((some (y304 ++ y260 : List Int)).bind fun y307 => (if (rd t245 (ji48)) ≤ (rd t245 a2) then (if (rd t245 a2) ≤ (t241.length : Int) then ((some ((t241.take ((rd t245 a2) : Int).toNat).drop ((rd t245 (ji48)) : Int).toNat : List Int)).bind fun y312 => (if y307.length + y312.length < 140737488355328 then ((some (y307 ++ y312 : List Int)).bind fun y316 => (if y316.length + y254.length < 140737488355328 then ((some (y316 ++ y254 : List Int)).bind fun y319 => (if 0 ≤ (rd t245 (ji56)) then ((some (t241.drop ((rd t245 (ji56)) : Int).toNat : List Int)).bind fun y323 => (if y319.length + y323.length < 140737488355328 then ((flow_Get.f k3 y277).bind fun bt330 => ((flow_Get.f k3 y296).bind fun bt336 => ((flow_Get.f k3 (y319 ++ y323)).bind fun bt342 => (if bt330.2.2 = 0 then (none) else (if bt336.2.2 = 0 then (none) else (some (bt342.2.2 != 0))))))) else (none))) else (none))) else (none))) else (none))) else (none)) else (none))) else (none))) else (none)) = some r := by first | (rw [hy300]; with_reducible exact H) | (have H2_ := (Option.bind_some _ _).symm.trans H; rw [hy300]; with_reducible exact H2_) | (have H2_ := (Option.bind_some _ _).symm.trans H; with_reducible exact H2_) | with_reducible exact H | (rw [hy300]; exact H) | exact H
                               have Ny300 := Aside0.mk hy300
                               clear hy300
                               by_cases c77 : ([] : List Int).length + y300.length < 140737488355328
                               ·rw [if_pos c77] at H
                                have LMc77 := Aside0.mk c77
                                clear c77
                                obtain ⟨y304, hy304⟩ : ∃ y_ : List Int, y_ = (([] : List Int) ++ y300) := ⟨_, rfl⟩
                                replace H : (if y304.length + y260.length < 140737488355328 then ((some (y304 ++ y260 : List Int)).bind fun y307 => (if (rd t245 (ji48)) ≤ (rd t245 a2) then (if (rd t245 a2) ≤ (t241.length : Int) then ((some ((t241.take ((rd t245 a2) : Int).toNat).drop ((rd t245 (ji48)) : Int).toNat : List Int)).bind fun y312 => (if y307.length + y312.length < 140737488355328 then ((some (y307 ++ y312 : List Int)).bind fun y316 => (if y316.length + y254.length < 140737488355328 then ((some (y316 ++ y254 : List Int)).bind fun y319 => (if 0 ≤ (rd t245 (ji56)) then ((some (t241.drop ((rd t245 (ji56)) : Int).toNat : List Int)).bind fun y323 => (if y319.length + y323.length < 140737488355328 then ((flow_Get.f k3 y277).bind fun bt330 => ((flow_Get.f k3 y296).bind fun bt336 => ((flow_Get.f k3 (y319 ++ y323)).bind fun bt342 => (if bt330.2.2 = 0 then (none) else (if bt336.2.2 = 0 then (none) else (some (bt342.2.2 != 0))))))) else (none))) else (none))) else (none))) else (none))) else (none)) else (none))) else (none)) = some r := by first | (rw [hy304]; with_reducible exact H) | (have H2_ := (Option.bind_some _ _).symm.trans H; rw [hy304]; with_reducible exact H2_) | (have H2_ := (Option.bind_some _ _).symm.trans H; with_reducible exact H2_) | with_reducible exact H | (rw [hy304]; exact H) | exact H
                                have Ny304 := Aside0.mk hy304
                                clear hy304
                                by_cases c78 : y304.length + y260.length < 140737488355328
                                ·rw [if_pos c78] at H
                                 have LMc78 := Aside0.mk c78
                                 clear c78
                                 obtain ⟨y307, hy307⟩ : ∃ y_ : List Int, y_ = (y304 ++ y260) := ⟨_, rfl⟩
                                 replace H : (if (rd t245 (ji48)) ≤ (rd t245 a2) then (if (rd t245 a2) ≤ (t241.length : Int) then ((some ((t241.take ((rd t245 a2) : Int).toNat).drop ((rd t245 (ji48)) : Int).toNat : List Int)).bind fun y312 => (if y307.length + y312.length < 140737488355328 then ((some (y307 ++ y312 : List Int)).bind fun y316 => (if y316.length + y254.length < 140737488355328 then ((some (y316 ++ y254 : List Int)).bind fun y319 => (if 0 ≤ (rd t245 (ji56)) then ((some (t241.drop ((rd t245 (ji56)) : Int).toNat : List Int)).bind fun y323 => (if y319.length + y323.length < 140737488355328 then ((flow_Get.f k3 y277).bind fun bt330 => ((flow_Get.f k3 y296).bind fun bt336 => ((flow_Get.f k3 (y319 ++ y323)).bind fun bt342 => (if bt330.2.2 = 0 then (none) else (if bt336.2.2 = 0 then (none) else (some (bt342.2.2 != 0))))))) else (none))) else (none))) else (none))) else (none))) else (none)) else (none)) = some r := by first | (rw [hy307]; with_reducible exact H) | (have H2_ := (Option.bind_some _ _).symm.trans H; rw [hy307]; with_reducible exact H2_) | (have H2_ := (Option.bind_some _ _).symm.trans H; with_reducible exact H2_) | with_reducible exact H | (rw [hy307]; exact H) | exact H
                                 have Ny307 := Aside0.mk hy307
                                 clear hy307
                                 have c79b0 := eq_true (of_decide_eq_true (by first | (with_reducible assumption) | assumption) : 0 ≤ (rd t245 (ji48)))
                                 by_cases c80 : (rd t245 (ji48)) ≤ (rd t245 a2)
                                 ·rw [if_pos c80] at H
                                  have c80b0 := eq_true c80
                                  have c80b1 : decide ((rd t245 (ji48)) ≤ (rd t245 a2)) = true := decide_eq_true c80
                                  clear c80
                                  by_cases c81 : (rd t245 a2) ≤ (t241.length : Int)
                                  ·rw [if_pos c81] at H
                                   have c81b0 := eq_true c81
                                   have c81b1 : decide ((rd t245 a2) ≤ (t241.length : Int)) = true := decide_eq_true c81
                                   clear c81
                                   obtain ⟨y312, hy312⟩ : ∃ y_ : List Int, y_ = ((t241.take ((rd t245 a2) : Int).toNat).drop ((rd t245 (ji48)) : Int).toNat) := ⟨_, rfl⟩
                                   replace H : (if y307.length + y312.length < 140737488355328 then ((some (y307 ++ y312 : List Int)).bind fun y316 => (if y316.length + y254.length < 140737488355328 then ((some (y316 ++ y254 : List Int)).bind fun y319 => (if 0 ≤ (rd t245 (ji56)) then ((some (t241.drop ((rd t245 (ji56)) : Int).toNat : List Int)).bind fun y323 => (if y319.length + y323.length < 140737488355328 then ((flow_Get.f k3 y277).bind fun bt330 => ((flow_Get.f k3 y296).bind fun bt336 => ((flow_Get.f k3 (y319 ++ y323)).bind fun bt342 => (if bt330.2.2 = 0 then (none) else (if bt336.2.2 = 0 then (none) else (some (bt342.2.2 != 0))))))) else (none))) else (none))) else (none))) else (none)) = some r := by first | (rw [hy312]; with_reducible exact H) | (have H2_ := (Option.bind_some _ _).symm.trans H; rw [hy312]; with_reducible exact H2_) | (have H2_ := (Option.bind_some _ _).symm.trans H; with_reducible exact H2_) | with_reducible exact H | (rw [hy312]; exact H) | exact H
                                   have Ny312 := Aside0.mk hy312
                                   clear hy312
                                   by_cases c82 : y307.length + y312.length < 140737488355328
                                   ·rw [if_pos c82] at H
                                    have LMc82 := Aside0.mk c82
                                    clear c82
                                    obtain ⟨y316, hy316⟩ : ∃ y_ : List Int, y_ = (y307 ++ y312) := ⟨_, rfl⟩
                                    replace H : (if y316.length + y254.length < 140737488355328 then ((some (y316 ++ y254 : List Int)).bind fun y319 => (if 0 ≤ (rd t245 (ji56)) then ((some (t241.drop ((rd t245 (ji56)) : Int).toNat : List Int)).bind fun y323 => (if y319.length + y323.length < 140737488355328 then ((flow_Get.f k3 y277).bind fun bt330 => ((flow_Get.f k3 y296).bind fun bt336 => ((flow_Get.f k3 (y319 ++ y323)).bind fun bt342 => (if bt330.2.2 = 0 then (none) else (if bt336.2.2 = 0 then (none) else (some (bt342.2.2 != 0))))))) else (none))) else (none))) else (none)) = some r := by first | (rw [hy316]; with_reducible exact H) | (have H2_ := (Option.bind_some _ _).symm.trans H; rw [hy316]; with_reducible exact H2_) | (have H2_ := (Option.bind_some _ _).symm.trans H; with_reducible exact H2_) | with_reducible exact H | (rw [hy316]; exact H) | exact H
                                    have Ny316 := Aside0.mk hy316
                                    clear hy316
                                    by_cases c83 : y316.length + y254.length < 140737488355328
                                    ·rw [if_pos c83] at H
                                     have LMc83 := Aside0.mk c83
                                     clear c83
                                     obtain ⟨y319, hy319⟩ : ∃ y_ : List Int, y_ = (y316 ++ y254) := ⟨_, rfl⟩
                                     replace H : (if 0 ≤ (rd t245 (ji56)) then ((some (t241.drop ((rd t245 (ji56)) : Int).toNat : List Int)).bind fun y323 => (if y319.length + y323.length < 140737488355328 then ((flow_Get.f k3 y277).bind fun bt330 => ((flow_Get.f k3 y296).bind fun bt336 => ((flow_Get.f k3 (y319 ++ y323)).bind fun bt342 => (if bt330.2.2 = 0 then (none) else (if bt336.2.2 = 0 then (none) else (some (bt342.2.2 != 0))))))) else (none))) else (none)) = some r := by first | (rw [hy319]; with_reducible exact H) | (have H2_ := (Option.bind_some _ _).symm.trans H; rw [hy319]; with_reducible exact H2_) | (have H2_ := (Option.bind_some _ _).symm.trans H; with_reducible exact H2_) | with_reducible exact H | (rw [hy319]; exact H) | exact H
                                     have Ny319 := Aside0.mk hy319
                                     clear hy319
                                     by_cases c84 : 0 ≤ (rd t245 (ji56))
                                     ·rw [if_pos c84] at H
                                      have c84b0 := eq_true c84
                                      have c84b1 : decide (0 ≤ (rd t245 (ji56))) = true := decide_eq_true c84
                                      clear c84
                                      have c85b0 := eq_true (of_decide_eq_true (by first | (with_reducible assumption) | assumption) : (rd t245 (ji56)) ≤ (t241.length : Int))
                                      obtain ⟨y323, hy323⟩ : ∃ y_ : List Int, y_ = (t241.drop ((rd t245 (ji56)) : Int).toNat) := ⟨_, rfl⟩
                                      replace H : (if y319.length + y323.length < 140737488355328 then ((flow_Get.f k3 y277).bind fun bt330 => ((flow_Get.f k3 y296).bind fun bt336 => ((flow_Get.f k3 (y319 ++ y323)).bind fun bt342 => (if bt330.2.2 = 0 then (none) else (if bt336.2.2 = 0 then (none) else (some (bt342.2.2 != 0))))))) else (none)) = some r := by first | (rw [hy323]; with_reducible exact H) | (have H2_ := (Option.bind_some _ _).symm.trans H; rw [hy323]; with_reducible exact H2_) | (have H2_ := (Option.bind_some _ _).symm.trans H; with_reducible exact H2_) | with_reducible exact H | (rw [hy323]; exact H) | exact H
                                      have Ny323 := Aside0.mk hy323
                                      clear hy323
                                      by_cases c86 : y319.length + y323.length < 140737488355328
                                      ·rw [if_pos c86] at H
                                       have LMc86 := Aside0.mk c86
                                       clear c86
                                       obtain ⟨y327, hy327⟩ : ∃ y_ : List Int, y_ = (y319 ++ y323) := ⟨_, rfl⟩
                                       replace H : ((flow_Get.f k3 y277).bind fun bt330 => ((flow_Get.f k3 y296).bind fun bt336 => ((flow_Get.f k3 y327).bind fun bt342 => (if bt330.2.2 = 0 then (none) else (if bt336.2.2 = 0 then (none) else (some (bt342.2.2 != 0))))))) = some r := by first | (rw [hy327]; with_reducible exact H) | (have H2_ := (Option.bind_some _ _).symm.trans H; rw [hy327]; with_reducible exact H2_) | (have H2_ := (Option.bind_some _ _).symm.trans H; with_reducible exact H2_) | with_reducible exact H | (rw [hy327]; exact H) | exact H
                                       have Ny327 := Aside0.mk hy327
                                       clear hy327
                                       replace H := Option.bind_eq_some_iff.mp H
                                       obtain ⟨⟨t330, t331, t334⟩, A870, H⟩ := H
                                       replace H : ((flow_Get.f k3 y296).bind fun bt336 => ((flow_Get.f k3 y327).bind fun bt342 => (if t334 = 0 then (none) else (if bt336.2.2 = 0 then (none) else (some (bt342.2.2 != 0)))))) = some r := H
                                       have A87 := Aside0.mk A870
                                       clear A870
                                       replace H := Option.bind_eq_some_iff.mp H
                                       obtain ⟨⟨t336, t337, t340⟩, A880, H⟩ := H
                                       replace H : ((flow_Get.f k3 y327).bind fun bt342 => (if t334 = 0 then (none) else (if t340 = 0 then (none) else (some (bt342.2.2 != 0))))) = some r := H
                                       have A88 := Aside0.mk A880
                                       clear A880
                                       replace H := Option.bind_eq_some_iff.mp H
                                       obtain ⟨⟨t342, t343, t346⟩, A890, H⟩ := H
                                       replace H : (if t334 = 0 then (none) else (if t340 = 0 then (none) else (some (t346 != 0)))) = some r := H
                                       have A89 := Aside0.mk A890
                                       clear A890
                                       by_cases c90 : t334 = 0
                                       ·rw [if_pos c90] at H
                                        exact absurd H (by simp)
                                       ·rw [if_neg c90] at H
                                        have c90b0 : (t334 == 0) = false := beq_eq_false_iff_ne.mpr c90
                                        have c90b1 : (t334 != 0) = true := bne_iff_ne.mpr c90
                                        by_cases c91 : t340 = 0
                                        ·rw [if_pos c91] at H
                                         exact absurd H (by simp)
                                        ·rw [if_neg c91] at H
                                         have c91b0 : (t340 == 0) = false := beq_eq_false_iff_ne.mpr c91
                                         have c91b1 : (t340 != 0) = true := bne_iff_ne.mpr c91
                                         obtain rfl := Option.some.inj H
                                         obtain ⟨Ao92, co92, eo92⟩ := Kd.R_slice HO_11.out
                                         subst eo92
                                         try go_wp2
                                         have n0_ := am8_ (Kd.R_drew HO_9.out)
                                         have n1_ := am8_ (Kd.R_drew HO_11.out)
                                         have n2_ := am8_ (blk_drew BK238.out)
                                         have n3_ := am8_ (below_drew1 HB.out)
                                         clear HO_9
                                         clear HO_11
                                         clear BK238
                                         clear HB
                                         have HO_9 := n0_
                                         have HO_11 := n1_
                                         have BK238 := n2_
                                         have HB := n3_
                                         clear n0_ n1_ n2_ n3_
                                         have p252 : 0 ≤ (a1 : Int) := of_decide_eq_true (by first | (with_reducible assumption) | assumption)
                                         have q252 : a1 < (t245.length : Int) := of_decide_eq_true (by first | (with_reducible assumption) | assumption)
                                         obtain ⟨ad252, e252, hx252_0⟩ := Kd.at_int (Kd.R_reads' HO_11.out).2.2 a1 p252 q252
                                         cases e252
                                         replace p252 := eq_true p252
                                         replace q252 := eq_true q252
                                         have p253 : 0 ≤ ((ji48) : Int) := of_decide_eq_true (by first | (with_reducible assumption) | assumption)
                                         have q253 : (ji48) < (t245.length : Int) := of_decide_eq_true (by first | (with_reducible assumption) | assumption)
                                         obtain ⟨ad253, e253, hx253_0⟩ := Kd.at_int (Kd.R_reads' HO_11.out).2.2 (ji48) p253 q253
                                         obtain rfl : ad252 = ad253 := (by injection e253)
                                         replace p253 := eq_true p253
                                         replace q253 := eq_true q253
                                         have q94 : ((rd t245 (ji48)) : Int) ≤ ((t241.length : Int) : Int) := of_decide_eq_true (by first | (with_reducible assumption) | assumption)
                                         obtain ⟨i094, hi094, _, hsz94, _⟩ := info_parts info5
                                         have hroom94 : t241.length ≤ co19 := (Kd.R_reads' HO_9.out).2.1
                                         have hC94 : Kd.C (Kd.int .u8) _ Ao19 t241.length t241 := (Kd.R_reads' HO_9.out).2.2
                                         have ql94 : ((rd t245 a1) : Int) ≤ ((rd t245 (ji48)) : Int) := of_decide_eq_true (by first | (with_reducible assumption) | assumption)
                                         have q094 : (0 : Int) ≤ ((rd t245 a1) : Int) := of_decide_eq_true (by first | (with_reducible assumption) | assumption)
                                         have hcut94 := cut_mid (P := Tryd.prog) 26 5 .i64 .i64 Tryd.underlying26 hi094 1 hsz94 Ao19 t241.length co19 (rd t245 a1) (rd t245 (ji48)) q094 ql94 q94 hroom94
                                         have hr94 := Kd.C_mid (lo := ((rd t245 a1) : Int).toNat) (hi := ((rd t245 (ji48)) : Int).toNat) (c := co19) hC94 (by omega) (by omega) hroom94
                                         obtain ⟨A94, hA94⟩ : ∃ A1, A1 = (if co19 = ((rd t245 a1) : Int).toNat then Ao19 else (Ao19 : Option Addr).map (·.add (((rd t245 a1) : Int).toNat * 1))) := ⟨_, rfl⟩
                                         obtain ⟨c94, hc94⟩ : ∃ c1, c1 = co19 - ((rd t245 a1) : Int).toNat := ⟨_, rfl⟩
                                         have hy94 : y254.length = ((rd t245 (ji48)) : Int).toNat - ((rd t245 a1) : Int).toNat := (by rw [Ny254.out, List.length_drop, List.length_take] <;> omega)
                                         rw [show ((t241).take ((rd t245 (ji48)) : Int).toNat).drop ((rd t245 a1) : Int).toNat = y254 from Ny254.out.symm] at hr94
                                         replace hr94 : Kd.C (Kd.int .u8) _ A94 y254.length y254 := (by rw [hA94]; exact hr94)
                                         rw [← hy94, ← hA94, ← hc94] at hcut94
                                         have HR257 := Aside0.mk hr94
                                         have HC257 := am8_ (show y254.length ≤ c94 from by rw [hy94, hc94]; exact Nat.sub_le_sub_right (Nat.le_trans (by omega) hroom94) _)
                                         clear hr94 hC94 hroom94 hi094 hsz94 hc94
                                         have KY94 := Aside0.mk hy94
                                         have KA94 := Aside0.mk hA94
                                         clear hy94 hA94
                                         have KL94 := am8_ (show ((rd t245 (ji48)) : Int).toNat ≤ t241.length from by omega)
                                         have KM94 := am8_ (show ((rd t245 a1) : Int).toNat ≤ ((rd t245 (ji48)) : Int).toNat from by omega)
                                         replace q94 := eq_true q94
                                         as_aux_lemma =>
                                         refine start_ (n := 12) (S := fun w' => w'.cell? (ad252.add (a1).toNat) = some (.int .i64 (rd t245 a1)) ∧ w'.cell? (ad252.add ((ji48)).toNat) = some (.int .i64 (rd t245 (ji48)))) (ds := []) #[f_8,f_8,f_8,f_8,f_8,f_8,f_8,f_8,f_8,f_8,f_8,f_8] (by kernel_rfl) rfl rfl ⟨hx252_0, hx253_0⟩ (fun hHeld => ?_); refine with_tabW foliatelaw04_FlowFrames.tab14 foliatelaw04_FlowFrames.bits14 (fun HT_ HW_ => ?_)
                                         generalize wr.drew = w93 at HO_9 HO_11 BK238 HB HR257 hx252_0 hx253_0 hHeld ⊢
                                         refine pure_ (i := 0) (N := some 111) (v := ?_) (a' := ?_) #[t_8,f_8,f_8,f_8,f_8,f_8,f_8,f_8,f_8,f_8,f_8,f_8] rfl rfl (any_of HT_.out (by kernel_rfl)) (fun _ _ _ h => h) (Or.inl ⟨by rfl, ?_⟩) ?_ ?_; rotate_left; (·intro w'; go_simp; with_reducible rfl); rotate_left; (·simp only [Act.put, q1_8, q2_8, q3_8, i64_w, i32_w]; rfl)
                                         refine pure_ (i := 1) (N := some 112) (v := ?_) (a' := ?_) #[t_8,t_8,f_8,f_8,f_8,f_8,f_8,f_8,f_8,f_8,f_8,f_8] rfl rfl (any_of HT_.out (by kernel_rfl)) (fun _ _ _ h => h) (Or.inl ⟨by rfl, ?_⟩) ?_ ?_; rotate_left; (·intro w'; go_simp; with_reducible rfl); rotate_left; (·simp only [Act.put, q1_8, q2_8, q3_8, i64_w, i32_w]; rfl)
                                         refine pure_ (i := 2) (N := some 113) (v := ?_) (a' := ?_) #[t_8,t_8,t_8,f_8,f_8,f_8,f_8,f_8,f_8,f_8,f_8,f_8] rfl rfl (any_of HT_.out (by kernel_rfl)) (fun _ _ _ h => h) (Or.inl ⟨by rfl, ?_⟩) ?_ ?_; rotate_left; (·intro w'; go_simp; with_reducible rfl); rotate_left; (·simp only [Act.put, q1_8, q2_8, q3_8, i64_w, i32_w]; rfl)
                                         refine pure_ (i := 3) (N := some 114) (v := ?_) (a' := ?_) #[t_8,t_8,t_8,t_8,f_8,f_8,f_8,f_8,f_8,f_8,f_8,f_8] rfl rfl (any_of HT_.out (by kernel_rfl)) (fun _ _ _ h => h) (Or.inl ⟨by rfl, ?_⟩) ?_ ?_; rotate_left; (·intro w'; go_simp; with_reducible rfl); rotate_left; (·simp only [Act.put, q1_8, q2_8, q3_8, i64_w, i32_w]; rfl)
                                         refine pure_ (i := 5) (N := some 116) (v := ?_) (a' := ?_) #[t_8,t_8,t_8,t_8,f_8,t_8,f_8,f_8,f_8,f_8,f_8,f_8] rfl rfl (any_of HT_.out (by kernel_rfl)) (fun _ _ _ h => h) (Or.inl ⟨by rfl, ?_⟩) ?_ ?_; rotate_left; (·intro w'; go_simp; with_reducible rfl); rotate_left; (·simp only [Act.put, q1_8, q2_8, q3_8, i64_w, i32_w]; rfl)
                                         refine pure_ (i := 6) (N := some 117) (v := ?_) (a' := ?_) #[t_8,t_8,t_8,t_8,f_8,t_8,t_8,f_8,f_8,f_8,f_8,f_8] rfl rfl (any_of HT_.out (by kernel_rfl)) (fun _ _ _ h => h) (Or.inl ⟨by rfl, ?_⟩) ?_ ?_; rotate_left; (·intro w'; go_simp; with_reducible rfl); rotate_left; (·simp only [Act.put, q1_8, q2_8, q3_8, i64_w, i32_w]; rfl)
                                         refine pure_ (i := 7) (N := some 118) (v := ?_) (a' := ?_) #[t_8,t_8,t_8,t_8,f_8,t_8,t_8,t_8,f_8,f_8,f_8,f_8] rfl rfl (any_of HT_.out (by kernel_rfl)) (fun _ _ _ h => h) (Or.inl ⟨by rfl, ?_⟩) ?_ ?_; rotate_left; (·intro w'; go_simp; with_reducible rfl); rotate_left; (·simp only [Act.put, q1_8, q2_8, q3_8, i64_w, i32_w]; rfl)
                                         refine pure_ (i := 8) (N := some 119) (v := ?_) (a' := ?_) #[t_8,t_8,t_8,t_8,f_8,t_8,t_8,t_8,t_8,f_8,f_8,f_8] rfl rfl (any_of HT_.out (by kernel_rfl)) (fun _ _ _ h => h) (Or.inl ⟨by rfl, ?_⟩) ?_ ?_; rotate_left; (·intro w'; go_simp; with_reducible rfl); rotate_left; (·simp only [Act.put, q1_8, q2_8, q3_8, i64_w, i32_w]; rfl)
                                         refine take_ (i := 4) (N := some 115) (v := ?_) (a' := ?_) #[t_8,t_8,t_8,t_8,t_8,t_8,t_8,t_8,t_8,f_8,f_8,f_8] rfl rfl (take_ofW HT_.out HW_.out (by kernel_rfl)) (fun _ _ _ h => h) (Or.inl ⟨by rfl, ?_⟩) hHeld ?_ ?_
                                         rotate_left
                                         ·rintro w' ⟨s0, s1⟩
                                          go_simp
                                          with_reducible rfl
                                         rotate_left
                                         ·simp only [Act.put, q1_8, q2_8, q3_8, i64_w, i32_w]
                                          rfl
                                         refine take_ (i := 9) (N := some 120) (v := ?_) (a' := ?_) #[t_8,t_8,t_8,t_8,t_8,t_8,t_8,t_8,t_8,t_8,f_8,f_8] rfl rfl (take_ofW HT_.out HW_.out (by kernel_rfl)) (fun _ _ _ h => h) (Or.inl ⟨by rfl, ?_⟩) hHeld ?_ ?_
                                         rotate_left
                                         ·rintro w' ⟨s0, s1⟩
                                          go_simp
                                          with_reducible rfl
                                         rotate_left
                                         ·simp only [Act.put, q1_8, q2_8, q3_8, i64_w, i32_w]
                                          rfl
                                         refine pure_ (i := 10) (N := some 121) (v := ?_) (a' := ?_) #[t_8,t_8,t_8,t_8,t_8,t_8,t_8,t_8,t_8,t_8,t_8,f_8] rfl rfl (any_of HT_.out (by kernel_rfl)) (fun _ _ _ h => h) (Or.inl ⟨by rfl, ?_⟩) ?_ ?_; rotate_left; (·intro w'; go_simp; with_reducible rfl); rotate_left; (·simp only [Act.put, q1_8, q2_8, q3_8, i64_w, i32_w]; rfl)
                                         refine pure_ (i := 11) (N := some 14) (v := ?_) (a' := ?_) #[t_8,t_8,t_8,t_8,t_8,t_8,t_8,t_8,t_8,t_8,t_8,t_8] rfl rfl (any_of HT_.out (by kernel_rfl)) (fun _ _ _ h => h) (Or.inl ⟨by rfl, ?_⟩) ?_ ?_; rotate_left; (·intro w'; go_simp; with_reducible rfl); rotate_left; (·simp only [Act.put, q1_8, q2_8, q3_8, i64_w, i32_w]; rfl)
                                         refine done_ (done_of HT_.out (by kernel_rfl)) ?_
                                         try go_wp2
                                         have n0_ := am8_ (Kd.R_drew HO_9.out)
                                         have n1_ := am8_ (Kd.R_drew HO_11.out)
                                         have n2_ := am8_ (blk_drew BK238.out)
                                         have n3_ := am8_ (Kd.C_drew HR257.out)
                                         have n4_ := am8_ (below_drew1 HB.out)
                                         clear HO_9
                                         clear HO_11
                                         clear BK238
                                         clear HR257
                                         clear HB
                                         have HO_9 := n0_
                                         have HO_11 := n1_
                                         have BK238 := n2_
                                         have HR257 := n3_
                                         have HB := n4_
                                         clear n0_ n1_ n2_ n3_ n4_
                                         have p258 : 0 ≤ (a2 : Int) := of_decide_eq_true (by first | (with_reducible assumption) | assumption)
                                         have q258 : a2 < (t245.length : Int) := of_decide_eq_true (by first | (with_reducible assumption) | assumption)
                                         obtain ⟨ad258, e258, hx258_0⟩ := Kd.at_int (Kd.R_reads' HO_11.out).2.2 a2 p258 q258
                                         obtain rfl : ad252 = ad258 := (by injection e258)
                                         replace p258 := eq_true p258
                                         replace q258 := eq_true q258
                                         have p259 : 0 ≤ ((ji56) : Int) := of_decide_eq_true (by first | (with_reducible assumption) | assumption)
                                         have q259 : (ji56) < (t245.length : Int) := of_decide_eq_true (by first | (with_reducible assumption) | assumption)
                                         obtain ⟨ad259, e259, hx259_0⟩ := Kd.at_int (Kd.R_reads' HO_11.out).2.2 (ji56) p259 q259
                                         obtain rfl : ad252 = ad259 := (by injection e259)
                                         replace p259 := eq_true p259
                                         replace q259 := eq_true q259
                                         have q96 : ((rd t245 (ji56)) : Int) ≤ ((t241.length : Int) : Int) := of_decide_eq_true (by first | (with_reducible assumption) | assumption)
                                         obtain ⟨i096, hi096, _, hsz96, _⟩ := info_parts info5
                                         have hroom96 : t241.length ≤ co19 := (Kd.R_reads' HO_9.out).2.1
                                         have hC96 : Kd.C (Kd.int .u8) _ Ao19 t241.length t241 := (Kd.R_reads' HO_9.out).2.2
                                         have ql96 : ((rd t245 a2) : Int) ≤ ((rd t245 (ji56)) : Int) := of_decide_eq_true (by first | (with_reducible assumption) | assumption)
                                         have q096 : (0 : Int) ≤ ((rd t245 a2) : Int) := of_decide_eq_true (by first | (with_reducible assumption) | assumption)
                                         have hcut96 := cut_mid (P := Tryd.prog) 26 5 .i64 .i64 Tryd.underlying26 hi096 1 hsz96 Ao19 t241.length co19 (rd t245 a2) (rd t245 (ji56)) q096 ql96 q96 hroom96
                                         have hr96 := Kd.C_mid (lo := ((rd t245 a2) : Int).toNat) (hi := ((rd t245 (ji56)) : Int).toNat) (c := co19) hC96 (by omega) (by omega) hroom96
                                         obtain ⟨A96, hA96⟩ : ∃ A1, A1 = (if co19 = ((rd t245 a2) : Int).toNat then Ao19 else (Ao19 : Option Addr).map (·.add (((rd t245 a2) : Int).toNat * 1))) := ⟨_, rfl⟩
                                         obtain ⟨c96, hc96⟩ : ∃ c1, c1 = co19 - ((rd t245 a2) : Int).toNat := ⟨_, rfl⟩
                                         have hy96 : y260.length = ((rd t245 (ji56)) : Int).toNat - ((rd t245 a2) : Int).toNat := (by rw [Ny260.out, List.length_drop, List.length_take] <;> omega)
                                         rw [show ((t241).take ((rd t245 (ji56)) : Int).toNat).drop ((rd t245 a2) : Int).toNat = y260 from Ny260.out.symm] at hr96
                                         replace hr96 : Kd.C (Kd.int .u8) _ A96 y260.length y260 := (by rw [hA96]; exact hr96)
                                         rw [← hy96, ← hA96, ← hc96] at hcut96
                                         have HR263 := Aside0.mk hr96
                                         have HC263 := am8_ (show y260.length ≤ c96 from by rw [hy96, hc96]; exact Nat.sub_le_sub_right (Nat.le_trans (by omega) hroom96) _)
                                         clear hr96 hC96 hroom96 hi096 hsz96 hc96
                                         have KY96 := Aside0.mk hy96
                                         have KA96 := Aside0.mk hA96
                                         clear hy96 hA96
                                         have KL96 := am8_ (show ((rd t245 (ji56)) : Int).toNat ≤ t241.length from by omega)
                                         have KM96 := am8_ (show ((rd t245 a2) : Int).toNat ≤ ((rd t245 (ji56)) : Int).toNat from by omega)
                                         replace q96 := eq_true q96
                                         as_aux_lemma =>
                                         refine start_ (n := 12) (S := fun w' => w'.cell? (ad252.add (a2).toNat) = some (.int .i64 (rd t245 a2)) ∧ w'.cell? (ad252.add ((ji56)).toNat) = some (.int .i64 (rd t245 (ji56)))) (ds := []) #[f_8,f_8,f_8,f_8,f_8,f_8,f_8,f_8,f_8,f_8,f_8,f_8] (by kernel_rfl) rfl rfl ⟨hx258_0, hx259_0⟩ (fun hHeld => ?_); refine with_tabW foliatelaw04_FlowFrames.tab15 foliatelaw04_FlowFrames.bits15 (fun HT_ HW_ => ?_)
                                         generalize w93.drew = w95 at HO_9 HO_11 BK238 HR257 HB HR263 hx258_0 hx259_0 hHeld ⊢
                                         refine pure_ (i := 0) (N := some 122) (v := ?_) (a' := ?_) #[t_8,f_8,f_8,f_8,f_8,f_8,f_8,f_8,f_8,f_8,f_8,f_8] rfl rfl (any_of HT_.out (by kernel_rfl)) (fun _ _ _ h => h) (Or.inl ⟨by rfl, ?_⟩) ?_ ?_; rotate_left; (·intro w'; go_simp; with_reducible rfl); rotate_left; (·simp only [Act.put, q1_8, q2_8, q3_8, i64_w, i32_w]; rfl)
                                         refine pure_ (i := 1) (N := some 123) (v := ?_) (a' := ?_) #[t_8,t_8,f_8,f_8,f_8,f_8,f_8,f_8,f_8,f_8,f_8,f_8] rfl rfl (any_of HT_.out (by kernel_rfl)) (fun _ _ _ h => h) (Or.inl ⟨by rfl, ?_⟩) ?_ ?_; rotate_left; (·intro w'; go_simp; with_reducible rfl); rotate_left; (·simp only [Act.put, q1_8, q2_8, q3_8, i64_w, i32_w]; rfl)
                                         refine pure_ (i := 2) (N := some 124) (v := ?_) (a' := ?_) #[t_8,t_8,t_8,f_8,f_8,f_8,f_8,f_8,f_8,f_8,f_8,f_8] rfl rfl (any_of HT_.out (by kernel_rfl)) (fun _ _ _ h => h) (Or.inl ⟨by rfl, ?_⟩) ?_ ?_; rotate_left; (·intro w'; go_simp; with_reducible rfl); rotate_left; (·simp only [Act.put, q1_8, q2_8, q3_8, i64_w, i32_w]; rfl)
                                         refine pure_ (i := 3) (N := some 125) (v := ?_) (a' := ?_) #[t_8,t_8,t_8,t_8,f_8,f_8,f_8,f_8,f_8,f_8,f_8,f_8] rfl rfl (any_of HT_.out (by kernel_rfl)) (fun _ _ _ h => h) (Or.inl ⟨by rfl, ?_⟩) ?_ ?_; rotate_left; (·intro w'; go_simp; with_reducible rfl); rotate_left; (·simp only [Act.put, q1_8, q2_8, q3_8, i64_w, i32_w]; rfl)
                                         refine pure_ (i := 5) (N := some 127) (v := ?_) (a' := ?_) #[t_8,t_8,t_8,t_8,f_8,t_8,f_8,f_8,f_8,f_8,f_8,f_8] rfl rfl (any_of HT_.out (by kernel_rfl)) (fun _ _ _ h => h) (Or.inl ⟨by rfl, ?_⟩) ?_ ?_; rotate_left; (·intro w'; go_simp; with_reducible rfl); rotate_left; (·simp only [Act.put, q1_8, q2_8, q3_8, i64_w, i32_w]; rfl)
                                         refine pure_ (i := 6) (N := some 128) (v := ?_) (a' := ?_) #[t_8,t_8,t_8,t_8,f_8,t_8,t_8,f_8,f_8,f_8,f_8,f_8] rfl rfl (any_of HT_.out (by kernel_rfl)) (fun _ _ _ h => h) (Or.inl ⟨by rfl, ?_⟩) ?_ ?_; rotate_left; (·intro w'; go_simp; with_reducible rfl); rotate_left; (·simp only [Act.put, q1_8, q2_8, q3_8, i64_w, i32_w]; rfl)
                                         refine pure_ (i := 7) (N := some 129) (v := ?_) (a' := ?_) #[t_8,t_8,t_8,t_8,f_8,t_8,t_8,t_8,f_8,f_8,f_8,f_8] rfl rfl (any_of HT_.out (by kernel_rfl)) (fun _ _ _ h => h) (Or.inl ⟨by rfl, ?_⟩) ?_ ?_; rotate_left; (·intro w'; go_simp; with_reducible rfl); rotate_left; (·simp only [Act.put, q1_8, q2_8, q3_8, i64_w, i32_w]; rfl)
                                         refine pure_ (i := 8) (N := some 130) (v := ?_) (a' := ?_) #[t_8,t_8,t_8,t_8,f_8,t_8,t_8,t_8,t_8,f_8,f_8,f_8] rfl rfl (any_of HT_.out (by kernel_rfl)) (fun _ _ _ h => h) (Or.inl ⟨by rfl, ?_⟩) ?_ ?_; rotate_left; (·intro w'; go_simp; with_reducible rfl); rotate_left; (·simp only [Act.put, q1_8, q2_8, q3_8, i64_w, i32_w]; rfl)
                                         refine take_ (i := 4) (N := some 126) (v := ?_) (a' := ?_) #[t_8,t_8,t_8,t_8,t_8,t_8,t_8,t_8,t_8,f_8,f_8,f_8] rfl rfl (take_ofW HT_.out HW_.out (by kernel_rfl)) (fun _ _ _ h => h) (Or.inl ⟨by rfl, ?_⟩) hHeld ?_ ?_
                                         rotate_left
                                         ·rintro w' ⟨s0, s1⟩
                                          go_simp
                                          with_reducible rfl
                                         rotate_left
                                         ·simp only [Act.put, q1_8, q2_8, q3_8, i64_w, i32_w]
                                          rfl
                                         refine take_ (i := 9) (N := some 131) (v := ?_) (a' := ?_) #[t_8,t_8,t_8,t_8,t_8,t_8,t_8,t_8,t_8,t_8,f_8,f_8] rfl rfl (take_ofW HT_.out HW_.out (by kernel_rfl)) (fun _ _ _ h => h) (Or.inl ⟨by rfl, ?_⟩) hHeld ?_ ?_
                                         rotate_left
                                         ·rintro w' ⟨s0, s1⟩
                                          go_simp
                                          with_reducible rfl
                                         rotate_left
                                         ·simp only [Act.put, q1_8, q2_8, q3_8, i64_w, i32_w]
                                          rfl
                                         refine pure_ (i := 10) (N := some 132) (v := ?_) (a' := ?_) #[t_8,t_8,t_8,t_8,t_8,t_8,t_8,t_8,t_8,t_8,t_8,f_8] rfl rfl (any_of HT_.out (by kernel_rfl)) (fun _ _ _ h => h) (Or.inl ⟨by rfl, ?_⟩) ?_ ?_; rotate_left; (·intro w'; go_simp; with_reducible rfl); rotate_left; (·simp only [Act.put, q1_8, q2_8, q3_8, i64_w, i32_w]; rfl)
                                         refine pure_ (i := 11) (N := some 15) (v := ?_) (a' := ?_) #[t_8,t_8,t_8,t_8,t_8,t_8,t_8,t_8,t_8,t_8,t_8,t_8] rfl rfl (any_of HT_.out (by kernel_rfl)) (fun _ _ _ h => h) (Or.inl ⟨by rfl, ?_⟩) ?_ ?_; rotate_left; (·intro w'; go_simp; with_reducible rfl); rotate_left; (·simp only [Act.put, q1_8, q2_8, q3_8, i64_w, i32_w]; rfl)
                                         refine done_ (done_of HT_.out (by kernel_rfl)) ?_
                                         try go_wp2
                                         have n0_ := am8_ (Kd.R_drew HO_9.out)
                                         have n1_ := am8_ (Kd.R_drew HO_11.out)
                                         have n2_ := am8_ (blk_drew BK238.out)
                                         have n3_ := am8_ (Kd.C_drew HR257.out)
                                         have n4_ := am8_ (Kd.C_drew HR263.out)
                                         have n5_ := am8_ (below_drew1 HB.out)
                                         clear HO_9
                                         clear HO_11
                                         clear BK238
                                         clear HR257
                                         clear HR263
                                         clear HB
                                         have HO_9 := n0_
                                         have HO_11 := n1_
                                         have BK238 := n2_
                                         have HR257 := n3_
                                         have HR263 := n4_
                                         have HB := n5_
                                         clear n0_ n1_ n2_ n3_ n4_ n5_
                                         have p264 : 0 ≤ (a1 : Int) := of_decide_eq_true (by first | (with_reducible assumption) | assumption)
                                         have q264 : a1 < (t245.length : Int) := of_decide_eq_true (by first | (with_reducible assumption) | assumption)
                                         obtain ⟨ad264, e264, hx264_0⟩ := Kd.at_int (Kd.R_reads' HO_11.out).2.2 a1 p264 q264
                                         obtain rfl : ad252 = ad264 := (by injection e264)
                                         replace p264 := eq_true p264
                                         replace q264 := eq_true q264
                                         have q98 : ((rd t245 a1) : Int) ≤ ((t241.length : Int) : Int) := of_decide_eq_true (by first | (with_reducible assumption) | assumption)
                                         obtain ⟨i098, hi098, _, hsz98, _⟩ := info_parts info5
                                         have hroom98 : t241.length ≤ co19 := (Kd.R_reads' HO_9.out).2.1
                                         have hC98 : Kd.C (Kd.int .u8) _ Ao19 t241.length t241 := (Kd.R_reads' HO_9.out).2.2
                                         have hcut98 := cut_to (P := Tryd.prog) 26 5 .i64 Tryd.underlying26 hi098 Ao19 t241.length co19 (rd t245 a1) (of_decide_eq_true (by first | (with_reducible assumption) | assumption)) q98 hroom98
                                         have hr98 := Kd.C_take (m := ((rd t245 a1) : Int).toNat) hC98 (by omega)
                                         have hy98 : y265.length = ((rd t245 a1) : Int).toNat := (by rw [Ny265.out, List.length_take]; omega)
                                         rw [← Ny265.out] at hr98
                                         rw [← hy98] at hcut98
                                         have HR268 := Aside0.mk hr98
                                         have HC268 := am8_ (show y265.length ≤ co19 from by omega)
                                         clear hr98 hC98 hroom98 hi098 hsz98
                                         have KY98 := Aside0.mk hy98
                                         clear hy98
                                         have KL98 := am8_ (show ((rd t245 a1) : Int).toNat ≤ t241.length from by omega)
                                         replace q98 := eq_true q98
                                         have p272 : 0 ≤ ((ji48) : Int) := of_decide_eq_true (by first | (with_reducible assumption) | assumption)
                                         have q272 : (ji48) < (t245.length : Int) := of_decide_eq_true (by first | (with_reducible assumption) | assumption)
                                         obtain ⟨ad272, e272, hx272_0⟩ := Kd.at_int (Kd.R_reads' HO_11.out).2.2 (ji48) p272 q272
                                         obtain rfl : ad252 = ad272 := (by injection e272)
                                         replace p272 := eq_true p272
                                         replace q272 := eq_true q272
                                         have q99 : ((rd t245 (ji48)) : Int) ≤ ((t241.length : Int) : Int) := of_decide_eq_true (by first | (with_reducible assumption) | assumption)
                                         obtain ⟨i099, hi099, _, hsz99, _⟩ := info_parts info5
                                         have hroom99 : t241.length ≤ co19 := (Kd.R_reads' HO_9.out).2.1
                                         have hC99 : Kd.C (Kd.int .u8) _ Ao19 t241.length t241 := (Kd.R_reads' HO_9.out).2.2
                                         have q099 : (0 : Int) ≤ ((rd t245 (ji48)) : Int) := of_decide_eq_true (by first | (with_reducible assumption) | assumption)
                                         have hcut99 := cut_from (P := Tryd.prog) 26 5 .i64 Tryd.underlying26 hi099 1 hsz99 Ao19 t241.length co19 (rd t245 (ji48)) q099 q99
                                         have hr99 := Kd.C_drop (m := ((rd t245 (ji48)) : Int).toNat) (c := co19) hC99 (by omega) hroom99
                                         obtain ⟨A99, hA99⟩ : ∃ A1, A1 = (if co19 = ((rd t245 (ji48)) : Int).toNat then Ao19 else (Ao19 : Option Addr).map (·.add (((rd t245 (ji48)) : Int).toNat * 1))) := ⟨_, rfl⟩
                                         obtain ⟨c99, hc99⟩ : ∃ c1, c1 = co19 - ((rd t245 (ji48)) : Int).toNat := ⟨_, rfl⟩
                                         have hy99 : y273.length = t241.length - ((rd t245 (ji48)) : Int).toNat := (by rw [Ny273.out, List.length_drop] <;> omega)
                                         rw [show (t241).drop ((rd t245 (ji48)) : Int).toNat = y273 from Ny273.out.symm] at hr99
                                         replace hr99 : Kd.C (Kd.int .u8) _ A99 y273.length y273 := (by rw [hA99]; exact hr99)
                                         rw [← hy99, ← hA99, ← hc99] at hcut99
                                         have HR276 := Aside0.mk hr99
                                         have HC276 := am8_ (show y273.length ≤ c99 from by rw [hy99, hc99]; exact Nat.sub_le_sub_right hroom99 _)
                                         clear hr99 hC99 hroom99 hi099 hsz99 hc99
                                         have KY99 := Aside0.mk hy99
                                         have KA99 := Aside0.mk hA99
                                         clear hy99 hA99
                                         have KL99 := am8_ (show ((rd t245 (ji48)) : Int).toNat ≤ t241.length from by omega)
                                         replace q99 := eq_true q99
                                         as_aux_lemma =>
                                         refine start_ (n := 16) (S := fun w' => w'.cell? (ad252.add (a1).toNat) = some (.int .i64 (rd t245 a1)) ∧ w'.cell? (ad252.add ((ji48)).toNat) = some (.int .i64 (rd t245 (ji48)))) (ds := []) #[f_8,f_8,f_8,f_8,f_8,f_8,f_8,f_8,f_8,f_8,f_8,f_8,f_8,f_8,f_8,f_8] (by kernel_rfl) rfl rfl ⟨hx264_0, hx272_0⟩ (fun hHeld => ?_); refine with_tabW foliatelaw04_FlowFrames.tab16 foliatelaw04_FlowFrames.bits16 (fun HT_ HW_ => ?_)
                                         generalize w95.drew = w97 at HO_9 HO_11 BK238 HR257 HR263 HB HR268 HR276 hx264_0 hx272_0 hHeld ⊢
                                         refine pure_ (i := 0) (N := some 133) (v := ?_) (a' := ?_) #[t_8,f_8,f_8,f_8,f_8,f_8,f_8,f_8,f_8,f_8,f_8,f_8,f_8,f_8,f_8,f_8] rfl rfl (any_of HT_.out (by kernel_rfl)) (fun _ _ _ h => h) (Or.inl ⟨by rfl, ?_⟩) ?_ ?_; rotate_left; (·intro w'; go_simp; with_reducible rfl); rotate_left; (·simp only [Act.put, q1_8, q2_8, q3_8, i64_w, i32_w]; rfl)
                                         refine pure_ (i := 1) (N := some 134) (v := ?_) (a' := ?_) #[t_8,t_8,f_8,f_8,f_8,f_8,f_8,f_8,f_8,f_8,f_8,f_8,f_8,f_8,f_8,f_8] rfl rfl (any_of HT_.out (by kernel_rfl)) (fun _ _ _ h => h) (Or.inl ⟨by rfl, ?_⟩) ?_ ?_; rotate_left; (·intro w'; go_simp; with_reducible rfl); rotate_left; (·simp only [Act.put, q1_8, q2_8, q3_8, i64_w, i32_w]; rfl)
                                         refine pure_ (i := 2) (N := some 135) (v := ?_) (a' := ?_) #[t_8,t_8,t_8,f_8,f_8,f_8,f_8,f_8,f_8,f_8,f_8,f_8,f_8,f_8,f_8,f_8] rfl rfl (any_of HT_.out (by kernel_rfl)) (fun _ _ _ h => h) (Or.inl ⟨by rfl, ?_⟩) ?_ ?_; rotate_left; (·intro w'; go_simp; with_reducible rfl); rotate_left; (·simp only [Act.put, q1_8, q2_8, q3_8, i64_w, i32_w]; rfl)
                                         refine pure_ (i := 3) (N := some 136) (v := ?_) (a' := ?_) #[t_8,t_8,t_8,t_8,f_8,f_8,f_8,f_8,f_8,f_8,f_8,f_8,f_8,f_8,f_8,f_8] rfl rfl (any_of HT_.out (by kernel_rfl)) (fun _ _ _ h => h) (Or.inl ⟨by rfl, ?_⟩) ?_ ?_; rotate_left; (·intro w'; go_simp; with_reducible rfl); rotate_left; (·simp only [Act.put, q1_8, q2_8, q3_8, i64_w, i32_w]; rfl)
                                         refine pure_ (i := 7) (N := some 140) (v := ?_) (a' := ?_) #[t_8,t_8,t_8,t_8,f_8,f_8,f_8,t_8,f_8,f_8,f_8,f_8,f_8,f_8,f_8,f_8] rfl rfl (any_of HT_.out (by kernel_rfl)) (fun _ _ _ h => h) (Or.inl ⟨by rfl, ?_⟩) ?_ ?_; rotate_left; (·intro w'; go_simp; with_reducible rfl); rotate_left; (·simp only [Act.put, q1_8, q2_8, q3_8, i64_w, i32_w]; rfl)
                                         refine pure_ (i := 8) (N := some 141) (v := ?_) (a' := ?_) #[t_8,t_8,t_8,t_8,f_8,f_8,f_8,t_8,t_8,f_8,f_8,f_8,f_8,f_8,f_8,f_8] rfl rfl (any_of HT_.out (by kernel_rfl)) (fun _ _ _ h => h) (Or.inl ⟨by rfl, ?_⟩) ?_ ?_; rotate_left; (·intro w'; go_simp; with_reducible rfl); rotate_left; (·simp only [Act.put, q1_8, q2_8, q3_8, i64_w, i32_w]; rfl)
                                         refine pure_ (i := 9) (N := some 142) (v := ?_) (a' := ?_) #[t_8,t_8,t_8,t_8,f_8,f_8,f_8,t_8,t_8,t_8,f_8,f_8,f_8,f_8,f_8,f_8] rfl rfl (any_of HT_.out (by kernel_rfl)) (fun _ _ _ h => h) (Or.inl ⟨by rfl, ?_⟩) ?_ ?_; rotate_left; (·intro w'; go_simp; with_reducible rfl); rotate_left; (·simp only [Act.put, q1_8, q2_8, q3_8, i64_w, i32_w]; rfl)
                                         refine pure_ (i := 10) (N := some 143) (v := ?_) (a' := ?_) #[t_8,t_8,t_8,t_8,f_8,f_8,f_8,t_8,t_8,t_8,t_8,f_8,f_8,f_8,f_8,f_8] rfl rfl (any_of HT_.out (by kernel_rfl)) (fun _ _ _ h => h) (Or.inl ⟨by rfl, ?_⟩) ?_ ?_; rotate_left; (·intro w'; go_simp; with_reducible rfl); rotate_left; (·simp only [Act.put, q1_8, q2_8, q3_8, i64_w, i32_w]; rfl)
                                         refine pure_ (i := 11) (N := some 144) (v := ?_) (a' := ?_) #[t_8,t_8,t_8,t_8,f_8,f_8,f_8,t_8,t_8,t_8,t_8,t_8,f_8,f_8,f_8,f_8] rfl rfl (any_of HT_.out (by kernel_rfl)) (fun _ _ _ h => h) (Or.inl ⟨by rfl, ?_⟩) ?_ ?_; rotate_left; (·intro w'; go_simp; with_reducible rfl); rotate_left; (·simp only [Act.put, q1_8, q2_8, q3_8, i64_w, i32_w]; rfl)
                                         refine take_ (i := 4) (N := some 137) (v := ?_) (a' := ?_) #[t_8,t_8,t_8,t_8,t_8,f_8,f_8,t_8,t_8,t_8,t_8,t_8,f_8,f_8,f_8,f_8] rfl rfl (take_ofW HT_.out HW_.out (by kernel_rfl)) (fun _ _ _ h => h) (Or.inl ⟨by rfl, ?_⟩) hHeld ?_ ?_
                                         rotate_left
                                         ·rintro w' ⟨s0, s1⟩
                                          go_simp
                                          with_reducible rfl
                                         rotate_left
                                         ·simp only [Act.put, q1_8, q2_8, q3_8, i64_w, i32_w]
                                          rfl
                                         refine pure_ (i := 5) (N := some 138) (v := ?_) (a' := ?_) #[t_8,t_8,t_8,t_8,t_8,t_8,f_8,t_8,t_8,t_8,t_8,t_8,f_8,f_8,f_8,f_8] rfl rfl (any_of HT_.out (by kernel_rfl)) (fun _ _ _ h => h) (Or.inl ⟨by rfl, ?_⟩) ?_ ?_; rotate_left; (·intro w'; go_simp; with_reducible rfl); rotate_left; (·simp only [Act.put, q1_8, q2_8, q3_8, i64_w, i32_w]; rfl)
                                         refine take_ (i := 12) (N := some 145) (v := ?_) (a' := ?_) #[t_8,t_8,t_8,t_8,t_8,t_8,f_8,t_8,t_8,t_8,t_8,t_8,t_8,f_8,f_8,f_8] rfl rfl (take_ofW HT_.out HW_.out (by kernel_rfl)) (fun _ _ _ h => h) (Or.inl ⟨by rfl, ?_⟩) hHeld ?_ ?_
                                         rotate_left
                                         ·rintro w' ⟨s0, s1⟩
                                          go_simp
                                          with_reducible rfl
                                         rotate_left
                                         ·simp only [Act.put, q1_8, q2_8, q3_8, i64_w, i32_w]
                                          rfl
                                         refine pure_ (i := 13) (N := some 146) (v := ?_) (a' := ?_) #[t_8,t_8,t_8,t_8,t_8,t_8,f_8,t_8,t_8,t_8,t_8,t_8,t_8,t_8,f_8,f_8] rfl rfl (any_of HT_.out (by kernel_rfl)) (fun _ _ _ h => h) (Or.inl ⟨by rfl, ?_⟩) ?_ ?_; rotate_left; (·intro w'; go_simp; with_reducible rfl); rotate_left; (·simp only [Act.put, q1_8, q2_8, q3_8, i64_w, i32_w]; rfl)
                                         refine one_ (i := 6) (N := some 139) #[t_8,t_8,t_8,t_8,t_8,t_8,t_8,t_8,t_8,t_8,t_8,t_8,t_8,t_8,f_8,f_8] rfl rfl (one_of HT_.out (by kernel_rfl)) (by decide) (fun K hK => ?_)
                                         refine Kd.R_append_rows_step (Kd.int .u8) (w0 := w) w.heap.size (by rfl) (.const (.slice none 0 0)) (.tmp 138) 26 5 (.int .u8 0) 1 rfl Tryd.underlying26 info5 rfl (by decide) (by omega) (.slice none 0 0) ([] : List Int) y265 _ _ _ (fun k_ => some k_ ≠ (.slice Ao19 t241.length co19 : Value).ownBlock) (fun _ => False) rfl rfl ?aO ?aR (fun _ _ h => h) (fun _ h => h.elim) ?aF ?aB ?aS ?aL ?_
                                         (case aR => repeat (first | exact (by repeat (first | (with_reducible exact HR268.out) | (with_reducible first | refine ca8_ ?_ _ | refine cn8_ ?_ _ | refine cd8_ ?_) | exact HR268.out)) | (with_reducible first | refine ca8_ ?_ _ | refine cn8_ ?_ _ | refine cd8_ ?_)))
                                         (case aB => exact (by repeat (first | (with_reducible first | exact HB.out | apply below_alloc | apply pw_below_drewN | apply below_drew1 | refine below_set ?_ GE238.out) | exact HB.out)))
                                         (case aF => exact (fun k_ hk => Kd.fresh' (Kd.R_lt (by (with_reducible repeat (first | apply ra8_ | apply rn8_ | apply rd8_)); exact HO_9.out)) k_ hk))
                                         (case aO => exact ((Kd.R_nil _ _ _ _ (fun k_ => some k_ ≠ (.slice Ao19 t241.length co19 : Value).ownBlock))))
                                         (case aS => exact (below_size (by repeat (first | (with_reducible first | exact HB.out | apply below_alloc | apply pw_below_drewN | apply below_drew1 | refine below_set ?_ GE238.out) | exact HB.out))))
                                         (case aL => have := LMc64.out; omega)
                                         intro v270 w100 ho hb hg hat
                                         have HS0_ := cell_grown hg (hHeld.1) (by first | (rw [add_block]; exact (by simp [Value.ownBlock])) | (show some (Addr.add _ _).block ≠ _; rw [add_block]; exact (by simp [Value.ownBlock])) | exact (by simp [Value.ownBlock]))
                                         have HS1_ := cell_grown hg (hHeld.2) (by first | (rw [add_block]; exact (by simp [Value.ownBlock])) | (show some (Addr.add _ _).block ≠ _; rw [add_block]; exact (by simp [Value.ownBlock])) | exact (by simp [Value.ownBlock]))
                                         rw [← Ny269.out] at ho
                                         have n0_ := am8_ (Kd.R_after (Kd.R_apart_nil (by (with_reducible repeat (first | apply ra8_ | apply rn8_ | apply rd8_)); exact HO_9.out)) hg hat)
                                         have n1_ := am8_ (Kd.R_grown (by (with_reducible repeat (first | apply ra8_ | apply rn8_ | apply rd8_)); exact HO_11.out) hg (fun _ _ => by simp [Value.ownBlock]))
                                         have n2_ := am8_ (blk_grown (g := gb238) (o := .cells #[.int .u32 a0_0, .slice A0_1 l0_1.length c0_1] 25 (0, 0)) (by (with_reducible repeat (first | refine blk_drewN ?_ _ | refine blk_drew ?_ | refine blk_alloc ?_ _)); exact BK238.out) hg (by simp [Value.ownBlock]))
                                         have n3_ := am8_ (hb)
                                         have n4_ := am8_ ((show Kd.C (Kd.int .u8) w100 A94 y254.length y254 from by rw [Ny254.out, KA94.out]; exact Kd.C_mid (lo := ((rd t245 a1) : Int).toNat) (hi := ((rd t245 (ji48)) : Int).toNat) (c := co19) ((Kd.R_reads' (Kd.R_after (Kd.R_apart_nil (by (with_reducible repeat (first | apply ra8_ | apply rn8_ | apply rd8_)); exact HO_9.out)) hg hat)).2.2) KM94.out KL94.out ((Kd.R_reads' (Kd.R_after (Kd.R_apart_nil (by (with_reducible repeat (first | apply ra8_ | apply rn8_ | apply rd8_)); exact HO_9.out)) hg hat)).2.1)))
                                         have n5_ := am8_ ((show Kd.C (Kd.int .u8) w100 A96 y260.length y260 from by rw [Ny260.out, KA96.out]; exact Kd.C_mid (lo := ((rd t245 a2) : Int).toNat) (hi := ((rd t245 (ji56)) : Int).toNat) (c := co19) ((Kd.R_reads' (Kd.R_after (Kd.R_apart_nil (by (with_reducible repeat (first | apply ra8_ | apply rn8_ | apply rd8_)); exact HO_9.out)) hg hat)).2.2) KM96.out KL96.out ((Kd.R_reads' (Kd.R_after (Kd.R_apart_nil (by (with_reducible repeat (first | apply ra8_ | apply rn8_ | apply rd8_)); exact HO_9.out)) hg hat)).2.1)))
                                         have n6_ := am8_ ((show Kd.C (Kd.int .u8) w100 Ao19 y265.length y265 from by rw [Ny265.out]; exact Kd.C_take (m := ((rd t245 a1) : Int).toNat) ((Kd.R_reads' (Kd.R_after (Kd.R_apart_nil (by (with_reducible repeat (first | apply ra8_ | apply rn8_ | apply rd8_)); exact HO_9.out)) hg hat)).2.2) KL98.out))
                                         have n7_ := am8_ ((show Kd.C (Kd.int .u8) w100 A99 y273.length y273 from by rw [Ny273.out, KA99.out]; exact Kd.C_drop (m := ((rd t245 (ji48)) : Int).toNat) (c := co19) ((Kd.R_reads' (Kd.R_after (Kd.R_apart_nil (by (with_reducible repeat (first | apply ra8_ | apply rn8_ | apply rd8_)); exact HO_9.out)) hg hat)).2.2) KL99.out ((Kd.R_reads' (Kd.R_after (Kd.R_apart_nil (by (with_reducible repeat (first | apply ra8_ | apply rn8_ | apply rd8_)); exact HO_9.out)) hg hat)).2.1)))
                                         have n8_ := am8_ (ho)
                                         clear HO_9
                                         clear HO_11
                                         clear BK238
                                         clear HB
                                         clear HR257
                                         clear HR263
                                         clear HR268
                                         clear HR276
                                         have HO_9 := n0_
                                         have HO_11 := n1_
                                         have BK238 := n2_
                                         have HB := n3_
                                         have HR257 := n4_
                                         have HR263 := n5_
                                         have HR268 := n6_
                                         have HR276 := n7_
                                         have HO271 := n8_
                                         clear n0_ n1_ n2_ n3_ n4_ n5_ n6_ n7_ n8_
                                         clear ho hb hg hat
                                         refine hK.out _ _ ⟨HS0_, HS1_⟩ (fun hHeld => ?_)
                                         clear hK K
                                         refine norm_ (a' := ?_) ?_ ?_
                                         rotate_left
                                         ·show Act.put _ (some 139) _ = _
                                          simp only [Act.put, q1_8, q2_8, q3_8, i64_w, i32_w]
                                          rfl
                                         refine one_ (i := 14) (N := some 147) #[t_8,t_8,t_8,t_8,t_8,t_8,t_8,t_8,t_8,t_8,t_8,t_8,t_8,t_8,t_8,f_8] rfl rfl (one_of HT_.out (by kernel_rfl)) (by decide) (fun K hK => ?_)
                                         refine Kd.R_append_rows_step (Kd.int .u8) (w0 := w) w.heap.size (by rfl) (.tmp 139) (.tmp 146) 26 5 (.int .u8 0) 1 rfl Tryd.underlying26 info5 rfl (by decide) (by omega) v270 y269 y273 _ _ _ (fun k_ => some k_ ≠ (.slice Ao19 t241.length co19 : Value).ownBlock) (fun _ => False) rfl rfl ?aO ?aR (fun _ _ h => h) (fun _ h => h.elim) ?aF ?aB ?aS ?aL ?_
                                         (case aR => repeat (first | exact (by repeat (first | (with_reducible exact HR276.out) | (with_reducible first | refine ca8_ ?_ _ | refine cn8_ ?_ _ | refine cd8_ ?_) | exact HR276.out)) | (with_reducible first | refine ca8_ ?_ _ | refine cn8_ ?_ _ | refine cd8_ ?_)))
                                         (case aB => exact (by repeat (first | (with_reducible first | exact HB.out | apply below_alloc | apply pw_below_drewN | apply below_drew1 | refine below_set ?_ GE238.out) | exact HB.out)))
                                         (case aF => exact (fun k_ hk => Kd.fresh' (Kd.R_lt (by (with_reducible repeat (first | apply ra8_ | apply rn8_ | apply rd8_)); exact HO_9.out)) k_ hk))
                                         (case aO => exact (by (with_reducible repeat (first | apply ra8_ | apply rn8_ | apply rd8_)); exact HO271.out))
                                         (case aS => exact (below_size (by repeat (first | (with_reducible first | exact HB.out | apply below_alloc | apply pw_below_drewN | apply below_drew1 | refine below_set ?_ GE238.out) | exact HB.out))))
                                         (case aL => have := LMc67.out; omega)
                                         intro v278 w101 ho hb hg hat
                                         have HS0_ := cell_grown hg (hHeld.1) (by first | (rw [add_block]; exact (fun he_ => by obtain ⟨c1_, h1_⟩ := Kd.R_typed HO_11.out _ rfl; obtain ⟨c2_, h2_⟩ := Kd.R_typed HO271.out _ he_.symm; rw [h1_] at h2_; injection h2_ with h2_; injection h2_ with _ h3_ _; exact absurd h3_ (by decide))) | (show some (Addr.add _ _).block ≠ _; rw [add_block]; exact (fun he_ => by obtain ⟨c1_, h1_⟩ := Kd.R_typed HO_11.out _ rfl; obtain ⟨c2_, h2_⟩ := Kd.R_typed HO271.out _ he_.symm; rw [h1_] at h2_; injection h2_ with h2_; injection h2_ with _ h3_ _; exact absurd h3_ (by decide))) | exact (fun he_ => by obtain ⟨c1_, h1_⟩ := Kd.R_typed HO_11.out _ rfl; obtain ⟨c2_, h2_⟩ := Kd.R_typed HO271.out _ he_.symm; rw [h1_] at h2_; injection h2_ with h2_; injection h2_ with _ h3_ _; exact absurd h3_ (by decide)))
                                         have HS1_ := cell_grown hg (hHeld.2) (by first | (rw [add_block]; exact (fun he_ => by obtain ⟨c1_, h1_⟩ := Kd.R_typed HO_11.out _ rfl; obtain ⟨c2_, h2_⟩ := Kd.R_typed HO271.out _ he_.symm; rw [h1_] at h2_; injection h2_ with h2_; injection h2_ with _ h3_ _; exact absurd h3_ (by decide))) | (show some (Addr.add _ _).block ≠ _; rw [add_block]; exact (fun he_ => by obtain ⟨c1_, h1_⟩ := Kd.R_typed HO_11.out _ rfl; obtain ⟨c2_, h2_⟩ := Kd.R_typed HO271.out _ he_.symm; rw [h1_] at h2_; injection h2_ with h2_; injection h2_ with _ h3_ _; exact absurd h3_ (by decide))) | exact (fun he_ => by obtain ⟨c1_, h1_⟩ := Kd.R_typed HO_11.out _ rfl; obtain ⟨c2_, h2_⟩ := Kd.R_typed HO271.out _ he_.symm; rw [h1_] at h2_; injection h2_ with h2_; injection h2_ with _ h3_ _; exact absurd h3_ (by decide)))
                                         rw [← Ny277.out] at ho
                                         have n0_ := am8_ (Kd.R_after (ok := (fun _ => True)) (by (with_reducible repeat (first | apply ra8_ | apply rn8_ | apply rd8_)); exact HO_9.out) hg hat)
                                         have n1_ := am8_ (Kd.R_over' (by (with_reducible repeat (first | apply ra8_ | apply rn8_ | apply rd8_)); exact HO_11.out) (Kd.R_typed (by (with_reducible repeat (first | apply ra8_ | apply rn8_ | apply rd8_)); exact HO271.out)) (by decide) hg)
                                         have n2_ := am8_ (blk_grown (g := gb238) (o := .cells #[.int .u32 a0_0, .slice A0_1 l0_1.length c0_1] 25 (0, 0)) (by (with_reducible repeat (first | refine blk_drewN ?_ _ | refine blk_drew ?_ | refine blk_alloc ?_ _)); exact BK238.out) hg (Kd.R_ne HO271.out BK238.out (by decide)))
                                         have n3_ := am8_ (hb)
                                         have n4_ := am8_ ((show Kd.C (Kd.int .u8) w101 A94 y254.length y254 from by rw [Ny254.out, KA94.out]; exact Kd.C_mid (lo := ((rd t245 a1) : Int).toNat) (hi := ((rd t245 (ji48)) : Int).toNat) (c := co19) ((Kd.R_reads' (Kd.R_after (ok := (fun _ => True)) (by (with_reducible repeat (first | apply ra8_ | apply rn8_ | apply rd8_)); exact HO_9.out) hg hat)).2.2) KM94.out KL94.out ((Kd.R_reads' (Kd.R_after (ok := (fun _ => True)) (by (with_reducible repeat (first | apply ra8_ | apply rn8_ | apply rd8_)); exact HO_9.out) hg hat)).2.1)))
                                         have n5_ := am8_ ((show Kd.C (Kd.int .u8) w101 A96 y260.length y260 from by rw [Ny260.out, KA96.out]; exact Kd.C_mid (lo := ((rd t245 a2) : Int).toNat) (hi := ((rd t245 (ji56)) : Int).toNat) (c := co19) ((Kd.R_reads' (Kd.R_after (ok := (fun _ => True)) (by (with_reducible repeat (first | apply ra8_ | apply rn8_ | apply rd8_)); exact HO_9.out) hg hat)).2.2) KM96.out KL96.out ((Kd.R_reads' (Kd.R_after (ok := (fun _ => True)) (by (with_reducible repeat (first | apply ra8_ | apply rn8_ | apply rd8_)); exact HO_9.out) hg hat)).2.1)))
                                         have n6_ := am8_ ((show Kd.C (Kd.int .u8) w101 Ao19 y265.length y265 from by rw [Ny265.out]; exact Kd.C_take (m := ((rd t245 a1) : Int).toNat) ((Kd.R_reads' (Kd.R_after (ok := (fun _ => True)) (by (with_reducible repeat (first | apply ra8_ | apply rn8_ | apply rd8_)); exact HO_9.out) hg hat)).2.2) KL98.out))
                                         have n7_ := am8_ ((show Kd.C (Kd.int .u8) w101 A99 y273.length y273 from by rw [Ny273.out, KA99.out]; exact Kd.C_drop (m := ((rd t245 (ji48)) : Int).toNat) (c := co19) ((Kd.R_reads' (Kd.R_after (ok := (fun _ => True)) (by (with_reducible repeat (first | apply ra8_ | apply rn8_ | apply rd8_)); exact HO_9.out) hg hat)).2.2) KL99.out ((Kd.R_reads' (Kd.R_after (ok := (fun _ => True)) (by (with_reducible repeat (first | apply ra8_ | apply rn8_ | apply rd8_)); exact HO_9.out) hg hat)).2.1)))
                                         have n8_ := am8_ (ho)
                                         clear HO_9
                                         clear HO_11
                                         clear BK238
                                         clear HB
                                         clear HR257
                                         clear HR263
                                         clear HR268
                                         clear HR276
                                         clear HO271
                                         have HO_9 := n0_
                                         have HO_11 := n1_
                                         have BK238 := n2_
                                         have HB := n3_
                                         have HR257 := n4_
                                         have HR263 := n5_
                                         have HR268 := n6_
                                         have HR276 := n7_
                                         have HO279 := n8_
                                         clear n0_ n1_ n2_ n3_ n4_ n5_ n6_ n7_ n8_
                                         clear ho hb hg hat
                                         refine hK.out _ _ ⟨HS0_, HS1_⟩ (fun hHeld => ?_)
                                         clear hK K
                                         refine norm_ (a' := ?_) ?_ ?_
                                         rotate_left
                                         ·show Act.put _ (some 147) _ = _
                                          simp only [Act.put, q1_8, q2_8, q3_8, i64_w, i32_w]
                                          rfl
                                         refine pure_ (i := 15) (N := some 16) (v := ?_) (a' := ?_) #[t_8,t_8,t_8,t_8,t_8,t_8,t_8,t_8,t_8,t_8,t_8,t_8,t_8,t_8,t_8,t_8] rfl rfl (any_of HT_.out (by kernel_rfl)) (fun _ _ _ h => h) (Or.inl ⟨by rfl, ?_⟩) ?_ ?_; rotate_left; (·intro w'; go_simp; with_reducible rfl); rotate_left; (·simp only [Act.put, q1_8, q2_8, q3_8, i64_w, i32_w]; rfl)
                                         refine done_ (done_of HT_.out (by kernel_rfl)) ?_
                                         try go_wp2
                                         have n0_ := am8_ (Kd.R_drew HO_9.out)
                                         have n1_ := am8_ (Kd.R_drew HO_11.out)
                                         have n2_ := am8_ (Kd.R_drew HO279.out)
                                         have n3_ := am8_ (blk_drew BK238.out)
                                         have n4_ := am8_ (Kd.C_drew HR257.out)
                                         have n5_ := am8_ (Kd.C_drew HR263.out)
                                         have n6_ := am8_ (Kd.C_drew HR268.out)
                                         have n7_ := am8_ (Kd.C_drew HR276.out)
                                         have n8_ := am8_ (below_drew1 HB.out)
                                         clear HO_9
                                         clear HO_11
                                         clear HO279
                                         clear BK238
                                         clear HR257
                                         clear HR263
                                         clear HR268
                                         clear HR276
                                         clear HB
                                         have HO_9 := n0_
                                         have HO_11 := n1_
                                         have HO279 := n2_
                                         have BK238 := n3_
                                         have HR257 := n4_
                                         have HR263 := n5_
                                         have HR268 := n6_
                                         have HR276 := n7_
                                         have HB := n8_
                                         clear n0_ n1_ n2_ n3_ n4_ n5_ n6_ n7_ n8_
                                         have p280 : 0 ≤ ((ji48) : Int) := of_decide_eq_true (by first | (with_reducible assumption) | assumption)
                                         have q280 : (ji48) < (t245.length : Int) := of_decide_eq_true (by first | (with_reducible assumption) | assumption)
                                         obtain ⟨ad280, e280, hx280_0⟩ := Kd.at_int (Kd.R_reads' HO_11.out).2.2 (ji48) p280 q280
                                         obtain rfl : ad252 = ad280 := (by injection e280)
                                         replace p280 := eq_true p280
                                         replace q280 := eq_true q280
                                         have q103 : ((rd t245 (ji48)) : Int) ≤ ((t241.length : Int) : Int) := of_decide_eq_true (by first | (with_reducible assumption) | assumption)
                                         obtain ⟨i0103, hi0103, _, hsz103, _⟩ := info_parts info5
                                         have hroom103 : t241.length ≤ co19 := (Kd.R_reads' HO_9.out).2.1
                                         have hC103 : Kd.C (Kd.int .u8) _ Ao19 t241.length t241 := (Kd.R_reads' HO_9.out).2.2
                                         try clear hcut98
                                         try clear hcut99
                                         have hcut103 := cut_to (P := Tryd.prog) 26 5 .i64 Tryd.underlying26 hi0103 Ao19 t241.length co19 (rd t245 (ji48)) (of_decide_eq_true (by first | (with_reducible assumption) | assumption)) q103 hroom103
                                         have hr103 := Kd.C_take (m := ((rd t245 (ji48)) : Int).toNat) hC103 (by omega)
                                         have hy103 : y281.length = ((rd t245 (ji48)) : Int).toNat := (by rw [Ny281.out, List.length_take]; omega)
                                         rw [← Ny281.out] at hr103
                                         rw [← hy103] at hcut103
                                         have HR284 := Aside0.mk hr103
                                         have HC284 := am8_ (show y281.length ≤ co19 from by omega)
                                         clear hr103 hC103 hroom103 hi0103 hsz103
                                         have KY103 := Aside0.mk hy103
                                         clear hy103
                                         have KL103 := am8_ (show ((rd t245 (ji48)) : Int).toNat ≤ t241.length from by omega)
                                         replace q103 := eq_true q103
                                         have p291 : 0 ≤ ((ji48) : Int) := of_decide_eq_true (by first | (with_reducible assumption) | assumption)
                                         have q291 : (ji48) < (t245.length : Int) := of_decide_eq_true (by first | (with_reducible assumption) | assumption)
                                         obtain ⟨ad291, e291, hx291_0⟩ := Kd.at_int (Kd.R_reads' HO_11.out).2.2 (ji48) p291 q291
                                         obtain rfl : ad252 = ad291 := (by injection e291)
                                         replace p291 := eq_true p291
                                         replace q291 := eq_true q291
                                         have q104 : ((rd t245 (ji48)) : Int) ≤ ((t241.length : Int) : Int) := of_decide_eq_true (by first | (with_reducible assumption) | assumption)
                                         obtain ⟨i0104, hi0104, _, hsz104, _⟩ := info_parts info5
                                         have hroom104 : t241.length ≤ co19 := (Kd.R_reads' HO_9.out).2.1
                                         have hC104 : Kd.C (Kd.int .u8) _ Ao19 t241.length t241 := (Kd.R_reads' HO_9.out).2.2
                                         have q0104 : (0 : Int) ≤ ((rd t245 (ji48)) : Int) := of_decide_eq_true (by first | (with_reducible assumption) | assumption)
                                         have hcut104 := cut_from (P := Tryd.prog) 26 5 .i64 Tryd.underlying26 hi0104 1 hsz104 Ao19 t241.length co19 (rd t245 (ji48)) q0104 q104
                                         have hr104 := Kd.C_drop (m := ((rd t245 (ji48)) : Int).toNat) (c := co19) hC104 (by omega) hroom104
                                         obtain ⟨A104, hA104⟩ : ∃ A1, A1 = (if co19 = ((rd t245 (ji48)) : Int).toNat then Ao19 else (Ao19 : Option Addr).map (·.add (((rd t245 (ji48)) : Int).toNat * 1))) := ⟨_, rfl⟩
                                         obtain ⟨c104, hc104⟩ : ∃ c1, c1 = co19 - ((rd t245 (ji48)) : Int).toNat := ⟨_, rfl⟩
                                         have hy104 : y292.length = t241.length - ((rd t245 (ji48)) : Int).toNat := (by rw [Ny292.out, List.length_drop] <;> omega)
                                         rw [show (t241).drop ((rd t245 (ji48)) : Int).toNat = y292 from Ny292.out.symm] at hr104
                                         replace hr104 : Kd.C (Kd.int .u8) _ A104 y292.length y292 := (by rw [hA104]; exact hr104)
                                         rw [← hy104, ← hA104, ← hc104] at hcut104
                                         have HR295 := Aside0.mk hr104
                                         have HC295 := am8_ (show y292.length ≤ c104 from by rw [hy104, hc104]; exact Nat.sub_le_sub_right hroom104 _)
                                         clear hr104 hC104 hroom104 hi0104 hsz104 hc104
                                         have KY104 := Aside0.mk hy104
                                         have KA104 := Aside0.mk hA104
                                         clear hy104 hA104
                                         have KL104 := am8_ (show ((rd t245 (ji48)) : Int).toNat ≤ t241.length from by omega)
                                         replace q104 := eq_true q104
                                         as_aux_lemma =>
                                         refine start_ (n := 19) (S := fun w' => w'.cell? (ad252.add ((ji48)).toNat) = some (.int .i64 (rd t245 (ji48))) ∧ w'.cell? (ad252.add ((ji48)).toNat) = some (.int .i64 (rd t245 (ji48)))) (ds := []) #[f_8,f_8,f_8,f_8,f_8,f_8,f_8,f_8,f_8,f_8,f_8,f_8,f_8,f_8,f_8,f_8,f_8,f_8,f_8] (by kernel_rfl) rfl rfl ⟨hx280_0, hx291_0⟩ (fun hHeld => ?_); refine with_tabW foliatelaw04_FlowFrames.tab17 foliatelaw04_FlowFrames.bits17 (fun HT_ HW_ => ?_)
                                         generalize w101.drew = w102 at HO_9 HO_11 HO279 BK238 HR257 HR263 HR268 HR276 HB HR284 HR295 hx280_0 hx291_0 hHeld ⊢
                                         refine pure_ (i := 0) (N := some 148) (v := ?_) (a' := ?_) #[t_8,f_8,f_8,f_8,f_8,f_8,f_8,f_8,f_8,f_8,f_8,f_8,f_8,f_8,f_8,f_8,f_8,f_8,f_8] rfl rfl (any_of HT_.out (by kernel_rfl)) (fun _ _ _ h => h) (Or.inl ⟨by rfl, ?_⟩) ?_ ?_; rotate_left; (·intro w'; go_simp; with_reducible rfl); rotate_left; (·simp only [Act.put, q1_8, q2_8, q3_8, i64_w, i32_w]; rfl)
                                         refine pure_ (i := 1) (N := some 149) (v := ?_) (a' := ?_) #[t_8,t_8,f_8,f_8,f_8,f_8,f_8,f_8,f_8,f_8,f_8,f_8,f_8,f_8,f_8,f_8,f_8,f_8,f_8] rfl rfl (any_of HT_.out (by kernel_rfl)) (fun _ _ _ h => h) (Or.inl ⟨by rfl, ?_⟩) ?_ ?_; rotate_left; (·intro w'; go_simp; with_reducible rfl); rotate_left; (·simp only [Act.put, q1_8, q2_8, q3_8, i64_w, i32_w]; rfl)
                                         refine pure_ (i := 2) (N := some 150) (v := ?_) (a' := ?_) #[t_8,t_8,t_8,f_8,f_8,f_8,f_8,f_8,f_8,f_8,f_8,f_8,f_8,f_8,f_8,f_8,f_8,f_8,f_8] rfl rfl (any_of HT_.out (by kernel_rfl)) (fun _ _ _ h => h) (Or.inl ⟨by rfl, ?_⟩) ?_ ?_; rotate_left; (·intro w'; go_simp; with_reducible rfl); rotate_left; (·simp only [Act.put, q1_8, q2_8, q3_8, i64_w, i32_w]; rfl)
                                         refine pure_ (i := 3) (N := some 151) (v := ?_) (a' := ?_) #[t_8,t_8,t_8,t_8,f_8,f_8,f_8,f_8,f_8,f_8,f_8,f_8,f_8,f_8,f_8,f_8,f_8,f_8,f_8] rfl rfl (any_of HT_.out (by kernel_rfl)) (fun _ _ _ h => h) (Or.inl ⟨by rfl, ?_⟩) ?_ ?_; rotate_left; (·intro w'; go_simp; with_reducible rfl); rotate_left; (·simp only [Act.put, q1_8, q2_8, q3_8, i64_w, i32_w]; rfl)
                                         refine pure_ (i := 4) (N := some 152) (v := ?_) (a' := ?_) #[t_8,t_8,t_8,t_8,t_8,f_8,f_8,f_8,f_8,f_8,f_8,f_8,f_8,f_8,f_8,f_8,f_8,f_8,f_8] rfl rfl (any_of HT_.out (by kernel_rfl)) (fun _ _ _ h => h) (Or.inl ⟨by rfl, ?_⟩) ?_ ?_; rotate_left; (·intro w'; go_simp; with_reducible rfl); rotate_left; (·simp only [Act.put, q1_8, q2_8, q3_8, i64_w, i32_w]; rfl)
                                         refine pure_ (i := 8) (N := some 156) (v := ?_) (a' := ?_) #[t_8,t_8,t_8,t_8,t_8,f_8,f_8,f_8,t_8,f_8,f_8,f_8,f_8,f_8,f_8,f_8,f_8,f_8,f_8] rfl rfl (any_of HT_.out (by kernel_rfl)) (fun _ _ _ h => h) (Or.inl ⟨by rfl, ?_⟩) ?_ ?_; rotate_left; (·intro w'; go_simp; with_reducible rfl); rotate_left; (·simp only [Act.put, q1_8, q2_8, q3_8, i64_w, i32_w]; rfl)
                                         refine pure_ (i := 10) (N := some 158) (v := ?_) (a' := ?_) #[t_8,t_8,t_8,t_8,t_8,f_8,f_8,f_8,t_8,f_8,t_8,f_8,f_8,f_8,f_8,f_8,f_8,f_8,f_8] rfl rfl (any_of HT_.out (by kernel_rfl)) (fun _ _ _ h => h) (Or.inl ⟨by rfl, ?_⟩) ?_ ?_; rotate_left; (·intro w'; go_simp; with_reducible rfl); rotate_left; (·simp only [Act.put, q1_8, q2_8, q3_8, i64_w, i32_w]; rfl)
                                         refine pure_ (i := 11) (N := some 159) (v := ?_) (a' := ?_) #[t_8,t_8,t_8,t_8,t_8,f_8,f_8,f_8,t_8,f_8,t_8,t_8,f_8,f_8,f_8,f_8,f_8,f_8,f_8] rfl rfl (any_of HT_.out (by kernel_rfl)) (fun _ _ _ h => h) (Or.inl ⟨by rfl, ?_⟩) ?_ ?_; rotate_left; (·intro w'; go_simp; with_reducible rfl); rotate_left; (·simp only [Act.put, q1_8, q2_8, q3_8, i64_w, i32_w]; rfl)
                                         refine pure_ (i := 12) (N := some 160) (v := ?_) (a' := ?_) #[t_8,t_8,t_8,t_8,t_8,f_8,f_8,f_8,t_8,f_8,t_8,t_8,t_8,f_8,f_8,f_8,f_8,f_8,f_8] rfl rfl (any_of HT_.out (by kernel_rfl)) (fun _ _ _ h => h) (Or.inl ⟨by rfl, ?_⟩) ?_ ?_; rotate_left; (·intro w'; go_simp; with_reducible rfl); rotate_left; (·simp only [Act.put, q1_8, q2_8, q3_8, i64_w, i32_w]; rfl)
                                         refine pure_ (i := 13) (N := some 161) (v := ?_) (a' := ?_) #[t_8,t_8,t_8,t_8,t_8,f_8,f_8,f_8,t_8,f_8,t_8,t_8,t_8,t_8,f_8,f_8,f_8,f_8,f_8] rfl rfl (any_of HT_.out (by kernel_rfl)) (fun _ _ _ h => h) (Or.inl ⟨by rfl, ?_⟩) ?_ ?_; rotate_left; (·intro w'; go_simp; with_reducible rfl); rotate_left; (·simp only [Act.put, q1_8, q2_8, q3_8, i64_w, i32_w]; rfl)
                                         refine pure_ (i := 14) (N := some 162) (v := ?_) (a' := ?_) #[t_8,t_8,t_8,t_8,t_8,f_8,f_8,f_8,t_8,f_8,t_8,t_8,t_8,t_8,t_8,f_8,f_8,f_8,f_8] rfl rfl (any_of HT_.out (by kernel_rfl)) (fun _ _ _ h => h) (Or.inl ⟨by rfl, ?_⟩) ?_ ?_; rotate_left; (·intro w'; go_simp; with_reducible rfl); rotate_left; (·simp only [Act.put, q1_8, q2_8, q3_8, i64_w, i32_w]; rfl)
                                         refine take_ (i := 5) (N := some 153) (v := ?_) (a' := ?_) #[t_8,t_8,t_8,t_8,t_8,t_8,f_8,f_8,t_8,f_8,t_8,t_8,t_8,t_8,t_8,f_8,f_8,f_8,f_8] rfl rfl (take_ofW HT_.out HW_.out (by kernel_rfl)) (fun _ _ _ h => h) (Or.inl ⟨by rfl, ?_⟩) hHeld ?_ ?_
                                         rotate_left
                                         ·rintro w' ⟨s0, s1⟩
                                          go_simp
                                          with_reducible rfl
                                         rotate_left
                                         ·simp only [Act.put, q1_8, q2_8, q3_8, i64_w, i32_w]
                                          rfl
                                         refine pure_ (i := 6) (N := some 154) (v := ?_) (a' := ?_) #[t_8,t_8,t_8,t_8,t_8,t_8,t_8,f_8,t_8,f_8,t_8,t_8,t_8,t_8,t_8,f_8,f_8,f_8,f_8] rfl rfl (any_of HT_.out (by kernel_rfl)) (fun _ _ _ h => h) (Or.inl ⟨by rfl, ?_⟩) ?_ ?_; rotate_left; (·intro w'; go_simp; with_reducible rfl); rotate_left; (·simp only [Act.put, q1_8, q2_8, q3_8, i64_w, i32_w]; rfl)
                                         refine take_ (i := 15) (N := some 163) (v := ?_) (a' := ?_) #[t_8,t_8,t_8,t_8,t_8,t_8,t_8,f_8,t_8,f_8,t_8,t_8,t_8,t_8,t_8,t_8,f_8,f_8,f_8] rfl rfl (take_ofW HT_.out HW_.out (by kernel_rfl)) (fun _ _ _ h => h) (Or.inl ⟨by rfl, ?_⟩) hHeld ?_ ?_
                                         rotate_left
                                         ·rintro w' ⟨s0, s1⟩
                                          go_simp
                                          with_reducible rfl
                                         rotate_left
                                         ·simp only [Act.put, q1_8, q2_8, q3_8, i64_w, i32_w]
                                          rfl
                                         refine pure_ (i := 16) (N := some 164) (v := ?_) (a' := ?_) #[t_8,t_8,t_8,t_8,t_8,t_8,t_8,f_8,t_8,f_8,t_8,t_8,t_8,t_8,t_8,t_8,t_8,f_8,f_8] rfl rfl (any_of HT_.out (by kernel_rfl)) (fun _ _ _ h => h) (Or.inl ⟨by rfl, ?_⟩) ?_ ?_; rotate_left; (·intro w'; go_simp; with_reducible rfl); rotate_left; (·simp only [Act.put, q1_8, q2_8, q3_8, i64_w, i32_w]; rfl)
                                         refine one_ (i := 7) (N := some 155) #[t_8,t_8,t_8,t_8,t_8,t_8,t_8,t_8,t_8,f_8,t_8,t_8,t_8,t_8,t_8,t_8,t_8,f_8,f_8] rfl rfl (one_of HT_.out (by kernel_rfl)) (by decide) (fun K hK => ?_)
                                         refine Kd.R_append_rows_step (Kd.int .u8) (w0 := w) w.heap.size (by rfl) (.const (.slice none 0 0)) (.tmp 154) 26 5 (.int .u8 0) 1 rfl Tryd.underlying26 info5 rfl (by decide) (by omega) (.slice none 0 0) ([] : List Int) y281 _ _ _ (fun k_ => some k_ ≠ (.slice Ao19 t241.length co19 : Value).ownBlock ∧ some k_ ≠ (v278 : Value).ownBlock) (fun _ => False) rfl rfl ?aO ?aR (fun _ _ h => h) (fun _ h => h.elim) ?aF ?aB ?aS ?aL ?_
                                         (case aR => repeat (first | exact (by repeat (first | (with_reducible exact HR284.out) | (with_reducible first | refine ca8_ ?_ _ | refine cn8_ ?_ _ | refine cd8_ ?_) | exact HR284.out)) | (with_reducible first | refine ca8_ ?_ _ | refine cn8_ ?_ _ | refine cd8_ ?_)))
                                         (case aB => exact (by repeat (first | (with_reducible first | exact HB.out | apply below_alloc | apply pw_below_drewN | apply below_drew1 | refine below_set ?_ GE238.out) | exact HB.out)))
                                         (case aF => exact (fun k_ hk => ⟨Kd.fresh' (Kd.R_lt (by (with_reducible repeat (first | apply ra8_ | apply rn8_ | apply rd8_)); exact HO_9.out)) k_ hk, Kd.fresh' (Kd.R_lt (by (with_reducible repeat (first | apply ra8_ | apply rn8_ | apply rd8_)); exact HO279.out)) k_ hk⟩))
                                         (case aO => exact ((Kd.R_nil _ _ _ _ (fun k_ => some k_ ≠ (.slice Ao19 t241.length co19 : Value).ownBlock ∧ some k_ ≠ (v278 : Value).ownBlock))))
                                         (case aS => exact (below_size (by repeat (first | (with_reducible first | exact HB.out | apply below_alloc | apply pw_below_drewN | apply below_drew1 | refine below_set ?_ GE238.out) | exact HB.out))))
                                         (case aL => have := LMc70.out; omega)
                                         intro v286 w105 ho hb hg hat
                                         have HS0_ := cell_grown hg (hHeld.1) (by first | (rw [add_block]; exact (by simp [Value.ownBlock])) | (show some (Addr.add _ _).block ≠ _; rw [add_block]; exact (by simp [Value.ownBlock])) | exact (by simp [Value.ownBlock]))
                                         have HS1_ := cell_grown hg (hHeld.2) (by first | (rw [add_block]; exact (by simp [Value.ownBlock])) | (show some (Addr.add _ _).block ≠ _; rw [add_block]; exact (by simp [Value.ownBlock])) | exact (by simp [Value.ownBlock]))
                                         rw [← Ny285.out] at ho
                                         have n0_ := am8_ (Kd.R_after (Kd.R_apart_nil (by (with_reducible repeat (first | apply ra8_ | apply rn8_ | apply rd8_)); exact HO_9.out)) hg hat)
                                         have n1_ := am8_ (Kd.R_grown (by (with_reducible repeat (first | apply ra8_ | apply rn8_ | apply rd8_)); exact HO_11.out) hg (fun _ _ => by simp [Value.ownBlock]))
                                         have n2_ := am8_ (blk_grown (g := gb238) (o := .cells #[.int .u32 a0_0, .slice A0_1 l0_1.length c0_1] 25 (0, 0)) (by (with_reducible repeat (first | refine blk_drewN ?_ _ | refine blk_drew ?_ | refine blk_alloc ?_ _)); exact BK238.out) hg (by simp [Value.ownBlock]))
                                         have n3_ := am8_ (Kd.R_after (Kd.R_apart_nil (by (with_reducible repeat (first | apply ra8_ | apply rn8_ | apply rd8_)); exact HO279.out)) hg hat)
                                         have n4_ := am8_ (hb)
                                         have n5_ := am8_ ((show Kd.C (Kd.int .u8) w105 A94 y254.length y254 from by rw [Ny254.out, KA94.out]; exact Kd.C_mid (lo := ((rd t245 a1) : Int).toNat) (hi := ((rd t245 (ji48)) : Int).toNat) (c := co19) ((Kd.R_reads' (Kd.R_after (Kd.R_apart_nil (by (with_reducible repeat (first | apply ra8_ | apply rn8_ | apply rd8_)); exact HO_9.out)) hg hat)).2.2) KM94.out KL94.out ((Kd.R_reads' (Kd.R_after (Kd.R_apart_nil (by (with_reducible repeat (first | apply ra8_ | apply rn8_ | apply rd8_)); exact HO_9.out)) hg hat)).2.1)))
                                         have n6_ := am8_ ((show Kd.C (Kd.int .u8) w105 A96 y260.length y260 from by rw [Ny260.out, KA96.out]; exact Kd.C_mid (lo := ((rd t245 a2) : Int).toNat) (hi := ((rd t245 (ji56)) : Int).toNat) (c := co19) ((Kd.R_reads' (Kd.R_after (Kd.R_apart_nil (by (with_reducible repeat (first | apply ra8_ | apply rn8_ | apply rd8_)); exact HO_9.out)) hg hat)).2.2) KM96.out KL96.out ((Kd.R_reads' (Kd.R_after (Kd.R_apart_nil (by (with_reducible repeat (first | apply ra8_ | apply rn8_ | apply rd8_)); exact HO_9.out)) hg hat)).2.1)))
                                         have n7_ := am8_ ((show Kd.C (Kd.int .u8) w105 Ao19 y265.length y265 from by rw [Ny265.out]; exact Kd.C_take (m := ((rd t245 a1) : Int).toNat) ((Kd.R_reads' (Kd.R_after (Kd.R_apart_nil (by (with_reducible repeat (first | apply ra8_ | apply rn8_ | apply rd8_)); exact HO_9.out)) hg hat)).2.2) KL98.out))
                                         have n8_ := am8_ ((show Kd.C (Kd.int .u8) w105 A99 y273.length y273 from by rw [Ny273.out, KA99.out]; exact Kd.C_drop (m := ((rd t245 (ji48)) : Int).toNat) (c := co19) ((Kd.R_reads' (Kd.R_after (Kd.R_apart_nil (by (with_reducible repeat (first | apply ra8_ | apply rn8_ | apply rd8_)); exact HO_9.out)) hg hat)).2.2) KL99.out ((Kd.R_reads' (Kd.R_after (Kd.R_apart_nil (by (with_reducible repeat (first | apply ra8_ | apply rn8_ | apply rd8_)); exact HO_9.out)) hg hat)).2.1)))
                                         have n9_ := am8_ ((show Kd.C (Kd.int .u8) w105 Ao19 y281.length y281 from by rw [Ny281.out]; exact Kd.C_take (m := ((rd t245 (ji48)) : Int).toNat) ((Kd.R_reads' (Kd.R_after (Kd.R_apart_nil (by (with_reducible repeat (first | apply ra8_ | apply rn8_ | apply rd8_)); exact HO_9.out)) hg hat)).2.2) KL103.out))
                                         have n10_ := am8_ ((show Kd.C (Kd.int .u8) w105 A104 y292.length y292 from by rw [Ny292.out, KA104.out]; exact Kd.C_drop (m := ((rd t245 (ji48)) : Int).toNat) (c := co19) ((Kd.R_reads' (Kd.R_after (Kd.R_apart_nil (by (with_reducible repeat (first | apply ra8_ | apply rn8_ | apply rd8_)); exact HO_9.out)) hg hat)).2.2) KL104.out ((Kd.R_reads' (Kd.R_after (Kd.R_apart_nil (by (with_reducible repeat (first | apply ra8_ | apply rn8_ | apply rd8_)); exact HO_9.out)) hg hat)).2.1)))
                                         have n11_ := am8_ (ho)
                                         clear HO_9
                                         clear HO_11
                                         clear BK238
                                         clear HO279
                                         clear HB
                                         clear HR257
                                         clear HR263
                                         clear HR268
                                         clear HR276
                                         clear HR284
                                         clear HR295
                                         have HO_9 := n0_
                                         have HO_11 := n1_
                                         have BK238 := n2_
                                         have HO279 := n3_
                                         have HB := n4_
                                         have HR257 := n5_
                                         have HR263 := n6_
                                         have HR268 := n7_
                                         have HR276 := n8_
                                         have HR284 := n9_
                                         have HR295 := n10_
                                         have HO287 := n11_
                                         clear n0_ n1_ n2_ n3_ n4_ n5_ n6_ n7_ n8_ n9_ n10_ n11_
                                         clear ho hb hg hat
                                         refine hK.out _ _ ⟨HS0_, HS1_⟩ (fun hHeld => ?_)
                                         clear hK K
                                         refine norm_ (a' := ?_) ?_ ?_
                                         rotate_left
                                         ·show Act.put _ (some 155) _ = _
                                          simp only [Act.put, q1_8, q2_8, q3_8, i64_w, i32_w]
                                          rfl
                                         refine one_ (i := 9) (N := some 157) #[t_8,t_8,t_8,t_8,t_8,t_8,t_8,t_8,t_8,t_8,t_8,t_8,t_8,t_8,t_8,t_8,t_8,f_8,f_8] rfl rfl (one_of HT_.out (by kernel_rfl)) (by decide) (fun K hK => ?_)
                                         refine Kd.R_append_rows_step (Kd.int .u8) (w0 := w) w.heap.size (by rfl) (.tmp 155) (.tmp 156) 26 5 (.int .u8 0) 1 rfl Tryd.underlying26 info5 rfl (by decide) (by omega) v286 y285 y254 _ _ _ (fun k_ => some k_ ≠ (.slice Ao19 t241.length co19 : Value).ownBlock ∧ some k_ ≠ (v278 : Value).ownBlock) (fun _ => False) rfl rfl ?aO ?aR (fun _ _ h => h) (fun _ h => h.elim) ?aF ?aB ?aS ?aL ?_
                                         (case aR => repeat (first | exact (by repeat (first | (with_reducible exact HR257.out) | (with_reducible first | refine ca8_ ?_ _ | refine cn8_ ?_ _ | refine cd8_ ?_) | exact HR257.out)) | (with_reducible first | refine ca8_ ?_ _ | refine cn8_ ?_ _ | refine cd8_ ?_)))
                                         (case aB => exact (by repeat (first | (with_reducible first | exact HB.out | apply below_alloc | apply pw_below_drewN | apply below_drew1 | refine below_set ?_ GE238.out) | exact HB.out)))
                                         (case aF => exact (fun k_ hk => ⟨Kd.fresh' (Kd.R_lt (by (with_reducible repeat (first | apply ra8_ | apply rn8_ | apply rd8_)); exact HO_9.out)) k_ hk, Kd.fresh' (Kd.R_lt (by (with_reducible repeat (first | apply ra8_ | apply rn8_ | apply rd8_)); exact HO279.out)) k_ hk⟩))
                                         (case aO => exact (by (with_reducible repeat (first | apply ra8_ | apply rn8_ | apply rd8_)); exact HO287.out))
                                         (case aS => exact (below_size (by repeat (first | (with_reducible first | exact HB.out | apply below_alloc | apply pw_below_drewN | apply below_drew1 | refine below_set ?_ GE238.out) | exact HB.out))))
                                         (case aL => have := LMc71.out; omega)
                                         intro v289 w106 ho hb hg hat
                                         have HS0_ := cell_grown hg (hHeld.1) (by first | (rw [add_block]; exact (fun he_ => by obtain ⟨c1_, h1_⟩ := Kd.R_typed HO_11.out _ rfl; obtain ⟨c2_, h2_⟩ := Kd.R_typed HO287.out _ he_.symm; rw [h1_] at h2_; injection h2_ with h2_; injection h2_ with _ h3_ _; exact absurd h3_ (by decide))) | (show some (Addr.add _ _).block ≠ _; rw [add_block]; exact (fun he_ => by obtain ⟨c1_, h1_⟩ := Kd.R_typed HO_11.out _ rfl; obtain ⟨c2_, h2_⟩ := Kd.R_typed HO287.out _ he_.symm; rw [h1_] at h2_; injection h2_ with h2_; injection h2_ with _ h3_ _; exact absurd h3_ (by decide))) | exact (fun he_ => by obtain ⟨c1_, h1_⟩ := Kd.R_typed HO_11.out _ rfl; obtain ⟨c2_, h2_⟩ := Kd.R_typed HO287.out _ he_.symm; rw [h1_] at h2_; injection h2_ with h2_; injection h2_ with _ h3_ _; exact absurd h3_ (by decide)))
                                         have HS1_ := cell_grown hg (hHeld.2) (by first | (rw [add_block]; exact (fun he_ => by obtain ⟨c1_, h1_⟩ := Kd.R_typed HO_11.out _ rfl; obtain ⟨c2_, h2_⟩ := Kd.R_typed HO287.out _ he_.symm; rw [h1_] at h2_; injection h2_ with h2_; injection h2_ with _ h3_ _; exact absurd h3_ (by decide))) | (show some (Addr.add _ _).block ≠ _; rw [add_block]; exact (fun he_ => by obtain ⟨c1_, h1_⟩ := Kd.R_typed HO_11.out _ rfl; obtain ⟨c2_, h2_⟩ := Kd.R_typed HO287.out _ he_.symm; rw [h1_] at h2_; injection h2_ with h2_; injection h2_ with _ h3_ _; exact absurd h3_ (by decide))) | exact (fun he_ => by obtain ⟨c1_, h1_⟩ := Kd.R_typed HO_11.out _ rfl; obtain ⟨c2_, h2_⟩ := Kd.R_typed HO287.out _ he_.symm; rw [h1_] at h2_; injection h2_ with h2_; injection h2_ with _ h3_ _; exact absurd h3_ (by decide)))
                                         rw [← Ny288.out] at ho
                                         have n0_ := am8_ (Kd.R_after (ok := (fun k_ => some k_ ≠ (v278 : Value).ownBlock)) (by (with_reducible repeat (first | apply ra8_ | apply rn8_ | apply rd8_)); exact Kd.R_mono HO_9.out (fun _ hk => ⟨hk.1.2, hk.2⟩)) hg hat)
                                         have n1_ := am8_ (Kd.R_over' (by (with_reducible repeat (first | apply ra8_ | apply rn8_ | apply rd8_)); exact HO_11.out) (Kd.R_typed (by (with_reducible repeat (first | apply ra8_ | apply rn8_ | apply rd8_)); exact HO287.out)) (by decide) hg)
                                         have n2_ := am8_ (blk_grown (g := gb238) (o := .cells #[.int .u32 a0_0, .slice A0_1 l0_1.length c0_1] 25 (0, 0)) (by (with_reducible repeat (first | refine blk_drewN ?_ _ | refine blk_drew ?_ | refine blk_alloc ?_ _)); exact BK238.out) hg (Kd.R_ne HO287.out BK238.out (by decide)))
                                         have n3_ := am8_ (Kd.R_after (ok := (fun k_ => some k_ ≠ (.slice Ao19 t241.length co19 : Value).ownBlock)) (by (with_reducible repeat (first | apply ra8_ | apply rn8_ | apply rd8_)); exact HO279.out) hg hat)
                                         have n4_ := am8_ (hb)
                                         have n5_ := am8_ ((show Kd.C (Kd.int .u8) w106 A94 y254.length y254 from by rw [Ny254.out, KA94.out]; exact Kd.C_mid (lo := ((rd t245 a1) : Int).toNat) (hi := ((rd t245 (ji48)) : Int).toNat) (c := co19) ((Kd.R_reads' (Kd.R_after (ok := (fun k_ => some k_ ≠ (v278 : Value).ownBlock)) (by (with_reducible repeat (first | apply ra8_ | apply rn8_ | apply rd8_)); exact Kd.R_mono HO_9.out (fun _ hk => ⟨hk.1.2, hk.2⟩)) hg hat)).2.2) KM94.out KL94.out ((Kd.R_reads' (Kd.R_after (ok := (fun k_ => some k_ ≠ (v278 : Value).ownBlock)) (by (with_reducible repeat (first | apply ra8_ | apply rn8_ | apply rd8_)); exact Kd.R_mono HO_9.out (fun _ hk => ⟨hk.1.2, hk.2⟩)) hg hat)).2.1)))
                                         have n6_ := am8_ ((show Kd.C (Kd.int .u8) w106 A96 y260.length y260 from by rw [Ny260.out, KA96.out]; exact Kd.C_mid (lo := ((rd t245 a2) : Int).toNat) (hi := ((rd t245 (ji56)) : Int).toNat) (c := co19) ((Kd.R_reads' (Kd.R_after (ok := (fun k_ => some k_ ≠ (v278 : Value).ownBlock)) (by (with_reducible repeat (first | apply ra8_ | apply rn8_ | apply rd8_)); exact Kd.R_mono HO_9.out (fun _ hk => ⟨hk.1.2, hk.2⟩)) hg hat)).2.2) KM96.out KL96.out ((Kd.R_reads' (Kd.R_after (ok := (fun k_ => some k_ ≠ (v278 : Value).ownBlock)) (by (with_reducible repeat (first | apply ra8_ | apply rn8_ | apply rd8_)); exact Kd.R_mono HO_9.out (fun _ hk => ⟨hk.1.2, hk.2⟩)) hg hat)).2.1)))
                                         have n7_ := am8_ ((show Kd.C (Kd.int .u8) w106 Ao19 y265.length y265 from by rw [Ny265.out]; exact Kd.C_take (m := ((rd t245 a1) : Int).toNat) ((Kd.R_reads' (Kd.R_after (ok := (fun k_ => some k_ ≠ (v278 : Value).ownBlock)) (by (with_reducible repeat (first | apply ra8_ | apply rn8_ | apply rd8_)); exact Kd.R_mono HO_9.out (fun _ hk => ⟨hk.1.2, hk.2⟩)) hg hat)).2.2) KL98.out))
                                         have n8_ := am8_ ((show Kd.C (Kd.int .u8) w106 A99 y273.length y273 from by rw [Ny273.out, KA99.out]; exact Kd.C_drop (m := ((rd t245 (ji48)) : Int).toNat) (c := co19) ((Kd.R_reads' (Kd.R_after (ok := (fun k_ => some k_ ≠ (v278 : Value).ownBlock)) (by (with_reducible repeat (first | apply ra8_ | apply rn8_ | apply rd8_)); exact Kd.R_mono HO_9.out (fun _ hk => ⟨hk.1.2, hk.2⟩)) hg hat)).2.2) KL99.out ((Kd.R_reads' (Kd.R_after (ok := (fun k_ => some k_ ≠ (v278 : Value).ownBlock)) (by (with_reducible repeat (first | apply ra8_ | apply rn8_ | apply rd8_)); exact Kd.R_mono HO_9.out (fun _ hk => ⟨hk.1.2, hk.2⟩)) hg hat)).2.1)))
                                         have n9_ := am8_ ((show Kd.C (Kd.int .u8) w106 Ao19 y281.length y281 from by rw [Ny281.out]; exact Kd.C_take (m := ((rd t245 (ji48)) : Int).toNat) ((Kd.R_reads' (Kd.R_after (ok := (fun k_ => some k_ ≠ (v278 : Value).ownBlock)) (by (with_reducible repeat (first | apply ra8_ | apply rn8_ | apply rd8_)); exact Kd.R_mono HO_9.out (fun _ hk => ⟨hk.1.2, hk.2⟩)) hg hat)).2.2) KL103.out))
                                         have n10_ := am8_ ((show Kd.C (Kd.int .u8) w106 A104 y292.length y292 from by rw [Ny292.out, KA104.out]; exact Kd.C_drop (m := ((rd t245 (ji48)) : Int).toNat) (c := co19) ((Kd.R_reads' (Kd.R_after (ok := (fun k_ => some k_ ≠ (v278 : Value).ownBlock)) (by (with_reducible repeat (first | apply ra8_ | apply rn8_ | apply rd8_)); exact Kd.R_mono HO_9.out (fun _ hk => ⟨hk.1.2, hk.2⟩)) hg hat)).2.2) KL104.out ((Kd.R_reads' (Kd.R_after (ok := (fun k_ => some k_ ≠ (v278 : Value).ownBlock)) (by (with_reducible repeat (first | apply ra8_ | apply rn8_ | apply rd8_)); exact Kd.R_mono HO_9.out (fun _ hk => ⟨hk.1.2, hk.2⟩)) hg hat)).2.1)))
                                         have n11_ := am8_ (ho)
                                         clear HO_9
                                         clear HO_11
                                         clear BK238
                                         clear HO279
                                         clear HB
                                         clear HR257
                                         clear HR263
                                         clear HR268
                                         clear HR276
                                         clear HR284
                                         clear HR295
                                         clear HO287
                                         have HO_9 := n0_
                                         have HO_11 := n1_
                                         have BK238 := n2_
                                         have HO279 := n3_
                                         have HB := n4_
                                         have HR257 := n5_
                                         have HR263 := n6_
                                         have HR268 := n7_
                                         have HR276 := n8_
                                         have HR284 := n9_
                                         have HR295 := n10_
                                         have HO290 := n11_
                                         clear n0_ n1_ n2_ n3_ n4_ n5_ n6_ n7_ n8_ n9_ n10_ n11_
                                         clear ho hb hg hat
                                         refine hK.out _ _ ⟨HS0_, HS1_⟩ (fun hHeld => ?_)
                                         clear hK K
                                         refine norm_ (a' := ?_) ?_ ?_
                                         rotate_left
                                         ·show Act.put _ (some 157) _ = _
                                          simp only [Act.put, q1_8, q2_8, q3_8, i64_w, i32_w]
                                          rfl
                                         refine one_ (i := 17) (N := some 165) #[t_8,t_8,t_8,t_8,t_8,t_8,t_8,t_8,t_8,t_8,t_8,t_8,t_8,t_8,t_8,t_8,t_8,t_8,f_8] rfl rfl (one_of HT_.out (by kernel_rfl)) (by decide) (fun K hK => ?_)
                                         refine Kd.R_append_rows_step (Kd.int .u8) (w0 := w) w.heap.size (by rfl) (.tmp 157) (.tmp 164) 26 5 (.int .u8 0) 1 rfl Tryd.underlying26 info5 rfl (by decide) (by omega) v289 y288 y292 _ _ _ (fun k_ => some k_ ≠ (.slice Ao19 t241.length co19 : Value).ownBlock ∧ some k_ ≠ (v278 : Value).ownBlock) (fun _ => False) rfl rfl ?aO ?aR (fun _ _ h => h) (fun _ h => h.elim) ?aF ?aB ?aS ?aL ?_
                                         (case aR => repeat (first | exact (by repeat (first | (with_reducible exact HR295.out) | (with_reducible first | refine ca8_ ?_ _ | refine cn8_ ?_ _ | refine cd8_ ?_) | exact HR295.out)) | (with_reducible first | refine ca8_ ?_ _ | refine cn8_ ?_ _ | refine cd8_ ?_)))
                                         (case aB => exact (by repeat (first | (with_reducible first | exact HB.out | apply below_alloc | apply pw_below_drewN | apply below_drew1 | refine below_set ?_ GE238.out) | exact HB.out)))
                                         (case aF => exact (fun k_ hk => ⟨Kd.fresh' (Kd.R_lt (by (with_reducible repeat (first | apply ra8_ | apply rn8_ | apply rd8_)); exact HO_9.out)) k_ hk, Kd.fresh' (Kd.R_lt (by (with_reducible repeat (first | apply ra8_ | apply rn8_ | apply rd8_)); exact HO279.out)) k_ hk⟩))
                                         (case aO => exact (by (with_reducible repeat (first | apply ra8_ | apply rn8_ | apply rd8_)); exact HO290.out))
                                         (case aS => exact (below_size (by repeat (first | (with_reducible first | exact HB.out | apply below_alloc | apply pw_below_drewN | apply below_drew1 | refine below_set ?_ GE238.out) | exact HB.out))))
                                         (case aL => have := LMc74.out; omega)
                                         intro v297 w107 ho hb hg hat
                                         have HS0_ := cell_grown hg (hHeld.1) (by first | (rw [add_block]; exact (fun he_ => by obtain ⟨c1_, h1_⟩ := Kd.R_typed HO_11.out _ rfl; obtain ⟨c2_, h2_⟩ := Kd.R_typed HO290.out _ he_.symm; rw [h1_] at h2_; injection h2_ with h2_; injection h2_ with _ h3_ _; exact absurd h3_ (by decide))) | (show some (Addr.add _ _).block ≠ _; rw [add_block]; exact (fun he_ => by obtain ⟨c1_, h1_⟩ := Kd.R_typed HO_11.out _ rfl; obtain ⟨c2_, h2_⟩ := Kd.R_typed HO290.out _ he_.symm; rw [h1_] at h2_; injection h2_ with h2_; injection h2_ with _ h3_ _; exact absurd h3_ (by decide))) | exact (fun he_ => by obtain ⟨c1_, h1_⟩ := Kd.R_typed HO_11.out _ rfl; obtain ⟨c2_, h2_⟩ := Kd.R_typed HO290.out _ he_.symm; rw [h1_] at h2_; injection h2_ with h2_; injection h2_ with _ h3_ _; exact absurd h3_ (by decide)))
                                         have HS1_ := cell_grown hg (hHeld.2) (by first | (rw [add_block]; exact (fun he_ => by obtain ⟨c1_, h1_⟩ := Kd.R_typed HO_11.out _ rfl; obtain ⟨c2_, h2_⟩ := Kd.R_typed HO290.out _ he_.symm; rw [h1_] at h2_; injection h2_ with h2_; injection h2_ with _ h3_ _; exact absurd h3_ (by decide))) | (show some (Addr.add _ _).block ≠ _; rw [add_block]; exact (fun he_ => by obtain ⟨c1_, h1_⟩ := Kd.R_typed HO_11.out _ rfl; obtain ⟨c2_, h2_⟩ := Kd.R_typed HO290.out _ he_.symm; rw [h1_] at h2_; injection h2_ with h2_; injection h2_ with _ h3_ _; exact absurd h3_ (by decide))) | exact (fun he_ => by obtain ⟨c1_, h1_⟩ := Kd.R_typed HO_11.out _ rfl; obtain ⟨c2_, h2_⟩ := Kd.R_typed HO290.out _ he_.symm; rw [h1_] at h2_; injection h2_ with h2_; injection h2_ with _ h3_ _; exact absurd h3_ (by decide)))
                                         rw [← Ny296.out] at ho
                                         have n0_ := am8_ (Kd.R_after (ok := (fun k_ => some k_ ≠ (v278 : Value).ownBlock)) (by (with_reducible repeat (first | apply ra8_ | apply rn8_ | apply rd8_)); exact HO_9.out) hg hat)
                                         have n1_ := am8_ (Kd.R_over' (by (with_reducible repeat (first | apply ra8_ | apply rn8_ | apply rd8_)); exact HO_11.out) (Kd.R_typed (by (with_reducible repeat (first | apply ra8_ | apply rn8_ | apply rd8_)); exact HO290.out)) (by decide) hg)
                                         have n2_ := am8_ (blk_grown (g := gb238) (o := .cells #[.int .u32 a0_0, .slice A0_1 l0_1.length c0_1] 25 (0, 0)) (by (with_reducible repeat (first | refine blk_drewN ?_ _ | refine blk_drew ?_ | refine blk_alloc ?_ _)); exact BK238.out) hg (Kd.R_ne HO290.out BK238.out (by decide)))
                                         have n3_ := am8_ (Kd.R_after (ok := (fun k_ => some k_ ≠ (.slice Ao19 t241.length co19 : Value).ownBlock)) (by (with_reducible repeat (first | apply ra8_ | apply rn8_ | apply rd8_)); exact HO279.out) hg hat)
                                         have n4_ := am8_ (hb)
                                         have n5_ := am8_ ((show Kd.C (Kd.int .u8) w107 A94 y254.length y254 from by rw [Ny254.out, KA94.out]; exact Kd.C_mid (lo := ((rd t245 a1) : Int).toNat) (hi := ((rd t245 (ji48)) : Int).toNat) (c := co19) ((Kd.R_reads' (Kd.R_after (ok := (fun k_ => some k_ ≠ (v278 : Value).ownBlock)) (by (with_reducible repeat (first | apply ra8_ | apply rn8_ | apply rd8_)); exact HO_9.out) hg hat)).2.2) KM94.out KL94.out ((Kd.R_reads' (Kd.R_after (ok := (fun k_ => some k_ ≠ (v278 : Value).ownBlock)) (by (with_reducible repeat (first | apply ra8_ | apply rn8_ | apply rd8_)); exact HO_9.out) hg hat)).2.1)))
                                         have n6_ := am8_ ((show Kd.C (Kd.int .u8) w107 A96 y260.length y260 from by rw [Ny260.out, KA96.out]; exact Kd.C_mid (lo := ((rd t245 a2) : Int).toNat) (hi := ((rd t245 (ji56)) : Int).toNat) (c := co19) ((Kd.R_reads' (Kd.R_after (ok := (fun k_ => some k_ ≠ (v278 : Value).ownBlock)) (by (with_reducible repeat (first | apply ra8_ | apply rn8_ | apply rd8_)); exact HO_9.out) hg hat)).2.2) KM96.out KL96.out ((Kd.R_reads' (Kd.R_after (ok := (fun k_ => some k_ ≠ (v278 : Value).ownBlock)) (by (with_reducible repeat (first | apply ra8_ | apply rn8_ | apply rd8_)); exact HO_9.out) hg hat)).2.1)))
                                         have n7_ := am8_ ((show Kd.C (Kd.int .u8) w107 Ao19 y265.length y265 from by rw [Ny265.out]; exact Kd.C_take (m := ((rd t245 a1) : Int).toNat) ((Kd.R_reads' (Kd.R_after (ok := (fun k_ => some k_ ≠ (v278 : Value).ownBlock)) (by (with_reducible repeat (first | apply ra8_ | apply rn8_ | apply rd8_)); exact HO_9.out) hg hat)).2.2) KL98.out))
                                         have n8_ := am8_ ((show Kd.C (Kd.int .u8) w107 A99 y273.length y273 from by rw [Ny273.out, KA99.out]; exact Kd.C_drop (m := ((rd t245 (ji48)) : Int).toNat) (c := co19) ((Kd.R_reads' (Kd.R_after (ok := (fun k_ => some k_ ≠ (v278 : Value).ownBlock)) (by (with_reducible repeat (first | apply ra8_ | apply rn8_ | apply rd8_)); exact HO_9.out) hg hat)).2.2) KL99.out ((Kd.R_reads' (Kd.R_after (ok := (fun k_ => some k_ ≠ (v278 : Value).ownBlock)) (by (with_reducible repeat (first | apply ra8_ | apply rn8_ | apply rd8_)); exact HO_9.out) hg hat)).2.1)))
                                         have n9_ := am8_ ((show Kd.C (Kd.int .u8) w107 Ao19 y281.length y281 from by rw [Ny281.out]; exact Kd.C_take (m := ((rd t245 (ji48)) : Int).toNat) ((Kd.R_reads' (Kd.R_after (ok := (fun k_ => some k_ ≠ (v278 : Value).ownBlock)) (by (with_reducible repeat (first | apply ra8_ | apply rn8_ | apply rd8_)); exact HO_9.out) hg hat)).2.2) KL103.out))
                                         have n10_ := am8_ ((show Kd.C (Kd.int .u8) w107 A104 y292.length y292 from by rw [Ny292.out, KA104.out]; exact Kd.C_drop (m := ((rd t245 (ji48)) : Int).toNat) (c := co19) ((Kd.R_reads' (Kd.R_after (ok := (fun k_ => some k_ ≠ (v278 : Value).ownBlock)) (by (with_reducible repeat (first | apply ra8_ | apply rn8_ | apply rd8_)); exact HO_9.out) hg hat)).2.2) KL104.out ((Kd.R_reads' (Kd.R_after (ok := (fun k_ => some k_ ≠ (v278 : Value).ownBlock)) (by (with_reducible repeat (first | apply ra8_ | apply rn8_ | apply rd8_)); exact HO_9.out) hg hat)).2.1)))
                                         have n11_ := am8_ (ho)
                                         clear HO_9
                                         clear HO_11
                                         clear BK238
                                         clear HO279
                                         clear HB
                                         clear HR257
                                         clear HR263
                                         clear HR268
                                         clear HR276
                                         clear HR284
                                         clear HR295
                                         clear HO290
                                         have HO_9 := n0_
                                         have HO_11 := n1_
                                         have BK238 := n2_
                                         have HO279 := n3_
                                         have HB := n4_
                                         have HR257 := n5_
                                         have HR263 := n6_
                                         have HR268 := n7_
                                         have HR276 := n8_
                                         have HR284 := n9_
                                         have HR295 := n10_
                                         have HO298 := n11_
                                         clear n0_ n1_ n2_ n3_ n4_ n5_ n6_ n7_ n8_ n9_ n10_ n11_
                                         clear ho hb hg hat
                                         refine hK.out _ _ ⟨HS0_, HS1_⟩ (fun hHeld => ?_)
                                         clear hK K
                                         refine norm_ (a' := ?_) ?_ ?_
                                         rotate_left
                                         ·show Act.put _ (some 165) _ = _
                                          simp only [Act.put, q1_8, q2_8, q3_8, i64_w, i32_w]
                                          rfl
                                         refine pure_ (i := 18) (N := some 17) (v := ?_) (a' := ?_) #[t_8,t_8,t_8,t_8,t_8,t_8,t_8,t_8,t_8,t_8,t_8,t_8,t_8,t_8,t_8,t_8,t_8,t_8,t_8] rfl rfl (any_of HT_.out (by kernel_rfl)) (fun _ _ _ h => h) (Or.inl ⟨by rfl, ?_⟩) ?_ ?_; rotate_left; (·intro w'; go_simp; with_reducible rfl); rotate_left; (·simp only [Act.put, q1_8, q2_8, q3_8, i64_w, i32_w]; rfl)
                                         refine done_ (done_of HT_.out (by kernel_rfl)) ?_
                                         have p299 : 0 ≤ (a1 : Int) := of_decide_eq_true (by first | (with_reducible assumption) | assumption)
                                         have q299 : a1 < (t245.length : Int) := of_decide_eq_true (by first | (with_reducible assumption) | assumption)
                                         obtain ⟨ad299, e299, hx299_0⟩ := Kd.at_int (Kd.R_reads' HO_11.out).2.2 a1 p299 q299
                                         obtain rfl : ad252 = ad299 := (by injection e299)
                                         replace p299 := eq_true p299
                                         replace q299 := eq_true q299
                                         have q108 : ((rd t245 a1) : Int) ≤ ((t241.length : Int) : Int) := of_decide_eq_true (by first | (with_reducible assumption) | assumption)
                                         obtain ⟨i0108, hi0108, _, hsz108, _⟩ := info_parts info5
                                         have hroom108 : t241.length ≤ co19 := (Kd.R_reads' HO_9.out).2.1
                                         have hC108 : Kd.C (Kd.int .u8) _ Ao19 t241.length t241 := (Kd.R_reads' HO_9.out).2.2
                                         try clear hcut103
                                         try clear hcut104
                                         have hcut108 := cut_to (P := Tryd.prog) 26 5 .i64 Tryd.underlying26 hi0108 Ao19 t241.length co19 (rd t245 a1) (of_decide_eq_true (by first | (with_reducible assumption) | assumption)) q108 hroom108
                                         have hr108 := Kd.C_take (m := ((rd t245 a1) : Int).toNat) hC108 (by omega)
                                         have hy108 : y300.length = ((rd t245 a1) : Int).toNat := (by rw [Ny300.out, List.length_take]; omega)
                                         rw [← Ny300.out] at hr108
                                         rw [← hy108] at hcut108
                                         have HR303 := Aside0.mk hr108
                                         have HC303 := am8_ (show y300.length ≤ co19 from by omega)
                                         clear hr108 hC108 hroom108 hi0108 hsz108
                                         have KY108 := Aside0.mk hy108
                                         clear hy108
                                         have KL108 := am8_ (show ((rd t245 a1) : Int).toNat ≤ t241.length from by omega)
                                         replace q108 := eq_true q108
                                         try go_wp2_with (first | ((with_reducible refine gate_builtin (b := .append) (xs := #[.const (.slice none 0 0), .tmp 171]) rfl ?_); (try (refine gate_guard (by rfl) ?_; dsimp only)); at_builtin; refine Kd.R_append_rows (Kd.int .u8) (w0 := w) w.heap.size rfl (.const (.slice none 0 0)) (.tmp 171) 26 5 (.int .u8 0) 1 rfl Tryd.underlying26 info5 rfl (by decide) (by omega) (.slice none 0 0) ([] : List Int) y300 _ _ _ (fun k_ => some k_ ≠ (.slice Ao19 t241.length co19 : Value).ownBlock ∧ some k_ ≠ (v278 : Value).ownBlock ∧ some k_ ≠ (v297 : Value).ownBlock) (fun _ => False) rfl rfl ?aO ?aR (fun _ _ h => h) (fun _ h => h.elim) ?aF ?aB ?aS ?aL ?_; (case aR => repeat (first | exact (by repeat (first | (with_reducible exact HR303.out) | (with_reducible first | refine ca8_ ?_ _ | refine cn8_ ?_ _ | refine cd8_ ?_) | exact HR303.out)) | (with_reducible first | refine ca8_ ?_ _ | refine cn8_ ?_ _ | refine cd8_ ?_))); (case aB => exact (by repeat (first | (with_reducible first | exact HB.out | apply below_alloc | apply pw_below_drewN | apply below_drew1 | refine below_set ?_ GE238.out) | exact HB.out))); (case aF => exact (fun k_ hk => ⟨Kd.fresh' (Kd.R_lt (by (with_reducible repeat (first | apply ra8_ | apply rn8_ | apply rd8_)); exact HO_9.out)) k_ hk, Kd.fresh' (Kd.R_lt (by (with_reducible repeat (first | apply ra8_ | apply rn8_ | apply rd8_)); exact HO279.out)) k_ hk, Kd.fresh' (Kd.R_lt (by (with_reducible repeat (first | apply ra8_ | apply rn8_ | apply rd8_)); exact HO298.out)) k_ hk⟩)); (case aO => exact ((Kd.R_nil _ _ _ _ (fun k_ => some k_ ≠ (.slice Ao19 t241.length co19 : Value).ownBlock ∧ some k_ ≠ (v278 : Value).ownBlock ∧ some k_ ≠ (v297 : Value).ownBlock)))); (case aS => exact (below_size (by repeat (first | (with_reducible first | exact HB.out | apply below_alloc | apply pw_below_drewN | apply below_drew1 | refine below_set ?_ GE238.out) | exact HB.out)))); (case aL => have := LMc77.out; omega); intro v305 w109 ho hb hg hat; rw [← Ny304.out] at ho; have n0_ := am8_ (Kd.R_after (Kd.R_apart_nil (by (with_reducible repeat (first | apply ra8_ | apply rn8_ | apply rd8_)); exact HO_9.out)) hg hat); have n1_ := am8_ (Kd.R_grown (by (with_reducible repeat (first | apply ra8_ | apply rn8_ | apply rd8_)); exact HO_11.out) hg (fun _ _ => by simp [Value.ownBlock])); have n2_ := am8_ (blk_grown (g := gb238) (o := .cells #[.int .u32 a0_0, .slice A0_1 l0_1.length c0_1] 25 (0, 0)) (by (with_reducible repeat (first | refine blk_drewN ?_ _ | refine blk_drew ?_ | refine blk_alloc ?_ _)); exact BK238.out) hg (by simp [Value.ownBlock])); have n3_ := am8_ (Kd.R_after (Kd.R_apart_nil (by (with_reducible repeat (first | apply ra8_ | apply rn8_ | apply rd8_)); exact HO279.out)) hg hat); have n4_ := am8_ (Kd.R_after (Kd.R_apart_nil (by (with_reducible repeat (first | apply ra8_ | apply rn8_ | apply rd8_)); exact HO298.out)) hg hat); have n5_ := am8_ (hb); have n6_ := am8_ ((show Kd.C (Kd.int .u8) w109 A94 y254.length y254 from by rw [Ny254.out, KA94.out]; exact Kd.C_mid (lo := ((rd t245 a1) : Int).toNat) (hi := ((rd t245 (ji48)) : Int).toNat) (c := co19) ((Kd.R_reads' (Kd.R_after (Kd.R_apart_nil (by (with_reducible repeat (first | apply ra8_ | apply rn8_ | apply rd8_)); exact HO_9.out)) hg hat)).2.2) KM94.out KL94.out ((Kd.R_reads' (Kd.R_after (Kd.R_apart_nil (by (with_reducible repeat (first | apply ra8_ | apply rn8_ | apply rd8_)); exact HO_9.out)) hg hat)).2.1))); have n7_ := am8_ ((show Kd.C (Kd.int .u8) w109 A96 y260.length y260 from by rw [Ny260.out, KA96.out]; exact Kd.C_mid (lo := ((rd t245 a2) : Int).toNat) (hi := ((rd t245 (ji56)) : Int).toNat) (c := co19) ((Kd.R_reads' (Kd.R_after (Kd.R_apart_nil (by (with_reducible repeat (first | apply ra8_ | apply rn8_ | apply rd8_)); exact HO_9.out)) hg hat)).2.2) KM96.out KL96.out ((Kd.R_reads' (Kd.R_after (Kd.R_apart_nil (by (with_reducible repeat (first | apply ra8_ | apply rn8_ | apply rd8_)); exact HO_9.out)) hg hat)).2.1))); have n8_ := am8_ ((show Kd.C (Kd.int .u8) w109 Ao19 y265.length y265 from by rw [Ny265.out]; exact Kd.C_take (m := ((rd t245 a1) : Int).toNat) ((Kd.R_reads' (Kd.R_after (Kd.R_apart_nil (by (with_reducible repeat (first | apply ra8_ | apply rn8_ | apply rd8_)); exact HO_9.out)) hg hat)).2.2) KL98.out)); have n9_ := am8_ ((show Kd.C (Kd.int .u8) w109 A99 y273.length y273 from by rw [Ny273.out, KA99.out]; exact Kd.C_drop (m := ((rd t245 (ji48)) : Int).toNat) (c := co19) ((Kd.R_reads' (Kd.R_after (Kd.R_apart_nil (by (with_reducible repeat (first | apply ra8_ | apply rn8_ | apply rd8_)); exact HO_9.out)) hg hat)).2.2) KL99.out ((Kd.R_reads' (Kd.R_after (Kd.R_apart_nil (by (with_reducible repeat (first | apply ra8_ | apply rn8_ | apply rd8_)); exact HO_9.out)) hg hat)).2.1))); have n10_ := am8_ ((show Kd.C (Kd.int .u8) w109 Ao19 y281.length y281 from by rw [Ny281.out]; exact Kd.C_take (m := ((rd t245 (ji48)) : Int).toNat) ((Kd.R_reads' (Kd.R_after (Kd.R_apart_nil (by (with_reducible repeat (first | apply ra8_ | apply rn8_ | apply rd8_)); exact HO_9.out)) hg hat)).2.2) KL103.out)); have n11_ := am8_ ((show Kd.C (Kd.int .u8) w109 A104 y292.length y292 from by rw [Ny292.out, KA104.out]; exact Kd.C_drop (m := ((rd t245 (ji48)) : Int).toNat) (c := co19) ((Kd.R_reads' (Kd.R_after (Kd.R_apart_nil (by (with_reducible repeat (first | apply ra8_ | apply rn8_ | apply rd8_)); exact HO_9.out)) hg hat)).2.2) KL104.out ((Kd.R_reads' (Kd.R_after (Kd.R_apart_nil (by (with_reducible repeat (first | apply ra8_ | apply rn8_ | apply rd8_)); exact HO_9.out)) hg hat)).2.1))); have n12_ := am8_ ((show Kd.C (Kd.int .u8) w109 Ao19 y300.length y300 from by rw [Ny300.out]; exact Kd.C_take (m := ((rd t245 a1) : Int).toNat) ((Kd.R_reads' (Kd.R_after (Kd.R_apart_nil (by (with_reducible repeat (first | apply ra8_ | apply rn8_ | apply rd8_)); exact HO_9.out)) hg hat)).2.2) KL108.out)); have n13_ := am8_ (ho); clear HO_9; clear HO_11; clear BK238; clear HO279; clear HO298; clear HB; clear HR257; clear HR263; clear HR268; clear HR276; clear HR284; clear HR295; clear HR303; have HO_9 := n0_; have HO_11 := n1_; have BK238 := n2_; have HO279 := n3_; have HO298 := n4_; have HB := n5_; have HR257 := n6_; have HR263 := n7_; have HR268 := n8_; have HR276 := n9_; have HR284 := n10_; have HR295 := n11_; have HR303 := n12_; have HO306 := n13_; clear n0_ n1_ n2_ n3_ n4_ n5_ n6_ n7_ n8_ n9_ n10_ n11_ n12_ n13_; clear ho hb hg hat) | ((with_reducible refine gate_builtin (b := .append) (xs := #[.tmp 172, .tmp 173]) rfl ?_); (try (refine gate_guard (by rfl) ?_; dsimp only)); at_builtin; refine Kd.R_append_rows (Kd.int .u8) (w0 := w) w.heap.size rfl (.tmp 172) (.tmp 173) 26 5 (.int .u8 0) 1 rfl Tryd.underlying26 info5 rfl (by decide) (by omega) v305 y304 y260 _ _ _ (fun k_ => some k_ ≠ (.slice Ao19 t241.length co19 : Value).ownBlock ∧ some k_ ≠ (v278 : Value).ownBlock ∧ some k_ ≠ (v297 : Value).ownBlock) (fun _ => False) rfl rfl ?aO ?aR (fun _ _ h => h) (fun _ h => h.elim) ?aF ?aB ?aS ?aL ?_; (case aR => repeat (first | exact (by repeat (first | (with_reducible exact HR263.out) | (with_reducible first | refine ca8_ ?_ _ | refine cn8_ ?_ _ | refine cd8_ ?_) | exact HR263.out)) | (with_reducible first | refine ca8_ ?_ _ | refine cn8_ ?_ _ | refine cd8_ ?_))); (case aB => exact (by repeat (first | (with_reducible first | exact HB.out | apply below_alloc | apply pw_below_drewN | apply below_drew1 | refine below_set ?_ GE238.out) | exact HB.out))); (case aF => exact (fun k_ hk => ⟨Kd.fresh' (Kd.R_lt (by (with_reducible repeat (first | apply ra8_ | apply rn8_ | apply rd8_)); exact HO_9.out)) k_ hk, Kd.fresh' (Kd.R_lt (by (with_reducible repeat (first | apply ra8_ | apply rn8_ | apply rd8_)); exact HO279.out)) k_ hk, Kd.fresh' (Kd.R_lt (by (with_reducible repeat (first | apply ra8_ | apply rn8_ | apply rd8_)); exact HO298.out)) k_ hk⟩)); (case aO => exact (by (with_reducible repeat (first | apply ra8_ | apply rn8_ | apply rd8_)); exact HO306.out)); (case aS => exact (below_size (by repeat (first | (with_reducible first | exact HB.out | apply below_alloc | apply pw_below_drewN | apply below_drew1 | refine below_set ?_ GE238.out) | exact HB.out)))); (case aL => have := LMc78.out; omega); intro v308 w110 ho hb hg hat; rw [← Ny307.out] at ho; have n0_ := am8_ (Kd.R_after (ok := (fun k_ => some k_ ≠ (v278 : Value).ownBlock ∧ some k_ ≠ (v297 : Value).ownBlock)) (by (with_reducible repeat (first | apply ra8_ | apply rn8_ | apply rd8_)); exact HO_9.out) hg hat); have n1_ := am8_ (Kd.R_over' (by (with_reducible repeat (first | apply ra8_ | apply rn8_ | apply rd8_)); exact HO_11.out) (Kd.R_typed (by (with_reducible repeat (first | apply ra8_ | apply rn8_ | apply rd8_)); exact HO306.out)) (by decide) hg); have n2_ := am8_ (blk_grown (g := gb238) (o := .cells #[.int .u32 a0_0, .slice A0_1 l0_1.length c0_1] 25 (0, 0)) (by (with_reducible repeat (first | refine blk_drewN ?_ _ | refine blk_drew ?_ | refine blk_alloc ?_ _)); exact BK238.out) hg (Kd.R_ne HO306.out BK238.out (by decide))); have n3_ := am8_ (Kd.R_after (ok := (fun k_ => some k_ ≠ (.slice Ao19 t241.length co19 : Value).ownBlock ∧ some k_ ≠ (v297 : Value).ownBlock)) (by (with_reducible repeat (first | apply ra8_ | apply rn8_ | apply rd8_)); exact HO279.out) hg hat); have n4_ := am8_ (Kd.R_after (ok := (fun k_ => some k_ ≠ (.slice Ao19 t241.length co19 : Value).ownBlock ∧ some k_ ≠ (v278 : Value).ownBlock)) (by (with_reducible repeat (first | apply ra8_ | apply rn8_ | apply rd8_)); exact HO298.out) hg hat); have n5_ := am8_ (hb); have n6_ := am8_ ((show Kd.C (Kd.int .u8) w110 A94 y254.length y254 from by rw [Ny254.out, KA94.out]; exact Kd.C_mid (lo := ((rd t245 a1) : Int).toNat) (hi := ((rd t245 (ji48)) : Int).toNat) (c := co19) ((Kd.R_reads' (Kd.R_after (ok := (fun k_ => some k_ ≠ (v278 : Value).ownBlock ∧ some k_ ≠ (v297 : Value).ownBlock)) (by (with_reducible repeat (first | apply ra8_ | apply rn8_ | apply rd8_)); exact HO_9.out) hg hat)).2.2) KM94.out KL94.out ((Kd.R_reads' (Kd.R_after (ok := (fun k_ => some k_ ≠ (v278 : Value).ownBlock ∧ some k_ ≠ (v297 : Value).ownBlock)) (by (with_reducible repeat (first | apply ra8_ | apply rn8_ | apply rd8_)); exact HO_9.out) hg hat)).2.1))); have n7_ := am8_ ((show Kd.C (Kd.int .u8) w110 A96 y260.length y260 from by rw [Ny260.out, KA96.out]; exact Kd.C_mid (lo := ((rd t245 a2) : Int).toNat) (hi := ((rd t245 (ji56)) : Int).toNat) (c := co19) ((Kd.R_reads' (Kd.R_after (ok := (fun k_ => some k_ ≠ (v278 : Value).ownBlock ∧ some k_ ≠ (v297 : Value).ownBlock)) (by (with_reducible repeat (first | apply ra8_ | apply rn8_ | apply rd8_)); exact HO_9.out) hg hat)).2.2) KM96.out KL96.out ((Kd.R_reads' (Kd.R_after (ok := (fun k_ => some k_ ≠ (v278 : Value).ownBlock ∧ some k_ ≠ (v297 : Value).ownBlock)) (by (with_reducible repeat (first | apply ra8_ | apply rn8_ | apply rd8_)); exact HO_9.out) hg hat)).2.1))); have n8_ := am8_ ((show Kd.C (Kd.int .u8) w110 Ao19 y265.length y265 from by rw [Ny265.out]; exact Kd.C_take (m := ((rd t245 a1) : Int).toNat) ((Kd.R_reads' (Kd.R_after (ok := (fun k_ => some k_ ≠ (v278 : Value).ownBlock ∧ some k_ ≠ (v297 : Value).ownBlock)) (by (with_reducible repeat (first | apply ra8_ | apply rn8_ | apply rd8_)); exact HO_9.out) hg hat)).2.2) KL98.out)); have n9_ := am8_ ((show Kd.C (Kd.int .u8) w110 A99 y273.length y273 from by rw [Ny273.out, KA99.out]; exact Kd.C_drop (m := ((rd t245 (ji48)) : Int).toNat) (c := co19) ((Kd.R_reads' (Kd.R_after (ok := (fun k_ => some k_ ≠ (v278 : Value).ownBlock ∧ some k_ ≠ (v297 : Value).ownBlock)) (by (with_reducible repeat (first | apply ra8_ | apply rn8_ | apply rd8_)); exact HO_9.out) hg hat)).2.2) KL99.out ((Kd.R_reads' (Kd.R_after (ok := (fun k_ => some k_ ≠ (v278 : Value).ownBlock ∧ some k_ ≠ (v297 : Value).ownBlock)) (by (with_reducible repeat (first | apply ra8_ | apply rn8_ | apply rd8_)); exact HO_9.out) hg hat)).2.1))); have n10_ := am8_ ((show Kd.C (Kd.int .u8) w110 Ao19 y281.length y281 from by rw [Ny281.out]; exact Kd.C_take (m := ((rd t245 (ji48)) : Int).toNat) ((Kd.R_reads' (Kd.R_after (ok := (fun k_ => some k_ ≠ (v278 : Value).ownBlock ∧ some k_ ≠ (v297 : Value).ownBlock)) (by (with_reducible repeat (first | apply ra8_ | apply rn8_ | apply rd8_)); exact HO_9.out) hg hat)).2.2) KL103.out)); have n11_ := am8_ ((show Kd.C (Kd.int .u8) w110 A104 y292.length y292 from by rw [Ny292.out, KA104.out]; exact Kd.C_drop (m := ((rd t245 (ji48)) : Int).toNat) (c := co19) ((Kd.R_reads' (Kd.R_after (ok := (fun k_ => some k_ ≠ (v278 : Value).ownBlock ∧ some k_ ≠ (v297 : Value).ownBlock)) (by (with_reducible repeat (first | apply ra8_ | apply rn8_ | apply rd8_)); exact HO_9.out) hg hat)).2.2) KL104.out ((Kd.R_reads' (Kd.R_after (ok := (fun k_ => some k_ ≠ (v278 : Value).ownBlock ∧ some k_ ≠ (v297 : Value).ownBlock)) (by (with_reducible repeat (first | apply ra8_ | apply rn8_ | apply rd8_)); exact HO_9.out) hg hat)).2.1))); have n12_ := am8_ ((show Kd.C (Kd.int .u8) w110 Ao19 y300.length y300 from by rw [Ny300.out]; exact Kd.C_take (m := ((rd t245 a1) : Int).toNat) ((Kd.R_reads' (Kd.R_after (ok := (fun k_ => some k_ ≠ (v278 : Value).ownBlock ∧ some k_ ≠ (v297 : Value).ownBlock)) (by (with_reducible repeat (first | apply ra8_ | apply rn8_ | apply rd8_)); exact HO_9.out) hg hat)).2.2) KL108.out)); have n13_ := am8_ (ho); clear HO_9; clear HO_11; clear BK238; clear HO279; clear HO298; clear HB; clear HR257; clear HR263; clear HR268; clear HR276; clear HR284; clear HR295; clear HR303; clear HO306; have HO_9 := n0_; have HO_11 := n1_; have BK238 := n2_; have HO279 := n3_; have HO298 := n4_; have HB := n5_; have HR257 := n6_; have HR263 := n7_; have HR268 := n8_; have HR276 := n9_; have HR284 := n10_; have HR295 := n11_; have HR303 := n12_; have HO309 := n13_; clear n0_ n1_ n2_ n3_ n4_ n5_ n6_ n7_ n8_ n9_ n10_ n11_ n12_ n13_; clear ho hb hg hat))
                                         have n0_ := am8_ (Kd.R_drew HO_9.out)
                                         have n1_ := am8_ (Kd.R_drew HO_11.out)
                                         have n2_ := am8_ (Kd.R_drew HO279.out)
                                         have n3_ := am8_ (Kd.R_drew HO298.out)
                                         have n4_ := am8_ (Kd.R_drew HO309.out)
                                         have n5_ := am8_ (blk_drew BK238.out)
                                         have n6_ := am8_ (Kd.C_drew HR257.out)
                                         have n7_ := am8_ (Kd.C_drew HR263.out)
                                         have n8_ := am8_ (Kd.C_drew HR268.out)
                                         have n9_ := am8_ (Kd.C_drew HR276.out)
                                         have n10_ := am8_ (Kd.C_drew HR284.out)
                                         have n11_ := am8_ (Kd.C_drew HR295.out)
                                         have n12_ := am8_ (Kd.C_drew HR303.out)
                                         have n13_ := am8_ (below_drew1 HB.out)
                                         clear HO_9
                                         clear HO_11
                                         clear HO279
                                         clear HO298
                                         clear HO309
                                         clear BK238
                                         clear HR257
                                         clear HR263
                                         clear HR268
                                         clear HR276
                                         clear HR284
                                         clear HR295
                                         clear HR303
                                         clear HB
                                         have HO_9 := n0_
                                         have HO_11 := n1_
                                         have HO279 := n2_
                                         have HO298 := n3_
                                         have HO309 := n4_
                                         have BK238 := n5_
                                         have HR257 := n6_
                                         have HR263 := n7_
                                         have HR268 := n8_
                                         have HR276 := n9_
                                         have HR284 := n10_
                                         have HR295 := n11_
                                         have HR303 := n12_
                                         have HB := n13_
                                         clear n0_ n1_ n2_ n3_ n4_ n5_ n6_ n7_ n8_ n9_ n10_ n11_ n12_ n13_
                                         have p310 : 0 ≤ ((ji48) : Int) := of_decide_eq_true (by first | (with_reducible assumption) | assumption)
                                         have q310 : (ji48) < (t245.length : Int) := of_decide_eq_true (by first | (with_reducible assumption) | assumption)
                                         obtain ⟨ad310, e310, hx310_0⟩ := Kd.at_int (Kd.R_reads' HO_11.out).2.2 (ji48) p310 q310
                                         obtain rfl : ad252 = ad310 := (by injection e310)
                                         replace p310 := eq_true p310
                                         replace q310 := eq_true q310
                                         have p311 : 0 ≤ (a2 : Int) := of_decide_eq_true (by first | (with_reducible assumption) | assumption)
                                         have q311 : a2 < (t245.length : Int) := of_decide_eq_true (by first | (with_reducible assumption) | assumption)
                                         obtain ⟨ad311, e311, hx311_0⟩ := Kd.at_int (Kd.R_reads' HO_11.out).2.2 a2 p311 q311
                                         obtain rfl : ad252 = ad311 := (by injection e311)
                                         replace p311 := eq_true p311
                                         replace q311 := eq_true q311
                                         have q112 : ((rd t245 a2) : Int) ≤ ((t241.length : Int) : Int) := of_decide_eq_true (by first | (with_reducible assumption) | assumption)
                                         obtain ⟨i0112, hi0112, _, hsz112, _⟩ := info_parts info5
                                         have hroom112 : t241.length ≤ co19 := (Kd.R_reads' HO_9.out).2.1
                                         have hC112 : Kd.C (Kd.int .u8) _ Ao19 t241.length t241 := (Kd.R_reads' HO_9.out).2.2
                                         have ql112 : ((rd t245 (ji48)) : Int) ≤ ((rd t245 a2) : Int) := of_decide_eq_true (by first | (with_reducible assumption) | assumption)
                                         have q0112 : (0 : Int) ≤ ((rd t245 (ji48)) : Int) := of_decide_eq_true (by first | (with_reducible assumption) | assumption)
                                         have hcut112 := cut_mid (P := Tryd.prog) 26 5 .i64 .i64 Tryd.underlying26 hi0112 1 hsz112 Ao19 t241.length co19 (rd t245 (ji48)) (rd t245 a2) q0112 ql112 q112 hroom112
                                         have hr112 := Kd.C_mid (lo := ((rd t245 (ji48)) : Int).toNat) (hi := ((rd t245 a2) : Int).toNat) (c := co19) hC112 (by omega) (by omega) hroom112
                                         obtain ⟨A112, hA112⟩ : ∃ A1, A1 = (if co19 = ((rd t245 (ji48)) : Int).toNat then Ao19 else (Ao19 : Option Addr).map (·.add (((rd t245 (ji48)) : Int).toNat * 1))) := ⟨_, rfl⟩
                                         obtain ⟨c112, hc112⟩ : ∃ c1, c1 = co19 - ((rd t245 (ji48)) : Int).toNat := ⟨_, rfl⟩
                                         have hy112 : y312.length = ((rd t245 a2) : Int).toNat - ((rd t245 (ji48)) : Int).toNat := (by rw [Ny312.out, List.length_drop, List.length_take] <;> omega)
                                         rw [show ((t241).take ((rd t245 a2) : Int).toNat).drop ((rd t245 (ji48)) : Int).toNat = y312 from Ny312.out.symm] at hr112
                                         replace hr112 : Kd.C (Kd.int .u8) _ A112 y312.length y312 := (by rw [hA112]; exact hr112)
                                         rw [← hy112, ← hA112, ← hc112] at hcut112
                                         have HR315 := Aside0.mk hr112
                                         have HC315 := am8_ (show y312.length ≤ c112 from by rw [hy112, hc112]; exact Nat.sub_le_sub_right (Nat.le_trans (by omega) hroom112) _)
                                         clear hr112 hC112 hroom112 hi0112 hsz112 hc112
                                         have KY112 := Aside0.mk hy112
                                         have KA112 := Aside0.mk hA112
                                         clear hy112 hA112
                                         have KL112 := am8_ (show ((rd t245 a2) : Int).toNat ≤ t241.length from by omega)
                                         have KM112 := am8_ (show ((rd t245 (ji48)) : Int).toNat ≤ ((rd t245 a2) : Int).toNat from by omega)
                                         replace q112 := eq_true q112
                                         as_aux_lemma =>
                                         refine start_ (n := 14) (S := fun w' => w'.cell? (ad252.add ((ji48)).toNat) = some (.int .i64 (rd t245 (ji48))) ∧ w'.cell? (ad252.add (a2).toNat) = some (.int .i64 (rd t245 a2))) (ds := []) #[f_8,f_8,f_8,f_8,f_8,f_8,f_8,f_8,f_8,f_8,f_8,f_8,f_8,f_8] (by kernel_rfl) rfl rfl ⟨hx310_0, hx311_0⟩ (fun hHeld => ?_); refine with_tabW foliatelaw04_FlowFrames.tab19 foliatelaw04_FlowFrames.bits19 (fun HT_ HW_ => ?_)
                                         generalize w110.drew = w111 at HO_9 HO_11 HO279 HO298 HO309 BK238 HR257 HR263 HR268 HR276 HR284 HR295 HR303 HB HR315 hx310_0 hx311_0 hHeld ⊢
                                         refine pure_ (i := 0) (N := some 175) (v := ?_) (a' := ?_) #[t_8,f_8,f_8,f_8,f_8,f_8,f_8,f_8,f_8,f_8,f_8,f_8,f_8,f_8] rfl rfl (any_of HT_.out (by kernel_rfl)) (fun _ _ _ h => h) (Or.inl ⟨by rfl, ?_⟩) ?_ ?_; rotate_left; (·intro w'; go_simp; with_reducible rfl); rotate_left; (·simp only [Act.put, q1_8, q2_8, q3_8, i64_w, i32_w]; rfl)
                                         refine pure_ (i := 1) (N := some 176) (v := ?_) (a' := ?_) #[t_8,t_8,f_8,f_8,f_8,f_8,f_8,f_8,f_8,f_8,f_8,f_8,f_8,f_8] rfl rfl (any_of HT_.out (by kernel_rfl)) (fun _ _ _ h => h) (Or.inl ⟨by rfl, ?_⟩) ?_ ?_; rotate_left; (·intro w'; go_simp; with_reducible rfl); rotate_left; (·simp only [Act.put, q1_8, q2_8, q3_8, i64_w, i32_w]; rfl)
                                         refine pure_ (i := 2) (N := some 177) (v := ?_) (a' := ?_) #[t_8,t_8,t_8,f_8,f_8,f_8,f_8,f_8,f_8,f_8,f_8,f_8,f_8,f_8] rfl rfl (any_of HT_.out (by kernel_rfl)) (fun _ _ _ h => h) (Or.inl ⟨by rfl, ?_⟩) ?_ ?_; rotate_left; (·intro w'; go_simp; with_reducible rfl); rotate_left; (·simp only [Act.put, q1_8, q2_8, q3_8, i64_w, i32_w]; rfl)
                                         refine pure_ (i := 3) (N := some 178) (v := ?_) (a' := ?_) #[t_8,t_8,t_8,t_8,f_8,f_8,f_8,f_8,f_8,f_8,f_8,f_8,f_8,f_8] rfl rfl (any_of HT_.out (by kernel_rfl)) (fun _ _ _ h => h) (Or.inl ⟨by rfl, ?_⟩) ?_ ?_; rotate_left; (·intro w'; go_simp; with_reducible rfl); rotate_left; (·simp only [Act.put, q1_8, q2_8, q3_8, i64_w, i32_w]; rfl)
                                         refine pure_ (i := 4) (N := some 179) (v := ?_) (a' := ?_) #[t_8,t_8,t_8,t_8,t_8,f_8,f_8,f_8,f_8,f_8,f_8,f_8,f_8,f_8] rfl rfl (any_of HT_.out (by kernel_rfl)) (fun _ _ _ h => h) (Or.inl ⟨by rfl, ?_⟩) ?_ ?_; rotate_left; (·intro w'; go_simp; with_reducible rfl); rotate_left; (·simp only [Act.put, q1_8, q2_8, q3_8, i64_w, i32_w]; rfl)
                                         refine pure_ (i := 5) (N := some 180) (v := ?_) (a' := ?_) #[t_8,t_8,t_8,t_8,t_8,t_8,f_8,f_8,f_8,f_8,f_8,f_8,f_8,f_8] rfl rfl (any_of HT_.out (by kernel_rfl)) (fun _ _ _ h => h) (Or.inl ⟨by rfl, ?_⟩) ?_ ?_; rotate_left; (·intro w'; go_simp; with_reducible rfl); rotate_left; (·simp only [Act.put, q1_8, q2_8, q3_8, i64_w, i32_w]; rfl)
                                         refine pure_ (i := 7) (N := some 182) (v := ?_) (a' := ?_) #[t_8,t_8,t_8,t_8,t_8,t_8,f_8,t_8,f_8,f_8,f_8,f_8,f_8,f_8] rfl rfl (any_of HT_.out (by kernel_rfl)) (fun _ _ _ h => h) (Or.inl ⟨by rfl, ?_⟩) ?_ ?_; rotate_left; (·intro w'; go_simp; with_reducible rfl); rotate_left; (·simp only [Act.put, q1_8, q2_8, q3_8, i64_w, i32_w]; rfl)
                                         refine pure_ (i := 8) (N := some 183) (v := ?_) (a' := ?_) #[t_8,t_8,t_8,t_8,t_8,t_8,f_8,t_8,t_8,f_8,f_8,f_8,f_8,f_8] rfl rfl (any_of HT_.out (by kernel_rfl)) (fun _ _ _ h => h) (Or.inl ⟨by rfl, ?_⟩) ?_ ?_; rotate_left; (·intro w'; go_simp; with_reducible rfl); rotate_left; (·simp only [Act.put, q1_8, q2_8, q3_8, i64_w, i32_w]; rfl)
                                         refine pure_ (i := 9) (N := some 184) (v := ?_) (a' := ?_) #[t_8,t_8,t_8,t_8,t_8,t_8,f_8,t_8,t_8,t_8,f_8,f_8,f_8,f_8] rfl rfl (any_of HT_.out (by kernel_rfl)) (fun _ _ _ h => h) (Or.inl ⟨by rfl, ?_⟩) ?_ ?_; rotate_left; (·intro w'; go_simp; with_reducible rfl); rotate_left; (·simp only [Act.put, q1_8, q2_8, q3_8, i64_w, i32_w]; rfl)
                                         refine take_ (i := 6) (N := some 181) (v := ?_) (a' := ?_) #[t_8,t_8,t_8,t_8,t_8,t_8,t_8,t_8,t_8,t_8,f_8,f_8,f_8,f_8] rfl rfl (take_ofW HT_.out HW_.out (by kernel_rfl)) (fun _ _ _ h => h) (Or.inl ⟨by rfl, ?_⟩) hHeld ?_ ?_
                                         rotate_left
                                         ·rintro w' ⟨s0, s1⟩
                                          go_simp
                                          with_reducible rfl
                                         rotate_left
                                         ·simp only [Act.put, q1_8, q2_8, q3_8, i64_w, i32_w]
                                          rfl
                                         refine take_ (i := 10) (N := some 185) (v := ?_) (a' := ?_) #[t_8,t_8,t_8,t_8,t_8,t_8,t_8,t_8,t_8,t_8,t_8,f_8,f_8,f_8] rfl rfl (take_ofW HT_.out HW_.out (by kernel_rfl)) (fun _ _ _ h => h) (Or.inl ⟨by rfl, ?_⟩) hHeld ?_ ?_
                                         rotate_left
                                         ·rintro w' ⟨s0, s1⟩
                                          go_simp
                                          with_reducible rfl
                                         rotate_left
                                         ·simp only [Act.put, q1_8, q2_8, q3_8, i64_w, i32_w]
                                          rfl
                                         refine pure_ (i := 11) (N := some 186) (v := ?_) (a' := ?_) #[t_8,t_8,t_8,t_8,t_8,t_8,t_8,t_8,t_8,t_8,t_8,t_8,f_8,f_8] rfl rfl (any_of HT_.out (by kernel_rfl)) (fun _ _ _ h => h) (Or.inl ⟨by rfl, ?_⟩) ?_ ?_; rotate_left; (·intro w'; go_simp; with_reducible rfl); rotate_left; (·simp only [Act.put, q1_8, q2_8, q3_8, i64_w, i32_w]; rfl)
                                         refine one_ (i := 12) (N := some 187) #[t_8,t_8,t_8,t_8,t_8,t_8,t_8,t_8,t_8,t_8,t_8,t_8,t_8,f_8] rfl rfl (one_of HT_.out (by kernel_rfl)) (by decide) (fun K hK => ?_)
                                         refine Kd.R_append_rows_step (Kd.int .u8) (w0 := w) w.heap.size (by rfl) (.tmp 175) (.tmp 186) 26 5 (.int .u8 0) 1 rfl Tryd.underlying26 info5 rfl (by decide) (by omega) v308 y307 y312 _ _ _ (fun k_ => some k_ ≠ (.slice Ao19 t241.length co19 : Value).ownBlock ∧ some k_ ≠ (v278 : Value).ownBlock ∧ some k_ ≠ (v297 : Value).ownBlock) (fun _ => False) rfl rfl ?aO ?aR (fun _ _ h => h) (fun _ h => h.elim) ?aF ?aB ?aS ?aL ?_
                                         (case aR => repeat (first | exact (by repeat (first | (with_reducible exact HR315.out) | (with_reducible first | refine ca8_ ?_ _ | refine cn8_ ?_ _ | refine cd8_ ?_) | exact HR315.out)) | (with_reducible first | refine ca8_ ?_ _ | refine cn8_ ?_ _ | refine cd8_ ?_)))
                                         (case aB => exact (by repeat (first | (with_reducible first | exact HB.out | apply below_alloc | apply pw_below_drewN | apply below_drew1 | refine below_set ?_ GE238.out) | exact HB.out)))
                                         (case aF => exact (fun k_ hk => ⟨Kd.fresh' (Kd.R_lt (by (with_reducible repeat (first | apply ra8_ | apply rn8_ | apply rd8_)); exact HO_9.out)) k_ hk, Kd.fresh' (Kd.R_lt (by (with_reducible repeat (first | apply ra8_ | apply rn8_ | apply rd8_)); exact HO279.out)) k_ hk, Kd.fresh' (Kd.R_lt (by (with_reducible repeat (first | apply ra8_ | apply rn8_ | apply rd8_)); exact HO298.out)) k_ hk⟩))
                                         (case aO => exact (by (with_reducible repeat (first | apply ra8_ | apply rn8_ | apply rd8_)); exact HO309.out))
                                         (case aS => exact (below_size (by repeat (first | (with_reducible first | exact HB.out | apply below_alloc | apply pw_below_drewN | apply below_drew1 | refine below_set ?_ GE238.out) | exact HB.out))))
                                         (case aL => have := LMc82.out; omega)
                                         intro v317 w113 ho hb hg hat
                                         have HS0_ := cell_grown hg (hHeld.1) (by first | (rw [add_block]; exact (fun he_ => by obtain ⟨c1_, h1_⟩ := Kd.R_typed HO_11.out _ rfl; obtain ⟨c2_, h2_⟩ := Kd.R_typed HO309.out _ he_.symm; rw [h1_] at h2_; injection h2_ with h2_; injection h2_ with _ h3_ _; exact absurd h3_ (by decide))) | (show some (Addr.add _ _).block ≠ _; rw [add_block]; exact (fun he_ => by obtain ⟨c1_, h1_⟩ := Kd.R_typed HO_11.out _ rfl; obtain ⟨c2_, h2_⟩ := Kd.R_typed HO309.out _ he_.symm; rw [h1_] at h2_; injection h2_ with h2_; injection h2_ with _ h3_ _; exact absurd h3_ (by decide))) | exact (fun he_ => by obtain ⟨c1_, h1_⟩ := Kd.R_typed HO_11.out _ rfl; obtain ⟨c2_, h2_⟩ := Kd.R_typed HO309.out _ he_.symm; rw [h1_] at h2_; injection h2_ with h2_; injection h2_ with _ h3_ _; exact absurd h3_ (by decide)))
                                         have HS1_ := cell_grown hg (hHeld.2) (by first | (rw [add_block]; exact (fun he_ => by obtain ⟨c1_, h1_⟩ := Kd.R_typed HO_11.out _ rfl; obtain ⟨c2_, h2_⟩ := Kd.R_typed HO309.out _ he_.symm; rw [h1_] at h2_; injection h2_ with h2_; injection h2_ with _ h3_ _; exact absurd h3_ (by decide))) | (show some (Addr.add _ _).block ≠ _; rw [add_block]; exact (fun he_ => by obtain ⟨c1_, h1_⟩ := Kd.R_typed HO_11.out _ rfl; obtain ⟨c2_, h2_⟩ := Kd.R_typed HO309.out _ he_.symm; rw [h1_] at h2_; injection h2_ with h2_; injection h2_ with _ h3_ _; exact absurd h3_ (by decide))) | exact (fun he_ => by obtain ⟨c1_, h1_⟩ := Kd.R_typed HO_11.out _ rfl; obtain ⟨c2_, h2_⟩ := Kd.R_typed HO309.out _ he_.symm; rw [h1_] at h2_; injection h2_ with h2_; injection h2_ with _ h3_ _; exact absurd h3_ (by decide)))
                                         rw [← Ny316.out] at ho
                                         have n0_ := am8_ (Kd.R_after (ok := (fun k_ => some k_ ≠ (v278 : Value).ownBlock ∧ some k_ ≠ (v297 : Value).ownBlock)) (by (with_reducible repeat (first | apply ra8_ | apply rn8_ | apply rd8_)); exact HO_9.out) hg hat)
                                         have n1_ := am8_ (Kd.R_over' (by (with_reducible repeat (first | apply ra8_ | apply rn8_ | apply rd8_)); exact HO_11.out) (Kd.R_typed (by (with_reducible repeat (first | apply ra8_ | apply rn8_ | apply rd8_)); exact HO309.out)) (by decide) hg)
                                         have n2_ := am8_ (blk_grown (g := gb238) (o := .cells #[.int .u32 a0_0, .slice A0_1 l0_1.length c0_1] 25 (0, 0)) (by (with_reducible repeat (first | refine blk_drewN ?_ _ | refine blk_drew ?_ | refine blk_alloc ?_ _)); exact BK238.out) hg (Kd.R_ne HO309.out BK238.out (by decide)))
                                         have n3_ := am8_ (Kd.R_after (ok := (fun k_ => some k_ ≠ (.slice Ao19 t241.length co19 : Value).ownBlock ∧ some k_ ≠ (v297 : Value).ownBlock)) (by (with_reducible repeat (first | apply ra8_ | apply rn8_ | apply rd8_)); exact HO279.out) hg hat)
                                         have n4_ := am8_ (Kd.R_after (ok := (fun k_ => some k_ ≠ (.slice Ao19 t241.length co19 : Value).ownBlock ∧ some k_ ≠ (v278 : Value).ownBlock)) (by (with_reducible repeat (first | apply ra8_ | apply rn8_ | apply rd8_)); exact HO298.out) hg hat)
                                         have n5_ := am8_ (hb)
                                         have n6_ := am8_ ((show Kd.C (Kd.int .u8) w113 A94 y254.length y254 from by rw [Ny254.out, KA94.out]; exact Kd.C_mid (lo := ((rd t245 a1) : Int).toNat) (hi := ((rd t245 (ji48)) : Int).toNat) (c := co19) ((Kd.R_reads' (Kd.R_after (ok := (fun k_ => some k_ ≠ (v278 : Value).ownBlock ∧ some k_ ≠ (v297 : Value).ownBlock)) (by (with_reducible repeat (first | apply ra8_ | apply rn8_ | apply rd8_)); exact HO_9.out) hg hat)).2.2) KM94.out KL94.out ((Kd.R_reads' (Kd.R_after (ok := (fun k_ => some k_ ≠ (v278 : Value).ownBlock ∧ some k_ ≠ (v297 : Value).ownBlock)) (by (with_reducible repeat (first | apply ra8_ | apply rn8_ | apply rd8_)); exact HO_9.out) hg hat)).2.1)))
                                         have n7_ := am8_ ((show Kd.C (Kd.int .u8) w113 A96 y260.length y260 from by rw [Ny260.out, KA96.out]; exact Kd.C_mid (lo := ((rd t245 a2) : Int).toNat) (hi := ((rd t245 (ji56)) : Int).toNat) (c := co19) ((Kd.R_reads' (Kd.R_after (ok := (fun k_ => some k_ ≠ (v278 : Value).ownBlock ∧ some k_ ≠ (v297 : Value).ownBlock)) (by (with_reducible repeat (first | apply ra8_ | apply rn8_ | apply rd8_)); exact HO_9.out) hg hat)).2.2) KM96.out KL96.out ((Kd.R_reads' (Kd.R_after (ok := (fun k_ => some k_ ≠ (v278 : Value).ownBlock ∧ some k_ ≠ (v297 : Value).ownBlock)) (by (with_reducible repeat (first | apply ra8_ | apply rn8_ | apply rd8_)); exact HO_9.out) hg hat)).2.1)))
                                         have n8_ := am8_ ((show Kd.C (Kd.int .u8) w113 Ao19 y265.length y265 from by rw [Ny265.out]; exact Kd.C_take (m := ((rd t245 a1) : Int).toNat) ((Kd.R_reads' (Kd.R_after (ok := (fun k_ => some k_ ≠ (v278 : Value).ownBlock ∧ some k_ ≠ (v297 : Value).ownBlock)) (by (with_reducible repeat (first | apply ra8_ | apply rn8_ | apply rd8_)); exact HO_9.out) hg hat)).2.2) KL98.out))
                                         have n9_ := am8_ ((show Kd.C (Kd.int .u8) w113 A99 y273.length y273 from by rw [Ny273.out, KA99.out]; exact Kd.C_drop (m := ((rd t245 (ji48)) : Int).toNat) (c := co19) ((Kd.R_reads' (Kd.R_after (ok := (fun k_ => some k_ ≠ (v278 : Value).ownBlock ∧ some k_ ≠ (v297 : Value).ownBlock)) (by (with_reducible repeat (first | apply ra8_ | apply rn8_ | apply rd8_)); exact HO_9.out) hg hat)).2.2) KL99.out ((Kd.R_reads' (Kd.R_after (ok := (fun k_ => some k_ ≠ (v278 : Value).ownBlock ∧ some k_ ≠ (v297 : Value).ownBlock)) (by (with_reducible repeat (first | apply ra8_ | apply rn8_ | apply rd8_)); exact HO_9.out) hg hat)).2.1)))
                                         have n10_ := am8_ ((show Kd.C (Kd.int .u8) w113 Ao19 y281.length y281 from by rw [Ny281.out]; exact Kd.C_take (m := ((rd t245 (ji48)) : Int).toNat) ((Kd.R_reads' (Kd.R_after (ok := (fun k_ => some k_ ≠ (v278 : Value).ownBlock ∧ some k_ ≠ (v297 : Value).ownBlock)) (by (with_reducible repeat (first | apply ra8_ | apply rn8_ | apply rd8_)); exact HO_9.out) hg hat)).2.2) KL103.out))
                                         have n11_ := am8_ ((show Kd.C (Kd.int .u8) w113 A104 y292.length y292 from by rw [Ny292.out, KA104.out]; exact Kd.C_drop (m := ((rd t245 (ji48)) : Int).toNat) (c := co19) ((Kd.R_reads' (Kd.R_after (ok := (fun k_ => some k_ ≠ (v278 : Value).ownBlock ∧ some k_ ≠ (v297 : Value).ownBlock)) (by (with_reducible repeat (first | apply ra8_ | apply rn8_ | apply rd8_)); exact HO_9.out) hg hat)).2.2) KL104.out ((Kd.R_reads' (Kd.R_after (ok := (fun k_ => some k_ ≠ (v278 : Value).ownBlock ∧ some k_ ≠ (v297 : Value).ownBlock)) (by (with_reducible repeat (first | apply ra8_ | apply rn8_ | apply rd8_)); exact HO_9.out) hg hat)).2.1)))
                                         have n12_ := am8_ ((show Kd.C (Kd.int .u8) w113 Ao19 y300.length y300 from by rw [Ny300.out]; exact Kd.C_take (m := ((rd t245 a1) : Int).toNat) ((Kd.R_reads' (Kd.R_after (ok := (fun k_ => some k_ ≠ (v278 : Value).ownBlock ∧ some k_ ≠ (v297 : Value).ownBlock)) (by (with_reducible repeat (first | apply ra8_ | apply rn8_ | apply rd8_)); exact HO_9.out) hg hat)).2.2) KL108.out))
                                         have n13_ := am8_ ((show Kd.C (Kd.int .u8) w113 A112 y312.length y312 from by rw [Ny312.out, KA112.out]; exact Kd.C_mid (lo := ((rd t245 (ji48)) : Int).toNat) (hi := ((rd t245 a2) : Int).toNat) (c := co19) ((Kd.R_reads' (Kd.R_after (ok := (fun k_ => some k_ ≠ (v278 : Value).ownBlock ∧ some k_ ≠ (v297 : Value).ownBlock)) (by (with_reducible repeat (first | apply ra8_ | apply rn8_ | apply rd8_)); exact HO_9.out) hg hat)).2.2) KM112.out KL112.out ((Kd.R_reads' (Kd.R_after (ok := (fun k_ => some k_ ≠ (v278 : Value).ownBlock ∧ some k_ ≠ (v297 : Value).ownBlock)) (by (with_reducible repeat (first | apply ra8_ | apply rn8_ | apply rd8_)); exact HO_9.out) hg hat)).2.1)))
                                         have n14_ := am8_ (ho)
                                         clear HO_9
                                         clear HO_11
                                         clear BK238
                                         clear HO279
                                         clear HO298
                                         clear HB
                                         clear HR257
                                         clear HR263
                                         clear HR268
                                         clear HR276
                                         clear HR284
                                         clear HR295
                                         clear HR303
                                         clear HR315
                                         clear HO309
                                         have HO_9 := n0_
                                         have HO_11 := n1_
                                         have BK238 := n2_
                                         have HO279 := n3_
                                         have HO298 := n4_
                                         have HB := n5_
                                         have HR257 := n6_
                                         have HR263 := n7_
                                         have HR268 := n8_
                                         have HR276 := n9_
                                         have HR284 := n10_
                                         have HR295 := n11_
                                         have HR303 := n12_
                                         have HR315 := n13_
                                         have HO318 := n14_
                                         clear n0_ n1_ n2_ n3_ n4_ n5_ n6_ n7_ n8_ n9_ n10_ n11_ n12_ n13_ n14_
                                         clear ho hb hg hat
                                         refine hK.out _ _ ⟨HS0_, HS1_⟩ (fun hHeld => ?_)
                                         clear hK K
                                         refine norm_ (a' := ?_) ?_ ?_
                                         rotate_left
                                         ·show Act.put _ (some 187) _ = _
                                          simp only [Act.put, q1_8, q2_8, q3_8, i64_w, i32_w]
                                          rfl
                                         refine pure_ (i := 13) (N := some 18) (v := ?_) (a' := ?_) #[t_8,t_8,t_8,t_8,t_8,t_8,t_8,t_8,t_8,t_8,t_8,t_8,t_8,t_8] rfl rfl (any_of HT_.out (by kernel_rfl)) (fun _ _ _ h => h) (Or.inl ⟨by rfl, ?_⟩) ?_ ?_; rotate_left; (·intro w'; go_simp; with_reducible rfl); rotate_left; (·simp only [Act.put, q1_8, q2_8, q3_8, i64_w, i32_w]; rfl)
                                         refine done_ (done_of HT_.out (by kernel_rfl)) ?_
                                         try go_wp2_with (first | ((with_reducible refine gate_builtin (b := .append) (xs := #[.tmp 188, .tmp 189]) rfl ?_); (try (refine gate_guard (by rfl) ?_; dsimp only)); at_builtin; refine Kd.R_append_rows (Kd.int .u8) (w0 := w) w.heap.size rfl (.tmp 188) (.tmp 189) 26 5 (.int .u8 0) 1 rfl Tryd.underlying26 info5 rfl (by decide) (by omega) v317 y316 y254 _ _ _ (fun k_ => some k_ ≠ (.slice Ao19 t241.length co19 : Value).ownBlock ∧ some k_ ≠ (v278 : Value).ownBlock ∧ some k_ ≠ (v297 : Value).ownBlock) (fun _ => False) rfl rfl ?aO ?aR (fun _ _ h => h) (fun _ h => h.elim) ?aF ?aB ?aS ?aL ?_; (case aR => repeat (first | exact (by repeat (first | (with_reducible exact HR257.out) | (with_reducible first | refine ca8_ ?_ _ | refine cn8_ ?_ _ | refine cd8_ ?_) | exact HR257.out)) | (with_reducible first | refine ca8_ ?_ _ | refine cn8_ ?_ _ | refine cd8_ ?_))); (case aB => exact (by repeat (first | (with_reducible first | exact HB.out | apply below_alloc | apply pw_below_drewN | apply below_drew1 | refine below_set ?_ GE238.out) | exact HB.out))); (case aF => exact (fun k_ hk => ⟨Kd.fresh' (Kd.R_lt (by (with_reducible repeat (first | apply ra8_ | apply rn8_ | apply rd8_)); exact HO_9.out)) k_ hk, Kd.fresh' (Kd.R_lt (by (with_reducible repeat (first | apply ra8_ | apply rn8_ | apply rd8_)); exact HO279.out)) k_ hk, Kd.fresh' (Kd.R_lt (by (with_reducible repeat (first | apply ra8_ | apply rn8_ | apply rd8_)); exact HO298.out)) k_ hk⟩)); (case aO => exact (by (with_reducible repeat (first | apply ra8_ | apply rn8_ | apply rd8_)); exact HO318.out)); (case aS => exact (below_size (by repeat (first | (with_reducible first | exact HB.out | apply below_alloc | apply pw_below_drewN | apply below_drew1 | refine below_set ?_ GE238.out) | exact HB.out)))); (case aL => have := LMc83.out; omega); intro v320 w114 ho hb hg hat; rw [← Ny319.out] at ho; have n0_ := am8_ (Kd.R_after (ok := (fun k_ => some k_ ≠ (v278 : Value).ownBlock ∧ some k_ ≠ (v297 : Value).ownBlock)) (by (with_reducible repeat (first | apply ra8_ | apply rn8_ | apply rd8_)); exact HO_9.out) hg hat); have n1_ := am8_ (Kd.R_over' (by (with_reducible repeat (first | apply ra8_ | apply rn8_ | apply rd8_)); exact HO_11.out) (Kd.R_typed (by (with_reducible repeat (first | apply ra8_ | apply rn8_ | apply rd8_)); exact HO318.out)) (by decide) hg); have n2_ := am8_ (blk_grown (g := gb238) (o := .cells #[.int .u32 a0_0, .slice A0_1 l0_1.length c0_1] 25 (0, 0)) (by (with_reducible repeat (first | refine blk_drewN ?_ _ | refine blk_drew ?_ | refine blk_alloc ?_ _)); exact BK238.out) hg (Kd.R_ne HO318.out BK238.out (by decide))); have n3_ := am8_ (Kd.R_after (ok := (fun k_ => some k_ ≠ (.slice Ao19 t241.length co19 : Value).ownBlock ∧ some k_ ≠ (v297 : Value).ownBlock)) (by (with_reducible repeat (first | apply ra8_ | apply rn8_ | apply rd8_)); exact HO279.out) hg hat); have n4_ := am8_ (Kd.R_after (ok := (fun k_ => some k_ ≠ (.slice Ao19 t241.length co19 : Value).ownBlock ∧ some k_ ≠ (v278 : Value).ownBlock)) (by (with_reducible repeat (first | apply ra8_ | apply rn8_ | apply rd8_)); exact HO298.out) hg hat); have n5_ := am8_ (hb); have n6_ := am8_ (ho); clear HO_9; clear HO_11; clear BK238; clear HO279; clear HO298; clear HB; clear HO318; have HO_9 := n0_; have HO_11 := n1_; have BK238 := n2_; have HO279 := n3_; have HO298 := n4_; have HB := n5_; have HO321 := n6_; clear n0_ n1_ n2_ n3_ n4_ n5_ n6_; clear ho hb hg hat; have p322 : 0 ≤ ((ji56) : Int) := of_decide_eq_true (by first | (with_reducible assumption) | assumption); have q322 : (ji56) < (t245.length : Int) := of_decide_eq_true (by first | (with_reducible assumption) | assumption); obtain ⟨ad322, e322, hx322_0⟩ := Kd.at_int (Kd.R_reads' HO_11.out).2.2 (ji56) p322 q322; obtain rfl : ad252 = ad322 := (by injection e322); replace p322 := eq_true p322; replace q322 := eq_true q322; have q115 : ((rd t245 (ji56)) : Int) ≤ ((t241.length : Int) : Int) := of_decide_eq_true (by first | (with_reducible assumption) | assumption); obtain ⟨i0115, hi0115, _, hsz115, _⟩ := info_parts info5; have hroom115 : t241.length ≤ co19 := (Kd.R_reads' HO_9.out).2.1; have hC115 : Kd.C (Kd.int .u8) _ Ao19 t241.length t241 := (Kd.R_reads' HO_9.out).2.2; have q0115 : (0 : Int) ≤ ((rd t245 (ji56)) : Int) := of_decide_eq_true (by first | (with_reducible assumption) | assumption); have hcut115 := cut_from (P := Tryd.prog) 26 5 .i64 Tryd.underlying26 hi0115 1 hsz115 Ao19 t241.length co19 (rd t245 (ji56)) q0115 q115; have hr115 := Kd.C_drop (m := ((rd t245 (ji56)) : Int).toNat) (c := co19) hC115 (by omega) hroom115; obtain ⟨A115, hA115⟩ : ∃ A1, A1 = (if co19 = ((rd t245 (ji56)) : Int).toNat then Ao19 else (Ao19 : Option Addr).map (·.add (((rd t245 (ji56)) : Int).toNat * 1))) := ⟨_, rfl⟩; obtain ⟨c115, hc115⟩ : ∃ c1, c1 = co19 - ((rd t245 (ji56)) : Int).toNat := ⟨_, rfl⟩; have hy115 : y323.length = t241.length - ((rd t245 (ji56)) : Int).toNat := (by rw [Ny323.out, List.length_drop] <;> omega); rw [show (t241).drop ((rd t245 (ji56)) : Int).toNat = y323 from Ny323.out.symm] at hr115; replace hr115 : Kd.C (Kd.int .u8) _ A115 y323.length y323 := (by rw [hA115]; exact hr115); rw [← hy115, ← hA115, ← hc115] at hcut115; have HR326 := Aside0.mk hr115; have HC326 := am8_ (show y323.length ≤ c115 from by rw [hy115, hc115]; exact Nat.sub_le_sub_right hroom115 _); clear hr115 hC115 hroom115 hi0115 hsz115 hc115; have KY115 := Aside0.mk hy115; have KA115 := Aside0.mk hA115; clear hy115 hA115; have KL115 := am8_ (show ((rd t245 (ji56)) : Int).toNat ≤ t241.length from by omega); replace q115 := eq_true q115) | ((with_reducible refine gate_builtin (b := .append) (xs := #[.tmp 191, .tmp 198]) rfl ?_); (try (refine gate_guard (by rfl) ?_; dsimp only)); at_builtin; refine Kd.R_append_rows (Kd.int .u8) (w0 := w) w.heap.size rfl (.tmp 191) (.tmp 198) 26 5 (.int .u8 0) 1 rfl Tryd.underlying26 info5 rfl (by decide) (by omega) v320 y319 y323 _ _ _ (fun k_ => some k_ ≠ (.slice Ao19 t241.length co19 : Value).ownBlock ∧ some k_ ≠ (v278 : Value).ownBlock ∧ some k_ ≠ (v297 : Value).ownBlock) (fun _ => False) rfl rfl ?aO ?aR (fun _ _ h => h) (fun _ h => h.elim) ?aF ?aB ?aS ?aL ?_; (case aR => repeat (first | exact (by repeat (first | (with_reducible exact HR326.out) | (with_reducible first | refine ca8_ ?_ _ | refine cn8_ ?_ _ | refine cd8_ ?_) | exact HR326.out)) | (with_reducible first | refine ca8_ ?_ _ | refine cn8_ ?_ _ | refine cd8_ ?_))); (case aB => exact (by repeat (first | (with_reducible first | exact HB.out | apply below_alloc | apply pw_below_drewN | apply below_drew1 | refine below_set ?_ GE238.out) | exact HB.out))); (case aF => exact (fun k_ hk => ⟨Kd.fresh' (Kd.R_lt (by (with_reducible repeat (first | apply ra8_ | apply rn8_ | apply rd8_)); exact HO_9.out)) k_ hk, Kd.fresh' (Kd.R_lt (by (with_reducible repeat (first | apply ra8_ | apply rn8_ | apply rd8_)); exact HO279.out)) k_ hk, Kd.fresh' (Kd.R_lt (by (with_reducible repeat (first | apply ra8_ | apply rn8_ | apply rd8_)); exact HO298.out)) k_ hk⟩)); (case aO => exact (by (with_reducible repeat (first | apply ra8_ | apply rn8_ | apply rd8_)); exact HO321.out)); (case aS => exact (below_size (by repeat (first | (with_reducible first | exact HB.out | apply below_alloc | apply pw_below_drewN | apply below_drew1 | refine below_set ?_ GE238.out) | exact HB.out)))); (case aL => have := LMc86.out; omega); intro v328 w116 ho hb hg hat; rw [← Ny327.out] at ho; have n0_ := am8_ (Kd.R_after (ok := (fun k_ => some k_ ≠ (v278 : Value).ownBlock ∧ some k_ ≠ (v297 : Value).ownBlock)) (by (with_reducible repeat (first | apply ra8_ | apply rn8_ | apply rd8_)); exact HO_9.out) hg hat); have n1_ := am8_ (Kd.R_over' (by (with_reducible repeat (first | apply ra8_ | apply rn8_ | apply rd8_)); exact HO_11.out) (Kd.R_typed (by (with_reducible repeat (first | apply ra8_ | apply rn8_ | apply rd8_)); exact HO321.out)) (by decide) hg); have n2_ := am8_ (blk_grown (g := gb238) (o := .cells #[.int .u32 a0_0, .slice A0_1 l0_1.length c0_1] 25 (0, 0)) (by (with_reducible repeat (first | refine blk_drewN ?_ _ | refine blk_drew ?_ | refine blk_alloc ?_ _)); exact BK238.out) hg (Kd.R_ne HO321.out BK238.out (by decide))); have n3_ := am8_ (Kd.R_after (ok := (fun k_ => some k_ ≠ (.slice Ao19 t241.length co19 : Value).ownBlock ∧ some k_ ≠ (v297 : Value).ownBlock)) (by (with_reducible repeat (first | apply ra8_ | apply rn8_ | apply rd8_)); exact HO279.out) hg hat); have n4_ := am8_ (Kd.R_after (ok := (fun k_ => some k_ ≠ (.slice Ao19 t241.length co19 : Value).ownBlock ∧ some k_ ≠ (v278 : Value).ownBlock)) (by (with_reducible repeat (first | apply ra8_ | apply rn8_ | apply rd8_)); exact HO298.out) hg hat); have n5_ := am8_ (hb); have n6_ := am8_ (ho); clear HO_9; clear HO_11; clear BK238; clear HO279; clear HO298; clear HB; clear HO321; have HO_9 := n0_; have HO_11 := n1_; have BK238 := n2_; have HO279 := n3_; have HO298 := n4_; have HB := n5_; have HO329 := n6_; clear n0_ n1_ n2_ n3_ n4_ n5_ n6_; clear ho hb hg hat; obtain ⟨Ao117, co117, eo117⟩ := Kd.R_slice HO279.out; subst eo117) | ((with_reducible refine gate_callee (f := 14) rfl ?_); refine goesL_ (some 202) rfl rfl Tryd.func14 (by kernel_rfl) rfl #[.slice Ao117 y277.length co117] rfl (by (try simp only [List.map_toArray, List.map_cons, List.map_nil]); first | done | rfl | (simp only [List.length_drop, List.length_take]; rfl)) ?_; (with_reducible refine (flow_Get.calls k3 _ _ y277 t330 t331 t334 _ ?side1 ?side2 A87.out ?errE).mono ?_); (case errE => exact errT_below HE.out (by repeat (first | (with_reducible first | exact HB.out | apply below_alloc | apply pw_below_drewN | apply below_drew1 | refine below_set ?_ GE238.out) | exact HB.out)) (Nat.le_refl _)); (case side1 => repeat (first | exact (Kd.R_reads' HO279.out).2.2 | (with_reducible first | refine ca8_ ?_ _ | refine cn8_ ?_ _ | refine cd8_ ?_))); (case side2 => exact (Kd.R_reads' HO279.out).2.1); rintro e w118 ⟨v332, rfl, ho0, hb⟩; refine ⟨_, rfl, ?_⟩; have n0_ := am8_ (Kd.R_below (by (with_reducible repeat (first | apply ra8_ | apply rn8_ | apply rd8_)); exact HO_9.out) hb); have n1_ := am8_ (Kd.R_below (by (with_reducible repeat (first | apply ra8_ | apply rn8_ | apply rd8_)); exact HO_11.out) hb); have n2_ := am8_ (Kd.R_below (by (with_reducible repeat (first | apply ra8_ | apply rn8_ | apply rd8_)); exact HO279.out) hb); have n3_ := am8_ (Kd.R_below (by (with_reducible repeat (first | apply ra8_ | apply rn8_ | apply rd8_)); exact HO298.out) hb); have n4_ := am8_ (Kd.R_below (by (with_reducible repeat (first | apply ra8_ | apply rn8_ | apply rd8_)); exact HO329.out) hb); have n5_ := am8_ (Kd.S_lower (Kd.S_new' (Kd.S_new' (Kd.S_new' (Kd.S_new' ho0 (Kd.R_lt (by (with_reducible repeat (first | apply ra8_ | apply rn8_ | apply rd8_)); exact HO_9.out))) (Kd.R_lt (by (with_reducible repeat (first | apply ra8_ | apply rn8_ | apply rd8_)); exact HO279.out))) (Kd.R_lt (by (with_reducible repeat (first | apply ra8_ | apply rn8_ | apply rd8_)); exact HO298.out))) (Kd.R_lt (by (with_reducible repeat (first | apply ra8_ | apply rn8_ | apply rd8_)); exact HO329.out))) (below_size (by repeat (first | (with_reducible first | exact HB.out | apply below_alloc | apply pw_below_drewN | apply below_drew1 | refine below_set ?_ GE238.out) | exact HB.out)))); have n6_ := am8_ (blk_below (g := gb238) (o := .cells #[.int .u32 a0_0, .slice A0_1 l0_1.length c0_1] 25 (0, 0)) (by (with_reducible repeat (first | refine blk_drewN ?_ _ | refine blk_drew ?_ | refine blk_alloc ?_ _)); exact BK238.out) hb); have n7_ := am8_ (below_step (by repeat (first | (with_reducible first | exact HB.out | apply below_alloc | apply pw_below_drewN | apply below_drew1 | refine below_set ?_ GE238.out) | exact HB.out)) hb); clear HO_9; clear HO_11; clear HO279; clear HO298; clear HO329; clear BK238; clear HB; have HO_9 := n0_; have HO_11 := n1_; have HO279 := n2_; have HO298 := n3_; have HO329 := n4_; have HO333 := n5_; have BK238 := n6_; have HB := n7_; clear n0_ n1_ n2_ n3_ n4_ n5_ n6_ n7_; (try clear hb); (try clear hb2); (try clear hk); (try clear hi); (try clear ho0)) | ((with_reducible refine gate_dst (N := 19) rfl ?_); (try (refine gate_guard (by rfl) ?_; dsimp only)); refine box_event ?hg (N := 19) ?hd (cs := #[.int .u32 0, .slice none 0 0]) (t := 25) ?hr ?_; (case hd => rfl); (case hg => rfl); (case hr => first | (go_simp; done) | (go_simp; rfl)); intro gb335 hg w119 hbox hb; have n0_ := am8_ (Kd.R_below (by (with_reducible repeat (first | apply ra8_ | apply rn8_ | apply rd8_)); exact HO_9.out) hb); have n1_ := am8_ (Kd.R_below (by (with_reducible repeat (first | apply ra8_ | apply rn8_ | apply rd8_)); exact HO_11.out) hb); have n2_ := am8_ (Kd.R_below (by (with_reducible repeat (first | apply ra8_ | apply rn8_ | apply rd8_)); exact HO279.out) hb); have n3_ := am8_ (Kd.R_below (by (with_reducible repeat (first | apply ra8_ | apply rn8_ | apply rd8_)); exact HO298.out) hb); have n4_ := am8_ (Kd.R_below (by (with_reducible repeat (first | apply ra8_ | apply rn8_ | apply rd8_)); exact HO329.out) hb); have n5_ := am8_ (Kd.S_below (by (with_reducible repeat (first | apply Kd.S_alloc | apply Kd.S_drewN | apply Kd.S_drew)); exact HO333.out) hb); have n6_ := am8_ (blk_below (g := gb238) (o := .cells #[.int .u32 a0_0, .slice A0_1 l0_1.length c0_1] 25 (0, 0)) (by (with_reducible repeat (first | refine blk_drewN ?_ _ | refine blk_drew ?_ | refine blk_alloc ?_ _)); exact BK238.out) hb); have n7_ := am8_ (below_step (by repeat (first | (with_reducible first | exact HB.out | apply below_alloc | apply pw_below_drewN | apply below_drew1 | refine below_set ?_ GE238.out) | exact HB.out)) hb); have n8_ := am8_ (hbox); have n9_ := am8_ ((by rw [hg]; exact (below_size (by repeat (first | (with_reducible first | exact HB.out | apply below_alloc | apply pw_below_drewN | apply below_drew1 | refine below_set ?_ GE238.out) | exact HB.out))) : w.heap.size ≤ gb335)); have n10_ := am8_ ((by rw [hg]; exact (below_size (by repeat (first | (with_reducible first | exact HB.out | apply below_alloc | apply pw_below_drewN | apply below_drew1 | refine below_set ?_ GE238.out) | exact HB.out))) : w.heap.size ≤ gb335)); have n11_ := am8_ ((by rw [hg]; exact Nat.ne_of_lt (blk_lt (g := gb238) (o := .cells #[.int .u32 a0_0, .slice A0_1 l0_1.length c0_1] 25 (0, 0)) (by (with_reducible repeat (first | refine blk_drewN ?_ _ | refine blk_drew ?_ | refine blk_alloc ?_ _)); exact BK238.out)) : gb238 ≠ gb335)); have n12_ := am8_ ((by rw [hg]; exact Nat.ne_of_gt (blk_lt (g := gb238) (o := .cells #[.int .u32 a0_0, .slice A0_1 l0_1.length c0_1] 25 (0, 0)) (by (with_reducible repeat (first | refine blk_drewN ?_ _ | refine blk_drew ?_ | refine blk_alloc ?_ _)); exact BK238.out)) : gb335 ≠ gb238)); clear HO_9; clear HO_11; clear HO279; clear HO298; clear HO329; clear HO333; clear BK238; clear HB; have HO_9 := n0_; have HO_11 := n1_; have HO279 := n2_; have HO298 := n3_; have HO329 := n4_; have HO333 := n5_; have BK238 := n6_; have HB := n7_; have BK335 := n8_; have GW335 := n9_; have GE335 := n10_; have NB238_335 := n11_; have NB335_238 := n12_; clear n0_ n1_ n2_ n3_ n4_ n5_ n6_ n7_ n8_ n9_ n10_ n11_ n12_; clear hb hbox hg; have hnb120 := NB335_238.out; have hnc120 := NB238_335.out; have hcz121_0 : w119.cell? ⟨gb335, 0, none⟩ = some (.int .u32 0) := (blk_cell BK335.out 0).trans rfl; have hcz121_1 : w119.cell? ⟨gb335, 1, none⟩ = some (.slice none 0 0) := (blk_cell BK335.out 1).trans rfl; have hfz121_0 := blk_frozen BK335.out 0; have hfz121_1 := blk_frozen BK335.out 1; obtain ⟨Ao122, co122, eo122⟩ := Kd.S_slice HO333.out; subst eo122; obtain ⟨Ao123, co123, eo123⟩ := Kd.R_slice HO298.out; subst eo123) | ((with_reducible refine gate_callee (f := 14) rfl ?_); refine goesL_ (some 207) rfl rfl Tryd.func14 (by kernel_rfl) rfl #[.slice Ao123 y296.length co123] rfl (by (try simp only [List.map_toArray, List.map_cons, List.map_nil]); first | done | rfl | (simp only [List.length_drop, List.length_take]; rfl)) ?_; (with_reducible refine (flow_Get.calls k3 _ _ y296 t336 t337 t340 _ ?side1 ?side2 A88.out ?errE).mono ?_); (case errE => exact errT_below HE.out (by repeat (first | (with_reducible first | exact HB.out | apply below_alloc | apply pw_below_drewN | apply below_drew1 | refine below_set ?_ GE238.out | refine below_set ?_ GE335.out) | exact HB.out)) (Nat.le_refl _)); (case side1 => refine (Kd.R_reads' (e := 5) (base := w.heap.size) (ok := fun k_ => ((some k_ ≠ (.slice Ao19 t241.length co19 : Value).ownBlock ∧ some k_ ≠ (.slice Ao117 y277.length co117 : Value).ownBlock) ∧ some k_ ≠ (v328 : Value).ownBlock)) (n := y296.length) (c := co123) ?_).2.2; exact (by (with_reducible repeat (first | apply ra8_ | apply rn8_ | apply rd8_)); exact (Kd.R_mono (Kd.R_far (p := ⟨gb335, 1, none⟩) (Kd.R_far (p := ⟨gb335, 0, none⟩) (Kd.R_types HO298.out BK335.out (by decide)) (fun _ h => by first | exact h.2 | exact h | trivial) (.int .u32 t330)) (fun _ h => by first | exact h.2 | exact h | trivial) (.slice Ao122 t331.length co122)) (fun _ h_ => h_.1)))); (case side2 => exact (Kd.R_reads' HO298.out).2.1); rintro e w124 ⟨v338, rfl, ho0, hb⟩; refine ⟨_, rfl, ?_⟩; have n0_ := am8_ (Kd.R_below (by (with_reducible repeat (first | apply ra8_ | apply rn8_ | apply rd8_)); exact (Kd.R_mono (Kd.R_far (p := ⟨gb335, 1, none⟩) (Kd.R_far (p := ⟨gb335, 0, none⟩) (Kd.R_types HO_9.out BK335.out (by decide)) (fun _ h => by first | exact h.2 | exact h | trivial) (.int .u32 t330)) (fun _ h => by first | exact h.2 | exact h | trivial) (.slice Ao122 t331.length co122)) (fun _ h_ => h_.1))) hb); have n1_ := am8_ (Kd.R_below (by (with_reducible repeat (first | apply ra8_ | apply rn8_ | apply rd8_)); exact (Kd.R_mono (Kd.R_far (p := ⟨gb335, 1, none⟩) (Kd.R_far (p := ⟨gb335, 0, none⟩) (Kd.R_types HO_11.out BK335.out (by decide)) (fun _ h => by first | exact h.2 | exact h | trivial) (.int .u32 t330)) (fun _ h => by first | exact h.2 | exact h | trivial) (.slice Ao122 t331.length co122)) (fun _ h_ => h_.1))) hb); have n2_ := am8_ (Kd.R_below (by (with_reducible repeat (first | apply ra8_ | apply rn8_ | apply rd8_)); exact (Kd.R_mono (Kd.R_far (p := ⟨gb335, 1, none⟩) (Kd.R_far (p := ⟨gb335, 0, none⟩) (Kd.R_types HO279.out BK335.out (by decide)) (fun _ h => by first | exact h.2 | exact h | trivial) (.int .u32 t330)) (fun _ h => by first | exact h.2 | exact h | trivial) (.slice Ao122 t331.length co122)) (fun _ h_ => h_.1))) hb); have n3_ := am8_ (Kd.R_below (by (with_reducible repeat (first | apply ra8_ | apply rn8_ | apply rd8_)); exact (Kd.R_mono (Kd.R_far (p := ⟨gb335, 1, none⟩) (Kd.R_far (p := ⟨gb335, 0, none⟩) (Kd.R_types HO298.out BK335.out (by decide)) (fun _ h => by first | exact h.2 | exact h | trivial) (.int .u32 t330)) (fun _ h => by first | exact h.2 | exact h | trivial) (.slice Ao122 t331.length co122)) (fun _ h_ => h_.1))) hb); have n4_ := am8_ (Kd.R_below (by (with_reducible repeat (first | apply ra8_ | apply rn8_ | apply rd8_)); exact (Kd.R_mono (Kd.R_far (p := ⟨gb335, 1, none⟩) (Kd.R_far (p := ⟨gb335, 0, none⟩) (Kd.R_types HO329.out BK335.out (by decide)) (fun _ h => by first | exact h.2 | exact h | trivial) (.int .u32 t330)) (fun _ h => by first | exact h.2 | exact h | trivial) (.slice Ao122 t331.length co122)) (fun _ h_ => h_.1))) hb); have n5_ := am8_ (Kd.S_elder' (by (with_reducible repeat (first | apply Kd.S_alloc | apply Kd.S_drewN | apply Kd.S_drew)); exact (Kd.S_mono (Kd.S_far (p := ⟨gb335, 1, none⟩) (Kd.S_far (p := ⟨gb335, 0, none⟩) (Kd.S_types HO333.out BK335.out (by decide)) (fun _ h => by first | exact h.2 | exact h | trivial) (.int .u32 t330)) (fun _ h => by first | exact h.2 | exact h | trivial) (.slice Ao122 t331.length co122)) (fun _ h_ => h_.1))) (Kd.S_base ho0) hb); have n6_ := am8_ (Kd.S_lower (Kd.S_new' (Kd.S_new' (Kd.S_new' (Kd.S_new' (Kd.S_new' ho0 (Kd.R_lt (by (with_reducible repeat (first | apply ra8_ | apply rn8_ | apply rd8_)); exact (Kd.R_mono (Kd.R_far (p := ⟨gb335, 1, none⟩) (Kd.R_far (p := ⟨gb335, 0, none⟩) (Kd.R_types HO_9.out BK335.out (by decide)) (fun _ h => by first | exact h.2 | exact h | trivial) (.int .u32 t330)) (fun _ h => by first | exact h.2 | exact h | trivial) (.slice Ao122 t331.length co122)) (fun _ h_ => h_.1))))) (Kd.R_lt (by (with_reducible repeat (first | apply ra8_ | apply rn8_ | apply rd8_)); exact (Kd.R_mono (Kd.R_far (p := ⟨gb335, 1, none⟩) (Kd.R_far (p := ⟨gb335, 0, none⟩) (Kd.R_types HO279.out BK335.out (by decide)) (fun _ h => by first | exact h.2 | exact h | trivial) (.int .u32 t330)) (fun _ h => by first | exact h.2 | exact h | trivial) (.slice Ao122 t331.length co122)) (fun _ h_ => h_.1))))) (Kd.R_lt (by (with_reducible repeat (first | apply ra8_ | apply rn8_ | apply rd8_)); exact (Kd.R_mono (Kd.R_far (p := ⟨gb335, 1, none⟩) (Kd.R_far (p := ⟨gb335, 0, none⟩) (Kd.R_types HO298.out BK335.out (by decide)) (fun _ h => by first | exact h.2 | exact h | trivial) (.int .u32 t330)) (fun _ h => by first | exact h.2 | exact h | trivial) (.slice Ao122 t331.length co122)) (fun _ h_ => h_.1))))) (Kd.R_lt (by (with_reducible repeat (first | apply ra8_ | apply rn8_ | apply rd8_)); exact (Kd.R_mono (Kd.R_far (p := ⟨gb335, 1, none⟩) (Kd.R_far (p := ⟨gb335, 0, none⟩) (Kd.R_types HO329.out BK335.out (by decide)) (fun _ h => by first | exact h.2 | exact h | trivial) (.int .u32 t330)) (fun _ h => by first | exact h.2 | exact h | trivial) (.slice Ao122 t331.length co122)) (fun _ h_ => h_.1))))) (Kd.S_lt (by (with_reducible repeat (first | apply Kd.S_alloc | apply Kd.S_drewN | apply Kd.S_drew)); exact (Kd.S_mono (Kd.S_far (p := ⟨gb335, 1, none⟩) (Kd.S_far (p := ⟨gb335, 0, none⟩) (Kd.S_types HO333.out BK335.out (by decide)) (fun _ h => by first | exact h.2 | exact h | trivial) (.int .u32 t330)) (fun _ h => by first | exact h.2 | exact h | trivial) (.slice Ao122 t331.length co122)) (fun _ h_ => h_.1))))) (below_size (by repeat (first | (with_reducible first | exact HB.out | apply below_alloc | apply pw_below_drewN | apply below_drew1 | refine below_set ?_ GE238.out | refine below_set ?_ GE335.out) | exact HB.out)))); have n7_ := am8_ (blk_below (g := gb238) (o := .cells #[.int .u32 a0_0, .slice A0_1 l0_1.length c0_1] 25 (0, 0)) (by (with_reducible repeat (first | refine blk_drewN ?_ _ | refine blk_drew ?_ | refine blk_alloc ?_ _)); refine blk_far ?_ NB238_335.out _; (with_reducible repeat (first | refine blk_drewN ?_ _ | refine blk_drew ?_ | refine blk_alloc ?_ _)); refine blk_far ?_ NB238_335.out _; (with_reducible repeat (first | refine blk_drewN ?_ _ | refine blk_drew ?_ | refine blk_alloc ?_ _)); exact BK238.out) hb); have n8_ := am8_ (blk_below (g := gb335) (o := .cells #[.int .u32 t330, .slice Ao122 t331.length co122] 25 (0, 0)) (by (with_reducible repeat (first | refine blk_drewN ?_ _ | refine blk_drew ?_ | refine blk_alloc ?_ _)); refine blk_put (cs := #[.int .u32 t330, .slice none 0 0]) ?_ 1 _ rfl; (with_reducible repeat (first | refine blk_drewN ?_ _ | refine blk_drew ?_ | refine blk_alloc ?_ _)); refine blk_put (cs := #[.int .u32 0, .slice none 0 0]) ?_ 0 _ rfl; (with_reducible repeat (first | refine blk_drewN ?_ _ | refine blk_drew ?_ | refine blk_alloc ?_ _)); exact BK335.out) hb); have n9_ := am8_ (below_step (by repeat (first | (with_reducible first | exact HB.out | apply below_alloc | apply pw_below_drewN | apply below_drew1 | refine below_set ?_ GE238.out | refine below_set ?_ GE335.out) | exact HB.out)) hb); clear HO_9; clear HO_11; clear HO279; clear HO298; clear HO329; clear HO333; clear BK238; clear BK335; clear HB; have HO_9 := n0_; have HO_11 := n1_; have HO279 := n2_; have HO298 := n3_; have HO329 := n4_; have HO333 := n5_; have HO339 := n6_; have BK238 := n7_; have BK335 := n8_; have HB := n9_; clear n0_ n1_ n2_ n3_ n4_ n5_ n6_ n7_ n8_ n9_; (try clear hb); (try clear hb2); (try clear hk); (try clear hi); (try clear ho0)) | ((with_reducible refine gate_dst (N := 21) rfl ?_); (try (refine gate_guard (by rfl) ?_; dsimp only)); refine box_event ?hg (N := 21) ?hd (cs := #[.int .u32 0, .slice none 0 0]) (t := 25) ?hr ?_; (case hd => rfl); (case hg => rfl); (case hr => first | (go_simp; done) | (go_simp; rfl)); intro gb341 hg w125 hbox hb; have n0_ := am8_ (Kd.R_below (by (with_reducible repeat (first | apply ra8_ | apply rn8_ | apply rd8_)); exact HO_9.out) hb); have n1_ := am8_ (Kd.R_below (by (with_reducible repeat (first | apply ra8_ | apply rn8_ | apply rd8_)); exact HO_11.out) hb); have n2_ := am8_ (Kd.R_below (by (with_reducible repeat (first | apply ra8_ | apply rn8_ | apply rd8_)); exact HO279.out) hb); have n3_ := am8_ (Kd.R_below (by (with_reducible repeat (first | apply ra8_ | apply rn8_ | apply rd8_)); exact HO298.out) hb); have n4_ := am8_ (Kd.R_below (by (with_reducible repeat (first | apply ra8_ | apply rn8_ | apply rd8_)); exact HO329.out) hb); have n5_ := am8_ (Kd.S_below (by (with_reducible repeat (first | apply Kd.S_alloc | apply Kd.S_drewN | apply Kd.S_drew)); exact HO333.out) hb); have n6_ := am8_ (Kd.S_below (by (with_reducible repeat (first | apply Kd.S_alloc | apply Kd.S_drewN | apply Kd.S_drew)); exact HO339.out) hb); have n7_ := am8_ (blk_below (g := gb238) (o := .cells #[.int .u32 a0_0, .slice A0_1 l0_1.length c0_1] 25 (0, 0)) (by (with_reducible repeat (first | refine blk_drewN ?_ _ | refine blk_drew ?_ | refine blk_alloc ?_ _)); exact BK238.out) hb); have n8_ := am8_ (blk_below (g := gb335) (o := .cells #[.int .u32 t330, .slice Ao122 t331.length co122] 25 (0, 0)) (by (with_reducible repeat (first | refine blk_drewN ?_ _ | refine blk_drew ?_ | refine blk_alloc ?_ _)); exact BK335.out) hb); have n9_ := am8_ (below_step (by repeat (first | (with_reducible first | exact HB.out | apply below_alloc | apply pw_below_drewN | apply below_drew1 | refine below_set ?_ GE238.out | refine below_set ?_ GE335.out) | exact HB.out)) hb); have n10_ := am8_ (hbox); have n11_ := am8_ ((by rw [hg]; exact (below_size (by repeat (first | (with_reducible first | exact HB.out | apply below_alloc | apply pw_below_drewN | apply below_drew1 | refine below_set ?_ GE238.out | refine below_set ?_ GE335.out) | exact HB.out))) : w.heap.size ≤ gb341)); have n12_ := am8_ ((by rw [hg]; exact (below_size (by repeat (first | (with_reducible first | exact HB.out | apply below_alloc | apply pw_below_drewN | apply below_drew1 | refine below_set ?_ GE238.out | refine below_set ?_ GE335.out) | exact HB.out))) : w.heap.size ≤ gb341)); have n13_ := am8_ ((by rw [hg]; exact Nat.ne_of_lt (blk_lt (g := gb238) (o := .cells #[.int .u32 a0_0, .slice A0_1 l0_1.length c0_1] 25 (0, 0)) (by (with_reducible repeat (first | refine blk_drewN ?_ _ | refine blk_drew ?_ | refine blk_alloc ?_ _)); exact BK238.out)) : gb238 ≠ gb341)); have n14_ := am8_ ((by rw [hg]; exact Nat.ne_of_gt (blk_lt (g := gb238) (o := .cells #[.int .u32 a0_0, .slice A0_1 l0_1.length c0_1] 25 (0, 0)) (by (with_reducible repeat (first | refine blk_drewN ?_ _ | refine blk_drew ?_ | refine blk_alloc ?_ _)); exact BK238.out)) : gb341 ≠ gb238)); have n15_ := am8_ ((by rw [hg]; exact Nat.ne_of_lt (blk_lt (g := gb335) (o := .cells #[.int .u32 t330, .slice Ao122 t331.length co122] 25 (0, 0)) (by (with_reducible repeat (first | refine blk_drewN ?_ _ | refine blk_drew ?_ | refine blk_alloc ?_ _)); exact BK335.out)) : gb335 ≠ gb341)); have n16_ := am8_ ((by rw [hg]; exact Nat.ne_of_gt (blk_lt (g := gb335) (o := .cells #[.int .u32 t330, .slice Ao122 t331.length co122] 25 (0, 0)) (by (with_reducible repeat (first | refine blk_drewN ?_ _ | refine blk_drew ?_ | refine blk_alloc ?_ _)); exact BK335.out)) : gb341 ≠ gb335)); clear HO_9; clear HO_11; clear HO279; clear HO298; clear HO329; clear HO333; clear HO339; clear BK238; clear BK335; clear HB; have HO_9 := n0_; have HO_11 := n1_; have HO279 := n2_; have HO298 := n3_; have HO329 := n4_; have HO333 := n5_; have HO339 := n6_; have BK238 := n7_; have BK335 := n8_; have HB := n9_; have BK341 := n10_; have GW341 := n11_; have GE341 := n12_; have NB238_341 := n13_; have NB341_238 := n14_; have NB335_341 := n15_; have NB341_335 := n16_; clear n0_ n1_ n2_ n3_ n4_ n5_ n6_ n7_ n8_ n9_ n10_ n11_ n12_ n13_ n14_ n15_ n16_; clear hb hbox hg; have hnb126 := NB341_238.out; have hnc126 := NB238_341.out; have hnb127 := NB341_335.out; have hnc127 := NB335_341.out; have hcz128_0 : w125.cell? ⟨gb341, 0, none⟩ = some (.int .u32 0) := (blk_cell BK341.out 0).trans rfl; have hcz128_1 : w125.cell? ⟨gb341, 1, none⟩ = some (.slice none 0 0) := (blk_cell BK341.out 1).trans rfl; have hfz128_0 := blk_frozen BK341.out 0; have hfz128_1 := blk_frozen BK341.out 1; obtain ⟨Ao129, co129, eo129⟩ := Kd.S_slice HO339.out; subst eo129; obtain ⟨Ao130, co130, eo130⟩ := Kd.R_slice HO329.out; subst eo130) | ((with_reducible refine gate_callee (f := 14) rfl ?_); refine goesL_ (some 212) rfl rfl Tryd.func14 (by kernel_rfl) rfl #[.slice Ao130 y327.length co130] rfl (by (try simp only [List.map_toArray, List.map_cons, List.map_nil]); first | done | rfl | (simp only [List.length_drop, List.length_take]; rfl)) ?_; (with_reducible refine (flow_Get.calls k3 _ _ y327 t342 t343 t346 _ ?side1 ?side2 A89.out ?errE).mono ?_); (case errE => exact errT_below HE.out (by repeat (first | (with_reducible first | exact HB.out | apply below_alloc | apply pw_below_drewN | apply below_drew1 | refine below_set ?_ GE238.out | refine below_set ?_ GE335.out | refine below_set ?_ GE341.out) | exact HB.out)) (Nat.le_refl _)); (case side1 => refine (Kd.R_reads' (e := 5) (base := w.heap.size) (ok := fun k_ => (some k_ ≠ (.slice Ao19 t241.length co19 : Value).ownBlock ∧ (some k_ ≠ (.slice Ao117 y277.length co117 : Value).ownBlock ∧ some k_ ≠ (.slice Ao123 y296.length co123 : Value).ownBlock))) (n := y327.length) (c := co130) ?_).2.2; exact (by (with_reducible repeat (first | apply ra8_ | apply rn8_ | apply rd8_)); exact (Kd.R_mono (Kd.R_far (p := ⟨gb341, 1, none⟩) (Kd.R_far (p := ⟨gb341, 0, none⟩) (Kd.R_types HO329.out BK341.out (by decide)) (fun _ h => by first | exact h.2 | exact h | trivial) (.int .u32 t336)) (fun _ h => by first | exact h.2 | exact h | trivial) (.slice Ao129 t337.length co129)) (fun _ h_ => h_.1)))); (case side2 => exact (Kd.R_reads' HO329.out).2.1); rintro e w131 ⟨v344, rfl, ho0, hb⟩; refine ⟨_, rfl, ?_⟩; have n0_ := am8_ (Kd.R_below (by (with_reducible repeat (first | apply ra8_ | apply rn8_ | apply rd8_)); exact (Kd.R_mono (Kd.R_far (p := ⟨gb341, 1, none⟩) (Kd.R_far (p := ⟨gb341, 0, none⟩) (Kd.R_types HO_9.out BK341.out (by decide)) (fun _ h => by first | exact h.2 | exact h | trivial) (.int .u32 t336)) (fun _ h => by first | exact h.2 | exact h | trivial) (.slice Ao129 t337.length co129)) (fun _ h_ => h_.1))) hb); have n1_ := am8_ (Kd.R_below (by (with_reducible repeat (first | apply ra8_ | apply rn8_ | apply rd8_)); exact (Kd.R_mono (Kd.R_far (p := ⟨gb341, 1, none⟩) (Kd.R_far (p := ⟨gb341, 0, none⟩) (Kd.R_types HO_11.out BK341.out (by decide)) (fun _ h => by first | exact h.2 | exact h | trivial) (.int .u32 t336)) (fun _ h => by first | exact h.2 | exact h | trivial) (.slice Ao129 t337.length co129)) (fun _ h_ => h_.1))) hb); have n2_ := am8_ (Kd.R_below (by (with_reducible repeat (first | apply ra8_ | apply rn8_ | apply rd8_)); exact (Kd.R_mono (Kd.R_far (p := ⟨gb341, 1, none⟩) (Kd.R_far (p := ⟨gb341, 0, none⟩) (Kd.R_types HO279.out BK341.out (by decide)) (fun _ h => by first | exact h.2 | exact h | trivial) (.int .u32 t336)) (fun _ h => by first | exact h.2 | exact h | trivial) (.slice Ao129 t337.length co129)) (fun _ h_ => h_.1))) hb); have n3_ := am8_ (Kd.R_below (by (with_reducible repeat (first | apply ra8_ | apply rn8_ | apply rd8_)); exact (Kd.R_mono (Kd.R_far (p := ⟨gb341, 1, none⟩) (Kd.R_far (p := ⟨gb341, 0, none⟩) (Kd.R_types HO298.out BK341.out (by decide)) (fun _ h => by first | exact h.2 | exact h | trivial) (.int .u32 t336)) (fun _ h => by first | exact h.2 | exact h | trivial) (.slice Ao129 t337.length co129)) (fun _ h_ => h_.1))) hb); have n4_ := am8_ (Kd.R_below (by (with_reducible repeat (first | apply ra8_ | apply rn8_ | apply rd8_)); exact (Kd.R_mono (Kd.R_far (p := ⟨gb341, 1, none⟩) (Kd.R_far (p := ⟨gb341, 0, none⟩) (Kd.R_types HO329.out BK341.out (by decide)) (fun _ h => by first | exact h.2 | exact h | trivial) (.int .u32 t336)) (fun _ h => by first | exact h.2 | exact h | trivial) (.slice Ao129 t337.length co129)) (fun _ h_ => h_.1))) hb); have n5_ := am8_ (Kd.S_elder' (by (with_reducible repeat (first | apply Kd.S_alloc | apply Kd.S_drewN | apply Kd.S_drew)); exact (Kd.S_mono (Kd.S_far (p := ⟨gb341, 1, none⟩) (Kd.S_far (p := ⟨gb341, 0, none⟩) (Kd.S_types HO333.out BK341.out (by decide)) (fun _ h => by first | exact h.2 | exact h | trivial) (.int .u32 t336)) (fun _ h => by first | exact h.2 | exact h | trivial) (.slice Ao129 t337.length co129)) (fun _ h_ => h_.1))) (Kd.S_base ho0) hb); have n6_ := am8_ (Kd.S_elder' (by (with_reducible repeat (first | apply Kd.S_alloc | apply Kd.S_drewN | apply Kd.S_drew)); exact (Kd.S_mono (Kd.S_far (p := ⟨gb341, 1, none⟩) (Kd.S_far (p := ⟨gb341, 0, none⟩) (Kd.S_types HO339.out BK341.out (by decide)) (fun _ h => by first | exact h.2 | exact h | trivial) (.int .u32 t336)) (fun _ h => by first | exact h.2 | exact h | trivial) (.slice Ao129 t337.length co129)) (fun _ h_ => h_.1))) (Kd.S_base ho0) hb); have n7_ := am8_ (Kd.S_lower (Kd.S_new' (Kd.S_new' (Kd.S_new' (Kd.S_new' (Kd.S_new' (Kd.S_new' ho0 (Kd.R_lt (by (with_reducible repeat (first | apply ra8_ | apply rn8_ | apply rd8_)); exact (Kd.R_mono (Kd.R_far (p := ⟨gb341, 1, none⟩) (Kd.R_far (p := ⟨gb341, 0, none⟩) (Kd.R_types HO_9.out BK341.out (by decide)) (fun _ h => by first | exact h.2 | exact h | trivial) (.int .u32 t336)) (fun _ h => by first | exact h.2 | exact h | trivial) (.slice Ao129 t337.length co129)) (fun _ h_ => h_.1))))) (Kd.R_lt (by (with_reducible repeat (first | apply ra8_ | apply rn8_ | apply rd8_)); exact (Kd.R_mono (Kd.R_far (p := ⟨gb341, 1, none⟩) (Kd.R_far (p := ⟨gb341, 0, none⟩) (Kd.R_types HO279.out BK341.out (by decide)) (fun _ h => by first | exact h.2 | exact h | trivial) (.int .u32 t336)) (fun _ h => by first | exact h.2 | exact h | trivial) (.slice Ao129 t337.length co129)) (fun _ h_ => h_.1))))) (Kd.R_lt (by (with_reducible repeat (first | apply ra8_ | apply rn8_ | apply rd8_)); exact (Kd.R_mono (Kd.R_far (p := ⟨gb341, 1, none⟩) (Kd.R_far (p := ⟨gb341, 0, none⟩) (Kd.R_types HO298.out BK341.out (by decide)) (fun _ h => by first | exact h.2 | exact h | trivial) (.int .u32 t336)) (fun _ h => by first | exact h.2 | exact h | trivial) (.slice Ao129 t337.length co129)) (fun _ h_ => h_.1))))) (Kd.R_lt (by (with_reducible repeat (first | apply ra8_ | apply rn8_ | apply rd8_)); exact (Kd.R_mono (Kd.R_far (p := ⟨gb341, 1, none⟩) (Kd.R_far (p := ⟨gb341, 0, none⟩) (Kd.R_types HO329.out BK341.out (by decide)) (fun _ h => by first | exact h.2 | exact h | trivial) (.int .u32 t336)) (fun _ h => by first | exact h.2 | exact h | trivial) (.slice Ao129 t337.length co129)) (fun _ h_ => h_.1))))) (Kd.S_lt (by (with_reducible repeat (first | apply Kd.S_alloc | apply Kd.S_drewN | apply Kd.S_drew)); exact (Kd.S_mono (Kd.S_far (p := ⟨gb341, 1, none⟩) (Kd.S_far (p := ⟨gb341, 0, none⟩) (Kd.S_types HO333.out BK341.out (by decide)) (fun _ h => by first | exact h.2 | exact h | trivial) (.int .u32 t336)) (fun _ h => by first | exact h.2 | exact h | trivial) (.slice Ao129 t337.length co129)) (fun _ h_ => h_.1))))) (Kd.S_lt (by (with_reducible repeat (first | apply Kd.S_alloc | apply Kd.S_drewN | apply Kd.S_drew)); exact (Kd.S_mono (Kd.S_far (p := ⟨gb341, 1, none⟩) (Kd.S_far (p := ⟨gb341, 0, none⟩) (Kd.S_types HO339.out BK341.out (by decide)) (fun _ h => by first | exact h.2 | exact h | trivial) (.int .u32 t336)) (fun _ h => by first | exact h.2 | exact h | trivial) (.slice Ao129 t337.length co129)) (fun _ h_ => h_.1))))) (below_size (by repeat (first | (with_reducible first | exact HB.out | apply below_alloc | apply pw_below_drewN | apply below_drew1 | refine below_set ?_ GE238.out | refine below_set ?_ GE335.out | refine below_set ?_ GE341.out) | exact HB.out)))); have n8_ := am8_ (blk_below (g := gb238) (o := .cells #[.int .u32 a0_0, .slice A0_1 l0_1.length c0_1] 25 (0, 0)) (by (with_reducible repeat (first | refine blk_drewN ?_ _ | refine blk_drew ?_ | refine blk_alloc ?_ _)); refine blk_far ?_ NB238_341.out _; (with_reducible repeat (first | refine blk_drewN ?_ _ | refine blk_drew ?_ | refine blk_alloc ?_ _)); refine blk_far ?_ NB238_341.out _; (with_reducible repeat (first | refine blk_drewN ?_ _ | refine blk_drew ?_ | refine blk_alloc ?_ _)); exact BK238.out) hb); have n9_ := am8_ (blk_below (g := gb335) (o := .cells #[.int .u32 t330, .slice Ao122 t331.length co122] 25 (0, 0)) (by (with_reducible repeat (first | refine blk_drewN ?_ _ | refine blk_drew ?_ | refine blk_alloc ?_ _)); refine blk_far ?_ NB335_341.out _; (with_reducible repeat (first | refine blk_drewN ?_ _ | refine blk_drew ?_ | refine blk_alloc ?_ _)); refine blk_far ?_ NB335_341.out _; (with_reducible repeat (first | refine blk_drewN ?_ _ | refine blk_drew ?_ | refine blk_alloc ?_ _)); exact BK335.out) hb); have n10_ := am8_ (blk_below (g := gb341) (o := .cells #[.int .u32 t336, .slice Ao129 t337.length co129] 25 (0, 0)) (by (with_reducible repeat (first | refine blk_drewN ?_ _ | refine blk_drew ?_ | refine blk_alloc ?_ _)); refine blk_put (cs := #[.int .u32 t336, .slice none 0 0]) ?_ 1 _ rfl; (with_reducible repeat (first | refine blk_drewN ?_ _ | refine blk_drew ?_ | refine blk_alloc ?_ _)); refine blk_put (cs := #[.int .u32 0, .slice none 0 0]) ?_ 0 _ rfl; (with_reducible repeat (first | refine blk_drewN ?_ _ | refine blk_drew ?_ | refine blk_alloc ?_ _)); exact BK341.out) hb); have n11_ := am8_ (below_step (by repeat (first | (with_reducible first | exact HB.out | apply below_alloc | apply pw_below_drewN | apply below_drew1 | refine below_set ?_ GE238.out | refine below_set ?_ GE335.out | refine below_set ?_ GE341.out) | exact HB.out)) hb); clear HO_9; clear HO_11; clear HO279; clear HO298; clear HO329; clear HO333; clear HO339; clear BK238; clear BK335; clear BK341; clear HB; have HO_9 := n0_; have HO_11 := n1_; have HO279 := n2_; have HO298 := n3_; have HO329 := n4_; have HO333 := n5_; have HO339 := n6_; have HO345 := n7_; have BK238 := n8_; have BK335 := n9_; have BK341 := n10_; have HB := n11_; clear n0_ n1_ n2_ n3_ n4_ n5_ n6_ n7_ n8_ n9_ n10_ n11_; (try clear hb); (try clear hb2); (try clear hk); (try clear hi); (try clear ho0)) | ((with_reducible refine gate_dst (N := 23) rfl ?_); (try (refine gate_guard (by rfl) ?_; dsimp only)); refine box_event ?hg (N := 23) ?hd (cs := #[.int .u32 0, .slice none 0 0]) (t := 25) ?hr ?_; (case hd => rfl); (case hg => rfl); (case hr => first | (go_simp; done) | (go_simp; rfl)); intro gb347 hg w132 hbox hb; have n0_ := am8_ (Kd.R_below (by (with_reducible repeat (first | apply ra8_ | apply rn8_ | apply rd8_)); exact HO_9.out) hb); have n1_ := am8_ (Kd.R_below (by (with_reducible repeat (first | apply ra8_ | apply rn8_ | apply rd8_)); exact HO_11.out) hb); have n2_ := am8_ (Kd.R_below (by (with_reducible repeat (first | apply ra8_ | apply rn8_ | apply rd8_)); exact HO279.out) hb); have n3_ := am8_ (Kd.R_below (by (with_reducible repeat (first | apply ra8_ | apply rn8_ | apply rd8_)); exact HO298.out) hb); have n4_ := am8_ (Kd.R_below (by (with_reducible repeat (first | apply ra8_ | apply rn8_ | apply rd8_)); exact HO329.out) hb); have n5_ := am8_ (Kd.S_below (by (with_reducible repeat (first | apply Kd.S_alloc | apply Kd.S_drewN | apply Kd.S_drew)); exact HO333.out) hb); have n6_ := am8_ (Kd.S_below (by (with_reducible repeat (first | apply Kd.S_alloc | apply Kd.S_drewN | apply Kd.S_drew)); exact HO339.out) hb); have n7_ := am8_ (Kd.S_below (by (with_reducible repeat (first | apply Kd.S_alloc | apply Kd.S_drewN | apply Kd.S_drew)); exact HO345.out) hb); have n8_ := am8_ (blk_below (g := gb238) (o := .cells #[.int .u32 a0_0, .slice A0_1 l0_1.length c0_1] 25 (0, 0)) (by (with_reducible repeat (first | refine blk_drewN ?_ _ | refine blk_drew ?_ | refine blk_alloc ?_ _)); exact BK238.out) hb); have n9_ := am8_ (blk_below (g := gb335) (o := .cells #[.int .u32 t330, .slice Ao122 t331.length co122] 25 (0, 0)) (by (with_reducible repeat (first | refine blk_drewN ?_ _ | refine blk_drew ?_ | refine blk_alloc ?_ _)); exact BK335.out) hb); have n10_ := am8_ (blk_below (g := gb341) (o := .cells #[.int .u32 t336, .slice Ao129 t337.length co129] 25 (0, 0)) (by (with_reducible repeat (first | refine blk_drewN ?_ _ | refine blk_drew ?_ | refine blk_alloc ?_ _)); exact BK341.out) hb); have n11_ := am8_ (below_step (by repeat (first | (with_reducible first | exact HB.out | apply below_alloc | apply pw_below_drewN | apply below_drew1 | refine below_set ?_ GE238.out | refine below_set ?_ GE335.out | refine below_set ?_ GE341.out) | exact HB.out)) hb); have n12_ := am8_ (hbox); have n13_ := am8_ ((by rw [hg]; exact (below_size (by repeat (first | (with_reducible first | exact HB.out | apply below_alloc | apply pw_below_drewN | apply below_drew1 | refine below_set ?_ GE238.out | refine below_set ?_ GE335.out | refine below_set ?_ GE341.out) | exact HB.out))) : w.heap.size ≤ gb347)); have n14_ := am8_ ((by rw [hg]; exact (below_size (by repeat (first | (with_reducible first | exact HB.out | apply below_alloc | apply pw_below_drewN | apply below_drew1 | refine below_set ?_ GE238.out | refine below_set ?_ GE335.out | refine below_set ?_ GE341.out) | exact HB.out))) : w.heap.size ≤ gb347)); have n15_ := am8_ ((by rw [hg]; exact Nat.ne_of_lt (blk_lt (g := gb238) (o := .cells #[.int .u32 a0_0, .slice A0_1 l0_1.length c0_1] 25 (0, 0)) (by (with_reducible repeat (first | refine blk_drewN ?_ _ | refine blk_drew ?_ | refine blk_alloc ?_ _)); exact BK238.out)) : gb238 ≠ gb347)); have n16_ := am8_ ((by rw [hg]; exact Nat.ne_of_gt (blk_lt (g := gb238) (o := .cells #[.int .u32 a0_0, .slice A0_1 l0_1.length c0_1] 25 (0, 0)) (by (with_reducible repeat (first | refine blk_drewN ?_ _ | refine blk_drew ?_ | refine blk_alloc ?_ _)); exact BK238.out)) : gb347 ≠ gb238)); have n17_ := am8_ ((by rw [hg]; exact Nat.ne_of_lt (blk_lt (g := gb335) (o := .cells #[.int .u32 t330, .slice Ao122 t331.length co122] 25 (0, 0)) (by (with_reducible repeat (first | refine blk_drewN ?_ _ | refine blk_drew ?_ | refine blk_alloc ?_ _)); exact BK335.out)) : gb335 ≠ gb347)); have n18_ := am8_ ((by rw [hg]; exact Nat.ne_of_gt (blk_lt (g := gb335) (o := .cells #[.int .u32 t330, .slice Ao122 t331.length co122] 25 (0, 0)) (by (with_reducible repeat (first | refine blk_drewN ?_ _ | refine blk_drew ?_ | refine blk_alloc ?_ _)); exact BK335.out)) : gb347 ≠ gb335)); have n19_ := am8_ ((by rw [hg]; exact Nat.ne_of_lt (blk_lt (g := gb341) (o := .cells #[.int .u32 t336, .slice Ao129 t337.length co129] 25 (0, 0)) (by (with_reducible repeat (first | refine blk_drewN ?_ _ | refine blk_drew ?_ | refine blk_alloc ?_ _)); exact BK341.out)) : gb341 ≠ gb347)); have n20_ := am8_ ((by rw [hg]; exact Nat.ne_of_gt (blk_lt (g := gb341) (o := .cells #[.int .u32 t336, .slice Ao129 t337.length co129] 25 (0, 0)) (by (with_reducible repeat (first | refine blk_drewN ?_ _ | refine blk_drew ?_ | refine blk_alloc ?_ _)); exact BK341.out)) : gb347 ≠ gb341)); clear HO_9; clear HO_11; clear HO279; clear HO298; clear HO329; clear HO333; clear HO339; clear HO345; clear BK238; clear BK335; clear BK341; clear HB; have HO_9 := n0_; have HO_11 := n1_; have HO279 := n2_; have HO298 := n3_; have HO329 := n4_; have HO333 := n5_; have HO339 := n6_; have HO345 := n7_; have BK238 := n8_; have BK335 := n9_; have BK341 := n10_; have HB := n11_; have BK347 := n12_; have GW347 := n13_; have GE347 := n14_; have NB238_347 := n15_; have NB347_238 := n16_; have NB335_347 := n17_; have NB347_335 := n18_; have NB341_347 := n19_; have NB347_341 := n20_; clear n0_ n1_ n2_ n3_ n4_ n5_ n6_ n7_ n8_ n9_ n10_ n11_ n12_ n13_ n14_ n15_ n16_ n17_ n18_ n19_ n20_; clear hb hbox hg; have hnb133 := NB347_238.out; have hnc133 := NB238_347.out; have hnb134 := NB347_335.out; have hnc134 := NB335_347.out; have hnb135 := NB347_341.out; have hnc135 := NB341_347.out; have hcz136_0 : w132.cell? ⟨gb347, 0, none⟩ = some (.int .u32 0) := (blk_cell BK347.out 0).trans rfl; have hcz136_1 : w132.cell? ⟨gb347, 1, none⟩ = some (.slice none 0 0) := (blk_cell BK347.out 1).trans rfl; have hfz136_0 := blk_frozen BK347.out 0; have hfz136_1 := blk_frozen BK347.out 1; obtain ⟨Ao137, co137, eo137⟩ := Kd.S_slice HO345.out; subst eo137))
                                         go_ret
                                         exact ⟨by first | rfl | (simp [errW_none, errW_some] <;> rfl) | (simp only [← hji48, ← hji56]; first | rfl | (simp [errW_none, errW_some] <;> rfl)) | (simp [*, errW_none, errW_some] <;> rfl), by repeat (first | (with_reducible first | exact HB.out | apply below_alloc | apply pw_below_drewN | apply below_drew1 | refine below_set ?_ GE238.out | refine below_set ?_ GE335.out | refine below_set ?_ GE341.out | refine below_set ?_ GE347.out) | exact HB.out)⟩
                                      ·rw [if_neg c86] at H
                                       exact absurd H (by simp)
                                     ·rw [if_neg c84] at H
                                      exact absurd H (by simp)
                                    ·rw [if_neg c83] at H
                                     exact absurd H (by simp)
                                   ·rw [if_neg c82] at H
                                    exact absurd H (by simp)
                                  ·rw [if_neg c81] at H
                                   exact absurd H (by simp)
                                 ·rw [if_neg c80] at H
                                  exact absurd H (by simp)
                                ·rw [if_neg c78] at H
                                 exact absurd H (by simp)
                               ·rw [if_neg c77] at H
                                exact absurd H (by simp)
                              ·rw [if_neg c74] at H
                               exact absurd H (by simp)
                             ·rw [if_neg c71] at H
                              exact absurd H (by simp)
                            ·rw [if_neg c70] at H
                             exact absurd H (by simp)
                           ·rw [if_neg c67] at H
                            exact absurd H (by simp)
                          ·rw [if_neg c65] at H
                           exact absurd H (by simp)
                         ·rw [if_neg c64] at H
                          exact absurd H (by simp)
                        ·rw [if_neg c63] at H
                         exact absurd H (by simp)
                       ·rw [if_neg c61] at H
                        exact absurd H (by simp)
                      ·rw [if_neg c60] at H
                       exact absurd H (by simp)
                     ·rw [if_neg c59] at H
                      exact absurd H (by simp)
                    ·rw [if_neg c58] at H
                     exact absurd H (by simp)
                   ·rw [if_neg c57] at H
                    exact absurd H (by simp)
                  ·rw [if_neg c55] at H
                   exact absurd H (by simp)
                 ·rw [if_neg c54] at H
                  exact absurd H (by simp)
                ·rw [if_neg c53] at H
                 exact absurd H (by simp)
               ·rw [if_neg c52] at H
                exact absurd H (by simp)
              ·rw [if_neg c51] at H
               exact absurd H (by simp)
             ·rw [if_neg c50] at H
              exact absurd H (by simp)
            ·rw [if_neg c49] at H
             exact absurd H (by simp)
           ·rw [if_neg c47] at H
            exact absurd H (by simp)
          ·rw [if_neg c46] at H
           exact absurd H (by simp)

end Go.Proofs.YtknkncdlcoglpaaDoor.PFr
