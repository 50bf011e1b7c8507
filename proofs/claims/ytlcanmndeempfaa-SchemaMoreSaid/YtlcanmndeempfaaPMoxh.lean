-- Written by wip/tools/myprint.py, a program of the prover's own, over the kit's print; the contracts named 'HAND' there are typed by hand.
import Derived.Test.YtlcanmndeempfaaPMox0
import Derived.Test.YtlcanmndeempfaaPMox2
import Derived.Test.YtlcanmndeempfaaPMox3
import Derived.Test.YtlcanmndeempfaaPMox8
namespace Go.Proofs.Ytlcanmndeempfaa.PMo
open Go.RowKit Go.Proofs.YtlcanmndeempfaaW.PrintWords Go.Proofs.YtlcanmndeempfaaW.PrintLast Go.Proofs.YtlcanmndeempfaaW.PrintMore
attribute [local go_sem] max2_int min2_int max_two min_two max_three min_three max_four min_four   -- for this text's walks alone
set_option linter.unusedVariables false
set_option linter.unusedSimpArgs false

theorem k19 {α : Type} (l : List α) (i : Nat) (a : α) : l.toArray.setIfInBounds i a = (l.set i a).toArray := List.setIfInBounds_toArray ..
theorem k29 {α : Type} (x : α) (l : List α) (a : α) : (x :: l).set 0 a = a :: l := rfl
theorem k39 {α : Type} (x : α) (l : List α) (i : Nat) (a : α) : (x :: l).set (i + 1) a = x :: l.set i a := rfl
abbrev wa9 := @below_alloc
abbrev wb9 := @pw_below_drewN
abbrev wc9 := @below_drew1
abbrev wd9 := @below_set
abbrev ba9 := @blk_drewN
abbrev bb9 := @blk_drew
abbrev bc9 := @blk_alloc
abbrev na9 := @Kd.N_alloc
abbrev nb9 := @Kd.N_drewN
abbrev nc9 := @Kd.N_drew
abbrev va9 := @Kd.V_alloc
abbrev vb9 := @Kd.V_drewN
abbrev vc9 := @Kd.V_drew
abbrev wl9 := @World.block_lt_of_cell?
abbrev od9 := @of_decide_eq_true
abbrev ao9 := @any_of
abbrev tw9 := @take_ofW
abbrev t_9 : Bool := true
abbrev f_9 : Bool := false
def z9 (n m : Nat) : Array Bool := ((List.range n).map m.testBit).toArray
theorem am9_ {p : Prop} (h : p) : Aside0 p := ⟨h⟩
abbrev ra9_ := @Kd.R_alloc
abbrev rn9_ := @Kd.R_drewN
abbrev rd9_ := @Kd.R_drew
abbrev ca9_ := @Kd.C_alloc
abbrev cn9_ := @Kd.C_drewN
abbrev cd9_ := @Kd.C_drew
/-! ### foliatelaw06_SchemaMore: function 6 -/
mutual
def foliatelaw06_SchemaMore.j0 : Nat → Int → Bool → Bool → List (S34) → Option (Bool)
 | 0, _, _, _, _ => none
 | k + 1, x1, x5, x38, x159000 => if x38 = true then (some x5) else ((schema_Find.f x159000 (⟨#[122, 122, 122, 122, 57, 57, 57, 57]⟩ : ByteArray)).bind fun t162 => (if t162 ≥ 0 then (foliatelaw06_SchemaMore.j1 k x1 (⟨#[122, 122, 122, 122, 57, 57, 57, 57]⟩ : ByteArray) true x159000) else (if 0 ≤ x1 then (if x1 < (x159000.length : Int) then ((schema_Field.f ((rd_T34 x159000 x1).f0) ((rd_T34 x159000 x1).f1) (⟨#[122, 122, 122, 122, 57, 57, 57, 57]⟩ : ByteArray)).bind fun t164 => (foliatelaw06_SchemaMore.j1 k x1 (⟨#[122, 122, 122, 122, 57, 57, 57, 57]⟩ : ByteArray) (decide (t164 ≥ 0)) x159000)) else (none)) else (none))))
def foliatelaw06_SchemaMore.j1 : Nat → Int → ByteArray → Bool → List (S34) → Option (Bool)
 | 0, _, _, _, _ => none
 | k + 1, x1, x7, x53, x159000 => if x53 = true then (some true) else (if ([] : List (S34)).length + x159000.length < 3518437208883 then ((some (([] : List (S34)) ++ x159000 : List (S34))).bind fun y165 => ((some (([(⟨x7, ([] : List (S40))⟩ : S34)] : List (S34)) : List (S34))).bind fun y168 => (if y165.length + y168.length < 3518437208883 then ((some (([] : List (S34)) ++ x159000 : List (S34))).bind fun y175 => (if 0 ≤ x1 then (if x1 < (x159000.length : Int) then (if ([] : List (S40)).length + ((rd_T34 x159000 x1).f1).length < 3518437208883 then ((some (([] : List (S40)) ++ ((rd_T34 x159000 x1).f1) : List (S40))).bind fun y180 => ((some (([(⟨x7, 4, (⟨#[]⟩ : ByteArray)⟩ : S40)] : List (S40)) : List (S40))).bind fun y183 => (if y180.length + y183.length < 3518437208883 then (if x1 < (y175.length : Int) then (if x1 ≤ (x159000.length : Int) then ((some (x159000.take (x1 : Int).toNat : List (S34))).bind fun y190 => (if ([] : List (S34)).length + y190.length < 3518437208883 then ((some (([] : List (S34)) ++ y190 : List (S34))).bind fun y195 => (if 0 ≤ (wrap64 (x1 + 1)) then (if (wrap64 (x1 + 1)) ≤ (x159000.length : Int) then ((some (x159000.drop ((wrap64 (x1 + 1)) : Int).toNat : List (S34))).bind fun y198 => (if y195.length + y198.length < 3518437208883 then (foliatelaw06_SchemaMore.l0 k x1 false 0 x159000 (y165 ++ y168) (y175.set (x1 : Int).toNat (⟨(rd_T34 y175 x1).f0, (y180 ++ y183)⟩ : S34)) (y195 ++ y198)) else (none))) else (none)) else (none))) else (none))) else (none)) else (none)) else (none)))) else (none)) else (none)) else (none))) else (none)))) else (none))
def foliatelaw06_SchemaMore.l0 : Nat → Int → Bool → Int → List (S34) → List (S34) → List (S34) → List (S34) → Option (Bool)
 | 0, _, _, _, _, _, _, _ => none
 | k + 1, x1, x11, x12, x159000, x175000, x179000, x207000 => if x12 < (x207000.length : Int) then (foliatelaw06_SchemaMore.l1 k x1 x11 x12 0 x159000 x175000 x179000 x207000) else ((schema_May.f k x175000).bind fun t207 => (if (t207 == (decide ((x159000.length : Int) < 4))) = true then ((schema_May.f k x179000).bind fun t208 => (if 0 ≤ x1 then (if x1 < (x159000.length : Int) then (if (t208 == (decide ((((rd_T34 x159000 x1).f1).length : Int) < 5))) = true then ((schema_May.f k x207000).bind fun t210 => (if (x207000.length : Int) > 0 then (some (t210 == (!x11))) else (some (t210 == false)))) else (none)) else (none)) else (none))) else (none)))
def foliatelaw06_SchemaMore.l1 : Nat → Int → Bool → Int → Int → List (S34) → List (S34) → List (S34) → List (S34) → Option (Bool)
 | 0, _, _, _, _, _, _, _, _ => none
 | k + 1, x1, x11, x12, x13, x159000, x175000, x179000, x207000 => if 0 ≤ x12 then (if x12 < (x207000.length : Int) then (if x13 < (((rd_T34 x207000 x12).f1).length : Int) then (if x11 = true then (foliatelaw06_SchemaMore.l1 k x1 true x12 (wrap64 (x13 + 1)) x159000 x175000 x179000 x207000) else (if 0 ≤ x13 then (if ((rd_T40 ((rd_T34 x207000 x12).f1) x13).f1) = 5 then (if 0 ≤ x1 then (if x1 < (x159000.length : Int) then (foliatelaw06_SchemaMore.l1 k x1 (((rd_T40 ((rd_T34 x207000 x12).f1) x13).f2).toList == ((rd_T34 x159000 x1).f0).toList) x12 (wrap64 (x13 + 1)) x159000 x175000 x179000 x207000) else (none)) else (none)) else (foliatelaw06_SchemaMore.l1 k x1 false x12 (wrap64 (x13 + 1)) x159000 x175000 x179000 x207000)) else (none))) else (foliatelaw06_SchemaMore.l0 k x1 x11 (wrap64 (x12 + 1)) x159000 x175000 x179000 x207000)) else (none)) else (none)
end
def foliatelaw06_SchemaMore.f (k : Nat) (l0_0 : List (S34)) (a1 : Int) : Option (Bool) := (foliatelaw06_awake.f k).bind fun t159 => ((foliatelaw06_Few.f k l0_0 10).bind fun t160 => (if t159 = true then (if t160 = true then ((schema_May.f k l0_0).bind fun t161 => (if t161 = true then (if a1 < 0 then (foliatelaw06_SchemaMore.j0 k a1 t159 true l0_0) else (foliatelaw06_SchemaMore.j0 k a1 t159 (decide (a1 ≥ (l0_0.length : Int))) l0_0)) else (foliatelaw06_SchemaMore.j0 k a1 t159 true l0_0))) else (foliatelaw06_SchemaMore.j0 k a1 t159 true l0_0)) else (foliatelaw06_SchemaMore.j0 k a1 t159 true l0_0)))
theorem foliatelaw06_SchemaMore.mono_l : ∀ k, (∀ y0 y1 y2 y3, LeO (foliatelaw06_SchemaMore.j0 k y0 y1 y2 y3) (foliatelaw06_SchemaMore.j0 (k + 1) y0 y1 y2 y3)) ∧ (∀ y0 y1 y2 y3, LeO (foliatelaw06_SchemaMore.j1 k y0 y1 y2 y3) (foliatelaw06_SchemaMore.j1 (k + 1) y0 y1 y2 y3)) ∧ (∀ y0 y1 y2 y3 y4 y5 y6, LeO (foliatelaw06_SchemaMore.l0 k y0 y1 y2 y3 y4 y5 y6) (foliatelaw06_SchemaMore.l0 (k + 1) y0 y1 y2 y3 y4 y5 y6)) ∧ (∀ y0 y1 y2 y3 y4 y5 y6 y7, LeO (foliatelaw06_SchemaMore.l1 k y0 y1 y2 y3 y4 y5 y6 y7) (foliatelaw06_SchemaMore.l1 (k + 1) y0 y1 y2 y3 y4 y5 y6 y7))
 | 0 => ⟨fun _ _ _ _ r h => by simp [foliatelaw06_SchemaMore.j0] at h, fun _ _ _ _ r h => by simp [foliatelaw06_SchemaMore.j1] at h, fun _ _ _ _ _ _ _ r h => by simp [foliatelaw06_SchemaMore.l0] at h, fun _ _ _ _ _ _ _ _ r h => by simp [foliatelaw06_SchemaMore.l1] at h⟩
 | k + 1 => by
  obtain ⟨ih0, ih1, ih2, ih3⟩ := foliatelaw06_SchemaMore.mono_l k
  refine ⟨?_, ?_, ?_, ?_⟩
  ·intro y0 y1 y2 y3
   unfold foliatelaw06_SchemaMore.j0
   repeat' first
   | (with_reducible exact ih0 _ _ _ _)
   | (with_reducible exact ih1 _ _ _ _)
   | (with_reducible exact ih2 _ _ _ _ _ _ _)
   | (with_reducible exact ih3 _ _ _ _ _ _ _ _)
   | (with_reducible exact foliatelaw06_Few.mono _ _ _)
   | (with_reducible exact foliatelaw06_awake.mono _)
   | (with_reducible exact schema_May.mono _ _)
   | (with_reducible exact LeO.refl _)
   | (with_reducible exact LeO.none _)
   | (with_reducible refine LeO.ite ?_ ?_)
   | (with_reducible refine LeO.bind ?_ (fun _ => ?_))
   | exact ih0 _ _ _ _
   | exact ih1 _ _ _ _
   | exact ih2 _ _ _ _ _ _ _
   | exact ih3 _ _ _ _ _ _ _ _
   | exact foliatelaw06_Few.mono _ _ _
   | exact foliatelaw06_awake.mono _
   | exact schema_May.mono _ _
   | exact LeO.none _
   | refine LeO.ite ?_ ?_
   | refine LeO.bind ?_ (fun _ => ?_)
  ·intro y0 y1 y2 y3
   unfold foliatelaw06_SchemaMore.j1
   repeat' first
   | (with_reducible exact ih0 _ _ _ _)
   | (with_reducible exact ih1 _ _ _ _)
   | (with_reducible exact ih2 _ _ _ _ _ _ _)
   | (with_reducible exact ih3 _ _ _ _ _ _ _ _)
   | (with_reducible exact foliatelaw06_Few.mono _ _ _)
   | (with_reducible exact foliatelaw06_awake.mono _)
   | (with_reducible exact schema_May.mono _ _)
   | (with_reducible exact LeO.refl _)
   | (with_reducible exact LeO.none _)
   | (with_reducible refine LeO.ite ?_ ?_)
   | (with_reducible refine LeO.bind ?_ (fun _ => ?_))
   | exact ih0 _ _ _ _
   | exact ih1 _ _ _ _
   | exact ih2 _ _ _ _ _ _ _
   | exact ih3 _ _ _ _ _ _ _ _
   | exact foliatelaw06_Few.mono _ _ _
   | exact foliatelaw06_awake.mono _
   | exact schema_May.mono _ _
   | exact LeO.none _
   | refine LeO.ite ?_ ?_
   | refine LeO.bind ?_ (fun _ => ?_)
  ·intro y0 y1 y2 y3 y4 y5 y6
   unfold foliatelaw06_SchemaMore.l0
   repeat' first
   | (with_reducible exact ih0 _ _ _ _)
   | (with_reducible exact ih1 _ _ _ _)
   | (with_reducible exact ih2 _ _ _ _ _ _ _)
   | (with_reducible exact ih3 _ _ _ _ _ _ _ _)
   | (with_reducible exact foliatelaw06_Few.mono _ _ _)
   | (with_reducible exact foliatelaw06_awake.mono _)
   | (with_reducible exact schema_May.mono _ _)
   | (with_reducible exact LeO.refl _)
   | (with_reducible exact LeO.none _)
   | (with_reducible refine LeO.ite ?_ ?_)
   | (with_reducible refine LeO.bind ?_ (fun _ => ?_))
   | exact ih0 _ _ _ _
   | exact ih1 _ _ _ _
   | exact ih2 _ _ _ _ _ _ _
   | exact ih3 _ _ _ _ _ _ _ _
   | exact foliatelaw06_Few.mono _ _ _
   | exact foliatelaw06_awake.mono _
   | exact schema_May.mono _ _
   | exact LeO.none _
   | refine LeO.ite ?_ ?_
   | refine LeO.bind ?_ (fun _ => ?_)
  ·intro y0 y1 y2 y3 y4 y5 y6 y7
   unfold foliatelaw06_SchemaMore.l1
   repeat' first
   | (with_reducible exact ih0 _ _ _ _)
   | (with_reducible exact ih1 _ _ _ _)
   | (with_reducible exact ih2 _ _ _ _ _ _ _)
   | (with_reducible exact ih3 _ _ _ _ _ _ _ _)
   | (with_reducible exact foliatelaw06_Few.mono _ _ _)
   | (with_reducible exact foliatelaw06_awake.mono _)
   | (with_reducible exact schema_May.mono _ _)
   | (with_reducible exact LeO.refl _)
   | (with_reducible exact LeO.none _)
   | (with_reducible refine LeO.ite ?_ ?_)
   | (with_reducible refine LeO.bind ?_ (fun _ => ?_))
   | exact ih0 _ _ _ _
   | exact ih1 _ _ _ _
   | exact ih2 _ _ _ _ _ _ _
   | exact ih3 _ _ _ _ _ _ _ _
   | exact foliatelaw06_Few.mono _ _ _
   | exact foliatelaw06_awake.mono _
   | exact schema_May.mono _ _
   | exact LeO.none _
   | refine LeO.ite ?_ ?_
   | refine LeO.bind ?_ (fun _ => ?_)
theorem foliatelaw06_SchemaMore.mono : ∀ a0 a1 k, LeO (foliatelaw06_SchemaMore.f k a0 a1) (foliatelaw06_SchemaMore.f (k + 1) a0 a1) := by
 intro a0 a1 k
 obtain ⟨ih0, ih1, ih2, ih3⟩ := foliatelaw06_SchemaMore.mono_l k
 unfold foliatelaw06_SchemaMore.f
 repeat' first
   | (with_reducible exact ih0 _ _ _ _)
   | (with_reducible exact ih1 _ _ _ _)
   | (with_reducible exact ih2 _ _ _ _ _ _ _)
   | (with_reducible exact ih3 _ _ _ _ _ _ _ _)
   | (with_reducible exact foliatelaw06_Few.mono _ _ _)
   | (with_reducible exact foliatelaw06_awake.mono _)
   | (with_reducible exact schema_May.mono _ _)
   | (with_reducible exact LeO.refl _)
   | (with_reducible exact LeO.none _)
   | (with_reducible refine LeO.ite ?_ ?_)
   | (with_reducible refine LeO.bind ?_ (fun _ => ?_))
   | exact ih0 _ _ _ _
   | exact ih1 _ _ _ _
   | exact ih2 _ _ _ _ _ _ _
   | exact ih3 _ _ _ _ _ _ _ _
   | exact foliatelaw06_Few.mono _ _ _
   | exact foliatelaw06_awake.mono _
   | exact schema_May.mono _ _
   | exact LeO.none _
   | refine LeO.ite ?_ ?_
   | refine LeO.bind ?_ (fun _ => ?_)
def foliatelaw06_SchemaMore.T10 : Bool × List (List Nat × List Nat) := (true, [([], []), ([0], [0]), ([], []), ([], []), ([3], [3]), ([], []), ([4, 5], [4, 5]), ([6], [6]), ([7], [7]), ([8], [8]), ([], []), ([10], [10]), ([11], [11]), ([9, 12, 9], [9, 12]), ([1, 2, 0, 1, 2, 3, 4, 5, 6, 7, 8, 9, 10, 11, 12, 13], [1, 2]), ([14, 0, 1, 2, 3, 4, 5, 6, 7, 8, 9, 10, 11, 12, 13], [14]), ([15, 13, 13, 0, 1, 2, 3, 4, 5, 6, 7, 8, 9, 10, 11, 12, 13], [13, 15])])
def foliatelaw06_SchemaMore.B10 : List Nat := [0, 1, 0, 0, 8, 0, 56, 120, 248, 504, 0, 1024, 3072, 8184, 16383, 32767, 65535]
theorem foliatelaw06_SchemaMore.tab10 : rtab .any (opsOf Try.f6 10) = foliatelaw06_SchemaMore.T10 := by kernel_rfl
theorem foliatelaw06_SchemaMore.bits10 : waitsOk foliatelaw06_SchemaMore.T10.2 foliatelaw06_SchemaMore.B10 = true := by kernel_rfl
def foliatelaw06_SchemaMore.T11 : Bool × List (List Nat × List Nat) := (true, [([], []), ([0], [0]), ([], []), ([1, 2], [1, 2]), ([3], [3]), ([], []), ([5], [5]), ([], []), ([7], [7]), ([6, 8], [6, 8]), ([4, 9, 4], [4, 9]), ([10], [10]), ([], []), ([12, 11, 10, 0, 1, 2, 3, 4, 5, 6, 7, 8, 9, 10, 11, 12], [11, 12])])
def foliatelaw06_SchemaMore.B11 : List Nat := [0, 1, 0, 7, 15, 0, 32, 0, 128, 480, 1023, 2047, 0, 8191]
theorem foliatelaw06_SchemaMore.tab11 : rtab .any (opsOf Try.f6 11) = foliatelaw06_SchemaMore.T11 := by kernel_rfl
theorem foliatelaw06_SchemaMore.bits11 : waitsOk foliatelaw06_SchemaMore.T11.2 foliatelaw06_SchemaMore.B11 = true := by kernel_rfl
def foliatelaw06_SchemaMore.T19 : Bool × List (List Nat × List Nat) := (true, [([], []), ([0], [0]), ([1], [1]), ([2, 1], [1, 2]), ([1], [1]), ([3, 4, 1], [1, 3, 4]), ([5, 1], [1, 5]), ([6, 1], [1, 6]), ([1], [1]), ([7, 8, 1], [1, 7, 8]), ([9, 1], [1, 9]), ([10, 1], [1, 10]), ([11, 1], [1, 11]), ([12, 1, 1], [1, 12]), ([13], [13]), ([14, 13], [13, 14]), ([13], [13]), ([15, 16, 13], [13, 15, 16]), ([17, 13], [13, 17]), ([18, 13], [13, 18]), ([13], [13]), ([19, 20, 13], [13, 19, 20]), ([21, 13], [13, 21]), ([22, 13], [13, 22]), ([13], [13]), ([24, 13], [13, 24]), ([13], [13]), ([25, 26, 13], [13, 25, 26]), ([27, 13], [13, 27]), ([28, 13], [13, 28]), ([23, 29, 13], [13, 23, 29]), ([13, 30, 1], [1, 13, 30]), ([1, 31], [1, 31]), ([32, 13, 0, 1, 2, 3, 4, 5, 6, 7, 8, 9, 10, 11, 12, 13, 14, 15, 16, 17, 18, 19, 20, 21, 22, 23, 24, 25, 26, 27, 28, 29, 30, 31, 32], [0, 32])])
def foliatelaw06_SchemaMore.B19 : List Nat := [0, 1, 3, 7, 3, 31, 63, 127, 3, 511, 1023, 2047, 4095, 8191, 16383, 32767, 16383, 131071, 262143, 524287, 16383, 2097151, 4194303, 8388607, 16383, 16793599, 16383, 117456895, 251674623, 520110079, 1073741823, 2147483647, 4294967295, 8589934591]
theorem foliatelaw06_SchemaMore.tab19 : rtab .any (opsOf Try.f6 19) = foliatelaw06_SchemaMore.T19 := by kernel_rfl
theorem foliatelaw06_SchemaMore.bits19 : waitsOk foliatelaw06_SchemaMore.T19.2 foliatelaw06_SchemaMore.B19 = true := by kernel_rfl
def foliatelaw06_SchemaMore.T20 : Bool × List (List Nat × List Nat) := (true, [([], []), ([0], [0]), ([], []), ([2], [2]), ([3], [3]), ([4], [4]), ([1, 5], [1, 5]), ([6, 1], [6]), ([7], [7]), ([8, 7, 7], [7, 8]), ([7], [7]), ([10, 7], [7, 10]), ([7], [7]), ([11, 12, 7], [7, 11, 12]), ([13, 7], [7, 13]), ([14, 7], [7, 14]), ([15, 7], [7, 15]), ([16, 7], [7, 16]), ([9, 17, 7], [7, 9, 17]), ([7, 18], [7, 18]), ([19, 9], [19]), ([20], [20]), ([21, 20, 20], [20, 21]), ([20], [20]), ([23, 20], [20, 23]), ([24, 20], [20, 24]), ([25, 20], [20, 25]), ([26, 22, 20], [20, 26]), ([27], [27]), ([28, 27], [27, 28]), ([27, 29, 20], [20, 27, 29]), ([22, 30, 20], [20, 22, 30]), ([20, 31], [20, 31]), ([32, 27, 0, 1, 2, 3, 4, 5, 6, 7, 8, 9, 10, 11, 12, 13, 14, 15, 16, 17, 18, 19, 20, 21, 22, 23, 24, 25, 26, 27, 28, 29, 30, 31, 32], [32])])
def foliatelaw06_SchemaMore.B20 : List Nat := [0, 1, 0, 4, 12, 28, 63, 127, 255, 511, 255, 1279, 255, 7423, 15615, 31999, 64767, 130303, 262143, 524287, 1048575, 2097151, 4194303, 2097151, 10485759, 27262975, 60817407, 134217727, 268435455, 536870911, 1073741823, 2147483647, 4294967295, 8589934591]
theorem foliatelaw06_SchemaMore.tab20 : rtab .any (opsOf Try.f6 20) = foliatelaw06_SchemaMore.T20 := by kernel_rfl
theorem foliatelaw06_SchemaMore.bits20 : waitsOk foliatelaw06_SchemaMore.T20.2 foliatelaw06_SchemaMore.B20 = true := by kernel_rfl
end Go.Proofs.Ytlcanmndeempfaa.PMo
