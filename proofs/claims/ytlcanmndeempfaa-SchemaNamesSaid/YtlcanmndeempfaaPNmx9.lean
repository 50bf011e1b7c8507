-- Written by wip/tools/myprint.py, a program of the prover's own, over the kit's print; the contracts named 'HAND' there are typed by hand.
import Derived.Test.YtlcanmndeempfaaPNmx0
import Derived.Test.YtlcanmndeempfaaPNmx2
import Derived.Test.YtlcanmndeempfaaPNmx3
import Derived.Test.YtlcanmndeempfaaPNmx8
namespace Go.Proofs.Ytlcanmndeempfaa.PNm
open Go.RowKit Go.Proofs.YtlcanmndeempfaaW.PrintWords Go.Proofs.YtlcanmndeempfaaW.PrintLast Go.Proofs.YtlcanmndeempfaaW.PrintMore
attribute [local go_sem] max2_int min2_int max_two min_two max_three min_three max_four min_four   -- for this text's walks alone
set_option linter.unusedVariables false
set_option linter.unusedSimpArgs false

theorem q1_9 {α : Type} (l : List α) (i : Nat) (a : α) : l.toArray.setIfInBounds i a = (l.set i a).toArray := List.setIfInBounds_toArray ..
theorem q2_9 {α : Type} (x : α) (l : List α) (a : α) : (x :: l).set 0 a = a :: l := rfl
theorem q3_9 {α : Type} (x : α) (l : List α) (i : Nat) (a : α) : (x :: l).set (i + 1) a = x :: l.set i a := rfl
abbrev t_9 : Bool := true
abbrev f_9 : Bool := false
abbrev B9_0 : Array Bool := #[f_9,f_9,f_9,f_9,f_9,f_9,f_9,f_9,f_9,f_9,f_9,f_9,f_9,f_9,f_9,f_9,f_9,f_9,f_9,f_9,f_9,f_9]
abbrev B9_1 : Array Bool := #[t_9,f_9,f_9,f_9,f_9,f_9,f_9,f_9,f_9,f_9,f_9,f_9,f_9,f_9,f_9,f_9,f_9,f_9,f_9,f_9,f_9,f_9]
abbrev B9_2 : Array Bool := #[t_9,t_9,f_9,f_9,f_9,f_9,f_9,f_9,f_9,f_9,f_9,f_9,f_9,f_9,f_9,f_9,f_9,f_9,f_9,f_9,f_9,f_9]
abbrev B9_3 : Array Bool := #[t_9,t_9,t_9,f_9,f_9,f_9,f_9,f_9,f_9,f_9,f_9,f_9,f_9,f_9,f_9,f_9,f_9,f_9,f_9,f_9,f_9,f_9]
abbrev B9_4 : Array Bool := #[t_9,t_9,t_9,t_9,f_9,f_9,f_9,f_9,f_9,f_9,f_9,f_9,f_9,f_9,f_9,f_9,f_9,f_9,f_9,f_9,f_9,f_9]
abbrev B9_5 : Array Bool := #[t_9,t_9,t_9,t_9,t_9,f_9,f_9,f_9,f_9,f_9,f_9,f_9,f_9,f_9,f_9,f_9,f_9,f_9,f_9,f_9,f_9,f_9]
abbrev B9_6 : Array Bool := #[t_9,t_9,t_9,t_9,t_9,t_9,f_9,f_9,f_9,f_9,f_9,f_9,f_9,f_9,f_9,f_9,f_9,f_9,f_9,f_9,f_9,f_9]
abbrev B9_7 : Array Bool := #[t_9,t_9,t_9,t_9,t_9,t_9,t_9,f_9,f_9,f_9,f_9,f_9,f_9,f_9,f_9,f_9,f_9,f_9,f_9,f_9,f_9,f_9]
abbrev B9_8 : Array Bool := #[t_9,t_9,t_9,t_9,t_9,t_9,t_9,t_9,f_9,f_9,f_9,f_9,f_9,f_9,f_9,f_9,f_9,f_9,f_9,f_9,f_9,f_9]
abbrev B9_9 : Array Bool := #[t_9,t_9,t_9,t_9,t_9,t_9,t_9,t_9,t_9,f_9,f_9,f_9,f_9,f_9,f_9,f_9,f_9,f_9,f_9,f_9,f_9,f_9]
abbrev B9_10 : Array Bool := #[t_9,t_9,t_9,t_9,t_9,t_9,t_9,t_9,t_9,t_9,f_9,f_9,f_9,f_9,f_9,f_9,f_9,f_9,f_9,f_9,f_9,f_9]
abbrev B9_11 : Array Bool := #[t_9,t_9,t_9,t_9,t_9,t_9,t_9,t_9,t_9,t_9,f_9,t_9,f_9,f_9,f_9,f_9,f_9,f_9,f_9,f_9,f_9,f_9]
abbrev B9_12 : Array Bool := #[t_9,t_9,t_9,t_9,t_9,t_9,t_9,t_9,t_9,t_9,f_9,t_9,f_9,t_9,f_9,f_9,f_9,f_9,f_9,f_9,f_9,f_9]
abbrev B9_13 : Array Bool := #[t_9,t_9,t_9,t_9,t_9,t_9,t_9,t_9,t_9,t_9,f_9,t_9,f_9,t_9,f_9,f_9,f_9,f_9,t_9,f_9,f_9,f_9]
abbrev B9_14 : Array Bool := #[t_9,t_9,t_9,t_9,t_9,t_9,t_9,t_9,t_9,t_9,t_9,f_9,f_9,f_9,f_9,f_9,f_9,f_9,f_9,f_9,f_9,f_9]
abbrev B9_15 : Array Bool := #[t_9,t_9,t_9,t_9,t_9,t_9,t_9,t_9,t_9,t_9,t_9,t_9,f_9,f_9,f_9,f_9,f_9,f_9,f_9,f_9,f_9,f_9]
abbrev B9_16 : Array Bool := #[t_9,t_9,t_9,t_9,t_9,t_9,t_9,t_9,t_9,t_9,t_9,t_9,f_9,t_9,f_9,f_9,f_9,f_9,t_9,f_9,f_9,f_9]
abbrev B9_17 : Array Bool := #[t_9,t_9,t_9,t_9,t_9,t_9,t_9,t_9,t_9,t_9,t_9,t_9,t_9,f_9,f_9,f_9,f_9,f_9,f_9,f_9,f_9,f_9]
abbrev B9_18 : Array Bool := #[t_9,t_9,t_9,t_9,t_9,t_9,t_9,t_9,t_9,t_9,t_9,t_9,t_9,t_9,f_9,f_9,f_9,f_9,f_9,f_9,f_9,f_9]
abbrev B9_19 : Array Bool := #[t_9,t_9,t_9,t_9,t_9,t_9,t_9,t_9,t_9,t_9,t_9,t_9,t_9,t_9,f_9,f_9,f_9,f_9,t_9,f_9,f_9,f_9]
abbrev B9_20 : Array Bool := #[t_9,t_9,t_9,t_9,t_9,t_9,t_9,t_9,t_9,t_9,t_9,t_9,t_9,t_9,t_9,f_9,f_9,f_9,f_9,f_9,f_9,f_9]
abbrev B9_21 : Array Bool := #[t_9,t_9,t_9,t_9,t_9,t_9,t_9,t_9,t_9,t_9,t_9,t_9,t_9,t_9,t_9,f_9,f_9,f_9,t_9,f_9,f_9,f_9]
abbrev B9_22 : Array Bool := #[t_9,t_9,t_9,t_9,t_9,t_9,t_9,t_9,t_9,t_9,t_9,t_9,t_9,t_9,t_9,t_9,f_9,f_9,f_9,f_9,f_9,f_9]
abbrev B9_23 : Array Bool := #[t_9,t_9,t_9,t_9,t_9,t_9,t_9,t_9,t_9,t_9,t_9,t_9,t_9,t_9,t_9,t_9,f_9,f_9,t_9,f_9,f_9,f_9]
abbrev B9_24 : Array Bool := #[t_9,t_9,t_9,t_9,t_9,t_9,t_9,t_9,t_9,t_9,t_9,t_9,t_9,t_9,t_9,t_9,t_9,f_9,f_9,f_9,f_9,f_9]
abbrev B9_25 : Array Bool := #[t_9,t_9,t_9,t_9,t_9,t_9,t_9,t_9,t_9,t_9,t_9,t_9,t_9,t_9,t_9,t_9,t_9,f_9,t_9,f_9,f_9,f_9]
abbrev B9_26 : Array Bool := #[t_9,t_9,t_9,t_9,t_9,t_9,t_9,t_9,t_9,t_9,t_9,t_9,t_9,t_9,t_9,t_9,t_9,t_9,f_9,f_9,f_9,f_9]
abbrev B9_27 : Array Bool := #[t_9,t_9,t_9,t_9,t_9,t_9,t_9,t_9,t_9,t_9,t_9,t_9,t_9,t_9,t_9,t_9,t_9,t_9,t_9,f_9,f_9,f_9]
abbrev B9_28 : Array Bool := #[t_9,t_9,t_9,t_9,t_9,t_9,t_9,t_9,t_9,t_9,t_9,t_9,t_9,t_9,t_9,t_9,t_9,t_9,t_9,t_9,f_9,f_9]
abbrev B9_29 : Array Bool := #[t_9,t_9,t_9,t_9,t_9,t_9,t_9,t_9,t_9,t_9,t_9,t_9,t_9,t_9,t_9,t_9,t_9,t_9,t_9,t_9,t_9,f_9]
abbrev B9_30 : Array Bool := #[t_9,t_9,t_9,t_9,t_9,t_9,t_9,t_9,t_9,t_9,t_9,t_9,t_9,t_9,t_9,t_9,t_9,t_9,t_9,t_9,t_9,t_9]
theorem am9_ {p : Prop} (h : p) : Aside0 p := ⟨h⟩
abbrev ra9_ := @Kd.R_alloc
abbrev rn9_ := @Kd.R_drewN
abbrev rd9_ := @Kd.R_drew
abbrev ca9_ := @Kd.C_alloc
abbrev cn9_ := @Kd.C_drewN
abbrev cd9_ := @Kd.C_drew
/-! ### foliatelaw06_SchemaNames: function 5 -/
def foliatelaw06_SchemaNames.j0 : Nat → Int → Int → ByteArray → Bool → Bool → List (S34) → Option (Bool)
 | 0, _, _, _, _, _, _ => none
 | k + 1, x1, x2, x3, x9, x38, x159000 => if x38 = true then (some x9) else (if 0 ≤ x1 then (if x1 < (x159000.length : Int) then ((schema_Find.f x159000 x3).bind fun t164 => ((schema_Field.f ((rd_T34 x159000 x1).f0) ((rd_T34 x159000 x1).f1) x3).bind fun t165 => ((schema_Find.f x159000 ((rd_T34 x159000 x1).f0)).bind fun t166 => (if t166 = x1 then (if t164 ≥ 0 then (if t164 ≥ (x159000.length : Int) then (none) else (if 0 ≤ t164 then (if t164 < (x159000.length : Int) then (if ((rd_T34 x159000 t164).f0).toList = x3.toList then (if t165 ≥ 0 then (if t165 ≥ (((rd_T34 x159000 x1).f1).length : Int) then (none) else (if 0 ≤ t165 then (if t165 < (((rd_T34 x159000 x1).f1).length : Int) then (if ((rd_T40 ((rd_T34 x159000 x1).f1) t165).f0).toList = x3.toList then (if x2 < 0 then (some true) else (if x2 ≥ (((rd_T34 x159000 x1).f1).length : Int) then (some true) else (if 0 ≤ x2 then (if x2 < (((rd_T34 x159000 x1).f1).length : Int) then ((schema_Field.f ((rd_T34 x159000 x1).f0) ((rd_T34 x159000 x1).f1) ((rd_T40 ((rd_T34 x159000 x1).f1) x2).f0)).bind fun t170 => (some (t170 == x2))) else (none)) else (none)))) else (none)) else (none)) else (none))) else (if x2 < 0 then (some true) else (if x2 ≥ (((rd_T34 x159000 x1).f1).length : Int) then (some true) else (if 0 ≤ x2 then (if x2 < (((rd_T34 x159000 x1).f1).length : Int) then ((schema_Field.f ((rd_T34 x159000 x1).f0) ((rd_T34 x159000 x1).f1) ((rd_T40 ((rd_T34 x159000 x1).f1) x2).f0)).bind fun t172 => (some (t172 == x2))) else (none)) else (none))))) else (none)) else (none)) else (none))) else (if t165 ≥ 0 then (if t165 ≥ (((rd_T34 x159000 x1).f1).length : Int) then (none) else (if 0 ≤ t165 then (if t165 < (((rd_T34 x159000 x1).f1).length : Int) then (if ((rd_T40 ((rd_T34 x159000 x1).f1) t165).f0).toList = x3.toList then (if x2 < 0 then (some true) else (if x2 ≥ (((rd_T34 x159000 x1).f1).length : Int) then (some true) else (if 0 ≤ x2 then (if x2 < (((rd_T34 x159000 x1).f1).length : Int) then ((schema_Field.f ((rd_T34 x159000 x1).f0) ((rd_T34 x159000 x1).f1) ((rd_T40 ((rd_T34 x159000 x1).f1) x2).f0)).bind fun t175 => (some (t175 == x2))) else (none)) else (none)))) else (none)) else (none)) else (none))) else (if x2 < 0 then (some true) else (if x2 ≥ (((rd_T34 x159000 x1).f1).length : Int) then (some true) else (if 0 ≤ x2 then (if x2 < (((rd_T34 x159000 x1).f1).length : Int) then ((schema_Field.f ((rd_T34 x159000 x1).f0) ((rd_T34 x159000 x1).f1) ((rd_T40 ((rd_T34 x159000 x1).f1) x2).f0)).bind fun t177 => (some (t177 == x2))) else (none)) else (none)))))) else (none))))) else (none)) else (none))
def foliatelaw06_SchemaNames.f (k : Nat) (l0_0 : List (S34)) (a1 : Int) (a2 : Int) (a3 : ByteArray) : Option (Bool) := (foliatelaw06_awake.f k).bind fun t159 => ((foliatelaw06_Few.f k l0_0 10).bind fun t160 => (if t159 = true then (if t160 = true then ((schema_May.f k l0_0).bind fun t161 => (if t161 = true then (if a1 < 0 then (foliatelaw06_SchemaNames.j0 k a1 a2 a3 t159 true l0_0) else (foliatelaw06_SchemaNames.j0 k a1 a2 a3 t159 (decide (a1 ≥ (l0_0.length : Int))) l0_0)) else (foliatelaw06_SchemaNames.j0 k a1 a2 a3 t159 true l0_0))) else (foliatelaw06_SchemaNames.j0 k a1 a2 a3 t159 true l0_0)) else (foliatelaw06_SchemaNames.j0 k a1 a2 a3 t159 true l0_0)))
theorem foliatelaw06_SchemaNames.mono_l : ∀ k, (∀ y0 y1 y2 y3 y4 y5, LeO (foliatelaw06_SchemaNames.j0 k y0 y1 y2 y3 y4 y5) (foliatelaw06_SchemaNames.j0 (k + 1) y0 y1 y2 y3 y4 y5))
 | 0 => fun _ _ _ _ _ _ r h => by simp [foliatelaw06_SchemaNames.j0] at h
 | k + 1 => by
  have ih0 := foliatelaw06_SchemaNames.mono_l k
  ·intro y0 y1 y2 y3 y4 y5
   unfold foliatelaw06_SchemaNames.j0
   repeat' first
   | (with_reducible exact ih0 _ _ _ _ _ _)
   | (with_reducible exact foliatelaw06_Few.mono _ _ _)
   | (with_reducible exact foliatelaw06_awake.mono _)
   | (with_reducible exact schema_May.mono _ _)
   | (with_reducible exact LeO.refl _)
   | (with_reducible exact LeO.none _)
   | (with_reducible refine LeO.ite ?_ ?_)
   | (with_reducible refine LeO.bind ?_ (fun _ => ?_))
   | exact ih0 _ _ _ _ _ _
   | exact foliatelaw06_Few.mono _ _ _
   | exact foliatelaw06_awake.mono _
   | exact schema_May.mono _ _
   | exact LeO.none _
   | refine LeO.ite ?_ ?_
   | refine LeO.bind ?_ (fun _ => ?_)
theorem foliatelaw06_SchemaNames.mono : ∀ a0 a1 a2 a3 k, LeO (foliatelaw06_SchemaNames.f k a0 a1 a2 a3) (foliatelaw06_SchemaNames.f (k + 1) a0 a1 a2 a3) := by
 intro a0 a1 a2 a3 k
 have ih0 := foliatelaw06_SchemaNames.mono_l k
 unfold foliatelaw06_SchemaNames.f
 repeat' first
   | (with_reducible exact ih0 _ _ _ _ _ _)
   | (with_reducible exact foliatelaw06_Few.mono _ _ _)
   | (with_reducible exact foliatelaw06_awake.mono _)
   | (with_reducible exact schema_May.mono _ _)
   | (with_reducible exact LeO.refl _)
   | (with_reducible exact LeO.none _)
   | (with_reducible refine LeO.ite ?_ ?_)
   | (with_reducible refine LeO.bind ?_ (fun _ => ?_))
   | exact ih0 _ _ _ _ _ _
   | exact foliatelaw06_Few.mono _ _ _
   | exact foliatelaw06_awake.mono _
   | exact schema_May.mono _ _
   | exact LeO.none _
   | refine LeO.ite ?_ ?_
   | refine LeO.bind ?_ (fun _ => ?_)
def foliatelaw06_SchemaNames.T10 : Bool × List (List Nat × List Nat) := (true, [([], []), ([0], [0]), ([1], [1]), ([2], [2]), ([2], [2]), ([4, 2], [2, 4]), ([5, 2], [2, 5]), ([3, 6, 2], [2, 3, 6]), ([2, 7], [2, 7]), ([8, 2], [8]), ([9], [9]), ([9], [9]), ([11, 9], [9, 11]), ([9], [9]), ([12, 13, 9], [9, 12, 13]), ([14, 9], [9, 14]), ([15, 9], [9, 15]), ([10, 16, 9, 9], [9, 10, 16]), ([9], [9]), ([17, 18, 9], [9, 17, 18]), ([9, 19], [9, 19]), ([20, 17, 0, 1, 2, 3, 4, 5, 6, 7, 8, 9, 10, 11, 12, 13, 14, 15, 16, 17, 18, 19, 20], [20])])
def foliatelaw06_SchemaNames.B10 : List Nat := [0, 1, 3, 7, 7, 23, 55, 127, 255, 511, 1023, 1023, 3071, 1023, 15359, 31743, 64511, 131071, 1023, 524287, 1048575, 2097151]
theorem foliatelaw06_SchemaNames.tab10 : rtab .any (opsOf Try.f5 10) = foliatelaw06_SchemaNames.T10 := by kernel_rfl
theorem foliatelaw06_SchemaNames.bits10 : waitsOk foliatelaw06_SchemaNames.T10.2 foliatelaw06_SchemaNames.B10 = true := by kernel_rfl
set_option maxHeartbeats 8000000 in
set_option maxRecDepth 100000 in
theorem foliatelaw06_SchemaNames.calls (k : Nat) (A0_0 : Option Addr) (c0_0 : Nat) (l0_0 : List (S34)) (a1 : Int) (a2 : Int) (a3 : ByteArray) (r : Bool) (w : World) (hr0_0 : Kd.C k34 w A0_0 l0_0.length l0_0) (hc0_0 : l0_0.length ≤ c0_0) (h : foliatelaw06_SchemaNames.f k l0_0 a1 a2 a3 = some r) :
  Calls Try.prog 5 #[.agg #[.slice A0_0 l0_0.length c0_0], .int .i64 a1, .int .i64 a2, .string a3] w fun e w' => e = .returned (.bool r) ∧ Below w.heap.size w w' := by
 have hu24 := Try.underlying24
 have hu34 := Try.underlying34
 have HR0_0 := Aside0.mk hr0_0
 have HC0_0 := Aside0.mk hc0_0
 clear hr0_0 hc0_0
 have HB := am9_ (Below.refl w.heap.size w)
 have H : ((foliatelaw06_awake.f k).bind fun t159 => ((foliatelaw06_Few.f k l0_0 10).bind fun t160 => (if t159 = true then (if t160 = true then ((schema_May.f k l0_0).bind fun t161 => (if t161 = true then (if a1 < 0 then (foliatelaw06_SchemaNames.j0 k a1 a2 a3 t159 true l0_0) else (foliatelaw06_SchemaNames.j0 k a1 a2 a3 t159 (decide (a1 ≥ (l0_0.length : Int))) l0_0)) else (foliatelaw06_SchemaNames.j0 k a1 a2 a3 t159 true l0_0))) else (foliatelaw06_SchemaNames.j0 k a1 a2 a3 t159 true l0_0)) else (foliatelaw06_SchemaNames.j0 k a1 a2 a3 t159 true l0_0)))) = some r := h
 clear h
 replace H := Option.bind_eq_some_iff.mp H
 obtain ⟨t159, A50, H⟩ := H
 replace H : ((foliatelaw06_Few.f k l0_0 10).bind fun t160 => (if t159 = true then (if t160 = true then ((schema_May.f k l0_0).bind fun t161 => (if t161 = true then (if a1 < 0 then (foliatelaw06_SchemaNames.j0 k a1 a2 a3 t159 true l0_0) else (foliatelaw06_SchemaNames.j0 k a1 a2 a3 t159 (decide (a1 ≥ (l0_0.length : Int))) l0_0)) else (foliatelaw06_SchemaNames.j0 k a1 a2 a3 t159 true l0_0))) else (foliatelaw06_SchemaNames.j0 k a1 a2 a3 t159 true l0_0)) else (foliatelaw06_SchemaNames.j0 k a1 a2 a3 t159 true l0_0))) = some r := H
 have A5 := Aside0.mk A50
 clear A50
 replace H := Option.bind_eq_some_iff.mp H
 obtain ⟨t160, A60, H⟩ := H
 replace H : (if t159 = true then (if t160 = true then ((schema_May.f k l0_0).bind fun t161 => (if t161 = true then (if a1 < 0 then (foliatelaw06_SchemaNames.j0 k a1 a2 a3 t159 true l0_0) else (foliatelaw06_SchemaNames.j0 k a1 a2 a3 t159 (decide (a1 ≥ (l0_0.length : Int))) l0_0)) else (foliatelaw06_SchemaNames.j0 k a1 a2 a3 t159 true l0_0))) else (foliatelaw06_SchemaNames.j0 k a1 a2 a3 t159 true l0_0)) else (foliatelaw06_SchemaNames.j0 k a1 a2 a3 t159 true l0_0)) = some r := H
 have A6 := Aside0.mk A60
 clear A60
 have HC7 := Aside0.mk H
 clear H
 go_enter Try.func5, Try.ntmps5
 go_upto_region 3 with (first | ((with_reducible refine gate_dst (N := 4) rfl ?_); (try (refine gate_guard (by rfl) ?_; dsimp only)); refine box_event ?hg (N := 4) ?hd (cs := #[.slice A0_0 l0_0.length c0_0]) (t := 24) ?hr ?_; (case hd => rfl); (case hg => rfl); (case hr => first | (go_simp; done) | (go_simp; rfl)); intro gb158 hg w8 hbox hb; have n0_ := am9_ (below_step (by repeat (first | exact HB.out | apply below_alloc | apply pw_below_drewN | apply below_drew1)) hb); have n1_ := am9_ (hbox); have n2_ := am9_ ((by rw [hg]; exact (below_size (by repeat (first | exact HB.out | apply below_alloc | apply pw_below_drewN | apply below_drew1))) : w.heap.size ≤ gb158)); have n3_ := am9_ ((by rw [hg]; exact (below_size (by repeat (first | exact HB.out | apply below_alloc | apply pw_below_drewN | apply below_drew1))) : w.heap.size ≤ gb158)); clear HB; have HB := n0_; have BK158 := n1_; have GW158 := n2_; have GE158 := n3_; clear n0_ n1_ n2_ n3_; clear hb hbox hg) | ((with_reducible refine gate_callee (f := 9) rfl ?_); refine goesL_ (some 14) rfl rfl Try.func9 (by kernel_rfl) rfl #[] rfl (by (try simp only [List.map_toArray, List.map_cons, List.map_nil]); first | done | rfl | (simp only [List.length_drop, List.length_take]; rfl)) ?_; (with_reducible refine (foliatelaw06_awake.calls k  t159 _ A5.out).mono ?_); rintro e w9 ⟨rfl, hb⟩; refine ⟨_, rfl, ?_⟩; have n0_ := am9_ (blk_below (g := gb158) (o := .cells #[.slice A0_0 l0_0.length c0_0] 24 (0, 0)) (by (with_reducible repeat (first | refine blk_drewN ?_ _ | refine blk_drew ?_ | refine blk_alloc ?_ _)); exact BK158.out) hb); have n1_ := am9_ (below_step (by repeat (first | (with_reducible first | exact HB.out | apply below_alloc | apply pw_below_drewN | apply below_drew1 | refine below_set ?_ GE158.out) | exact HB.out)) hb); clear BK158; clear HB; have BK158 := n0_; have HB := n1_; clear n0_ n1_; (try clear hb); (try clear hb2); (try clear hk); (try clear hi); have hcz10_0 : w9.cell? ⟨gb158, 0, none⟩ = some (.slice A0_0 l0_0.length c0_0) := (blk_cell BK158.out 0).trans rfl; have hfz10_0 := blk_frozen BK158.out 0) | ((with_reducible refine gate_callee (f := 10) rfl ?_); refine goesL_ (some 16) rfl rfl Try.func10 (by kernel_rfl) rfl #[.agg #[.slice A0_0 l0_0.length c0_0], .int .i64 10] rfl (by (try simp only [List.map_toArray, List.map_cons, List.map_nil]); first | done | rfl | (simp only [List.length_drop, List.length_take]; rfl)) ?_; (with_reducible refine (foliatelaw06_Few.calls k _ _ l0_0 10 t160 _ ?side1 ?side2 A6.out).mono ?_); (case side1 => repeat (first | exact (Kd.C_below HR0_0.out HB.out) | (with_reducible first | refine ca9_ ?_ _ | refine cn9_ ?_ _ | refine cd9_ ?_))); (case side2 => exact HC0_0.out); rintro e w11 ⟨rfl, hb⟩; refine ⟨_, rfl, ?_⟩; have n0_ := am9_ (blk_below (g := gb158) (o := .cells #[.slice A0_0 l0_0.length c0_0] 24 (0, 0)) (by (with_reducible repeat (first | refine blk_drewN ?_ _ | refine blk_drew ?_ | refine blk_alloc ?_ _)); exact BK158.out) hb); have n1_ := am9_ (below_step (by repeat (first | (with_reducible first | exact HB.out | apply below_alloc | apply pw_below_drewN | apply below_drew1 | refine below_set ?_ GE158.out) | exact HB.out)) hb); clear BK158; clear HB; have BK158 := n0_; have HB := n1_; clear n0_ n1_; (try clear hb); (try clear hb2); (try clear hk); (try clear hi)))
 (try simp only [Act.put, q1_9, q2_9, q3_9])
 go_cut [38] (fun v38 wc => ∃ (kq : Nat) (x38_6 : Bool), v38 = .bool x38_6 ∧ Aside0 (foliatelaw06_SchemaNames.j0 kq a1 a2 a3 t159 x38_6 l0_0 = some r) ∧ Aside0 (kq ≤ k) ∧ Aside0 (wc.heap[gb158]? = some (.cells #[(.slice A0_0 l0_0.length c0_0)] 24 (0, 0))) ∧ Aside0 (Below w.heap.size w wc))
 case first =>
  have H := HC7.out
  clear HC7
  by_cases c12 : t159 = true
  ·subst c12
   have H1 : (if t160 = true then ((schema_May.f k l0_0).bind fun t161 => (if t161 = true then (if a1 < 0 then (foliatelaw06_SchemaNames.j0 k a1 a2 a3 true true l0_0) else (foliatelaw06_SchemaNames.j0 k a1 a2 a3 true (decide (a1 ≥ (l0_0.length : Int))) l0_0)) else (foliatelaw06_SchemaNames.j0 k a1 a2 a3 true true l0_0))) else (foliatelaw06_SchemaNames.j0 k a1 a2 a3 true true l0_0)) = some r := by rw [if_pos rfl] at H; exact H
   clear H
   have H := H1
   clear H1
   by_cases c13 : t160 = true
   ·subst c13
    have H1 : ((schema_May.f k l0_0).bind fun t161 => (if t161 = true then (if a1 < 0 then (foliatelaw06_SchemaNames.j0 k a1 a2 a3 true true l0_0) else (foliatelaw06_SchemaNames.j0 k a1 a2 a3 true (decide (a1 ≥ (l0_0.length : Int))) l0_0)) else (foliatelaw06_SchemaNames.j0 k a1 a2 a3 true true l0_0))) = some r := by rw [if_pos rfl] at H; exact H
    clear H
    have H := H1
    clear H1
    replace H := Option.bind_eq_some_iff.mp H
    obtain ⟨t161, A140, H⟩ := H
    replace H : (if t161 = true then (if a1 < 0 then (foliatelaw06_SchemaNames.j0 k a1 a2 a3 true true l0_0) else (foliatelaw06_SchemaNames.j0 k a1 a2 a3 true (decide (a1 ≥ (l0_0.length : Int))) l0_0)) else (foliatelaw06_SchemaNames.j0 k a1 a2 a3 true true l0_0)) = some r := H
    have A14 := Aside0.mk A140
    clear A140
    by_cases c15 : t161 = true
    ·subst c15
     have H1 : (if a1 < 0 then (foliatelaw06_SchemaNames.j0 k a1 a2 a3 true true l0_0) else (foliatelaw06_SchemaNames.j0 k a1 a2 a3 true (decide (a1 ≥ (l0_0.length : Int))) l0_0)) = some r := by rw [if_pos rfl] at H; exact H
     clear H
     have H := H1
     clear H1
     by_cases c16 : a1 < 0
     ·rw [if_pos c16] at H
      have c16b0 : decide (a1 < 0) = true := decide_eq_true c16
      clear c16
      (first | rw [c16b0] | (simp only [i64_w, i32_w]; rw [c16b0]) | skip)
      have H' := Aside0.mk H
      clear H
      have hcz17_0 : w11.cell? ⟨gb158, 0, none⟩ = some (.slice A0_0 l0_0.length c0_0) := (blk_cell BK158.out 0).trans rfl
      have hfz17_0 := blk_frozen BK158.out 0
      go_wp2_with (first | (go_at_call 17; (with_reducible refine (schema_May.calls k _ _ l0_0 true _ ?side1 ?side2 A14.out).mono ?_); (case side1 => repeat (first | exact (Kd.C_below HR0_0.out HB.out) | (with_reducible first | refine ca9_ ?_ _ | refine cn9_ ?_ _ | refine cd9_ ?_))); (case side2 => exact HC0_0.out); rintro e w18 ⟨rfl, hb⟩; have n0_ := am9_ (blk_below (g := gb158) (o := .cells #[.slice A0_0 l0_0.length c0_0] 24 (0, 0)) (by (with_reducible repeat (first | refine blk_drewN ?_ _ | refine blk_drew ?_ | refine blk_alloc ?_ _)); exact BK158.out) hb); have n1_ := am9_ (below_step (by repeat (first | (with_reducible first | exact HB.out | apply below_alloc | apply pw_below_drewN | apply below_drew1 | refine below_set ?_ GE158.out) | exact HB.out)) hb); clear BK158; clear HB; have BK158 := n0_; have HB := n1_; clear n0_ n1_; (try clear hb); (try clear hb2); (try clear hk); (try clear hi)))
      go_meet
      case rel => exact ⟨_, (true), (by first | rfl | (simp; done) | (simp [*]; done)), H', ⟨by first | omega | exact Nat.le_refl _⟩, ⟨by (with_reducible repeat (first | refine blk_drewN ?_ _ | refine blk_drew ?_ | refine blk_alloc ?_ _)); exact BK158.out⟩, ⟨by repeat (first | (with_reducible first | exact HB.out | apply below_alloc | apply pw_below_drewN | apply below_drew1 | refine below_set ?_ GE158.out) | exact HB.out)⟩⟩
     ·rw [if_neg c16] at H
      have c16b0 : decide (a1 < 0) = false := decide_eq_false c16
      clear c16
      (first | rw [c16b0] | (simp only [i64_w, i32_w]; rw [c16b0]) | skip)
      have H' := Aside0.mk H
      clear H
      have hcz19_0 : w11.cell? ⟨gb158, 0, none⟩ = some (.slice A0_0 l0_0.length c0_0) := (blk_cell BK158.out 0).trans rfl
      have hfz19_0 := blk_frozen BK158.out 0
      go_wp2_with (first | (go_at_call 17; (with_reducible refine (schema_May.calls k _ _ l0_0 true _ ?side1 ?side2 A14.out).mono ?_); (case side1 => repeat (first | exact (Kd.C_below HR0_0.out HB.out) | (with_reducible first | refine ca9_ ?_ _ | refine cn9_ ?_ _ | refine cd9_ ?_))); (case side2 => exact HC0_0.out); rintro e w20 ⟨rfl, hb⟩; have n0_ := am9_ (blk_below (g := gb158) (o := .cells #[.slice A0_0 l0_0.length c0_0] 24 (0, 0)) (by (with_reducible repeat (first | refine blk_drewN ?_ _ | refine blk_drew ?_ | refine blk_alloc ?_ _)); exact BK158.out) hb); have n1_ := am9_ (below_step (by repeat (first | (with_reducible first | exact HB.out | apply below_alloc | apply pw_below_drewN | apply below_drew1 | refine below_set ?_ GE158.out) | exact HB.out)) hb); clear BK158; clear HB; have BK158 := n0_; have HB := n1_; clear n0_ n1_; (try clear hb); (try clear hb2); (try clear hk); (try clear hi); have hcz21_0 : w20.cell? ⟨gb158, 0, none⟩ = some (.slice A0_0 l0_0.length c0_0) := (blk_cell BK158.out 0).trans rfl; have hfz21_0 := blk_frozen BK158.out 0))
      go_meet
      case rel => exact ⟨_, (decide (a1 ≥ (l0_0.length : Int))), (by first | rfl | (simp; done) | (simp [*]; done)), H', ⟨by first | omega | exact Nat.le_refl _⟩, ⟨by (with_reducible repeat (first | refine blk_drewN ?_ _ | refine blk_drew ?_ | refine blk_alloc ?_ _)); exact BK158.out⟩, ⟨by repeat (first | (with_reducible first | exact HB.out | apply below_alloc | apply pw_below_drewN | apply below_drew1 | refine below_set ?_ GE158.out) | exact HB.out)⟩⟩
    ·replace c15 := Bool.eq_false_iff.mpr c15
     subst c15
     have H1 : (foliatelaw06_SchemaNames.j0 k a1 a2 a3 true true l0_0) = some r := by rw [if_neg (show ¬ (false = true) by decide)] at H; exact H
     clear H
     have H := H1
     clear H1
     have H' := Aside0.mk H
     clear H
     have hcz22_0 : w11.cell? ⟨gb158, 0, none⟩ = some (.slice A0_0 l0_0.length c0_0) := (blk_cell BK158.out 0).trans rfl
     have hfz22_0 := blk_frozen BK158.out 0
     go_wp2_with (first | (go_at_call 17; (with_reducible refine (schema_May.calls k _ _ l0_0 false _ ?side1 ?side2 A14.out).mono ?_); (case side1 => repeat (first | exact (Kd.C_below HR0_0.out HB.out) | (with_reducible first | refine ca9_ ?_ _ | refine cn9_ ?_ _ | refine cd9_ ?_))); (case side2 => exact HC0_0.out); rintro e w23 ⟨rfl, hb⟩; have n0_ := am9_ (blk_below (g := gb158) (o := .cells #[.slice A0_0 l0_0.length c0_0] 24 (0, 0)) (by (with_reducible repeat (first | refine blk_drewN ?_ _ | refine blk_drew ?_ | refine blk_alloc ?_ _)); exact BK158.out) hb); have n1_ := am9_ (below_step (by repeat (first | (with_reducible first | exact HB.out | apply below_alloc | apply pw_below_drewN | apply below_drew1 | refine below_set ?_ GE158.out) | exact HB.out)) hb); clear BK158; clear HB; have BK158 := n0_; have HB := n1_; clear n0_ n1_; (try clear hb); (try clear hb2); (try clear hk); (try clear hi)))
     go_meet
     case rel => exact ⟨_, (true), (by first | rfl | (simp; done) | (simp [*]; done)), H', ⟨by first | omega | exact Nat.le_refl _⟩, ⟨by (with_reducible repeat (first | refine blk_drewN ?_ _ | refine blk_drew ?_ | refine blk_alloc ?_ _)); exact BK158.out⟩, ⟨by repeat (first | (with_reducible first | exact HB.out | apply below_alloc | apply pw_below_drewN | apply below_drew1 | refine below_set ?_ GE158.out) | exact HB.out)⟩⟩
   ·replace c13 := Bool.eq_false_iff.mpr c13
    subst c13
    have H1 : (foliatelaw06_SchemaNames.j0 k a1 a2 a3 true true l0_0) = some r := by rw [if_neg (show ¬ (false = true) by decide)] at H; exact H
    clear H
    have H := H1
    clear H1
    have H' := Aside0.mk H
    clear H
    go_wp2
    go_meet
    case rel => exact ⟨_, (true), (by first | rfl | (simp; done) | (simp [*]; done)), H', ⟨by first | omega | exact Nat.le_refl _⟩, ⟨by (with_reducible repeat (first | refine blk_drewN ?_ _ | refine blk_drew ?_ | refine blk_alloc ?_ _)); exact BK158.out⟩, ⟨by repeat (first | (with_reducible first | exact HB.out | apply below_alloc | apply pw_below_drewN | apply below_drew1 | refine below_set ?_ GE158.out) | exact HB.out)⟩⟩
  ·replace c12 := Bool.eq_false_iff.mpr c12
   subst c12
   have H1 : (foliatelaw06_SchemaNames.j0 k a1 a2 a3 false true l0_0) = some r := by rw [if_neg (show ¬ (false = true) by decide)] at H; exact H
   clear H
   have H := H1
   clear H1
   have H' := Aside0.mk H
   clear H
   go_wp2
   go_meet
   case rel => exact ⟨_, (true), (by first | rfl | (simp; done) | (simp [*]; done)), H', ⟨by first | omega | exact Nat.le_refl _⟩, ⟨by (with_reducible repeat (first | refine blk_drewN ?_ _ | refine blk_drew ?_ | refine blk_alloc ?_ _)); exact BK158.out⟩, ⟨by repeat (first | (with_reducible first | exact HB.out | apply below_alloc | apply pw_below_drewN | apply below_drew1 | refine below_set ?_ GE158.out) | exact HB.out)⟩⟩
 case rest =>
  clear HC7
  try clear c1
  try clear p2
  try clear c5
  try clear c9
  try clear c10
  try clear c12
  try clear c13
  try clear c15
  try clear c16
  try clear c16b0
  try clear hcz10_0
  try clear hcz17_0
  try clear hcz19_0
  try clear hcz21_0
  try clear hcz22_0
  try clear hfz10_0
  try clear hfz17_0
  try clear hfz19_0
  try clear hfz21_0
  try clear hfz22_0
  obtain ⟨kq, x38_6, rfl, HA, HJ6, BK158, HB⟩ := hcut
  cases kq with
  | zero => exact absurd HA.out (by simp [foliatelaw06_SchemaNames.j0])
  | succ kj6 =>
   have H := HA.out
   clear HA
   simp only [foliatelaw06_SchemaNames.j0] at H
   by_cases c24 : x38_6 = true
   ·subst c24
    have H1 : (some t159) = some r := by rw [if_pos rfl] at H; exact H
    clear H
    have H := H1
    clear H1
    obtain rfl := Option.some.inj H
    go_wp2
    go_ret
    exact ⟨by first | rfl | (simp [errW_none, errW_some] <;> rfl) | (simp [*, errW_none, errW_some] <;> rfl), by repeat (first | (with_reducible first | exact HB.out | apply below_alloc | apply pw_below_drewN | apply below_drew1 | refine below_set ?_ GE158.out) | exact HB.out)⟩
   ·replace c24 := Bool.eq_false_iff.mpr c24
    subst c24
    have H1 : (if 0 ≤ a1 then (if a1 < (l0_0.length : Int) then ((schema_Find.f l0_0 a3).bind fun t164 => ((schema_Field.f ((rd_T34 l0_0 a1).f0) ((rd_T34 l0_0 a1).f1) a3).bind fun t165 => ((schema_Find.f l0_0 ((rd_T34 l0_0 a1).f0)).bind fun t166 => (if t166 = a1 then (if t164 ≥ 0 then (if t164 ≥ (l0_0.length : Int) then (none) else (if 0 ≤ t164 then (if t164 < (l0_0.length : Int) then (if ((rd_T34 l0_0 t164).f0).toList = a3.toList then (if t165 ≥ 0 then (if t165 ≥ (((rd_T34 l0_0 a1).f1).length : Int) then (none) else (if 0 ≤ t165 then (if t165 < (((rd_T34 l0_0 a1).f1).length : Int) then (if ((rd_T40 ((rd_T34 l0_0 a1).f1) t165).f0).toList = a3.toList then (if a2 < 0 then (some true) else (if a2 ≥ (((rd_T34 l0_0 a1).f1).length : Int) then (some true) else (if 0 ≤ a2 then (if a2 < (((rd_T34 l0_0 a1).f1).length : Int) then ((schema_Field.f ((rd_T34 l0_0 a1).f0) ((rd_T34 l0_0 a1).f1) ((rd_T40 ((rd_T34 l0_0 a1).f1) a2).f0)).bind fun t170 => (some (t170 == a2))) else (none)) else (none)))) else (none)) else (none)) else (none))) else (if a2 < 0 then (some true) else (if a2 ≥ (((rd_T34 l0_0 a1).f1).length : Int) then (some true) else (if 0 ≤ a2 then (if a2 < (((rd_T34 l0_0 a1).f1).length : Int) then ((schema_Field.f ((rd_T34 l0_0 a1).f0) ((rd_T34 l0_0 a1).f1) ((rd_T40 ((rd_T34 l0_0 a1).f1) a2).f0)).bind fun t172 => (some (t172 == a2))) else (none)) else (none))))) else (none)) else (none)) else (none))) else (if t165 ≥ 0 then (if t165 ≥ (((rd_T34 l0_0 a1).f1).length : Int) then (none) else (if 0 ≤ t165 then (if t165 < (((rd_T34 l0_0 a1).f1).length : Int) then (if ((rd_T40 ((rd_T34 l0_0 a1).f1) t165).f0).toList = a3.toList then (if a2 < 0 then (some true) else (if a2 ≥ (((rd_T34 l0_0 a1).f1).length : Int) then (some true) else (if 0 ≤ a2 then (if a2 < (((rd_T34 l0_0 a1).f1).length : Int) then ((schema_Field.f ((rd_T34 l0_0 a1).f0) ((rd_T34 l0_0 a1).f1) ((rd_T40 ((rd_T34 l0_0 a1).f1) a2).f0)).bind fun t175 => (some (t175 == a2))) else (none)) else (none)))) else (none)) else (none)) else (none))) else (if a2 < 0 then (some true) else (if a2 ≥ (((rd_T34 l0_0 a1).f1).length : Int) then (some true) else (if 0 ≤ a2 then (if a2 < (((rd_T34 l0_0 a1).f1).length : Int) then ((schema_Field.f ((rd_T34 l0_0 a1).f0) ((rd_T34 l0_0 a1).f1) ((rd_T40 ((rd_T34 l0_0 a1).f1) a2).f0)).bind fun t177 => (some (t177 == a2))) else (none)) else (none)))))) else (none))))) else (none)) else (none)) = some r := by rw [if_neg (show ¬ (false = true) by decide)] at H; exact H
    clear H
    have H := H1
    clear H1
    by_cases c25 : 0 ≤ a1
    ·rw [if_pos c25] at H
     have c25b0 : decide (0 ≤ a1) = true := decide_eq_true c25
     clear c25
     by_cases c26 : a1 < (l0_0.length : Int)
     ·rw [if_pos c26] at H
      have c26b0 : decide (a1 < (l0_0.length : Int)) = true := decide_eq_true c26
      clear c26
      replace H := Option.bind_eq_some_iff.mp H
      obtain ⟨t164, A270, H⟩ := H
      replace H : ((schema_Field.f ((rd_T34 l0_0 a1).f0) ((rd_T34 l0_0 a1).f1) a3).bind fun t165 => ((schema_Find.f l0_0 ((rd_T34 l0_0 a1).f0)).bind fun t166 => (if t166 = a1 then (if t164 ≥ 0 then (if t164 ≥ (l0_0.length : Int) then (none) else (if 0 ≤ t164 then (if t164 < (l0_0.length : Int) then (if ((rd_T34 l0_0 t164).f0).toList = a3.toList then (if t165 ≥ 0 then (if t165 ≥ (((rd_T34 l0_0 a1).f1).length : Int) then (none) else (if 0 ≤ t165 then (if t165 < (((rd_T34 l0_0 a1).f1).length : Int) then (if ((rd_T40 ((rd_T34 l0_0 a1).f1) t165).f0).toList = a3.toList then (if a2 < 0 then (some true) else (if a2 ≥ (((rd_T34 l0_0 a1).f1).length : Int) then (some true) else (if 0 ≤ a2 then (if a2 < (((rd_T34 l0_0 a1).f1).length : Int) then ((schema_Field.f ((rd_T34 l0_0 a1).f0) ((rd_T34 l0_0 a1).f1) ((rd_T40 ((rd_T34 l0_0 a1).f1) a2).f0)).bind fun t170 => (some (t170 == a2))) else (none)) else (none)))) else (none)) else (none)) else (none))) else (if a2 < 0 then (some true) else (if a2 ≥ (((rd_T34 l0_0 a1).f1).length : Int) then (some true) else (if 0 ≤ a2 then (if a2 < (((rd_T34 l0_0 a1).f1).length : Int) then ((schema_Field.f ((rd_T34 l0_0 a1).f0) ((rd_T34 l0_0 a1).f1) ((rd_T40 ((rd_T34 l0_0 a1).f1) a2).f0)).bind fun t172 => (some (t172 == a2))) else (none)) else (none))))) else (none)) else (none)) else (none))) else (if t165 ≥ 0 then (if t165 ≥ (((rd_T34 l0_0 a1).f1).length : Int) then (none) else (if 0 ≤ t165 then (if t165 < (((rd_T34 l0_0 a1).f1).length : Int) then (if ((rd_T40 ((rd_T34 l0_0 a1).f1) t165).f0).toList = a3.toList then (if a2 < 0 then (some true) else (if a2 ≥ (((rd_T34 l0_0 a1).f1).length : Int) then (some true) else (if 0 ≤ a2 then (if a2 < (((rd_T34 l0_0 a1).f1).length : Int) then ((schema_Field.f ((rd_T34 l0_0 a1).f0) ((rd_T34 l0_0 a1).f1) ((rd_T40 ((rd_T34 l0_0 a1).f1) a2).f0)).bind fun t175 => (some (t175 == a2))) else (none)) else (none)))) else (none)) else (none)) else (none))) else (if a2 < 0 then (some true) else (if a2 ≥ (((rd_T34 l0_0 a1).f1).length : Int) then (some true) else (if 0 ≤ a2 then (if a2 < (((rd_T34 l0_0 a1).f1).length : Int) then ((schema_Field.f ((rd_T34 l0_0 a1).f0) ((rd_T34 l0_0 a1).f1) ((rd_T40 ((rd_T34 l0_0 a1).f1) a2).f0)).bind fun t177 => (some (t177 == a2))) else (none)) else (none)))))) else (none)))) = some r := H
      have A27 := Aside0.mk A270
      clear A270
      replace H := Option.bind_eq_some_iff.mp H
      obtain ⟨t165, A280, H⟩ := H
      replace H : ((schema_Find.f l0_0 ((rd_T34 l0_0 a1).f0)).bind fun t166 => (if t166 = a1 then (if t164 ≥ 0 then (if t164 ≥ (l0_0.length : Int) then (none) else (if 0 ≤ t164 then (if t164 < (l0_0.length : Int) then (if ((rd_T34 l0_0 t164).f0).toList = a3.toList then (if t165 ≥ 0 then (if t165 ≥ (((rd_T34 l0_0 a1).f1).length : Int) then (none) else (if 0 ≤ t165 then (if t165 < (((rd_T34 l0_0 a1).f1).length : Int) then (if ((rd_T40 ((rd_T34 l0_0 a1).f1) t165).f0).toList = a3.toList then (if a2 < 0 then (some true) else (if a2 ≥ (((rd_T34 l0_0 a1).f1).length : Int) then (some true) else (if 0 ≤ a2 then (if a2 < (((rd_T34 l0_0 a1).f1).length : Int) then ((schema_Field.f ((rd_T34 l0_0 a1).f0) ((rd_T34 l0_0 a1).f1) ((rd_T40 ((rd_T34 l0_0 a1).f1) a2).f0)).bind fun t170 => (some (t170 == a2))) else (none)) else (none)))) else (none)) else (none)) else (none))) else (if a2 < 0 then (some true) else (if a2 ≥ (((rd_T34 l0_0 a1).f1).length : Int) then (some true) else (if 0 ≤ a2 then (if a2 < (((rd_T34 l0_0 a1).f1).length : Int) then ((schema_Field.f ((rd_T34 l0_0 a1).f0) ((rd_T34 l0_0 a1).f1) ((rd_T40 ((rd_T34 l0_0 a1).f1) a2).f0)).bind fun t172 => (some (t172 == a2))) else (none)) else (none))))) else (none)) else (none)) else (none))) else (if t165 ≥ 0 then (if t165 ≥ (((rd_T34 l0_0 a1).f1).length : Int) then (none) else (if 0 ≤ t165 then (if t165 < (((rd_T34 l0_0 a1).f1).length : Int) then (if ((rd_T40 ((rd_T34 l0_0 a1).f1) t165).f0).toList = a3.toList then (if a2 < 0 then (some true) else (if a2 ≥ (((rd_T34 l0_0 a1).f1).length : Int) then (some true) else (if 0 ≤ a2 then (if a2 < (((rd_T34 l0_0 a1).f1).length : Int) then ((schema_Field.f ((rd_T34 l0_0 a1).f0) ((rd_T34 l0_0 a1).f1) ((rd_T40 ((rd_T34 l0_0 a1).f1) a2).f0)).bind fun t175 => (some (t175 == a2))) else (none)) else (none)))) else (none)) else (none)) else (none))) else (if a2 < 0 then (some true) else (if a2 ≥ (((rd_T34 l0_0 a1).f1).length : Int) then (some true) else (if 0 ≤ a2 then (if a2 < (((rd_T34 l0_0 a1).f1).length : Int) then ((schema_Field.f ((rd_T34 l0_0 a1).f0) ((rd_T34 l0_0 a1).f1) ((rd_T40 ((rd_T34 l0_0 a1).f1) a2).f0)).bind fun t177 => (some (t177 == a2))) else (none)) else (none)))))) else (none))) = some r := H
      have A28 := Aside0.mk A280
      clear A280
      replace H := Option.bind_eq_some_iff.mp H
      obtain ⟨t166, A290, H⟩ := H
      replace H : (if t166 = a1 then (if t164 ≥ 0 then (if t164 ≥ (l0_0.length : Int) then (none) else (if 0 ≤ t164 then (if t164 < (l0_0.length : Int) then (if ((rd_T34 l0_0 t164).f0).toList = a3.toList then (if t165 ≥ 0 then (if t165 ≥ (((rd_T34 l0_0 a1).f1).length : Int) then (none) else (if 0 ≤ t165 then (if t165 < (((rd_T34 l0_0 a1).f1).length : Int) then (if ((rd_T40 ((rd_T34 l0_0 a1).f1) t165).f0).toList = a3.toList then (if a2 < 0 then (some true) else (if a2 ≥ (((rd_T34 l0_0 a1).f1).length : Int) then (some true) else (if 0 ≤ a2 then (if a2 < (((rd_T34 l0_0 a1).f1).length : Int) then ((schema_Field.f ((rd_T34 l0_0 a1).f0) ((rd_T34 l0_0 a1).f1) ((rd_T40 ((rd_T34 l0_0 a1).f1) a2).f0)).bind fun t170 => (some (t170 == a2))) else (none)) else (none)))) else (none)) else (none)) else (none))) else (if a2 < 0 then (some true) else (if a2 ≥ (((rd_T34 l0_0 a1).f1).length : Int) then (some true) else (if 0 ≤ a2 then (if a2 < (((rd_T34 l0_0 a1).f1).length : Int) then ((schema_Field.f ((rd_T34 l0_0 a1).f0) ((rd_T34 l0_0 a1).f1) ((rd_T40 ((rd_T34 l0_0 a1).f1) a2).f0)).bind fun t172 => (some (t172 == a2))) else (none)) else (none))))) else (none)) else (none)) else (none))) else (if t165 ≥ 0 then (if t165 ≥ (((rd_T34 l0_0 a1).f1).length : Int) then (none) else (if 0 ≤ t165 then (if t165 < (((rd_T34 l0_0 a1).f1).length : Int) then (if ((rd_T40 ((rd_T34 l0_0 a1).f1) t165).f0).toList = a3.toList then (if a2 < 0 then (some true) else (if a2 ≥ (((rd_T34 l0_0 a1).f1).length : Int) then (some true) else (if 0 ≤ a2 then (if a2 < (((rd_T34 l0_0 a1).f1).length : Int) then ((schema_Field.f ((rd_T34 l0_0 a1).f0) ((rd_T34 l0_0 a1).f1) ((rd_T40 ((rd_T34 l0_0 a1).f1) a2).f0)).bind fun t175 => (some (t175 == a2))) else (none)) else (none)))) else (none)) else (none)) else (none))) else (if a2 < 0 then (some true) else (if a2 ≥ (((rd_T34 l0_0 a1).f1).length : Int) then (some true) else (if 0 ≤ a2 then (if a2 < (((rd_T34 l0_0 a1).f1).length : Int) then ((schema_Field.f ((rd_T34 l0_0 a1).f0) ((rd_T34 l0_0 a1).f1) ((rd_T40 ((rd_T34 l0_0 a1).f1) a2).f0)).bind fun t177 => (some (t177 == a2))) else (none)) else (none)))))) else (none)) = some r := H
      have A29 := Aside0.mk A290
      clear A290
      by_cases c30 : t166 = a1
      ·rw [if_pos c30] at H
       have c30b0 : (t166 == a1) = true := beq_iff_eq.mpr c30
       have c30b1 : (t166 != a1) = false := bne_eq_false_iff_eq.mpr c30
       clear c30
       by_cases c31 : t164 ≥ 0
       ·rw [if_pos c31] at H
        have c31b0 : decide (0 ≤ t164) = true := decide_eq_true c31
        clear c31
        by_cases c32 : t164 ≥ (l0_0.length : Int)
        ·rw [if_pos c32] at H
         exact absurd H (by simp)
        ·rw [if_neg c32] at H
         have c32b0 : decide ((l0_0.length : Int) ≤ t164) = false := decide_eq_false c32
         clear c32
         by_cases c33 : 0 ≤ t164
         ·rw [if_pos c33] at H
          have c33b0 : decide (0 ≤ t164) = true := decide_eq_true c33
          clear c33
          by_cases c34 : t164 < (l0_0.length : Int)
          ·rw [if_pos c34] at H
           have c34b0 : decide (t164 < (l0_0.length : Int)) = true := decide_eq_true c34
           clear c34
           by_cases c35 : ((rd_T34 l0_0 t164).f0).toList = a3.toList
           ·rw [if_pos c35] at H
            have c35b0 : (((rd_T34 l0_0 t164).f0).toList == a3.toList) = true := beq_iff_eq.mpr c35
            have c35b1 : (((rd_T34 l0_0 t164).f0).toList != a3.toList) = false := bne_eq_false_iff_eq.mpr c35
            clear c35
            by_cases c36 : t165 ≥ 0
            ·rw [if_pos c36] at H
             have c36b0 : decide (0 ≤ t165) = true := decide_eq_true c36
             clear c36
             by_cases c37 : t165 ≥ (((rd_T34 l0_0 a1).f1).length : Int)
             ·rw [if_pos c37] at H
              exact absurd H (by simp)
             ·rw [if_neg c37] at H
              have c37b0 : decide ((((rd_T34 l0_0 a1).f1).length : Int) ≤ t165) = false := decide_eq_false c37
              clear c37
              by_cases c38 : 0 ≤ t165
              ·rw [if_pos c38] at H
               have c38b0 : decide (0 ≤ t165) = true := decide_eq_true c38
               clear c38
               by_cases c39 : t165 < (((rd_T34 l0_0 a1).f1).length : Int)
               ·rw [if_pos c39] at H
                have c39b0 : decide (t165 < (((rd_T34 l0_0 a1).f1).length : Int)) = true := decide_eq_true c39
                clear c39
                by_cases c40 : ((rd_T40 ((rd_T34 l0_0 a1).f1) t165).f0).toList = a3.toList
                ·rw [if_pos c40] at H
                 have c40b0 : (((rd_T40 ((rd_T34 l0_0 a1).f1) t165).f0).toList == a3.toList) = true := beq_iff_eq.mpr c40
                 have c40b1 : (((rd_T40 ((rd_T34 l0_0 a1).f1) t165).f0).toList != a3.toList) = false := bne_eq_false_iff_eq.mpr c40
                 clear c40
                 by_cases c41 : a2 < 0
                 ·rw [if_pos c41] at H
                  have c41b0 : decide (a2 < 0) = true := decide_eq_true c41
                  clear c41
                  obtain rfl := Option.some.inj H
                  have hcz42_0 : wc.cell? ⟨gb158, 0, none⟩ = some (.slice A0_0 l0_0.length c0_0) := (blk_cell BK158.out 0).trans rfl
                  have hfz42_0 := blk_frozen BK158.out 0
                  have p162 : 0 ≤ (a1 : Int) := of_decide_eq_true (by first | (with_reducible assumption) | assumption)
                  have q162 : a1 < (l0_0.length : Int) := of_decide_eq_true (by first | (with_reducible assumption) | assumption)
                  obtain ⟨ad162, A162_1, c162_1, e162, hx162_0, hx162_1, hl162_1, hi162_1⟩ := at_T34 HR0_0.out a1 p162 q162
                  cases e162
                  replace hx162_0 := (HB.out.cell (World.block_lt_of_cell? w _ hx162_0)).trans hx162_0
                  replace hx162_1 := (HB.out.cell (World.block_lt_of_cell? w _ hx162_1)).trans hx162_1
                  have HR162_1 := Aside0.mk hi162_1
                  have HC162_1 := Aside0.mk hl162_1
                  clear hi162_1 hl162_1
                  replace p162 := eq_true p162
                  replace q162 := eq_true q162
                  try go_wp2_with (first | ((with_reducible refine gate_dst (N := 11) rfl ?_); (try (refine gate_guard (by rfl) ?_; dsimp only)); refine box_event ?hg (N := 11) ?hd (cs := #[.string (⟨#[]⟩ : ByteArray), .slice none 0 0]) (t := 34) ?hr ?_; (case hd => rfl); (case hg => rfl); (case hr => first | (go_simp; done) | (go_simp; rfl)); intro gb163 hg w43 hbox hb; have n0_ := am9_ (blk_below (g := gb158) (o := .cells #[.slice (some ad162) l0_0.length c0_0] 24 (0, 0)) (by (with_reducible repeat (first | refine blk_drewN ?_ _ | refine blk_drew ?_ | refine blk_alloc ?_ _)); exact BK158.out) hb); have n1_ := am9_ (below_step (by repeat (first | (with_reducible first | exact HB.out | apply below_alloc | apply pw_below_drewN | apply below_drew1 | refine below_set ?_ GE158.out) | exact HB.out)) hb); have n2_ := am9_ (hbox); have n3_ := am9_ ((by rw [hg]; exact (below_size (by repeat (first | (with_reducible first | exact HB.out | apply below_alloc | apply pw_below_drewN | apply below_drew1 | refine below_set ?_ GE158.out) | exact HB.out))) : w.heap.size ≤ gb163)); have n4_ := am9_ ((by rw [hg]; exact (below_size (by repeat (first | (with_reducible first | exact HB.out | apply below_alloc | apply pw_below_drewN | apply below_drew1 | refine below_set ?_ GE158.out) | exact HB.out))) : w.heap.size ≤ gb163)); have n5_ := am9_ ((by rw [hg]; exact Nat.ne_of_lt (blk_lt (g := gb158) (o := .cells #[.slice (some ad162) l0_0.length c0_0] 24 (0, 0)) (by (with_reducible repeat (first | refine blk_drewN ?_ _ | refine blk_drew ?_ | refine blk_alloc ?_ _)); exact BK158.out)) : gb158 ≠ gb163)); have n6_ := am9_ ((by rw [hg]; exact Nat.ne_of_gt (blk_lt (g := gb158) (o := .cells #[.slice (some ad162) l0_0.length c0_0] 24 (0, 0)) (by (with_reducible repeat (first | refine blk_drewN ?_ _ | refine blk_drew ?_ | refine blk_alloc ?_ _)); exact BK158.out)) : gb163 ≠ gb158)); clear BK158; clear HB; have BK158 := n0_; have HB := n1_; have BK163 := n2_; have GW163 := n3_; have GE163 := n4_; have NB158_163 := n5_; have NB163_158 := n6_; clear n0_ n1_ n2_ n3_ n4_ n5_ n6_; clear hb hbox hg; have hnb44 := NB163_158.out; have hnc44 := NB158_163.out; have hcz45_0 : w43.cell? ⟨gb163, 0, none⟩ = some (.string (⟨#[]⟩ : ByteArray)) := (blk_cell BK163.out 0).trans rfl; have hcz45_1 : w43.cell? ⟨gb163, 1, none⟩ = some (.slice none 0 0) := (blk_cell BK163.out 1).trans rfl; have hfz45_0 := blk_frozen BK163.out 0; have hfz45_1 := blk_frozen BK163.out 1; have hcz46_0 : w43.cell? ⟨gb158, 0, none⟩ = some (.slice (some ad162) l0_0.length c0_0) := (blk_cell BK158.out 0).trans rfl; have hfz46_0 := blk_frozen BK158.out 0) | ((with_reducible refine gate_callee (f := 21) rfl ?_); refine goesL_ (some 47) rfl rfl Try.func21 (by kernel_rfl) rfl #[.agg #[.slice (some ad162) l0_0.length c0_0], .string a3] rfl (by (try simp only [List.map_toArray, List.map_cons, List.map_nil]); first | done | rfl | (simp only [List.length_drop, List.length_take]; rfl)) ?_; (with_reducible refine (schema_Find.calls _ _ l0_0 a3 t164 _ ?side1 ?side2 A27.out).mono ?_); (case side1 => exact Kd.C_below HR0_0.out (by repeat (first | (with_reducible first | exact HB.out | apply below_alloc | apply pw_below_drewN | apply below_drew1 | refine below_set ?_ GE158.out | refine below_set ?_ GE163.out) | exact HB.out))); (case side2 => exact HC0_0.out); rintro e w47 ⟨rfl, hb⟩; refine ⟨_, rfl, ?_⟩; have n0_ := am9_ (blk_below (g := gb158) (o := .cells #[.slice (some ad162) l0_0.length c0_0] 24 (0, 0)) (by (with_reducible repeat (first | refine blk_drewN ?_ _ | refine blk_drew ?_ | refine blk_alloc ?_ _)); refine blk_far ?_ NB158_163.out _; (with_reducible repeat (first | refine blk_drewN ?_ _ | refine blk_drew ?_ | refine blk_alloc ?_ _)); refine blk_far ?_ NB158_163.out _; (with_reducible repeat (first | refine blk_drewN ?_ _ | refine blk_drew ?_ | refine blk_alloc ?_ _)); exact BK158.out) hb); have n1_ := am9_ (blk_below (g := gb163) (o := .cells #[.string ((rd_T34 l0_0 a1).f0), .slice A162_1 ((rd_T34 l0_0 a1).f1).length c162_1] 34 (0, 0)) (by (with_reducible repeat (first | refine blk_drewN ?_ _ | refine blk_drew ?_ | refine blk_alloc ?_ _)); refine blk_put (cs := #[.string ((rd_T34 l0_0 a1).f0), .slice none 0 0]) ?_ 1 _ rfl; (with_reducible repeat (first | refine blk_drewN ?_ _ | refine blk_drew ?_ | refine blk_alloc ?_ _)); refine blk_put (cs := #[.string (⟨#[]⟩ : ByteArray), .slice none 0 0]) ?_ 0 _ rfl; (with_reducible repeat (first | refine blk_drewN ?_ _ | refine blk_drew ?_ | refine blk_alloc ?_ _)); exact BK163.out) hb); have n2_ := am9_ (below_step (by repeat (first | (with_reducible first | exact HB.out | apply below_alloc | apply pw_below_drewN | apply below_drew1 | refine below_set ?_ GE158.out | refine below_set ?_ GE163.out) | exact HB.out)) hb); clear BK158; clear BK163; clear HB; have BK158 := n0_; have BK163 := n1_; have HB := n2_; clear n0_ n1_ n2_; (try clear hb); (try clear hb2); (try clear hk); (try clear hi); have hcz48_0 : w47.cell? ⟨gb163, 0, none⟩ = some (.string ((rd_T34 l0_0 a1).f0)) := (blk_cell BK163.out 0).trans rfl; have hcz48_1 : w47.cell? ⟨gb163, 1, none⟩ = some (.slice A162_1 ((rd_T34 l0_0 a1).f1).length c162_1) := (blk_cell BK163.out 1).trans rfl; have hfz48_0 := blk_frozen BK163.out 0; have hfz48_1 := blk_frozen BK163.out 1) | ((with_reducible refine gate_callee (f := 15) rfl ?_); refine goesL_ (some 50) rfl rfl Try.func15 (by kernel_rfl) rfl #[.agg #[.string ((rd_T34 l0_0 a1).f0), .slice A162_1 ((rd_T34 l0_0 a1).f1).length c162_1], .string a3] rfl (by (try simp only [List.map_toArray, List.map_cons, List.map_nil]); first | done | rfl | (simp only [List.length_drop, List.length_take]; rfl)) ?_; (with_reducible refine (schema_Field.calls ((rd_T34 l0_0 a1).f0) _ _ ((rd_T34 l0_0 a1).f1) a3 t165 _ ?side1 ?side2 A28.out).mono ?_); (case side1 => repeat (first | exact (Kd.C_below HR162_1.out HB.out) | (with_reducible first | refine ca9_ ?_ _ | refine cn9_ ?_ _ | refine cd9_ ?_))); (case side2 => exact HC162_1.out); rintro e w49 ⟨rfl, hb⟩; refine ⟨_, rfl, ?_⟩; have n0_ := am9_ (blk_below (g := gb158) (o := .cells #[.slice (some ad162) l0_0.length c0_0] 24 (0, 0)) (by (with_reducible repeat (first | refine blk_drewN ?_ _ | refine blk_drew ?_ | refine blk_alloc ?_ _)); exact BK158.out) hb); have n1_ := am9_ (blk_below (g := gb163) (o := .cells #[.string ((rd_T34 l0_0 a1).f0), .slice A162_1 ((rd_T34 l0_0 a1).f1).length c162_1] 34 (0, 0)) (by (with_reducible repeat (first | refine blk_drewN ?_ _ | refine blk_drew ?_ | refine blk_alloc ?_ _)); exact BK163.out) hb); have n2_ := am9_ (below_step (by repeat (first | (with_reducible first | exact HB.out | apply below_alloc | apply pw_below_drewN | apply below_drew1 | refine below_set ?_ GE158.out | refine below_set ?_ GE163.out) | exact HB.out)) hb); clear BK158; clear BK163; clear HB; have BK158 := n0_; have BK163 := n1_; have HB := n2_; clear n0_ n1_ n2_; (try clear hb); (try clear hb2); (try clear hk); (try clear hi); have hcz50_0 : w49.cell? ⟨gb158, 0, none⟩ = some (.slice (some ad162) l0_0.length c0_0) := (blk_cell BK158.out 0).trans rfl; have hfz50_0 := blk_frozen BK158.out 0; have hcz51_0 : w49.cell? ⟨gb163, 0, none⟩ = some (.string ((rd_T34 l0_0 a1).f0)) := (blk_cell BK163.out 0).trans rfl; have hcz51_1 : w49.cell? ⟨gb163, 1, none⟩ = some (.slice A162_1 ((rd_T34 l0_0 a1).f1).length c162_1) := (blk_cell BK163.out 1).trans rfl; have hfz51_0 := blk_frozen BK163.out 0; have hfz51_1 := blk_frozen BK163.out 1) | ((with_reducible refine gate_callee (f := 21) rfl ?_); refine goesL_ (some 54) rfl rfl Try.func21 (by kernel_rfl) rfl #[.agg #[.slice (some ad162) l0_0.length c0_0], .string ((rd_T34 l0_0 a1).f0)] rfl (by (try simp only [List.map_toArray, List.map_cons, List.map_nil]); first | done | rfl | (simp only [List.length_drop, List.length_take]; rfl)) ?_; (with_reducible refine (schema_Find.calls _ _ l0_0 ((rd_T34 l0_0 a1).f0) t166 _ ?side1 ?side2 A29.out).mono ?_); (case side1 => repeat (first | exact (Kd.C_below HR0_0.out HB.out) | (with_reducible first | refine ca9_ ?_ _ | refine cn9_ ?_ _ | refine cd9_ ?_))); (case side2 => exact HC0_0.out); rintro e w52 ⟨rfl, hb⟩; refine ⟨_, rfl, ?_⟩; have n0_ := am9_ (blk_below (g := gb158) (o := .cells #[.slice (some ad162) l0_0.length c0_0] 24 (0, 0)) (by (with_reducible repeat (first | refine blk_drewN ?_ _ | refine blk_drew ?_ | refine blk_alloc ?_ _)); exact BK158.out) hb); have n1_ := am9_ (blk_below (g := gb163) (o := .cells #[.string ((rd_T34 l0_0 a1).f0), .slice A162_1 ((rd_T34 l0_0 a1).f1).length c162_1] 34 (0, 0)) (by (with_reducible repeat (first | refine blk_drewN ?_ _ | refine blk_drew ?_ | refine blk_alloc ?_ _)); exact BK163.out) hb); have n2_ := am9_ (below_step (by repeat (first | (with_reducible first | exact HB.out | apply below_alloc | apply pw_below_drewN | apply below_drew1 | refine below_set ?_ GE158.out | refine below_set ?_ GE163.out) | exact HB.out)) hb); clear BK158; clear BK163; clear HB; have BK158 := n0_; have BK163 := n1_; have HB := n2_; clear n0_ n1_ n2_; (try clear hb); (try clear hb2); (try clear hk); (try clear hi); have hcz53_0 : w52.cell? ⟨gb158, 0, none⟩ = some (.slice (some ad162) l0_0.length c0_0) := (blk_cell BK158.out 0).trans rfl; have hfz53_0 := blk_frozen BK158.out 0; have p167 : 0 ≤ (t164 : Int) := of_decide_eq_true (by first | (with_reducible assumption) | assumption); have q167 : t164 < (l0_0.length : Int) := of_decide_eq_true (by first | (with_reducible assumption) | assumption); obtain ⟨ad167, A167_1, c167_1, e167, hx167_0, hx167_1, hl167_1, hi167_1⟩ := at_T34 HR0_0.out t164 p167 q167; obtain rfl : ad162 = ad167 := (by injection e167); replace hx167_0 := (HB.out.cell (World.block_lt_of_cell? w _ hx167_0)).trans hx167_0; replace hx167_1 := (HB.out.cell (World.block_lt_of_cell? w _ hx167_1)).trans hx167_1; have HR167_1 := Aside0.mk hi167_1; have HC167_1 := Aside0.mk hl167_1; clear hi167_1 hl167_1; replace p167 := eq_true p167; replace q167 := eq_true q167; have hcz54_0 : w52.cell? ⟨gb163, 0, none⟩ = some (.string ((rd_T34 l0_0 a1).f0)) := (blk_cell BK163.out 0).trans rfl; have hcz54_1 : w52.cell? ⟨gb163, 1, none⟩ = some (.slice A162_1 ((rd_T34 l0_0 a1).f1).length c162_1) := (blk_cell BK163.out 1).trans rfl; have hfz54_0 := blk_frozen BK163.out 0; have hfz54_1 := blk_frozen BK163.out 1; have p168 : 0 ≤ (t165 : Int) := of_decide_eq_true (by first | (with_reducible assumption) | assumption); have q168 : t165 < (((rd_T34 l0_0 a1).f1).length : Int) := of_decide_eq_true (by first | (with_reducible assumption) | assumption); obtain ⟨ad168, e168, hx168_0, hx168_1, hx168_2⟩ := at_T40 HR162_1.out t165 p168 q168; cases e168; replace hx168_0 := (HB.out.cell (World.block_lt_of_cell? w _ hx168_0)).trans hx168_0; replace hx168_1 := (HB.out.cell (World.block_lt_of_cell? w _ hx168_1)).trans hx168_1; replace hx168_2 := (HB.out.cell (World.block_lt_of_cell? w _ hx168_2)).trans hx168_2; replace p168 := eq_true p168; replace q168 := eq_true q168))
                  have n0_ := am9_ (blk_drew BK158.out)
                  have n1_ := am9_ (blk_drew BK163.out)
                  have n2_ := am9_ (below_drew1 HB.out)
                  clear BK158
                  clear BK163
                  clear HB
                  have BK158 := n0_
                  have BK163 := n1_
                  have HB := n2_
                  clear n0_ n1_ n2_
                  refine start_ (n := 22) (S := fun w' => True) (ds := []) B9_0 (by kernel_rfl) rfl rfl trivial (fun hHeld => ?_); refine with_tabW foliatelaw06_SchemaNames.tab10 foliatelaw06_SchemaNames.bits10 (fun HT_ HW_ => ?_)
                  generalize w52.drew = w55 at BK158 BK163 HB hHeld ⊢
                  refine pure_ (i := 0) (N := some 99) (v := ?_) (a' := ?_) B9_1 rfl rfl (any_of HT_.out (by kernel_rfl)) (fun _ _ _ h => h) (Or.inl ⟨by rfl, ?_⟩) ?_ ?_; rotate_left; (·intro w'; go_simp; with_reducible rfl); rotate_left; (·simp only [Act.put, q1_9, q2_9, q3_9, i64_w, i32_w]; rfl)
                  refine pure_ (i := 1) (N := some 100) (v := ?_) (a' := ?_) B9_2 rfl rfl (any_of HT_.out (by kernel_rfl)) (fun _ _ _ h => h) (Or.inl ⟨by rfl, ?_⟩) ?_ ?_; rotate_left; (·intro w'; go_simp; with_reducible rfl); rotate_left; (·simp only [Act.put, q1_9, q2_9, q3_9, i64_w, i32_w]; rfl)
                  refine pure_ (i := 2) (N := some 101) (v := ?_) (a' := ?_) B9_3 rfl rfl (any_of HT_.out (by kernel_rfl)) (fun _ _ _ h => h) (Or.inl ⟨by rfl, ?_⟩) ?_ ?_; rotate_left; (·intro w'; go_simp; with_reducible rfl); rotate_left; (·simp only [Act.put, q1_9, q2_9, q3_9, i64_w, i32_w]; rfl)
                  refine pure_ (i := 3) (N := some 102) (v := undef) (a' := ?_) B9_4 rfl rfl (any_of HT_.out (by kernel_rfl)) (fun _ _ _ h => h) (Or.inr ⟨by rfl, rfl⟩) ?_ ?_
                  rotate_left
                  ·simp only [Act.put, q1_9, q2_9, q3_9, i64_w, i32_w]
                   rfl
                  refine pure_ (i := 4) (N := some 103) (v := undef) (a' := ?_) B9_5 rfl rfl (any_of HT_.out (by kernel_rfl)) (fun _ _ _ h => h) (Or.inr ⟨by rfl, rfl⟩) ?_ ?_
                  rotate_left
                  ·simp only [Act.put, q1_9, q2_9, q3_9, i64_w, i32_w]
                   rfl
                  refine pure_ (i := 5) (N := some 104) (v := undef) (a' := ?_) B9_6 rfl rfl (any_of HT_.out (by kernel_rfl)) (fun _ _ _ h => h) (Or.inr ⟨by rfl, rfl⟩) ?_ ?_
                  rotate_left
                  ·simp only [Act.put, q1_9, q2_9, q3_9, i64_w, i32_w]
                   rfl
                  refine pure_ (i := 6) (N := some 105) (v := undef) (a' := ?_) B9_7 rfl rfl (any_of HT_.out (by kernel_rfl)) (fun _ _ _ h => h) (Or.inr ⟨by rfl, rfl⟩) ?_ ?_
                  rotate_left
                  ·simp only [Act.put, q1_9, q2_9, q3_9, i64_w, i32_w]
                   rfl
                  refine pure_ (i := 7) (N := some 106) (v := undef) (a' := ?_) B9_8 rfl rfl (any_of HT_.out (by kernel_rfl)) (fun _ _ _ h => h) (Or.inr ⟨by rfl, rfl⟩) ?_ ?_
                  rotate_left
                  ·simp only [Act.put, q1_9, q2_9, q3_9, i64_w, i32_w]
                   rfl
                  refine pure_ (i := 8) (N := some 107) (v := ?_) (a' := ?_) B9_9 rfl rfl (any_of HT_.out (by kernel_rfl)) (fun _ _ _ h => h) (Or.inl ⟨by rfl, ?_⟩) ?_ ?_; rotate_left; (·intro w'; go_simp; with_reducible rfl); rotate_left; (·simp only [Act.put, q1_9, q2_9, q3_9, i64_w, i32_w]; rfl)
                  refine pure_ (i := 9) (N := some 108) (v := ?_) (a' := ?_) B9_10 rfl rfl (any_of HT_.out (by kernel_rfl)) (fun _ _ _ h => h) (Or.inl ⟨by rfl, ?_⟩) ?_ ?_; rotate_left; (·intro w'; go_simp; with_reducible rfl); rotate_left; (·simp only [Act.put, q1_9, q2_9, q3_9, i64_w, i32_w]; rfl)
                  refine pure_ (i := 10) (N := some 109) (v := undef) (a' := ?_) B9_14 rfl rfl (any_of HT_.out (by kernel_rfl)) (fun _ _ _ h => h) (Or.inr ⟨by rfl, rfl⟩) ?_ ?_
                  rotate_left
                  ·simp only [Act.put, q1_9, q2_9, q3_9, i64_w, i32_w]
                   rfl
                  refine pure_ (i := 11) (N := some 110) (v := undef) (a' := ?_) B9_15 rfl rfl (any_of HT_.out (by kernel_rfl)) (fun _ _ _ h => h) (Or.inr ⟨by rfl, rfl⟩) ?_ ?_
                  rotate_left
                  ·simp only [Act.put, q1_9, q2_9, q3_9, i64_w, i32_w]
                   rfl
                  refine pure_ (i := 12) (N := some 111) (v := undef) (a' := ?_) B9_17 rfl rfl (any_of HT_.out (by kernel_rfl)) (fun _ _ _ h => h) (Or.inr ⟨by rfl, rfl⟩) ?_ ?_
                  rotate_left
                  ·simp only [Act.put, q1_9, q2_9, q3_9, i64_w, i32_w]
                   rfl
                  refine pure_ (i := 13) (N := some 112) (v := undef) (a' := ?_) B9_18 rfl rfl (any_of HT_.out (by kernel_rfl)) (fun _ _ _ h => h) (Or.inr ⟨by rfl, rfl⟩) ?_ ?_
                  rotate_left
                  ·simp only [Act.put, q1_9, q2_9, q3_9, i64_w, i32_w]
                   rfl
                  refine pure_ (i := 14) (N := some 113) (v := undef) (a' := ?_) B9_20 rfl rfl (any_of HT_.out (by kernel_rfl)) (fun _ _ _ h => h) (Or.inr ⟨by rfl, rfl⟩) ?_ ?_
                  rotate_left
                  ·simp only [Act.put, q1_9, q2_9, q3_9, i64_w, i32_w]
                   rfl
                  refine pure_ (i := 15) (N := some 114) (v := undef) (a' := ?_) B9_22 rfl rfl (any_of HT_.out (by kernel_rfl)) (fun _ _ _ h => h) (Or.inr ⟨by rfl, rfl⟩) ?_ ?_
                  rotate_left
                  ·simp only [Act.put, q1_9, q2_9, q3_9, i64_w, i32_w]
                   rfl
                  refine pure_ (i := 16) (N := some 115) (v := undef) (a' := ?_) B9_24 rfl rfl (any_of HT_.out (by kernel_rfl)) (fun _ _ _ h => h) (Or.inr ⟨by rfl, rfl⟩) ?_ ?_
                  rotate_left
                  ·simp only [Act.put, q1_9, q2_9, q3_9, i64_w, i32_w]
                   rfl
                  refine pure_ (i := 17) (N := some 116) (v := undef) (a' := ?_) B9_26 rfl rfl (any_of HT_.out (by kernel_rfl)) (fun _ _ _ h => h) (Or.inr ⟨by rfl, rfl⟩) ?_ ?_
                  rotate_left
                  ·simp only [Act.put, q1_9, q2_9, q3_9, i64_w, i32_w]
                   rfl
                  refine pure_ (i := 18) (N := some 117) (v := undef) (a' := ?_) B9_27 rfl rfl (any_of HT_.out (by kernel_rfl)) (fun _ _ _ h => h) (Or.inr ⟨by rfl, rfl⟩) ?_ ?_
                  rotate_left
                  ·simp only [Act.put, q1_9, q2_9, q3_9, i64_w, i32_w]
                   rfl
                  refine pure_ (i := 19) (N := some 118) (v := undef) (a' := ?_) B9_28 rfl rfl (any_of HT_.out (by kernel_rfl)) (fun _ _ _ h => h) (Or.inr ⟨by rfl, rfl⟩) ?_ ?_
                  rotate_left
                  ·simp only [Act.put, q1_9, q2_9, q3_9, i64_w, i32_w]
                   rfl
                  refine pure_ (i := 20) (N := some 119) (v := ?_) (a' := ?_) B9_29 rfl rfl (any_of HT_.out (by kernel_rfl)) (fun _ _ _ h => h) (Or.inl ⟨by rfl, ?_⟩) ?_ ?_; rotate_left; (·intro w'; go_simp; with_reducible rfl); rotate_left; (·simp only [Act.put, q1_9, q2_9, q3_9, i64_w, i32_w]; rfl)
                  refine pure_ (i := 21) (N := some 8) (v := ?_) (a' := ?_) B9_30 rfl rfl (any_of HT_.out (by kernel_rfl)) (fun _ _ _ h => h) (Or.inl ⟨by rfl, ?_⟩) ?_ ?_; rotate_left; (·intro w'; go_simp; with_reducible rfl); rotate_left; (·simp only [Act.put, q1_9, q2_9, q3_9, i64_w, i32_w]; rfl)
                  refine done_ (done_of HT_.out (by kernel_rfl)) ?_
                  try go_wp2
                  go_ret
                  exact ⟨by first | rfl | (simp [errW_none, errW_some] <;> rfl) | (simp [*, errW_none, errW_some] <;> rfl), by repeat (first | (with_reducible first | exact HB.out | apply below_alloc | apply pw_below_drewN | apply below_drew1 | refine below_set ?_ GE158.out | refine below_set ?_ GE163.out) | exact HB.out)⟩
                 ·rw [if_neg c41] at H
                  have c41b0 : decide (a2 < 0) = false := decide_eq_false c41
                  clear c41
                  by_cases c56 : a2 ≥ (((rd_T34 l0_0 a1).f1).length : Int)
                  ·rw [if_pos c56] at H
                   have c56b0 : decide ((((rd_T34 l0_0 a1).f1).length : Int) ≤ a2) = true := decide_eq_true c56
                   clear c56
                   obtain rfl := Option.some.inj H
                   have hcz57_0 : wc.cell? ⟨gb158, 0, none⟩ = some (.slice A0_0 l0_0.length c0_0) := (blk_cell BK158.out 0).trans rfl
                   have hfz57_0 := blk_frozen BK158.out 0
                   have p162 : 0 ≤ (a1 : Int) := of_decide_eq_true (by first | (with_reducible assumption) | assumption)
                   have q162 : a1 < (l0_0.length : Int) := of_decide_eq_true (by first | (with_reducible assumption) | assumption)
                   obtain ⟨ad162, A162_1, c162_1, e162, hx162_0, hx162_1, hl162_1, hi162_1⟩ := at_T34 HR0_0.out a1 p162 q162
                   cases e162
                   replace hx162_0 := (HB.out.cell (World.block_lt_of_cell? w _ hx162_0)).trans hx162_0
                   replace hx162_1 := (HB.out.cell (World.block_lt_of_cell? w _ hx162_1)).trans hx162_1
                   have HR162_1 := Aside0.mk hi162_1
                   have HC162_1 := Aside0.mk hl162_1
                   clear hi162_1 hl162_1
                   replace p162 := eq_true p162
                   replace q162 := eq_true q162
                   try go_wp2_with (first | ((with_reducible refine gate_dst (N := 11) rfl ?_); (try (refine gate_guard (by rfl) ?_; dsimp only)); refine box_event ?hg (N := 11) ?hd (cs := #[.string (⟨#[]⟩ : ByteArray), .slice none 0 0]) (t := 34) ?hr ?_; (case hd => rfl); (case hg => rfl); (case hr => first | (go_simp; done) | (go_simp; rfl)); intro gb163 hg w58 hbox hb; have n0_ := am9_ (blk_below (g := gb158) (o := .cells #[.slice (some ad162) l0_0.length c0_0] 24 (0, 0)) (by (with_reducible repeat (first | refine blk_drewN ?_ _ | refine blk_drew ?_ | refine blk_alloc ?_ _)); exact BK158.out) hb); have n1_ := am9_ (below_step (by repeat (first | (with_reducible first | exact HB.out | apply below_alloc | apply pw_below_drewN | apply below_drew1 | refine below_set ?_ GE158.out) | exact HB.out)) hb); have n2_ := am9_ (hbox); have n3_ := am9_ ((by rw [hg]; exact (below_size (by repeat (first | (with_reducible first | exact HB.out | apply below_alloc | apply pw_below_drewN | apply below_drew1 | refine below_set ?_ GE158.out) | exact HB.out))) : w.heap.size ≤ gb163)); have n4_ := am9_ ((by rw [hg]; exact (below_size (by repeat (first | (with_reducible first | exact HB.out | apply below_alloc | apply pw_below_drewN | apply below_drew1 | refine below_set ?_ GE158.out) | exact HB.out))) : w.heap.size ≤ gb163)); have n5_ := am9_ ((by rw [hg]; exact Nat.ne_of_lt (blk_lt (g := gb158) (o := .cells #[.slice (some ad162) l0_0.length c0_0] 24 (0, 0)) (by (with_reducible repeat (first | refine blk_drewN ?_ _ | refine blk_drew ?_ | refine blk_alloc ?_ _)); exact BK158.out)) : gb158 ≠ gb163)); have n6_ := am9_ ((by rw [hg]; exact Nat.ne_of_gt (blk_lt (g := gb158) (o := .cells #[.slice (some ad162) l0_0.length c0_0] 24 (0, 0)) (by (with_reducible repeat (first | refine blk_drewN ?_ _ | refine blk_drew ?_ | refine blk_alloc ?_ _)); exact BK158.out)) : gb163 ≠ gb158)); clear BK158; clear HB; have BK158 := n0_; have HB := n1_; have BK163 := n2_; have GW163 := n3_; have GE163 := n4_; have NB158_163 := n5_; have NB163_158 := n6_; clear n0_ n1_ n2_ n3_ n4_ n5_ n6_; clear hb hbox hg; have hnb59 := NB163_158.out; have hnc59 := NB158_163.out; have hcz60_0 : w58.cell? ⟨gb163, 0, none⟩ = some (.string (⟨#[]⟩ : ByteArray)) := (blk_cell BK163.out 0).trans rfl; have hcz60_1 : w58.cell? ⟨gb163, 1, none⟩ = some (.slice none 0 0) := (blk_cell BK163.out 1).trans rfl; have hfz60_0 := blk_frozen BK163.out 0; have hfz60_1 := blk_frozen BK163.out 1; have hcz61_0 : w58.cell? ⟨gb158, 0, none⟩ = some (.slice (some ad162) l0_0.length c0_0) := (blk_cell BK158.out 0).trans rfl; have hfz61_0 := blk_frozen BK158.out 0) | ((with_reducible refine gate_callee (f := 21) rfl ?_); refine goesL_ (some 47) rfl rfl Try.func21 (by kernel_rfl) rfl #[.agg #[.slice (some ad162) l0_0.length c0_0], .string a3] rfl (by (try simp only [List.map_toArray, List.map_cons, List.map_nil]); first | done | rfl | (simp only [List.length_drop, List.length_take]; rfl)) ?_; (with_reducible refine (schema_Find.calls _ _ l0_0 a3 t164 _ ?side1 ?side2 A27.out).mono ?_); (case side1 => exact Kd.C_below HR0_0.out (by repeat (first | (with_reducible first | exact HB.out | apply below_alloc | apply pw_below_drewN | apply below_drew1 | refine below_set ?_ GE158.out | refine below_set ?_ GE163.out) | exact HB.out))); (case side2 => exact HC0_0.out); rintro e w62 ⟨rfl, hb⟩; refine ⟨_, rfl, ?_⟩; have n0_ := am9_ (blk_below (g := gb158) (o := .cells #[.slice (some ad162) l0_0.length c0_0] 24 (0, 0)) (by (with_reducible repeat (first | refine blk_drewN ?_ _ | refine blk_drew ?_ | refine blk_alloc ?_ _)); refine blk_far ?_ NB158_163.out _; (with_reducible repeat (first | refine blk_drewN ?_ _ | refine blk_drew ?_ | refine blk_alloc ?_ _)); refine blk_far ?_ NB158_163.out _; (with_reducible repeat (first | refine blk_drewN ?_ _ | refine blk_drew ?_ | refine blk_alloc ?_ _)); exact BK158.out) hb); have n1_ := am9_ (blk_below (g := gb163) (o := .cells #[.string ((rd_T34 l0_0 a1).f0), .slice A162_1 ((rd_T34 l0_0 a1).f1).length c162_1] 34 (0, 0)) (by (with_reducible repeat (first | refine blk_drewN ?_ _ | refine blk_drew ?_ | refine blk_alloc ?_ _)); refine blk_put (cs := #[.string ((rd_T34 l0_0 a1).f0), .slice none 0 0]) ?_ 1 _ rfl; (with_reducible repeat (first | refine blk_drewN ?_ _ | refine blk_drew ?_ | refine blk_alloc ?_ _)); refine blk_put (cs := #[.string (⟨#[]⟩ : ByteArray), .slice none 0 0]) ?_ 0 _ rfl; (with_reducible repeat (first | refine blk_drewN ?_ _ | refine blk_drew ?_ | refine blk_alloc ?_ _)); exact BK163.out) hb); have n2_ := am9_ (below_step (by repeat (first | (with_reducible first | exact HB.out | apply below_alloc | apply pw_below_drewN | apply below_drew1 | refine below_set ?_ GE158.out | refine below_set ?_ GE163.out) | exact HB.out)) hb); clear BK158; clear BK163; clear HB; have BK158 := n0_; have BK163 := n1_; have HB := n2_; clear n0_ n1_ n2_; (try clear hb); (try clear hb2); (try clear hk); (try clear hi); have hcz63_0 : w62.cell? ⟨gb163, 0, none⟩ = some (.string ((rd_T34 l0_0 a1).f0)) := (blk_cell BK163.out 0).trans rfl; have hcz63_1 : w62.cell? ⟨gb163, 1, none⟩ = some (.slice A162_1 ((rd_T34 l0_0 a1).f1).length c162_1) := (blk_cell BK163.out 1).trans rfl; have hfz63_0 := blk_frozen BK163.out 0; have hfz63_1 := blk_frozen BK163.out 1) | ((with_reducible refine gate_callee (f := 15) rfl ?_); refine goesL_ (some 50) rfl rfl Try.func15 (by kernel_rfl) rfl #[.agg #[.string ((rd_T34 l0_0 a1).f0), .slice A162_1 ((rd_T34 l0_0 a1).f1).length c162_1], .string a3] rfl (by (try simp only [List.map_toArray, List.map_cons, List.map_nil]); first | done | rfl | (simp only [List.length_drop, List.length_take]; rfl)) ?_; (with_reducible refine (schema_Field.calls ((rd_T34 l0_0 a1).f0) _ _ ((rd_T34 l0_0 a1).f1) a3 t165 _ ?side1 ?side2 A28.out).mono ?_); (case side1 => repeat (first | exact (Kd.C_below HR162_1.out HB.out) | (with_reducible first | refine ca9_ ?_ _ | refine cn9_ ?_ _ | refine cd9_ ?_))); (case side2 => exact HC162_1.out); rintro e w64 ⟨rfl, hb⟩; refine ⟨_, rfl, ?_⟩; have n0_ := am9_ (blk_below (g := gb158) (o := .cells #[.slice (some ad162) l0_0.length c0_0] 24 (0, 0)) (by (with_reducible repeat (first | refine blk_drewN ?_ _ | refine blk_drew ?_ | refine blk_alloc ?_ _)); exact BK158.out) hb); have n1_ := am9_ (blk_below (g := gb163) (o := .cells #[.string ((rd_T34 l0_0 a1).f0), .slice A162_1 ((rd_T34 l0_0 a1).f1).length c162_1] 34 (0, 0)) (by (with_reducible repeat (first | refine blk_drewN ?_ _ | refine blk_drew ?_ | refine blk_alloc ?_ _)); exact BK163.out) hb); have n2_ := am9_ (below_step (by repeat (first | (with_reducible first | exact HB.out | apply below_alloc | apply pw_below_drewN | apply below_drew1 | refine below_set ?_ GE158.out | refine below_set ?_ GE163.out) | exact HB.out)) hb); clear BK158; clear BK163; clear HB; have BK158 := n0_; have BK163 := n1_; have HB := n2_; clear n0_ n1_ n2_; (try clear hb); (try clear hb2); (try clear hk); (try clear hi); have hcz65_0 : w64.cell? ⟨gb158, 0, none⟩ = some (.slice (some ad162) l0_0.length c0_0) := (blk_cell BK158.out 0).trans rfl; have hfz65_0 := blk_frozen BK158.out 0; have hcz66_0 : w64.cell? ⟨gb163, 0, none⟩ = some (.string ((rd_T34 l0_0 a1).f0)) := (blk_cell BK163.out 0).trans rfl; have hcz66_1 : w64.cell? ⟨gb163, 1, none⟩ = some (.slice A162_1 ((rd_T34 l0_0 a1).f1).length c162_1) := (blk_cell BK163.out 1).trans rfl; have hfz66_0 := blk_frozen BK163.out 0; have hfz66_1 := blk_frozen BK163.out 1) | ((with_reducible refine gate_callee (f := 21) rfl ?_); refine goesL_ (some 54) rfl rfl Try.func21 (by kernel_rfl) rfl #[.agg #[.slice (some ad162) l0_0.length c0_0], .string ((rd_T34 l0_0 a1).f0)] rfl (by (try simp only [List.map_toArray, List.map_cons, List.map_nil]); first | done | rfl | (simp only [List.length_drop, List.length_take]; rfl)) ?_; (with_reducible refine (schema_Find.calls _ _ l0_0 ((rd_T34 l0_0 a1).f0) t166 _ ?side1 ?side2 A29.out).mono ?_); (case side1 => repeat (first | exact (Kd.C_below HR0_0.out HB.out) | (with_reducible first | refine ca9_ ?_ _ | refine cn9_ ?_ _ | refine cd9_ ?_))); (case side2 => exact HC0_0.out); rintro e w67 ⟨rfl, hb⟩; refine ⟨_, rfl, ?_⟩; have n0_ := am9_ (blk_below (g := gb158) (o := .cells #[.slice (some ad162) l0_0.length c0_0] 24 (0, 0)) (by (with_reducible repeat (first | refine blk_drewN ?_ _ | refine blk_drew ?_ | refine blk_alloc ?_ _)); exact BK158.out) hb); have n1_ := am9_ (blk_below (g := gb163) (o := .cells #[.string ((rd_T34 l0_0 a1).f0), .slice A162_1 ((rd_T34 l0_0 a1).f1).length c162_1] 34 (0, 0)) (by (with_reducible repeat (first | refine blk_drewN ?_ _ | refine blk_drew ?_ | refine blk_alloc ?_ _)); exact BK163.out) hb); have n2_ := am9_ (below_step (by repeat (first | (with_reducible first | exact HB.out | apply below_alloc | apply pw_below_drewN | apply below_drew1 | refine below_set ?_ GE158.out | refine below_set ?_ GE163.out) | exact HB.out)) hb); clear BK158; clear BK163; clear HB; have BK158 := n0_; have BK163 := n1_; have HB := n2_; clear n0_ n1_ n2_; (try clear hb); (try clear hb2); (try clear hk); (try clear hi); have hcz68_0 : w67.cell? ⟨gb158, 0, none⟩ = some (.slice (some ad162) l0_0.length c0_0) := (blk_cell BK158.out 0).trans rfl; have hfz68_0 := blk_frozen BK158.out 0; have p167 : 0 ≤ (t164 : Int) := of_decide_eq_true (by first | (with_reducible assumption) | assumption); have q167 : t164 < (l0_0.length : Int) := of_decide_eq_true (by first | (with_reducible assumption) | assumption); obtain ⟨ad167, A167_1, c167_1, e167, hx167_0, hx167_1, hl167_1, hi167_1⟩ := at_T34 HR0_0.out t164 p167 q167; obtain rfl : ad162 = ad167 := (by injection e167); replace hx167_0 := (HB.out.cell (World.block_lt_of_cell? w _ hx167_0)).trans hx167_0; replace hx167_1 := (HB.out.cell (World.block_lt_of_cell? w _ hx167_1)).trans hx167_1; have HR167_1 := Aside0.mk hi167_1; have HC167_1 := Aside0.mk hl167_1; clear hi167_1 hl167_1; replace p167 := eq_true p167; replace q167 := eq_true q167; have hcz69_0 : w67.cell? ⟨gb163, 0, none⟩ = some (.string ((rd_T34 l0_0 a1).f0)) := (blk_cell BK163.out 0).trans rfl; have hcz69_1 : w67.cell? ⟨gb163, 1, none⟩ = some (.slice A162_1 ((rd_T34 l0_0 a1).f1).length c162_1) := (blk_cell BK163.out 1).trans rfl; have hfz69_0 := blk_frozen BK163.out 0; have hfz69_1 := blk_frozen BK163.out 1; have p168 : 0 ≤ (t165 : Int) := of_decide_eq_true (by first | (with_reducible assumption) | assumption); have q168 : t165 < (((rd_T34 l0_0 a1).f1).length : Int) := of_decide_eq_true (by first | (with_reducible assumption) | assumption); obtain ⟨ad168, e168, hx168_0, hx168_1, hx168_2⟩ := at_T40 HR162_1.out t165 p168 q168; cases e168; replace hx168_0 := (HB.out.cell (World.block_lt_of_cell? w _ hx168_0)).trans hx168_0; replace hx168_1 := (HB.out.cell (World.block_lt_of_cell? w _ hx168_1)).trans hx168_1; replace hx168_2 := (HB.out.cell (World.block_lt_of_cell? w _ hx168_2)).trans hx168_2; replace p168 := eq_true p168; replace q168 := eq_true q168))
                   have n0_ := am9_ (blk_drew BK158.out)
                   have n1_ := am9_ (blk_drew BK163.out)
                   have n2_ := am9_ (below_drew1 HB.out)
                   clear BK158
                   clear BK163
                   clear HB
                   have BK158 := n0_
                   have BK163 := n1_
                   have HB := n2_
                   clear n0_ n1_ n2_
                   refine start_ (n := 22) (S := fun w' => w'.cell? ⟨gb163, 0, none⟩ = some (.string ((rd_T34 l0_0 a1).f0)) ∧ w'.cell? ⟨gb163, 1, none⟩ = some (.slice (some ad168) ((rd_T34 l0_0 a1).f1).length c162_1)) (ds := []) B9_0 (by kernel_rfl) rfl rfl ⟨(blk_cell BK163.out 0).trans rfl, (blk_cell BK163.out 1).trans rfl⟩ (fun hHeld => ?_); refine with_tabW foliatelaw06_SchemaNames.tab10 foliatelaw06_SchemaNames.bits10 (fun HT_ HW_ => ?_)
                   generalize w67.drew = w70 at BK158 BK163 HB hHeld ⊢
                   refine pure_ (i := 0) (N := some 99) (v := ?_) (a' := ?_) B9_1 rfl rfl (any_of HT_.out (by kernel_rfl)) (fun _ _ _ h => h) (Or.inl ⟨by rfl, ?_⟩) ?_ ?_; rotate_left; (·intro w'; go_simp; with_reducible rfl); rotate_left; (·simp only [Act.put, q1_9, q2_9, q3_9, i64_w, i32_w]; rfl)
                   refine pure_ (i := 1) (N := some 100) (v := ?_) (a' := ?_) B9_2 rfl rfl (any_of HT_.out (by kernel_rfl)) (fun _ _ _ h => h) (Or.inl ⟨by rfl, ?_⟩) ?_ ?_; rotate_left; (·intro w'; go_simp; with_reducible rfl); rotate_left; (·simp only [Act.put, q1_9, q2_9, q3_9, i64_w, i32_w]; rfl)
                   refine pure_ (i := 2) (N := some 101) (v := ?_) (a' := ?_) B9_3 rfl rfl (any_of HT_.out (by kernel_rfl)) (fun _ _ _ h => h) (Or.inl ⟨by rfl, ?_⟩) ?_ ?_; rotate_left; (·intro w'; go_simp; with_reducible rfl); rotate_left; (·simp only [Act.put, q1_9, q2_9, q3_9, i64_w, i32_w]; rfl)
                   refine pure_ (i := 3) (N := some 102) (v := ?_) (a' := ?_) B9_4 rfl rfl (any_of HT_.out (by kernel_rfl)) (fun _ _ _ h => h) (Or.inl ⟨by rfl, ?_⟩) ?_ ?_; rotate_left; (·intro w'; go_simp; with_reducible rfl); rotate_left; (·simp only [Act.put, q1_9, q2_9, q3_9, i64_w, i32_w]; rfl)
                   refine pure_ (i := 4) (N := some 103) (v := ?_) (a' := ?_) B9_5 rfl rfl (any_of HT_.out (by kernel_rfl)) (fun _ _ _ h => h) (Or.inl ⟨by rfl, ?_⟩) ?_ ?_; rotate_left; (·intro w'; go_simp; with_reducible rfl); rotate_left; (·simp only [Act.put, q1_9, q2_9, q3_9, i64_w, i32_w]; rfl)
                   refine take_ (i := 5) (N := some 104) (v := ?_) (a' := ?_) B9_6 rfl rfl (take_ofW HT_.out HW_.out (by kernel_rfl)) (fun _ _ _ h => h) (Or.inl ⟨by rfl, ?_⟩) hHeld ?_ ?_
                   rotate_left
                   ·rintro w' ⟨s0, s1⟩
                    go_simp
                    with_reducible rfl
                   rotate_left
                   ·simp only [Act.put, q1_9, q2_9, q3_9, i64_w, i32_w]
                    rfl
                   refine pure_ (i := 6) (N := some 105) (v := ?_) (a' := ?_) B9_7 rfl rfl (any_of HT_.out (by kernel_rfl)) (fun _ _ _ h => h) (Or.inl ⟨by rfl, ?_⟩) ?_ ?_; rotate_left; (·intro w'; go_simp; with_reducible rfl); rotate_left; (·simp only [Act.put, q1_9, q2_9, q3_9, i64_w, i32_w]; rfl)
                   refine pure_ (i := 7) (N := some 106) (v := ?_) (a' := ?_) B9_8 rfl rfl (any_of HT_.out (by kernel_rfl)) (fun _ _ _ h => h) (Or.inl ⟨by rfl, ?_⟩) ?_ ?_; rotate_left; (·intro w'; go_simp; with_reducible rfl); rotate_left; (·simp only [Act.put, q1_9, q2_9, q3_9, i64_w, i32_w]; rfl)
                   refine pure_ (i := 8) (N := some 107) (v := ?_) (a' := ?_) B9_9 rfl rfl (any_of HT_.out (by kernel_rfl)) (fun _ _ _ h => h) (Or.inl ⟨by rfl, ?_⟩) ?_ ?_; rotate_left; (·intro w'; go_simp; with_reducible rfl); rotate_left; (·simp only [Act.put, q1_9, q2_9, q3_9, i64_w, i32_w]; rfl)
                   refine pure_ (i := 9) (N := some 108) (v := ?_) (a' := ?_) B9_10 rfl rfl (any_of HT_.out (by kernel_rfl)) (fun _ _ _ h => h) (Or.inl ⟨by rfl, ?_⟩) ?_ ?_; rotate_left; (·intro w'; go_simp; with_reducible rfl); rotate_left; (·simp only [Act.put, q1_9, q2_9, q3_9, i64_w, i32_w]; rfl)
                   refine pure_ (i := 10) (N := some 109) (v := undef) (a' := ?_) B9_14 rfl rfl (any_of HT_.out (by kernel_rfl)) (fun _ _ _ h => h) (Or.inr ⟨by rfl, rfl⟩) ?_ ?_
                   rotate_left
                   ·simp only [Act.put, q1_9, q2_9, q3_9, i64_w, i32_w]
                    rfl
                   refine pure_ (i := 11) (N := some 110) (v := undef) (a' := ?_) B9_15 rfl rfl (any_of HT_.out (by kernel_rfl)) (fun _ _ _ h => h) (Or.inr ⟨by rfl, rfl⟩) ?_ ?_
                   rotate_left
                   ·simp only [Act.put, q1_9, q2_9, q3_9, i64_w, i32_w]
                    rfl
                   refine pure_ (i := 12) (N := some 111) (v := undef) (a' := ?_) B9_17 rfl rfl (any_of HT_.out (by kernel_rfl)) (fun _ _ _ h => h) (Or.inr ⟨by rfl, rfl⟩) ?_ ?_
                   rotate_left
                   ·simp only [Act.put, q1_9, q2_9, q3_9, i64_w, i32_w]
                    rfl
                   refine pure_ (i := 13) (N := some 112) (v := undef) (a' := ?_) B9_18 rfl rfl (any_of HT_.out (by kernel_rfl)) (fun _ _ _ h => h) (Or.inr ⟨by rfl, rfl⟩) ?_ ?_
                   rotate_left
                   ·simp only [Act.put, q1_9, q2_9, q3_9, i64_w, i32_w]
                    rfl
                   refine pure_ (i := 14) (N := some 113) (v := undef) (a' := ?_) B9_20 rfl rfl (any_of HT_.out (by kernel_rfl)) (fun _ _ _ h => h) (Or.inr ⟨by rfl, rfl⟩) ?_ ?_
                   rotate_left
                   ·simp only [Act.put, q1_9, q2_9, q3_9, i64_w, i32_w]
                    rfl
                   refine pure_ (i := 15) (N := some 114) (v := undef) (a' := ?_) B9_22 rfl rfl (any_of HT_.out (by kernel_rfl)) (fun _ _ _ h => h) (Or.inr ⟨by rfl, rfl⟩) ?_ ?_
                   rotate_left
                   ·simp only [Act.put, q1_9, q2_9, q3_9, i64_w, i32_w]
                    rfl
                   refine pure_ (i := 16) (N := some 115) (v := undef) (a' := ?_) B9_24 rfl rfl (any_of HT_.out (by kernel_rfl)) (fun _ _ _ h => h) (Or.inr ⟨by rfl, rfl⟩) ?_ ?_
                   rotate_left
                   ·simp only [Act.put, q1_9, q2_9, q3_9, i64_w, i32_w]
                    rfl
                   refine pure_ (i := 17) (N := some 116) (v := undef) (a' := ?_) B9_26 rfl rfl (any_of HT_.out (by kernel_rfl)) (fun _ _ _ h => h) (Or.inr ⟨by rfl, rfl⟩) ?_ ?_
                   rotate_left
                   ·simp only [Act.put, q1_9, q2_9, q3_9, i64_w, i32_w]
                    rfl
                   refine pure_ (i := 18) (N := some 117) (v := undef) (a' := ?_) B9_27 rfl rfl (any_of HT_.out (by kernel_rfl)) (fun _ _ _ h => h) (Or.inr ⟨by rfl, rfl⟩) ?_ ?_
                   rotate_left
                   ·simp only [Act.put, q1_9, q2_9, q3_9, i64_w, i32_w]
                    rfl
                   refine pure_ (i := 19) (N := some 118) (v := undef) (a' := ?_) B9_28 rfl rfl (any_of HT_.out (by kernel_rfl)) (fun _ _ _ h => h) (Or.inr ⟨by rfl, rfl⟩) ?_ ?_
                   rotate_left
                   ·simp only [Act.put, q1_9, q2_9, q3_9, i64_w, i32_w]
                    rfl
                   refine pure_ (i := 20) (N := some 119) (v := ?_) (a' := ?_) B9_29 rfl rfl (any_of HT_.out (by kernel_rfl)) (fun _ _ _ h => h) (Or.inl ⟨by rfl, ?_⟩) ?_ ?_; rotate_left; (·intro w'; go_simp; with_reducible rfl); rotate_left; (·simp only [Act.put, q1_9, q2_9, q3_9, i64_w, i32_w]; rfl)
                   refine pure_ (i := 21) (N := some 8) (v := ?_) (a' := ?_) B9_30 rfl rfl (any_of HT_.out (by kernel_rfl)) (fun _ _ _ h => h) (Or.inl ⟨by rfl, ?_⟩) ?_ ?_; rotate_left; (·intro w'; go_simp; with_reducible rfl); rotate_left; (·simp only [Act.put, q1_9, q2_9, q3_9, i64_w, i32_w]; rfl)
                   refine done_ (done_of HT_.out (by kernel_rfl)) ?_
                   try go_wp2
                   go_ret
                   exact ⟨by first | rfl | (simp [errW_none, errW_some] <;> rfl) | (simp [*, errW_none, errW_some] <;> rfl), by repeat (first | (with_reducible first | exact HB.out | apply below_alloc | apply pw_below_drewN | apply below_drew1 | refine below_set ?_ GE158.out | refine below_set ?_ GE163.out) | exact HB.out)⟩
                  ·rw [if_neg c56] at H
                   have c56b0 : decide ((((rd_T34 l0_0 a1).f1).length : Int) ≤ a2) = false := decide_eq_false c56
                   clear c56
                   by_cases c71 : 0 ≤ a2
                   ·rw [if_pos c71] at H
                    have c71b0 : decide (0 ≤ a2) = true := decide_eq_true c71
                    clear c71
                    by_cases c72 : a2 < (((rd_T34 l0_0 a1).f1).length : Int)
                    ·rw [if_pos c72] at H
                     have c72b0 : decide (a2 < (((rd_T34 l0_0 a1).f1).length : Int)) = true := decide_eq_true c72
                     clear c72
                     replace H := Option.bind_eq_some_iff.mp H
                     obtain ⟨t170, A730, H⟩ := H
                     replace H : (some (t170 == a2)) = some r := H
                     have A73 := Aside0.mk A730
                     clear A730
                     obtain rfl := Option.some.inj H
                     have hcz74_0 : wc.cell? ⟨gb158, 0, none⟩ = some (.slice A0_0 l0_0.length c0_0) := (blk_cell BK158.out 0).trans rfl
                     have hfz74_0 := blk_frozen BK158.out 0
                     have p162 : 0 ≤ (a1 : Int) := of_decide_eq_true (by first | (with_reducible assumption) | assumption)
                     have q162 : a1 < (l0_0.length : Int) := of_decide_eq_true (by first | (with_reducible assumption) | assumption)
                     obtain ⟨ad162, A162_1, c162_1, e162, hx162_0, hx162_1, hl162_1, hi162_1⟩ := at_T34 HR0_0.out a1 p162 q162
                     cases e162
                     replace hx162_0 := (HB.out.cell (World.block_lt_of_cell? w _ hx162_0)).trans hx162_0
                     replace hx162_1 := (HB.out.cell (World.block_lt_of_cell? w _ hx162_1)).trans hx162_1
                     have HR162_1 := Aside0.mk hi162_1
                     have HC162_1 := Aside0.mk hl162_1
                     clear hi162_1 hl162_1
                     replace p162 := eq_true p162
                     replace q162 := eq_true q162
                     try go_wp2_with (first | ((with_reducible refine gate_dst (N := 11) rfl ?_); (try (refine gate_guard (by rfl) ?_; dsimp only)); refine box_event ?hg (N := 11) ?hd (cs := #[.string (⟨#[]⟩ : ByteArray), .slice none 0 0]) (t := 34) ?hr ?_; (case hd => rfl); (case hg => rfl); (case hr => first | (go_simp; done) | (go_simp; rfl)); intro gb163 hg w75 hbox hb; have n0_ := am9_ (blk_below (g := gb158) (o := .cells #[.slice (some ad162) l0_0.length c0_0] 24 (0, 0)) (by (with_reducible repeat (first | refine blk_drewN ?_ _ | refine blk_drew ?_ | refine blk_alloc ?_ _)); exact BK158.out) hb); have n1_ := am9_ (below_step (by repeat (first | (with_reducible first | exact HB.out | apply below_alloc | apply pw_below_drewN | apply below_drew1 | refine below_set ?_ GE158.out) | exact HB.out)) hb); have n2_ := am9_ (hbox); have n3_ := am9_ ((by rw [hg]; exact (below_size (by repeat (first | (with_reducible first | exact HB.out | apply below_alloc | apply pw_below_drewN | apply below_drew1 | refine below_set ?_ GE158.out) | exact HB.out))) : w.heap.size ≤ gb163)); have n4_ := am9_ ((by rw [hg]; exact (below_size (by repeat (first | (with_reducible first | exact HB.out | apply below_alloc | apply pw_below_drewN | apply below_drew1 | refine below_set ?_ GE158.out) | exact HB.out))) : w.heap.size ≤ gb163)); have n5_ := am9_ ((by rw [hg]; exact Nat.ne_of_lt (blk_lt (g := gb158) (o := .cells #[.slice (some ad162) l0_0.length c0_0] 24 (0, 0)) (by (with_reducible repeat (first | refine blk_drewN ?_ _ | refine blk_drew ?_ | refine blk_alloc ?_ _)); exact BK158.out)) : gb158 ≠ gb163)); have n6_ := am9_ ((by rw [hg]; exact Nat.ne_of_gt (blk_lt (g := gb158) (o := .cells #[.slice (some ad162) l0_0.length c0_0] 24 (0, 0)) (by (with_reducible repeat (first | refine blk_drewN ?_ _ | refine blk_drew ?_ | refine blk_alloc ?_ _)); exact BK158.out)) : gb163 ≠ gb158)); clear BK158; clear HB; have BK158 := n0_; have HB := n1_; have BK163 := n2_; have GW163 := n3_; have GE163 := n4_; have NB158_163 := n5_; have NB163_158 := n6_; clear n0_ n1_ n2_ n3_ n4_ n5_ n6_; clear hb hbox hg; have hnb76 := NB163_158.out; have hnc76 := NB158_163.out; have hcz77_0 : w75.cell? ⟨gb163, 0, none⟩ = some (.string (⟨#[]⟩ : ByteArray)) := (blk_cell BK163.out 0).trans rfl; have hcz77_1 : w75.cell? ⟨gb163, 1, none⟩ = some (.slice none 0 0) := (blk_cell BK163.out 1).trans rfl; have hfz77_0 := blk_frozen BK163.out 0; have hfz77_1 := blk_frozen BK163.out 1; have hcz78_0 : w75.cell? ⟨gb158, 0, none⟩ = some (.slice (some ad162) l0_0.length c0_0) := (blk_cell BK158.out 0).trans rfl; have hfz78_0 := blk_frozen BK158.out 0) | ((with_reducible refine gate_callee (f := 21) rfl ?_); refine goesL_ (some 47) rfl rfl Try.func21 (by kernel_rfl) rfl #[.agg #[.slice (some ad162) l0_0.length c0_0], .string a3] rfl (by (try simp only [List.map_toArray, List.map_cons, List.map_nil]); first | done | rfl | (simp only [List.length_drop, List.length_take]; rfl)) ?_; (with_reducible refine (schema_Find.calls _ _ l0_0 a3 t164 _ ?side1 ?side2 A27.out).mono ?_); (case side1 => exact Kd.C_below HR0_0.out (by repeat (first | (with_reducible first | exact HB.out | apply below_alloc | apply pw_below_drewN | apply below_drew1 | refine below_set ?_ GE158.out | refine below_set ?_ GE163.out) | exact HB.out))); (case side2 => exact HC0_0.out); rintro e w79 ⟨rfl, hb⟩; refine ⟨_, rfl, ?_⟩; have n0_ := am9_ (blk_below (g := gb158) (o := .cells #[.slice (some ad162) l0_0.length c0_0] 24 (0, 0)) (by (with_reducible repeat (first | refine blk_drewN ?_ _ | refine blk_drew ?_ | refine blk_alloc ?_ _)); refine blk_far ?_ NB158_163.out _; (with_reducible repeat (first | refine blk_drewN ?_ _ | refine blk_drew ?_ | refine blk_alloc ?_ _)); refine blk_far ?_ NB158_163.out _; (with_reducible repeat (first | refine blk_drewN ?_ _ | refine blk_drew ?_ | refine blk_alloc ?_ _)); exact BK158.out) hb); have n1_ := am9_ (blk_below (g := gb163) (o := .cells #[.string ((rd_T34 l0_0 a1).f0), .slice A162_1 ((rd_T34 l0_0 a1).f1).length c162_1] 34 (0, 0)) (by (with_reducible repeat (first | refine blk_drewN ?_ _ | refine blk_drew ?_ | refine blk_alloc ?_ _)); refine blk_put (cs := #[.string ((rd_T34 l0_0 a1).f0), .slice none 0 0]) ?_ 1 _ rfl; (with_reducible repeat (first | refine blk_drewN ?_ _ | refine blk_drew ?_ | refine blk_alloc ?_ _)); refine blk_put (cs := #[.string (⟨#[]⟩ : ByteArray), .slice none 0 0]) ?_ 0 _ rfl; (with_reducible repeat (first | refine blk_drewN ?_ _ | refine blk_drew ?_ | refine blk_alloc ?_ _)); exact BK163.out) hb); have n2_ := am9_ (below_step (by repeat (first | (with_reducible first | exact HB.out | apply below_alloc | apply pw_below_drewN | apply below_drew1 | refine below_set ?_ GE158.out | refine below_set ?_ GE163.out) | exact HB.out)) hb); clear BK158; clear BK163; clear HB; have BK158 := n0_; have BK163 := n1_; have HB := n2_; clear n0_ n1_ n2_; (try clear hb); (try clear hb2); (try clear hk); (try clear hi); have hcz80_0 : w79.cell? ⟨gb163, 0, none⟩ = some (.string ((rd_T34 l0_0 a1).f0)) := (blk_cell BK163.out 0).trans rfl; have hcz80_1 : w79.cell? ⟨gb163, 1, none⟩ = some (.slice A162_1 ((rd_T34 l0_0 a1).f1).length c162_1) := (blk_cell BK163.out 1).trans rfl; have hfz80_0 := blk_frozen BK163.out 0; have hfz80_1 := blk_frozen BK163.out 1) | ((with_reducible refine gate_callee (f := 15) rfl ?_); refine goesL_ (some 50) rfl rfl Try.func15 (by kernel_rfl) rfl #[.agg #[.string ((rd_T34 l0_0 a1).f0), .slice A162_1 ((rd_T34 l0_0 a1).f1).length c162_1], .string a3] rfl (by (try simp only [List.map_toArray, List.map_cons, List.map_nil]); first | done | rfl | (simp only [List.length_drop, List.length_take]; rfl)) ?_; (with_reducible refine (schema_Field.calls ((rd_T34 l0_0 a1).f0) _ _ ((rd_T34 l0_0 a1).f1) a3 t165 _ ?side1 ?side2 A28.out).mono ?_); (case side1 => repeat (first | exact (Kd.C_below HR162_1.out HB.out) | (with_reducible first | refine ca9_ ?_ _ | refine cn9_ ?_ _ | refine cd9_ ?_))); (case side2 => exact HC162_1.out); rintro e w81 ⟨rfl, hb⟩; refine ⟨_, rfl, ?_⟩; have n0_ := am9_ (blk_below (g := gb158) (o := .cells #[.slice (some ad162) l0_0.length c0_0] 24 (0, 0)) (by (with_reducible repeat (first | refine blk_drewN ?_ _ | refine blk_drew ?_ | refine blk_alloc ?_ _)); exact BK158.out) hb); have n1_ := am9_ (blk_below (g := gb163) (o := .cells #[.string ((rd_T34 l0_0 a1).f0), .slice A162_1 ((rd_T34 l0_0 a1).f1).length c162_1] 34 (0, 0)) (by (with_reducible repeat (first | refine blk_drewN ?_ _ | refine blk_drew ?_ | refine blk_alloc ?_ _)); exact BK163.out) hb); have n2_ := am9_ (below_step (by repeat (first | (with_reducible first | exact HB.out | apply below_alloc | apply pw_below_drewN | apply below_drew1 | refine below_set ?_ GE158.out | refine below_set ?_ GE163.out) | exact HB.out)) hb); clear BK158; clear BK163; clear HB; have BK158 := n0_; have BK163 := n1_; have HB := n2_; clear n0_ n1_ n2_; (try clear hb); (try clear hb2); (try clear hk); (try clear hi); have hcz82_0 : w81.cell? ⟨gb158, 0, none⟩ = some (.slice (some ad162) l0_0.length c0_0) := (blk_cell BK158.out 0).trans rfl; have hfz82_0 := blk_frozen BK158.out 0; have hcz83_0 : w81.cell? ⟨gb163, 0, none⟩ = some (.string ((rd_T34 l0_0 a1).f0)) := (blk_cell BK163.out 0).trans rfl; have hcz83_1 : w81.cell? ⟨gb163, 1, none⟩ = some (.slice A162_1 ((rd_T34 l0_0 a1).f1).length c162_1) := (blk_cell BK163.out 1).trans rfl; have hfz83_0 := blk_frozen BK163.out 0; have hfz83_1 := blk_frozen BK163.out 1) | ((with_reducible refine gate_callee (f := 21) rfl ?_); refine goesL_ (some 54) rfl rfl Try.func21 (by kernel_rfl) rfl #[.agg #[.slice (some ad162) l0_0.length c0_0], .string ((rd_T34 l0_0 a1).f0)] rfl (by (try simp only [List.map_toArray, List.map_cons, List.map_nil]); first | done | rfl | (simp only [List.length_drop, List.length_take]; rfl)) ?_; (with_reducible refine (schema_Find.calls _ _ l0_0 ((rd_T34 l0_0 a1).f0) t166 _ ?side1 ?side2 A29.out).mono ?_); (case side1 => repeat (first | exact (Kd.C_below HR0_0.out HB.out) | (with_reducible first | refine ca9_ ?_ _ | refine cn9_ ?_ _ | refine cd9_ ?_))); (case side2 => exact HC0_0.out); rintro e w84 ⟨rfl, hb⟩; refine ⟨_, rfl, ?_⟩; have n0_ := am9_ (blk_below (g := gb158) (o := .cells #[.slice (some ad162) l0_0.length c0_0] 24 (0, 0)) (by (with_reducible repeat (first | refine blk_drewN ?_ _ | refine blk_drew ?_ | refine blk_alloc ?_ _)); exact BK158.out) hb); have n1_ := am9_ (blk_below (g := gb163) (o := .cells #[.string ((rd_T34 l0_0 a1).f0), .slice A162_1 ((rd_T34 l0_0 a1).f1).length c162_1] 34 (0, 0)) (by (with_reducible repeat (first | refine blk_drewN ?_ _ | refine blk_drew ?_ | refine blk_alloc ?_ _)); exact BK163.out) hb); have n2_ := am9_ (below_step (by repeat (first | (with_reducible first | exact HB.out | apply below_alloc | apply pw_below_drewN | apply below_drew1 | refine below_set ?_ GE158.out | refine below_set ?_ GE163.out) | exact HB.out)) hb); clear BK158; clear BK163; clear HB; have BK158 := n0_; have BK163 := n1_; have HB := n2_; clear n0_ n1_ n2_; (try clear hb); (try clear hb2); (try clear hk); (try clear hi); have hcz85_0 : w84.cell? ⟨gb158, 0, none⟩ = some (.slice (some ad162) l0_0.length c0_0) := (blk_cell BK158.out 0).trans rfl; have hfz85_0 := blk_frozen BK158.out 0; have p167 : 0 ≤ (t164 : Int) := of_decide_eq_true (by first | (with_reducible assumption) | assumption); have q167 : t164 < (l0_0.length : Int) := of_decide_eq_true (by first | (with_reducible assumption) | assumption); obtain ⟨ad167, A167_1, c167_1, e167, hx167_0, hx167_1, hl167_1, hi167_1⟩ := at_T34 HR0_0.out t164 p167 q167; obtain rfl : ad162 = ad167 := (by injection e167); replace hx167_0 := (HB.out.cell (World.block_lt_of_cell? w _ hx167_0)).trans hx167_0; replace hx167_1 := (HB.out.cell (World.block_lt_of_cell? w _ hx167_1)).trans hx167_1; have HR167_1 := Aside0.mk hi167_1; have HC167_1 := Aside0.mk hl167_1; clear hi167_1 hl167_1; replace p167 := eq_true p167; replace q167 := eq_true q167; have hcz86_0 : w84.cell? ⟨gb163, 0, none⟩ = some (.string ((rd_T34 l0_0 a1).f0)) := (blk_cell BK163.out 0).trans rfl; have hcz86_1 : w84.cell? ⟨gb163, 1, none⟩ = some (.slice A162_1 ((rd_T34 l0_0 a1).f1).length c162_1) := (blk_cell BK163.out 1).trans rfl; have hfz86_0 := blk_frozen BK163.out 0; have hfz86_1 := blk_frozen BK163.out 1; have p168 : 0 ≤ (t165 : Int) := of_decide_eq_true (by first | (with_reducible assumption) | assumption); have q168 : t165 < (((rd_T34 l0_0 a1).f1).length : Int) := of_decide_eq_true (by first | (with_reducible assumption) | assumption); obtain ⟨ad168, e168, hx168_0, hx168_1, hx168_2⟩ := at_T40 HR162_1.out t165 p168 q168; cases e168; replace hx168_0 := (HB.out.cell (World.block_lt_of_cell? w _ hx168_0)).trans hx168_0; replace hx168_1 := (HB.out.cell (World.block_lt_of_cell? w _ hx168_1)).trans hx168_1; replace hx168_2 := (HB.out.cell (World.block_lt_of_cell? w _ hx168_2)).trans hx168_2; replace p168 := eq_true p168; replace q168 := eq_true q168))
                     have n0_ := am9_ (blk_drew BK158.out)
                     have n1_ := am9_ (blk_drew BK163.out)
                     have n2_ := am9_ (below_drew1 HB.out)
                     clear BK158
                     clear BK163
                     clear HB
                     have BK158 := n0_
                     have BK163 := n1_
                     have HB := n2_
                     clear n0_ n1_ n2_
                     have p169 : 0 ≤ (a2 : Int) := of_decide_eq_true (by first | (with_reducible assumption) | assumption)
                     have q169 : a2 < (((rd_T34 l0_0 a1).f1).length : Int) := of_decide_eq_true (by first | (with_reducible assumption) | assumption)
                     obtain ⟨ad169, e169, hx169_0, hx169_1, hx169_2⟩ := at_T40 HR162_1.out a2 p169 q169
                     have hw169_2 := hx169_2
                     have hw169_1 := hx169_1
                     have hw169_0 := hx169_0
                     obtain rfl : ad168 = ad169 := (by injection e169)
                     replace hx169_0 := (HB.out.cell (World.block_lt_of_cell? w _ hx169_0)).trans hx169_0
                     replace hx169_1 := (HB.out.cell (World.block_lt_of_cell? w _ hx169_1)).trans hx169_1
                     replace hx169_2 := (HB.out.cell (World.block_lt_of_cell? w _ hx169_2)).trans hx169_2
                     replace p169 := eq_true p169
                     replace q169 := eq_true q169
                     refine start_ (n := 22) (S := fun w' => w'.cell? ⟨gb163, 0, none⟩ = some (.string ((rd_T34 l0_0 a1).f0)) ∧ w'.cell? ⟨gb163, 1, none⟩ = some (.slice (some ad168) ((rd_T34 l0_0 a1).f1).length c162_1) ∧ w'.cell? (ad168.add ((a2).toNat * 3)) = some (.string ((rd_T40 ((rd_T34 l0_0 a1).f1) a2).f0)) ∧ w'.cell? ⟨(ad168.add ((a2).toNat * 3)).block, (ad168.add ((a2).toNat * 3)).off + 1, none⟩ = some (.int .i64 ((rd_T40 ((rd_T34 l0_0 a1).f1) a2).f1)) ∧ w'.cell? ⟨(ad168.add ((a2).toNat * 3)).block, (ad168.add ((a2).toNat * 3)).off + 2, none⟩ = some (.string ((rd_T40 ((rd_T34 l0_0 a1).f1) a2).f2))) (ds := []) B9_0 (by kernel_rfl) rfl rfl ⟨(blk_cell BK163.out 0).trans rfl, (blk_cell BK163.out 1).trans rfl, ((HB.out.cell (World.block_lt_of_cell? w _ hw169_0)).trans hw169_0), ((HB.out.cell (World.block_lt_of_cell? w _ hw169_1)).trans hw169_1), ((HB.out.cell (World.block_lt_of_cell? w _ hw169_2)).trans hw169_2)⟩ (fun hHeld => ?_); refine with_tabW foliatelaw06_SchemaNames.tab10 foliatelaw06_SchemaNames.bits10 (fun HT_ HW_ => ?_)
                     generalize w84.drew = w87 at BK158 BK163 HB hx169_0 hx169_1 hx169_2 hHeld ⊢
                     refine pure_ (i := 0) (N := some 99) (v := ?_) (a' := ?_) B9_1 rfl rfl (any_of HT_.out (by kernel_rfl)) (fun _ _ _ h => h) (Or.inl ⟨by rfl, ?_⟩) ?_ ?_; rotate_left; (·intro w'; go_simp; with_reducible rfl); rotate_left; (·simp only [Act.put, q1_9, q2_9, q3_9, i64_w, i32_w]; rfl)
                     refine pure_ (i := 1) (N := some 100) (v := ?_) (a' := ?_) B9_2 rfl rfl (any_of HT_.out (by kernel_rfl)) (fun _ _ _ h => h) (Or.inl ⟨by rfl, ?_⟩) ?_ ?_; rotate_left; (·intro w'; go_simp; with_reducible rfl); rotate_left; (·simp only [Act.put, q1_9, q2_9, q3_9, i64_w, i32_w]; rfl)
                     refine pure_ (i := 2) (N := some 101) (v := ?_) (a' := ?_) B9_3 rfl rfl (any_of HT_.out (by kernel_rfl)) (fun _ _ _ h => h) (Or.inl ⟨by rfl, ?_⟩) ?_ ?_; rotate_left; (·intro w'; go_simp; with_reducible rfl); rotate_left; (·simp only [Act.put, q1_9, q2_9, q3_9, i64_w, i32_w]; rfl)
                     refine pure_ (i := 3) (N := some 102) (v := ?_) (a' := ?_) B9_4 rfl rfl (any_of HT_.out (by kernel_rfl)) (fun _ _ _ h => h) (Or.inl ⟨by rfl, ?_⟩) ?_ ?_; rotate_left; (·intro w'; go_simp; with_reducible rfl); rotate_left; (·simp only [Act.put, q1_9, q2_9, q3_9, i64_w, i32_w]; rfl)
                     refine pure_ (i := 4) (N := some 103) (v := ?_) (a' := ?_) B9_5 rfl rfl (any_of HT_.out (by kernel_rfl)) (fun _ _ _ h => h) (Or.inl ⟨by rfl, ?_⟩) ?_ ?_; rotate_left; (·intro w'; go_simp; with_reducible rfl); rotate_left; (·simp only [Act.put, q1_9, q2_9, q3_9, i64_w, i32_w]; rfl)
                     refine take_ (i := 5) (N := some 104) (v := ?_) (a' := ?_) B9_6 rfl rfl (take_ofW HT_.out HW_.out (by kernel_rfl)) (fun _ _ _ h => h) (Or.inl ⟨by rfl, ?_⟩) hHeld ?_ ?_
                     rotate_left
                     ·rintro w' ⟨s0, s1, s2, s3, s4⟩
                      go_simp
                      with_reducible rfl
                     rotate_left
                     ·simp only [Act.put, q1_9, q2_9, q3_9, i64_w, i32_w]
                      rfl
                     refine pure_ (i := 6) (N := some 105) (v := ?_) (a' := ?_) B9_7 rfl rfl (any_of HT_.out (by kernel_rfl)) (fun _ _ _ h => h) (Or.inl ⟨by rfl, ?_⟩) ?_ ?_; rotate_left; (·intro w'; go_simp; with_reducible rfl); rotate_left; (·simp only [Act.put, q1_9, q2_9, q3_9, i64_w, i32_w]; rfl)
                     refine pure_ (i := 7) (N := some 106) (v := ?_) (a' := ?_) B9_8 rfl rfl (any_of HT_.out (by kernel_rfl)) (fun _ _ _ h => h) (Or.inl ⟨by rfl, ?_⟩) ?_ ?_; rotate_left; (·intro w'; go_simp; with_reducible rfl); rotate_left; (·simp only [Act.put, q1_9, q2_9, q3_9, i64_w, i32_w]; rfl)
                     refine pure_ (i := 8) (N := some 107) (v := ?_) (a' := ?_) B9_9 rfl rfl (any_of HT_.out (by kernel_rfl)) (fun _ _ _ h => h) (Or.inl ⟨by rfl, ?_⟩) ?_ ?_; rotate_left; (·intro w'; go_simp; with_reducible rfl); rotate_left; (·simp only [Act.put, q1_9, q2_9, q3_9, i64_w, i32_w]; rfl)
                     refine pure_ (i := 9) (N := some 108) (v := ?_) (a' := ?_) B9_10 rfl rfl (any_of HT_.out (by kernel_rfl)) (fun _ _ _ h => h) (Or.inl ⟨by rfl, ?_⟩) ?_ ?_; rotate_left; (·intro w'; go_simp; with_reducible rfl); rotate_left; (·simp only [Act.put, q1_9, q2_9, q3_9, i64_w, i32_w]; rfl)
                     refine pure_ (i := 11) (N := some 110) (v := ?_) (a' := ?_) B9_11 rfl rfl (any_of HT_.out (by kernel_rfl)) (fun _ _ _ h => h) (Or.inl ⟨by rfl, ?_⟩) ?_ ?_; rotate_left; (·intro w'; go_simp; with_reducible rfl); rotate_left; (·simp only [Act.put, q1_9, q2_9, q3_9, i64_w, i32_w]; rfl)
                     refine pure_ (i := 13) (N := some 112) (v := ?_) (a' := ?_) B9_12 rfl rfl (any_of HT_.out (by kernel_rfl)) (fun _ _ _ h => h) (Or.inl ⟨by rfl, ?_⟩) ?_ ?_; rotate_left; (·intro w'; go_simp; with_reducible rfl); rotate_left; (·simp only [Act.put, q1_9, q2_9, q3_9, i64_w, i32_w]; rfl)
                     refine pure_ (i := 18) (N := some 117) (v := ?_) (a' := ?_) B9_13 rfl rfl (any_of HT_.out (by kernel_rfl)) (fun _ _ _ h => h) (Or.inl ⟨by rfl, ?_⟩) ?_ ?_; rotate_left; (·intro w'; go_simp; with_reducible rfl); rotate_left; (·simp only [Act.put, q1_9, q2_9, q3_9, i64_w, i32_w]; rfl)
                     refine take_ (i := 10) (N := some 109) (v := ?_) (a' := ?_) B9_16 rfl rfl (take_ofW HT_.out HW_.out (by kernel_rfl)) (fun _ _ _ h => h) (Or.inl ⟨by rfl, ?_⟩) hHeld ?_ ?_
                     rotate_left
                     ·rintro w' ⟨s0, s1, s2, s3, s4⟩
                      go_simp
                      with_reducible rfl
                     rotate_left
                     ·simp only [Act.put, q1_9, q2_9, q3_9, i64_w, i32_w]
                      rfl
                     refine take_ (i := 12) (N := some 111) (v := ?_) (a' := ?_) B9_19 rfl rfl (take_ofW HT_.out HW_.out (by kernel_rfl)) (fun _ _ _ h => h) (Or.inl ⟨by rfl, ?_⟩) hHeld ?_ ?_
                     rotate_left
                     ·rintro w' ⟨s0, s1, s2, s3, s4⟩
                      go_simp
                      with_reducible rfl
                     rotate_left
                     ·simp only [Act.put, q1_9, q2_9, q3_9, i64_w, i32_w]
                      rfl
                     refine pure_ (i := 14) (N := some 113) (v := ?_) (a' := ?_) B9_21 rfl rfl (any_of HT_.out (by kernel_rfl)) (fun _ _ _ h => h) (Or.inl ⟨by rfl, ?_⟩) ?_ ?_; rotate_left; (·intro w'; go_simp; with_reducible rfl); rotate_left; (·simp only [Act.put, q1_9, q2_9, q3_9, i64_w, i32_w]; rfl)
                     refine pure_ (i := 15) (N := some 114) (v := ?_) (a' := ?_) B9_23 rfl rfl (any_of HT_.out (by kernel_rfl)) (fun _ _ _ h => h) (Or.inl ⟨by rfl, ?_⟩) ?_ ?_; rotate_left; (·intro w'; go_simp; with_reducible rfl); rotate_left; (·simp only [Act.put, q1_9, q2_9, q3_9, i64_w, i32_w]; rfl)
                     refine take_ (i := 16) (N := some 115) (v := ?_) (a' := ?_) B9_25 rfl rfl (take_ofW HT_.out HW_.out (by kernel_rfl)) (fun _ _ _ h => h) (Or.inl ⟨by rfl, ?_⟩) hHeld ?_ ?_
                     rotate_left
                     ·rintro w' ⟨s0, s1, s2, s3, s4⟩
                      go_simp
                      with_reducible rfl
                     rotate_left
                     ·simp only [Act.put, q1_9, q2_9, q3_9, i64_w, i32_w]
                      rfl
                     refine one_ (i := 17) (N := some 116) B9_27 rfl rfl (one_of HT_.out (by kernel_rfl)) (by decide) (fun K hK => ?_)
                     refine goes_ Try.func15 (by kernel_rfl) rfl #[.agg #[.string ((rd_T34 l0_0 a1).f0), .slice (some ad168) ((rd_T34 l0_0 a1).f1).length c162_1], .string ((rd_T40 ((rd_T34 l0_0 a1).f1) a2).f0)] (by rfl) rfl rfl (by (try simp only [List.map_toArray, List.map_cons, List.map_nil]); first | done | rfl | (simp only [List.length_drop, List.length_take]; rfl)) ?_
                     with_reducible refine (schema_Field.calls ((rd_T34 l0_0 a1).f0) _ _ ((rd_T34 l0_0 a1).f1) ((rd_T40 ((rd_T34 l0_0 a1).f1) a2).f0) t170 _ ?side1 ?side2 A73.out).mono ?_
                     (case side1 => repeat (first | exact (Kd.C_below HR162_1.out HB.out) | (with_reducible first | refine ca9_ ?_ _ | refine cn9_ ?_ _ | refine cd9_ ?_)))
                     (case side2 => exact HC162_1.out)
                     rintro e w88 ⟨rfl, hb⟩
                     refine ⟨_, rfl, ?_⟩
                     have n0_ := am9_ (blk_below (g := gb158) (o := .cells #[.slice (some ad162) l0_0.length c0_0] 24 (0, 0)) (by (with_reducible repeat (first | refine blk_drewN ?_ _ | refine blk_drew ?_ | refine blk_alloc ?_ _)); exact BK158.out) hb)
                     have n1_ := am9_ (blk_below (g := gb163) (o := .cells #[.string ((rd_T34 l0_0 a1).f0), .slice (some ad168) ((rd_T34 l0_0 a1).f1).length c162_1] 34 (0, 0)) (by (with_reducible repeat (first | refine blk_drewN ?_ _ | refine blk_drew ?_ | refine blk_alloc ?_ _)); exact BK163.out) hb)
                     have n2_ := am9_ (below_step (by repeat (first | (with_reducible first | exact HB.out | apply below_alloc | apply pw_below_drewN | apply below_drew1 | refine below_set ?_ GE158.out | refine below_set ?_ GE163.out) | exact HB.out)) hb)
                     clear BK158
                     clear BK163
                     clear HB
                     have BK158 := n0_
                     have BK163 := n1_
                     have HB := n2_
                     clear n0_ n1_ n2_
                     (try clear hb)
                     (try clear hb2)
                     (try clear hk)
                     (try clear hi)
                     refine hK.out _ _ ⟨(blk_cell BK163.out 0).trans rfl, (blk_cell BK163.out 1).trans rfl, ((HB.out.cell (World.block_lt_of_cell? w _ hw169_0)).trans hw169_0), ((HB.out.cell (World.block_lt_of_cell? w _ hw169_1)).trans hw169_1), ((HB.out.cell (World.block_lt_of_cell? w _ hw169_2)).trans hw169_2)⟩ (fun hHeld => ?_)
                     clear hK K
                     refine norm_ (a' := ?_) ?_ ?_
                     rotate_left
                     ·show Act.put _ (some 116) _ = _
                      simp only [Act.put, q1_9, q2_9, q3_9, i64_w, i32_w]
                      rfl
                     refine pure_ (i := 19) (N := some 118) (v := ?_) (a' := ?_) B9_28 rfl rfl (any_of HT_.out (by kernel_rfl)) (fun _ _ _ h => h) (Or.inl ⟨by rfl, ?_⟩) ?_ ?_; rotate_left; (·intro w'; go_simp; with_reducible rfl); rotate_left; (·simp only [Act.put, q1_9, q2_9, q3_9, i64_w, i32_w]; rfl)
                     refine pure_ (i := 20) (N := some 119) (v := ?_) (a' := ?_) B9_29 rfl rfl (any_of HT_.out (by kernel_rfl)) (fun _ _ _ h => h) (Or.inl ⟨by rfl, ?_⟩) ?_ ?_; rotate_left; (·intro w'; go_simp; with_reducible rfl); rotate_left; (·simp only [Act.put, q1_9, q2_9, q3_9, i64_w, i32_w]; rfl)
                     refine pure_ (i := 21) (N := some 8) (v := ?_) (a' := ?_) B9_30 rfl rfl (any_of HT_.out (by kernel_rfl)) (fun _ _ _ h => h) (Or.inl ⟨by rfl, ?_⟩) ?_ ?_; rotate_left; (·intro w'; go_simp; with_reducible rfl); rotate_left; (·simp only [Act.put, q1_9, q2_9, q3_9, i64_w, i32_w]; rfl)
                     refine done_ (done_of HT_.out (by kernel_rfl)) ?_
                     try go_wp2
                     go_ret
                     exact ⟨by first | rfl | (simp [errW_none, errW_some] <;> rfl) | (simp [*, errW_none, errW_some] <;> rfl), by repeat (first | (with_reducible first | exact HB.out | apply below_alloc | apply pw_below_drewN | apply below_drew1 | refine below_set ?_ GE158.out | refine below_set ?_ GE163.out) | exact HB.out)⟩
                    ·rw [if_neg c72] at H
                     exact absurd H (by simp)
                   ·rw [if_neg c71] at H
                    exact absurd H (by simp)
                ·rw [if_neg c40] at H
                 exact absurd H (by simp)
               ·rw [if_neg c39] at H
                exact absurd H (by simp)
              ·rw [if_neg c38] at H
               exact absurd H (by simp)
            ·rw [if_neg c36] at H
             have c36b0 : decide (0 ≤ t165) = false := decide_eq_false c36
             clear c36
             by_cases c89 : a2 < 0
             ·rw [if_pos c89] at H
              have c89b0 : decide (a2 < 0) = true := decide_eq_true c89
              clear c89
              obtain rfl := Option.some.inj H
              have hcz90_0 : wc.cell? ⟨gb158, 0, none⟩ = some (.slice A0_0 l0_0.length c0_0) := (blk_cell BK158.out 0).trans rfl
              have hfz90_0 := blk_frozen BK158.out 0
              have p162 : 0 ≤ (a1 : Int) := of_decide_eq_true (by first | (with_reducible assumption) | assumption)
              have q162 : a1 < (l0_0.length : Int) := of_decide_eq_true (by first | (with_reducible assumption) | assumption)
              obtain ⟨ad162, A162_1, c162_1, e162, hx162_0, hx162_1, hl162_1, hi162_1⟩ := at_T34 HR0_0.out a1 p162 q162
              cases e162
              replace hx162_0 := (HB.out.cell (World.block_lt_of_cell? w _ hx162_0)).trans hx162_0
              replace hx162_1 := (HB.out.cell (World.block_lt_of_cell? w _ hx162_1)).trans hx162_1
              have HR162_1 := Aside0.mk hi162_1
              have HC162_1 := Aside0.mk hl162_1
              clear hi162_1 hl162_1
              replace p162 := eq_true p162
              replace q162 := eq_true q162
              try go_wp2_with (first | ((with_reducible refine gate_dst (N := 11) rfl ?_); (try (refine gate_guard (by rfl) ?_; dsimp only)); refine box_event ?hg (N := 11) ?hd (cs := #[.string (⟨#[]⟩ : ByteArray), .slice none 0 0]) (t := 34) ?hr ?_; (case hd => rfl); (case hg => rfl); (case hr => first | (go_simp; done) | (go_simp; rfl)); intro gb163 hg w91 hbox hb; have n0_ := am9_ (blk_below (g := gb158) (o := .cells #[.slice (some ad162) l0_0.length c0_0] 24 (0, 0)) (by (with_reducible repeat (first | refine blk_drewN ?_ _ | refine blk_drew ?_ | refine blk_alloc ?_ _)); exact BK158.out) hb); have n1_ := am9_ (below_step (by repeat (first | (with_reducible first | exact HB.out | apply below_alloc | apply pw_below_drewN | apply below_drew1 | refine below_set ?_ GE158.out) | exact HB.out)) hb); have n2_ := am9_ (hbox); have n3_ := am9_ ((by rw [hg]; exact (below_size (by repeat (first | (with_reducible first | exact HB.out | apply below_alloc | apply pw_below_drewN | apply below_drew1 | refine below_set ?_ GE158.out) | exact HB.out))) : w.heap.size ≤ gb163)); have n4_ := am9_ ((by rw [hg]; exact (below_size (by repeat (first | (with_reducible first | exact HB.out | apply below_alloc | apply pw_below_drewN | apply below_drew1 | refine below_set ?_ GE158.out) | exact HB.out))) : w.heap.size ≤ gb163)); have n5_ := am9_ ((by rw [hg]; exact Nat.ne_of_lt (blk_lt (g := gb158) (o := .cells #[.slice (some ad162) l0_0.length c0_0] 24 (0, 0)) (by (with_reducible repeat (first | refine blk_drewN ?_ _ | refine blk_drew ?_ | refine blk_alloc ?_ _)); exact BK158.out)) : gb158 ≠ gb163)); have n6_ := am9_ ((by rw [hg]; exact Nat.ne_of_gt (blk_lt (g := gb158) (o := .cells #[.slice (some ad162) l0_0.length c0_0] 24 (0, 0)) (by (with_reducible repeat (first | refine blk_drewN ?_ _ | refine blk_drew ?_ | refine blk_alloc ?_ _)); exact BK158.out)) : gb163 ≠ gb158)); clear BK158; clear HB; have BK158 := n0_; have HB := n1_; have BK163 := n2_; have GW163 := n3_; have GE163 := n4_; have NB158_163 := n5_; have NB163_158 := n6_; clear n0_ n1_ n2_ n3_ n4_ n5_ n6_; clear hb hbox hg; have hnb92 := NB163_158.out; have hnc92 := NB158_163.out; have hcz93_0 : w91.cell? ⟨gb163, 0, none⟩ = some (.string (⟨#[]⟩ : ByteArray)) := (blk_cell BK163.out 0).trans rfl; have hcz93_1 : w91.cell? ⟨gb163, 1, none⟩ = some (.slice none 0 0) := (blk_cell BK163.out 1).trans rfl; have hfz93_0 := blk_frozen BK163.out 0; have hfz93_1 := blk_frozen BK163.out 1; have hcz94_0 : w91.cell? ⟨gb158, 0, none⟩ = some (.slice (some ad162) l0_0.length c0_0) := (blk_cell BK158.out 0).trans rfl; have hfz94_0 := blk_frozen BK158.out 0) | ((with_reducible refine gate_callee (f := 21) rfl ?_); refine goesL_ (some 47) rfl rfl Try.func21 (by kernel_rfl) rfl #[.agg #[.slice (some ad162) l0_0.length c0_0], .string a3] rfl (by (try simp only [List.map_toArray, List.map_cons, List.map_nil]); first | done | rfl | (simp only [List.length_drop, List.length_take]; rfl)) ?_; (with_reducible refine (schema_Find.calls _ _ l0_0 a3 t164 _ ?side1 ?side2 A27.out).mono ?_); (case side1 => exact Kd.C_below HR0_0.out (by repeat (first | (with_reducible first | exact HB.out | apply below_alloc | apply pw_below_drewN | apply below_drew1 | refine below_set ?_ GE158.out | refine below_set ?_ GE163.out) | exact HB.out))); (case side2 => exact HC0_0.out); rintro e w95 ⟨rfl, hb⟩; refine ⟨_, rfl, ?_⟩; have n0_ := am9_ (blk_below (g := gb158) (o := .cells #[.slice (some ad162) l0_0.length c0_0] 24 (0, 0)) (by (with_reducible repeat (first | refine blk_drewN ?_ _ | refine blk_drew ?_ | refine blk_alloc ?_ _)); refine blk_far ?_ NB158_163.out _; (with_reducible repeat (first | refine blk_drewN ?_ _ | refine blk_drew ?_ | refine blk_alloc ?_ _)); refine blk_far ?_ NB158_163.out _; (with_reducible repeat (first | refine blk_drewN ?_ _ | refine blk_drew ?_ | refine blk_alloc ?_ _)); exact BK158.out) hb); have n1_ := am9_ (blk_below (g := gb163) (o := .cells #[.string ((rd_T34 l0_0 a1).f0), .slice A162_1 ((rd_T34 l0_0 a1).f1).length c162_1] 34 (0, 0)) (by (with_reducible repeat (first | refine blk_drewN ?_ _ | refine blk_drew ?_ | refine blk_alloc ?_ _)); refine blk_put (cs := #[.string ((rd_T34 l0_0 a1).f0), .slice none 0 0]) ?_ 1 _ rfl; (with_reducible repeat (first | refine blk_drewN ?_ _ | refine blk_drew ?_ | refine blk_alloc ?_ _)); refine blk_put (cs := #[.string (⟨#[]⟩ : ByteArray), .slice none 0 0]) ?_ 0 _ rfl; (with_reducible repeat (first | refine blk_drewN ?_ _ | refine blk_drew ?_ | refine blk_alloc ?_ _)); exact BK163.out) hb); have n2_ := am9_ (below_step (by repeat (first | (with_reducible first | exact HB.out | apply below_alloc | apply pw_below_drewN | apply below_drew1 | refine below_set ?_ GE158.out | refine below_set ?_ GE163.out) | exact HB.out)) hb); clear BK158; clear BK163; clear HB; have BK158 := n0_; have BK163 := n1_; have HB := n2_; clear n0_ n1_ n2_; (try clear hb); (try clear hb2); (try clear hk); (try clear hi); have hcz96_0 : w95.cell? ⟨gb163, 0, none⟩ = some (.string ((rd_T34 l0_0 a1).f0)) := (blk_cell BK163.out 0).trans rfl; have hcz96_1 : w95.cell? ⟨gb163, 1, none⟩ = some (.slice A162_1 ((rd_T34 l0_0 a1).f1).length c162_1) := (blk_cell BK163.out 1).trans rfl; have hfz96_0 := blk_frozen BK163.out 0; have hfz96_1 := blk_frozen BK163.out 1) | ((with_reducible refine gate_callee (f := 15) rfl ?_); refine goesL_ (some 50) rfl rfl Try.func15 (by kernel_rfl) rfl #[.agg #[.string ((rd_T34 l0_0 a1).f0), .slice A162_1 ((rd_T34 l0_0 a1).f1).length c162_1], .string a3] rfl (by (try simp only [List.map_toArray, List.map_cons, List.map_nil]); first | done | rfl | (simp only [List.length_drop, List.length_take]; rfl)) ?_; (with_reducible refine (schema_Field.calls ((rd_T34 l0_0 a1).f0) _ _ ((rd_T34 l0_0 a1).f1) a3 t165 _ ?side1 ?side2 A28.out).mono ?_); (case side1 => repeat (first | exact (Kd.C_below HR162_1.out HB.out) | (with_reducible first | refine ca9_ ?_ _ | refine cn9_ ?_ _ | refine cd9_ ?_))); (case side2 => exact HC162_1.out); rintro e w97 ⟨rfl, hb⟩; refine ⟨_, rfl, ?_⟩; have n0_ := am9_ (blk_below (g := gb158) (o := .cells #[.slice (some ad162) l0_0.length c0_0] 24 (0, 0)) (by (with_reducible repeat (first | refine blk_drewN ?_ _ | refine blk_drew ?_ | refine blk_alloc ?_ _)); exact BK158.out) hb); have n1_ := am9_ (blk_below (g := gb163) (o := .cells #[.string ((rd_T34 l0_0 a1).f0), .slice A162_1 ((rd_T34 l0_0 a1).f1).length c162_1] 34 (0, 0)) (by (with_reducible repeat (first | refine blk_drewN ?_ _ | refine blk_drew ?_ | refine blk_alloc ?_ _)); exact BK163.out) hb); have n2_ := am9_ (below_step (by repeat (first | (with_reducible first | exact HB.out | apply below_alloc | apply pw_below_drewN | apply below_drew1 | refine below_set ?_ GE158.out | refine below_set ?_ GE163.out) | exact HB.out)) hb); clear BK158; clear BK163; clear HB; have BK158 := n0_; have BK163 := n1_; have HB := n2_; clear n0_ n1_ n2_; (try clear hb); (try clear hb2); (try clear hk); (try clear hi); have hcz98_0 : w97.cell? ⟨gb158, 0, none⟩ = some (.slice (some ad162) l0_0.length c0_0) := (blk_cell BK158.out 0).trans rfl; have hfz98_0 := blk_frozen BK158.out 0; have hcz99_0 : w97.cell? ⟨gb163, 0, none⟩ = some (.string ((rd_T34 l0_0 a1).f0)) := (blk_cell BK163.out 0).trans rfl; have hcz99_1 : w97.cell? ⟨gb163, 1, none⟩ = some (.slice A162_1 ((rd_T34 l0_0 a1).f1).length c162_1) := (blk_cell BK163.out 1).trans rfl; have hfz99_0 := blk_frozen BK163.out 0; have hfz99_1 := blk_frozen BK163.out 1) | ((with_reducible refine gate_callee (f := 21) rfl ?_); refine goesL_ (some 54) rfl rfl Try.func21 (by kernel_rfl) rfl #[.agg #[.slice (some ad162) l0_0.length c0_0], .string ((rd_T34 l0_0 a1).f0)] rfl (by (try simp only [List.map_toArray, List.map_cons, List.map_nil]); first | done | rfl | (simp only [List.length_drop, List.length_take]; rfl)) ?_; (with_reducible refine (schema_Find.calls _ _ l0_0 ((rd_T34 l0_0 a1).f0) t166 _ ?side1 ?side2 A29.out).mono ?_); (case side1 => repeat (first | exact (Kd.C_below HR0_0.out HB.out) | (with_reducible first | refine ca9_ ?_ _ | refine cn9_ ?_ _ | refine cd9_ ?_))); (case side2 => exact HC0_0.out); rintro e w100 ⟨rfl, hb⟩; refine ⟨_, rfl, ?_⟩; have n0_ := am9_ (blk_below (g := gb158) (o := .cells #[.slice (some ad162) l0_0.length c0_0] 24 (0, 0)) (by (with_reducible repeat (first | refine blk_drewN ?_ _ | refine blk_drew ?_ | refine blk_alloc ?_ _)); exact BK158.out) hb); have n1_ := am9_ (blk_below (g := gb163) (o := .cells #[.string ((rd_T34 l0_0 a1).f0), .slice A162_1 ((rd_T34 l0_0 a1).f1).length c162_1] 34 (0, 0)) (by (with_reducible repeat (first | refine blk_drewN ?_ _ | refine blk_drew ?_ | refine blk_alloc ?_ _)); exact BK163.out) hb); have n2_ := am9_ (below_step (by repeat (first | (with_reducible first | exact HB.out | apply below_alloc | apply pw_below_drewN | apply below_drew1 | refine below_set ?_ GE158.out | refine below_set ?_ GE163.out) | exact HB.out)) hb); clear BK158; clear BK163; clear HB; have BK158 := n0_; have BK163 := n1_; have HB := n2_; clear n0_ n1_ n2_; (try clear hb); (try clear hb2); (try clear hk); (try clear hi); have hcz101_0 : w100.cell? ⟨gb158, 0, none⟩ = some (.slice (some ad162) l0_0.length c0_0) := (blk_cell BK158.out 0).trans rfl; have hfz101_0 := blk_frozen BK158.out 0; have p167 : 0 ≤ (t164 : Int) := of_decide_eq_true (by first | (with_reducible assumption) | assumption); have q167 : t164 < (l0_0.length : Int) := of_decide_eq_true (by first | (with_reducible assumption) | assumption); obtain ⟨ad167, A167_1, c167_1, e167, hx167_0, hx167_1, hl167_1, hi167_1⟩ := at_T34 HR0_0.out t164 p167 q167; obtain rfl : ad162 = ad167 := (by injection e167); replace hx167_0 := (HB.out.cell (World.block_lt_of_cell? w _ hx167_0)).trans hx167_0; replace hx167_1 := (HB.out.cell (World.block_lt_of_cell? w _ hx167_1)).trans hx167_1; have HR167_1 := Aside0.mk hi167_1; have HC167_1 := Aside0.mk hl167_1; clear hi167_1 hl167_1; replace p167 := eq_true p167; replace q167 := eq_true q167))
              have n0_ := am9_ (blk_drew BK158.out)
              have n1_ := am9_ (blk_drew BK163.out)
              have n2_ := am9_ (below_drew1 HB.out)
              clear BK158
              clear BK163
              clear HB
              have BK158 := n0_
              have BK163 := n1_
              have HB := n2_
              clear n0_ n1_ n2_
              refine start_ (n := 22) (S := fun w' => True) (ds := []) B9_0 (by kernel_rfl) rfl rfl trivial (fun hHeld => ?_); refine with_tabW foliatelaw06_SchemaNames.tab10 foliatelaw06_SchemaNames.bits10 (fun HT_ HW_ => ?_)
              generalize w100.drew = w102 at BK158 BK163 HB hHeld ⊢
              refine pure_ (i := 0) (N := some 99) (v := ?_) (a' := ?_) B9_1 rfl rfl (any_of HT_.out (by kernel_rfl)) (fun _ _ _ h => h) (Or.inl ⟨by rfl, ?_⟩) ?_ ?_; rotate_left; (·intro w'; go_simp; with_reducible rfl); rotate_left; (·simp only [Act.put, q1_9, q2_9, q3_9, i64_w, i32_w]; rfl)
              refine pure_ (i := 1) (N := some 100) (v := ?_) (a' := ?_) B9_2 rfl rfl (any_of HT_.out (by kernel_rfl)) (fun _ _ _ h => h) (Or.inl ⟨by rfl, ?_⟩) ?_ ?_; rotate_left; (·intro w'; go_simp; with_reducible rfl); rotate_left; (·simp only [Act.put, q1_9, q2_9, q3_9, i64_w, i32_w]; rfl)
              refine pure_ (i := 2) (N := some 101) (v := ?_) (a' := ?_) B9_3 rfl rfl (any_of HT_.out (by kernel_rfl)) (fun _ _ _ h => h) (Or.inl ⟨by rfl, ?_⟩) ?_ ?_; rotate_left; (·intro w'; go_simp; with_reducible rfl); rotate_left; (·simp only [Act.put, q1_9, q2_9, q3_9, i64_w, i32_w]; rfl)
              refine pure_ (i := 3) (N := some 102) (v := undef) (a' := ?_) B9_4 rfl rfl (any_of HT_.out (by kernel_rfl)) (fun _ _ _ h => h) (Or.inr ⟨by rfl, rfl⟩) ?_ ?_
              rotate_left
              ·simp only [Act.put, q1_9, q2_9, q3_9, i64_w, i32_w]
               rfl
              refine pure_ (i := 4) (N := some 103) (v := undef) (a' := ?_) B9_5 rfl rfl (any_of HT_.out (by kernel_rfl)) (fun _ _ _ h => h) (Or.inr ⟨by rfl, rfl⟩) ?_ ?_
              rotate_left
              ·simp only [Act.put, q1_9, q2_9, q3_9, i64_w, i32_w]
               rfl
              refine pure_ (i := 5) (N := some 104) (v := undef) (a' := ?_) B9_6 rfl rfl (any_of HT_.out (by kernel_rfl)) (fun _ _ _ h => h) (Or.inr ⟨by rfl, rfl⟩) ?_ ?_
              rotate_left
              ·simp only [Act.put, q1_9, q2_9, q3_9, i64_w, i32_w]
               rfl
              refine pure_ (i := 6) (N := some 105) (v := undef) (a' := ?_) B9_7 rfl rfl (any_of HT_.out (by kernel_rfl)) (fun _ _ _ h => h) (Or.inr ⟨by rfl, rfl⟩) ?_ ?_
              rotate_left
              ·simp only [Act.put, q1_9, q2_9, q3_9, i64_w, i32_w]
               rfl
              refine pure_ (i := 7) (N := some 106) (v := undef) (a' := ?_) B9_8 rfl rfl (any_of HT_.out (by kernel_rfl)) (fun _ _ _ h => h) (Or.inr ⟨by rfl, rfl⟩) ?_ ?_
              rotate_left
              ·simp only [Act.put, q1_9, q2_9, q3_9, i64_w, i32_w]
               rfl
              refine pure_ (i := 8) (N := some 107) (v := ?_) (a' := ?_) B9_9 rfl rfl (any_of HT_.out (by kernel_rfl)) (fun _ _ _ h => h) (Or.inl ⟨by rfl, ?_⟩) ?_ ?_; rotate_left; (·intro w'; go_simp; with_reducible rfl); rotate_left; (·simp only [Act.put, q1_9, q2_9, q3_9, i64_w, i32_w]; rfl)
              refine pure_ (i := 9) (N := some 108) (v := ?_) (a' := ?_) B9_10 rfl rfl (any_of HT_.out (by kernel_rfl)) (fun _ _ _ h => h) (Or.inl ⟨by rfl, ?_⟩) ?_ ?_; rotate_left; (·intro w'; go_simp; with_reducible rfl); rotate_left; (·simp only [Act.put, q1_9, q2_9, q3_9, i64_w, i32_w]; rfl)
              refine pure_ (i := 10) (N := some 109) (v := undef) (a' := ?_) B9_14 rfl rfl (any_of HT_.out (by kernel_rfl)) (fun _ _ _ h => h) (Or.inr ⟨by rfl, rfl⟩) ?_ ?_
              rotate_left
              ·simp only [Act.put, q1_9, q2_9, q3_9, i64_w, i32_w]
               rfl
              refine pure_ (i := 11) (N := some 110) (v := undef) (a' := ?_) B9_15 rfl rfl (any_of HT_.out (by kernel_rfl)) (fun _ _ _ h => h) (Or.inr ⟨by rfl, rfl⟩) ?_ ?_
              rotate_left
              ·simp only [Act.put, q1_9, q2_9, q3_9, i64_w, i32_w]
               rfl
              refine pure_ (i := 12) (N := some 111) (v := undef) (a' := ?_) B9_17 rfl rfl (any_of HT_.out (by kernel_rfl)) (fun _ _ _ h => h) (Or.inr ⟨by rfl, rfl⟩) ?_ ?_
              rotate_left
              ·simp only [Act.put, q1_9, q2_9, q3_9, i64_w, i32_w]
               rfl
              refine pure_ (i := 13) (N := some 112) (v := undef) (a' := ?_) B9_18 rfl rfl (any_of HT_.out (by kernel_rfl)) (fun _ _ _ h => h) (Or.inr ⟨by rfl, rfl⟩) ?_ ?_
              rotate_left
              ·simp only [Act.put, q1_9, q2_9, q3_9, i64_w, i32_w]
               rfl
              refine pure_ (i := 14) (N := some 113) (v := undef) (a' := ?_) B9_20 rfl rfl (any_of HT_.out (by kernel_rfl)) (fun _ _ _ h => h) (Or.inr ⟨by rfl, rfl⟩) ?_ ?_
              rotate_left
              ·simp only [Act.put, q1_9, q2_9, q3_9, i64_w, i32_w]
               rfl
              refine pure_ (i := 15) (N := some 114) (v := undef) (a' := ?_) B9_22 rfl rfl (any_of HT_.out (by kernel_rfl)) (fun _ _ _ h => h) (Or.inr ⟨by rfl, rfl⟩) ?_ ?_
              rotate_left
              ·simp only [Act.put, q1_9, q2_9, q3_9, i64_w, i32_w]
               rfl
              refine pure_ (i := 16) (N := some 115) (v := undef) (a' := ?_) B9_24 rfl rfl (any_of HT_.out (by kernel_rfl)) (fun _ _ _ h => h) (Or.inr ⟨by rfl, rfl⟩) ?_ ?_
              rotate_left
              ·simp only [Act.put, q1_9, q2_9, q3_9, i64_w, i32_w]
               rfl
              refine pure_ (i := 17) (N := some 116) (v := undef) (a' := ?_) B9_26 rfl rfl (any_of HT_.out (by kernel_rfl)) (fun _ _ _ h => h) (Or.inr ⟨by rfl, rfl⟩) ?_ ?_
              rotate_left
              ·simp only [Act.put, q1_9, q2_9, q3_9, i64_w, i32_w]
               rfl
              refine pure_ (i := 18) (N := some 117) (v := undef) (a' := ?_) B9_27 rfl rfl (any_of HT_.out (by kernel_rfl)) (fun _ _ _ h => h) (Or.inr ⟨by rfl, rfl⟩) ?_ ?_
              rotate_left
              ·simp only [Act.put, q1_9, q2_9, q3_9, i64_w, i32_w]
               rfl
              refine pure_ (i := 19) (N := some 118) (v := undef) (a' := ?_) B9_28 rfl rfl (any_of HT_.out (by kernel_rfl)) (fun _ _ _ h => h) (Or.inr ⟨by rfl, rfl⟩) ?_ ?_
              rotate_left
              ·simp only [Act.put, q1_9, q2_9, q3_9, i64_w, i32_w]
               rfl
              refine pure_ (i := 20) (N := some 119) (v := ?_) (a' := ?_) B9_29 rfl rfl (any_of HT_.out (by kernel_rfl)) (fun _ _ _ h => h) (Or.inl ⟨by rfl, ?_⟩) ?_ ?_; rotate_left; (·intro w'; go_simp; with_reducible rfl); rotate_left; (·simp only [Act.put, q1_9, q2_9, q3_9, i64_w, i32_w]; rfl)
              refine pure_ (i := 21) (N := some 8) (v := ?_) (a' := ?_) B9_30 rfl rfl (any_of HT_.out (by kernel_rfl)) (fun _ _ _ h => h) (Or.inl ⟨by rfl, ?_⟩) ?_ ?_; rotate_left; (·intro w'; go_simp; with_reducible rfl); rotate_left; (·simp only [Act.put, q1_9, q2_9, q3_9, i64_w, i32_w]; rfl)
              refine done_ (done_of HT_.out (by kernel_rfl)) ?_
              try go_wp2
              go_ret
              exact ⟨by first | rfl | (simp [errW_none, errW_some] <;> rfl) | (simp [*, errW_none, errW_some] <;> rfl), by repeat (first | (with_reducible first | exact HB.out | apply below_alloc | apply pw_below_drewN | apply below_drew1 | refine below_set ?_ GE158.out | refine below_set ?_ GE163.out) | exact HB.out)⟩
             ·rw [if_neg c89] at H
              have c89b0 : decide (a2 < 0) = false := decide_eq_false c89
              clear c89
              by_cases c103 : a2 ≥ (((rd_T34 l0_0 a1).f1).length : Int)
              ·rw [if_pos c103] at H
               have c103b0 : decide ((((rd_T34 l0_0 a1).f1).length : Int) ≤ a2) = true := decide_eq_true c103
               clear c103
               obtain rfl := Option.some.inj H
               have hcz104_0 : wc.cell? ⟨gb158, 0, none⟩ = some (.slice A0_0 l0_0.length c0_0) := (blk_cell BK158.out 0).trans rfl
               have hfz104_0 := blk_frozen BK158.out 0
               have p162 : 0 ≤ (a1 : Int) := of_decide_eq_true (by first | (with_reducible assumption) | assumption)
               have q162 : a1 < (l0_0.length : Int) := of_decide_eq_true (by first | (with_reducible assumption) | assumption)
               obtain ⟨ad162, A162_1, c162_1, e162, hx162_0, hx162_1, hl162_1, hi162_1⟩ := at_T34 HR0_0.out a1 p162 q162
               cases e162
               replace hx162_0 := (HB.out.cell (World.block_lt_of_cell? w _ hx162_0)).trans hx162_0
               replace hx162_1 := (HB.out.cell (World.block_lt_of_cell? w _ hx162_1)).trans hx162_1
               have HR162_1 := Aside0.mk hi162_1
               have HC162_1 := Aside0.mk hl162_1
               clear hi162_1 hl162_1
               replace p162 := eq_true p162
               replace q162 := eq_true q162
               try go_wp2_with (first | ((with_reducible refine gate_dst (N := 11) rfl ?_); (try (refine gate_guard (by rfl) ?_; dsimp only)); refine box_event ?hg (N := 11) ?hd (cs := #[.string (⟨#[]⟩ : ByteArray), .slice none 0 0]) (t := 34) ?hr ?_; (case hd => rfl); (case hg => rfl); (case hr => first | (go_simp; done) | (go_simp; rfl)); intro gb163 hg w105 hbox hb; have n0_ := am9_ (blk_below (g := gb158) (o := .cells #[.slice (some ad162) l0_0.length c0_0] 24 (0, 0)) (by (with_reducible repeat (first | refine blk_drewN ?_ _ | refine blk_drew ?_ | refine blk_alloc ?_ _)); exact BK158.out) hb); have n1_ := am9_ (below_step (by repeat (first | (with_reducible first | exact HB.out | apply below_alloc | apply pw_below_drewN | apply below_drew1 | refine below_set ?_ GE158.out) | exact HB.out)) hb); have n2_ := am9_ (hbox); have n3_ := am9_ ((by rw [hg]; exact (below_size (by repeat (first | (with_reducible first | exact HB.out | apply below_alloc | apply pw_below_drewN | apply below_drew1 | refine below_set ?_ GE158.out) | exact HB.out))) : w.heap.size ≤ gb163)); have n4_ := am9_ ((by rw [hg]; exact (below_size (by repeat (first | (with_reducible first | exact HB.out | apply below_alloc | apply pw_below_drewN | apply below_drew1 | refine below_set ?_ GE158.out) | exact HB.out))) : w.heap.size ≤ gb163)); have n5_ := am9_ ((by rw [hg]; exact Nat.ne_of_lt (blk_lt (g := gb158) (o := .cells #[.slice (some ad162) l0_0.length c0_0] 24 (0, 0)) (by (with_reducible repeat (first | refine blk_drewN ?_ _ | refine blk_drew ?_ | refine blk_alloc ?_ _)); exact BK158.out)) : gb158 ≠ gb163)); have n6_ := am9_ ((by rw [hg]; exact Nat.ne_of_gt (blk_lt (g := gb158) (o := .cells #[.slice (some ad162) l0_0.length c0_0] 24 (0, 0)) (by (with_reducible repeat (first | refine blk_drewN ?_ _ | refine blk_drew ?_ | refine blk_alloc ?_ _)); exact BK158.out)) : gb163 ≠ gb158)); clear BK158; clear HB; have BK158 := n0_; have HB := n1_; have BK163 := n2_; have GW163 := n3_; have GE163 := n4_; have NB158_163 := n5_; have NB163_158 := n6_; clear n0_ n1_ n2_ n3_ n4_ n5_ n6_; clear hb hbox hg; have hnb106 := NB163_158.out; have hnc106 := NB158_163.out; have hcz107_0 : w105.cell? ⟨gb163, 0, none⟩ = some (.string (⟨#[]⟩ : ByteArray)) := (blk_cell BK163.out 0).trans rfl; have hcz107_1 : w105.cell? ⟨gb163, 1, none⟩ = some (.slice none 0 0) := (blk_cell BK163.out 1).trans rfl; have hfz107_0 := blk_frozen BK163.out 0; have hfz107_1 := blk_frozen BK163.out 1; have hcz108_0 : w105.cell? ⟨gb158, 0, none⟩ = some (.slice (some ad162) l0_0.length c0_0) := (blk_cell BK158.out 0).trans rfl; have hfz108_0 := blk_frozen BK158.out 0) | ((with_reducible refine gate_callee (f := 21) rfl ?_); refine goesL_ (some 47) rfl rfl Try.func21 (by kernel_rfl) rfl #[.agg #[.slice (some ad162) l0_0.length c0_0], .string a3] rfl (by (try simp only [List.map_toArray, List.map_cons, List.map_nil]); first | done | rfl | (simp only [List.length_drop, List.length_take]; rfl)) ?_; (with_reducible refine (schema_Find.calls _ _ l0_0 a3 t164 _ ?side1 ?side2 A27.out).mono ?_); (case side1 => exact Kd.C_below HR0_0.out (by repeat (first | (with_reducible first | exact HB.out | apply below_alloc | apply pw_below_drewN | apply below_drew1 | refine below_set ?_ GE158.out | refine below_set ?_ GE163.out) | exact HB.out))); (case side2 => exact HC0_0.out); rintro e w109 ⟨rfl, hb⟩; refine ⟨_, rfl, ?_⟩; have n0_ := am9_ (blk_below (g := gb158) (o := .cells #[.slice (some ad162) l0_0.length c0_0] 24 (0, 0)) (by (with_reducible repeat (first | refine blk_drewN ?_ _ | refine blk_drew ?_ | refine blk_alloc ?_ _)); refine blk_far ?_ NB158_163.out _; (with_reducible repeat (first | refine blk_drewN ?_ _ | refine blk_drew ?_ | refine blk_alloc ?_ _)); refine blk_far ?_ NB158_163.out _; (with_reducible repeat (first | refine blk_drewN ?_ _ | refine blk_drew ?_ | refine blk_alloc ?_ _)); exact BK158.out) hb); have n1_ := am9_ (blk_below (g := gb163) (o := .cells #[.string ((rd_T34 l0_0 a1).f0), .slice A162_1 ((rd_T34 l0_0 a1).f1).length c162_1] 34 (0, 0)) (by (with_reducible repeat (first | refine blk_drewN ?_ _ | refine blk_drew ?_ | refine blk_alloc ?_ _)); refine blk_put (cs := #[.string ((rd_T34 l0_0 a1).f0), .slice none 0 0]) ?_ 1 _ rfl; (with_reducible repeat (first | refine blk_drewN ?_ _ | refine blk_drew ?_ | refine blk_alloc ?_ _)); refine blk_put (cs := #[.string (⟨#[]⟩ : ByteArray), .slice none 0 0]) ?_ 0 _ rfl; (with_reducible repeat (first | refine blk_drewN ?_ _ | refine blk_drew ?_ | refine blk_alloc ?_ _)); exact BK163.out) hb); have n2_ := am9_ (below_step (by repeat (first | (with_reducible first | exact HB.out | apply below_alloc | apply pw_below_drewN | apply below_drew1 | refine below_set ?_ GE158.out | refine below_set ?_ GE163.out) | exact HB.out)) hb); clear BK158; clear BK163; clear HB; have BK158 := n0_; have BK163 := n1_; have HB := n2_; clear n0_ n1_ n2_; (try clear hb); (try clear hb2); (try clear hk); (try clear hi); have hcz110_0 : w109.cell? ⟨gb163, 0, none⟩ = some (.string ((rd_T34 l0_0 a1).f0)) := (blk_cell BK163.out 0).trans rfl; have hcz110_1 : w109.cell? ⟨gb163, 1, none⟩ = some (.slice A162_1 ((rd_T34 l0_0 a1).f1).length c162_1) := (blk_cell BK163.out 1).trans rfl; have hfz110_0 := blk_frozen BK163.out 0; have hfz110_1 := blk_frozen BK163.out 1) | ((with_reducible refine gate_callee (f := 15) rfl ?_); refine goesL_ (some 50) rfl rfl Try.func15 (by kernel_rfl) rfl #[.agg #[.string ((rd_T34 l0_0 a1).f0), .slice A162_1 ((rd_T34 l0_0 a1).f1).length c162_1], .string a3] rfl (by (try simp only [List.map_toArray, List.map_cons, List.map_nil]); first | done | rfl | (simp only [List.length_drop, List.length_take]; rfl)) ?_; (with_reducible refine (schema_Field.calls ((rd_T34 l0_0 a1).f0) _ _ ((rd_T34 l0_0 a1).f1) a3 t165 _ ?side1 ?side2 A28.out).mono ?_); (case side1 => repeat (first | exact (Kd.C_below HR162_1.out HB.out) | (with_reducible first | refine ca9_ ?_ _ | refine cn9_ ?_ _ | refine cd9_ ?_))); (case side2 => exact HC162_1.out); rintro e w111 ⟨rfl, hb⟩; refine ⟨_, rfl, ?_⟩; have n0_ := am9_ (blk_below (g := gb158) (o := .cells #[.slice (some ad162) l0_0.length c0_0] 24 (0, 0)) (by (with_reducible repeat (first | refine blk_drewN ?_ _ | refine blk_drew ?_ | refine blk_alloc ?_ _)); exact BK158.out) hb); have n1_ := am9_ (blk_below (g := gb163) (o := .cells #[.string ((rd_T34 l0_0 a1).f0), .slice A162_1 ((rd_T34 l0_0 a1).f1).length c162_1] 34 (0, 0)) (by (with_reducible repeat (first | refine blk_drewN ?_ _ | refine blk_drew ?_ | refine blk_alloc ?_ _)); exact BK163.out) hb); have n2_ := am9_ (below_step (by repeat (first | (with_reducible first | exact HB.out | apply below_alloc | apply pw_below_drewN | apply below_drew1 | refine below_set ?_ GE158.out | refine below_set ?_ GE163.out) | exact HB.out)) hb); clear BK158; clear BK163; clear HB; have BK158 := n0_; have BK163 := n1_; have HB := n2_; clear n0_ n1_ n2_; (try clear hb); (try clear hb2); (try clear hk); (try clear hi); have hcz112_0 : w111.cell? ⟨gb158, 0, none⟩ = some (.slice (some ad162) l0_0.length c0_0) := (blk_cell BK158.out 0).trans rfl; have hfz112_0 := blk_frozen BK158.out 0; have hcz113_0 : w111.cell? ⟨gb163, 0, none⟩ = some (.string ((rd_T34 l0_0 a1).f0)) := (blk_cell BK163.out 0).trans rfl; have hcz113_1 : w111.cell? ⟨gb163, 1, none⟩ = some (.slice A162_1 ((rd_T34 l0_0 a1).f1).length c162_1) := (blk_cell BK163.out 1).trans rfl; have hfz113_0 := blk_frozen BK163.out 0; have hfz113_1 := blk_frozen BK163.out 1) | ((with_reducible refine gate_callee (f := 21) rfl ?_); refine goesL_ (some 54) rfl rfl Try.func21 (by kernel_rfl) rfl #[.agg #[.slice (some ad162) l0_0.length c0_0], .string ((rd_T34 l0_0 a1).f0)] rfl (by (try simp only [List.map_toArray, List.map_cons, List.map_nil]); first | done | rfl | (simp only [List.length_drop, List.length_take]; rfl)) ?_; (with_reducible refine (schema_Find.calls _ _ l0_0 ((rd_T34 l0_0 a1).f0) t166 _ ?side1 ?side2 A29.out).mono ?_); (case side1 => repeat (first | exact (Kd.C_below HR0_0.out HB.out) | (with_reducible first | refine ca9_ ?_ _ | refine cn9_ ?_ _ | refine cd9_ ?_))); (case side2 => exact HC0_0.out); rintro e w114 ⟨rfl, hb⟩; refine ⟨_, rfl, ?_⟩; have n0_ := am9_ (blk_below (g := gb158) (o := .cells #[.slice (some ad162) l0_0.length c0_0] 24 (0, 0)) (by (with_reducible repeat (first | refine blk_drewN ?_ _ | refine blk_drew ?_ | refine blk_alloc ?_ _)); exact BK158.out) hb); have n1_ := am9_ (blk_below (g := gb163) (o := .cells #[.string ((rd_T34 l0_0 a1).f0), .slice A162_1 ((rd_T34 l0_0 a1).f1).length c162_1] 34 (0, 0)) (by (with_reducible repeat (first | refine blk_drewN ?_ _ | refine blk_drew ?_ | refine blk_alloc ?_ _)); exact BK163.out) hb); have n2_ := am9_ (below_step (by repeat (first | (with_reducible first | exact HB.out | apply below_alloc | apply pw_below_drewN | apply below_drew1 | refine below_set ?_ GE158.out | refine below_set ?_ GE163.out) | exact HB.out)) hb); clear BK158; clear BK163; clear HB; have BK158 := n0_; have BK163 := n1_; have HB := n2_; clear n0_ n1_ n2_; (try clear hb); (try clear hb2); (try clear hk); (try clear hi); have hcz115_0 : w114.cell? ⟨gb158, 0, none⟩ = some (.slice (some ad162) l0_0.length c0_0) := (blk_cell BK158.out 0).trans rfl; have hfz115_0 := blk_frozen BK158.out 0; have p167 : 0 ≤ (t164 : Int) := of_decide_eq_true (by first | (with_reducible assumption) | assumption); have q167 : t164 < (l0_0.length : Int) := of_decide_eq_true (by first | (with_reducible assumption) | assumption); obtain ⟨ad167, A167_1, c167_1, e167, hx167_0, hx167_1, hl167_1, hi167_1⟩ := at_T34 HR0_0.out t164 p167 q167; obtain rfl : ad162 = ad167 := (by injection e167); replace hx167_0 := (HB.out.cell (World.block_lt_of_cell? w _ hx167_0)).trans hx167_0; replace hx167_1 := (HB.out.cell (World.block_lt_of_cell? w _ hx167_1)).trans hx167_1; have HR167_1 := Aside0.mk hi167_1; have HC167_1 := Aside0.mk hl167_1; clear hi167_1 hl167_1; replace p167 := eq_true p167; replace q167 := eq_true q167))
               have n0_ := am9_ (blk_drew BK158.out)
               have n1_ := am9_ (blk_drew BK163.out)
               have n2_ := am9_ (below_drew1 HB.out)
               clear BK158
               clear BK163
               clear HB
               have BK158 := n0_
               have BK163 := n1_
               have HB := n2_
               clear n0_ n1_ n2_
               refine start_ (n := 22) (S := fun w' => w'.cell? ⟨gb163, 0, none⟩ = some (.string ((rd_T34 l0_0 a1).f0)) ∧ w'.cell? ⟨gb163, 1, none⟩ = some (.slice A162_1 ((rd_T34 l0_0 a1).f1).length c162_1)) (ds := []) B9_0 (by kernel_rfl) rfl rfl ⟨(blk_cell BK163.out 0).trans rfl, (blk_cell BK163.out 1).trans rfl⟩ (fun hHeld => ?_); refine with_tabW foliatelaw06_SchemaNames.tab10 foliatelaw06_SchemaNames.bits10 (fun HT_ HW_ => ?_)
               generalize w114.drew = w116 at BK158 BK163 HB hHeld ⊢
               refine pure_ (i := 0) (N := some 99) (v := ?_) (a' := ?_) B9_1 rfl rfl (any_of HT_.out (by kernel_rfl)) (fun _ _ _ h => h) (Or.inl ⟨by rfl, ?_⟩) ?_ ?_; rotate_left; (·intro w'; go_simp; with_reducible rfl); rotate_left; (·simp only [Act.put, q1_9, q2_9, q3_9, i64_w, i32_w]; rfl)
               refine pure_ (i := 1) (N := some 100) (v := ?_) (a' := ?_) B9_2 rfl rfl (any_of HT_.out (by kernel_rfl)) (fun _ _ _ h => h) (Or.inl ⟨by rfl, ?_⟩) ?_ ?_; rotate_left; (·intro w'; go_simp; with_reducible rfl); rotate_left; (·simp only [Act.put, q1_9, q2_9, q3_9, i64_w, i32_w]; rfl)
               refine pure_ (i := 2) (N := some 101) (v := ?_) (a' := ?_) B9_3 rfl rfl (any_of HT_.out (by kernel_rfl)) (fun _ _ _ h => h) (Or.inl ⟨by rfl, ?_⟩) ?_ ?_; rotate_left; (·intro w'; go_simp; with_reducible rfl); rotate_left; (·simp only [Act.put, q1_9, q2_9, q3_9, i64_w, i32_w]; rfl)
               refine pure_ (i := 3) (N := some 102) (v := ?_) (a' := ?_) B9_4 rfl rfl (any_of HT_.out (by kernel_rfl)) (fun _ _ _ h => h) (Or.inl ⟨by rfl, ?_⟩) ?_ ?_; rotate_left; (·intro w'; go_simp; with_reducible rfl); rotate_left; (·simp only [Act.put, q1_9, q2_9, q3_9, i64_w, i32_w]; rfl)
               refine pure_ (i := 4) (N := some 103) (v := ?_) (a' := ?_) B9_5 rfl rfl (any_of HT_.out (by kernel_rfl)) (fun _ _ _ h => h) (Or.inl ⟨by rfl, ?_⟩) ?_ ?_; rotate_left; (·intro w'; go_simp; with_reducible rfl); rotate_left; (·simp only [Act.put, q1_9, q2_9, q3_9, i64_w, i32_w]; rfl)
               refine take_ (i := 5) (N := some 104) (v := ?_) (a' := ?_) B9_6 rfl rfl (take_ofW HT_.out HW_.out (by kernel_rfl)) (fun _ _ _ h => h) (Or.inl ⟨by rfl, ?_⟩) hHeld ?_ ?_
               rotate_left
               ·rintro w' ⟨s0, s1⟩
                go_simp
                with_reducible rfl
               rotate_left
               ·simp only [Act.put, q1_9, q2_9, q3_9, i64_w, i32_w]
                rfl
               refine pure_ (i := 6) (N := some 105) (v := ?_) (a' := ?_) B9_7 rfl rfl (any_of HT_.out (by kernel_rfl)) (fun _ _ _ h => h) (Or.inl ⟨by rfl, ?_⟩) ?_ ?_; rotate_left; (·intro w'; go_simp; with_reducible rfl); rotate_left; (·simp only [Act.put, q1_9, q2_9, q3_9, i64_w, i32_w]; rfl)
               refine pure_ (i := 7) (N := some 106) (v := ?_) (a' := ?_) B9_8 rfl rfl (any_of HT_.out (by kernel_rfl)) (fun _ _ _ h => h) (Or.inl ⟨by rfl, ?_⟩) ?_ ?_; rotate_left; (·intro w'; go_simp; with_reducible rfl); rotate_left; (·simp only [Act.put, q1_9, q2_9, q3_9, i64_w, i32_w]; rfl)
               refine pure_ (i := 8) (N := some 107) (v := ?_) (a' := ?_) B9_9 rfl rfl (any_of HT_.out (by kernel_rfl)) (fun _ _ _ h => h) (Or.inl ⟨by rfl, ?_⟩) ?_ ?_; rotate_left; (·intro w'; go_simp; with_reducible rfl); rotate_left; (·simp only [Act.put, q1_9, q2_9, q3_9, i64_w, i32_w]; rfl)
               refine pure_ (i := 9) (N := some 108) (v := ?_) (a' := ?_) B9_10 rfl rfl (any_of HT_.out (by kernel_rfl)) (fun _ _ _ h => h) (Or.inl ⟨by rfl, ?_⟩) ?_ ?_; rotate_left; (·intro w'; go_simp; with_reducible rfl); rotate_left; (·simp only [Act.put, q1_9, q2_9, q3_9, i64_w, i32_w]; rfl)
               refine pure_ (i := 10) (N := some 109) (v := undef) (a' := ?_) B9_14 rfl rfl (any_of HT_.out (by kernel_rfl)) (fun _ _ _ h => h) (Or.inr ⟨by rfl, rfl⟩) ?_ ?_
               rotate_left
               ·simp only [Act.put, q1_9, q2_9, q3_9, i64_w, i32_w]
                rfl
               refine pure_ (i := 11) (N := some 110) (v := undef) (a' := ?_) B9_15 rfl rfl (any_of HT_.out (by kernel_rfl)) (fun _ _ _ h => h) (Or.inr ⟨by rfl, rfl⟩) ?_ ?_
               rotate_left
               ·simp only [Act.put, q1_9, q2_9, q3_9, i64_w, i32_w]
                rfl
               refine pure_ (i := 12) (N := some 111) (v := undef) (a' := ?_) B9_17 rfl rfl (any_of HT_.out (by kernel_rfl)) (fun _ _ _ h => h) (Or.inr ⟨by rfl, rfl⟩) ?_ ?_
               rotate_left
               ·simp only [Act.put, q1_9, q2_9, q3_9, i64_w, i32_w]
                rfl
               refine pure_ (i := 13) (N := some 112) (v := undef) (a' := ?_) B9_18 rfl rfl (any_of HT_.out (by kernel_rfl)) (fun _ _ _ h => h) (Or.inr ⟨by rfl, rfl⟩) ?_ ?_
               rotate_left
               ·simp only [Act.put, q1_9, q2_9, q3_9, i64_w, i32_w]
                rfl
               refine pure_ (i := 14) (N := some 113) (v := undef) (a' := ?_) B9_20 rfl rfl (any_of HT_.out (by kernel_rfl)) (fun _ _ _ h => h) (Or.inr ⟨by rfl, rfl⟩) ?_ ?_
               rotate_left
               ·simp only [Act.put, q1_9, q2_9, q3_9, i64_w, i32_w]
                rfl
               refine pure_ (i := 15) (N := some 114) (v := undef) (a' := ?_) B9_22 rfl rfl (any_of HT_.out (by kernel_rfl)) (fun _ _ _ h => h) (Or.inr ⟨by rfl, rfl⟩) ?_ ?_
               rotate_left
               ·simp only [Act.put, q1_9, q2_9, q3_9, i64_w, i32_w]
                rfl
               refine pure_ (i := 16) (N := some 115) (v := undef) (a' := ?_) B9_24 rfl rfl (any_of HT_.out (by kernel_rfl)) (fun _ _ _ h => h) (Or.inr ⟨by rfl, rfl⟩) ?_ ?_
               rotate_left
               ·simp only [Act.put, q1_9, q2_9, q3_9, i64_w, i32_w]
                rfl
               refine pure_ (i := 17) (N := some 116) (v := undef) (a' := ?_) B9_26 rfl rfl (any_of HT_.out (by kernel_rfl)) (fun _ _ _ h => h) (Or.inr ⟨by rfl, rfl⟩) ?_ ?_
               rotate_left
               ·simp only [Act.put, q1_9, q2_9, q3_9, i64_w, i32_w]
                rfl
               refine pure_ (i := 18) (N := some 117) (v := undef) (a' := ?_) B9_27 rfl rfl (any_of HT_.out (by kernel_rfl)) (fun _ _ _ h => h) (Or.inr ⟨by rfl, rfl⟩) ?_ ?_
               rotate_left
               ·simp only [Act.put, q1_9, q2_9, q3_9, i64_w, i32_w]
                rfl
               refine pure_ (i := 19) (N := some 118) (v := undef) (a' := ?_) B9_28 rfl rfl (any_of HT_.out (by kernel_rfl)) (fun _ _ _ h => h) (Or.inr ⟨by rfl, rfl⟩) ?_ ?_
               rotate_left
               ·simp only [Act.put, q1_9, q2_9, q3_9, i64_w, i32_w]
                rfl
               refine pure_ (i := 20) (N := some 119) (v := ?_) (a' := ?_) B9_29 rfl rfl (any_of HT_.out (by kernel_rfl)) (fun _ _ _ h => h) (Or.inl ⟨by rfl, ?_⟩) ?_ ?_; rotate_left; (·intro w'; go_simp; with_reducible rfl); rotate_left; (·simp only [Act.put, q1_9, q2_9, q3_9, i64_w, i32_w]; rfl)
               refine pure_ (i := 21) (N := some 8) (v := ?_) (a' := ?_) B9_30 rfl rfl (any_of HT_.out (by kernel_rfl)) (fun _ _ _ h => h) (Or.inl ⟨by rfl, ?_⟩) ?_ ?_; rotate_left; (·intro w'; go_simp; with_reducible rfl); rotate_left; (·simp only [Act.put, q1_9, q2_9, q3_9, i64_w, i32_w]; rfl)
               refine done_ (done_of HT_.out (by kernel_rfl)) ?_
               try go_wp2
               go_ret
               exact ⟨by first | rfl | (simp [errW_none, errW_some] <;> rfl) | (simp [*, errW_none, errW_some] <;> rfl), by repeat (first | (with_reducible first | exact HB.out | apply below_alloc | apply pw_below_drewN | apply below_drew1 | refine below_set ?_ GE158.out | refine below_set ?_ GE163.out) | exact HB.out)⟩
              ·rw [if_neg c103] at H
               have c103b0 : decide ((((rd_T34 l0_0 a1).f1).length : Int) ≤ a2) = false := decide_eq_false c103
               clear c103
               by_cases c117 : 0 ≤ a2
               ·rw [if_pos c117] at H
                have c117b0 : decide (0 ≤ a2) = true := decide_eq_true c117
                clear c117
                by_cases c118 : a2 < (((rd_T34 l0_0 a1).f1).length : Int)
                ·rw [if_pos c118] at H
                 have c118b0 : decide (a2 < (((rd_T34 l0_0 a1).f1).length : Int)) = true := decide_eq_true c118
                 clear c118
                 replace H := Option.bind_eq_some_iff.mp H
                 obtain ⟨t172, A1190, H⟩ := H
                 replace H : (some (t172 == a2)) = some r := H
                 have A119 := Aside0.mk A1190
                 clear A1190
                 obtain rfl := Option.some.inj H
                 have hcz120_0 : wc.cell? ⟨gb158, 0, none⟩ = some (.slice A0_0 l0_0.length c0_0) := (blk_cell BK158.out 0).trans rfl
                 have hfz120_0 := blk_frozen BK158.out 0
                 have p162 : 0 ≤ (a1 : Int) := of_decide_eq_true (by first | (with_reducible assumption) | assumption)
                 have q162 : a1 < (l0_0.length : Int) := of_decide_eq_true (by first | (with_reducible assumption) | assumption)
                 obtain ⟨ad162, A162_1, c162_1, e162, hx162_0, hx162_1, hl162_1, hi162_1⟩ := at_T34 HR0_0.out a1 p162 q162
                 cases e162
                 replace hx162_0 := (HB.out.cell (World.block_lt_of_cell? w _ hx162_0)).trans hx162_0
                 replace hx162_1 := (HB.out.cell (World.block_lt_of_cell? w _ hx162_1)).trans hx162_1
                 have HR162_1 := Aside0.mk hi162_1
                 have HC162_1 := Aside0.mk hl162_1
                 clear hi162_1 hl162_1
                 replace p162 := eq_true p162
                 replace q162 := eq_true q162
                 try go_wp2_with (first | ((with_reducible refine gate_dst (N := 11) rfl ?_); (try (refine gate_guard (by rfl) ?_; dsimp only)); refine box_event ?hg (N := 11) ?hd (cs := #[.string (⟨#[]⟩ : ByteArray), .slice none 0 0]) (t := 34) ?hr ?_; (case hd => rfl); (case hg => rfl); (case hr => first | (go_simp; done) | (go_simp; rfl)); intro gb163 hg w121 hbox hb; have n0_ := am9_ (blk_below (g := gb158) (o := .cells #[.slice (some ad162) l0_0.length c0_0] 24 (0, 0)) (by (with_reducible repeat (first | refine blk_drewN ?_ _ | refine blk_drew ?_ | refine blk_alloc ?_ _)); exact BK158.out) hb); have n1_ := am9_ (below_step (by repeat (first | (with_reducible first | exact HB.out | apply below_alloc | apply pw_below_drewN | apply below_drew1 | refine below_set ?_ GE158.out) | exact HB.out)) hb); have n2_ := am9_ (hbox); have n3_ := am9_ ((by rw [hg]; exact (below_size (by repeat (first | (with_reducible first | exact HB.out | apply below_alloc | apply pw_below_drewN | apply below_drew1 | refine below_set ?_ GE158.out) | exact HB.out))) : w.heap.size ≤ gb163)); have n4_ := am9_ ((by rw [hg]; exact (below_size (by repeat (first | (with_reducible first | exact HB.out | apply below_alloc | apply pw_below_drewN | apply below_drew1 | refine below_set ?_ GE158.out) | exact HB.out))) : w.heap.size ≤ gb163)); have n5_ := am9_ ((by rw [hg]; exact Nat.ne_of_lt (blk_lt (g := gb158) (o := .cells #[.slice (some ad162) l0_0.length c0_0] 24 (0, 0)) (by (with_reducible repeat (first | refine blk_drewN ?_ _ | refine blk_drew ?_ | refine blk_alloc ?_ _)); exact BK158.out)) : gb158 ≠ gb163)); have n6_ := am9_ ((by rw [hg]; exact Nat.ne_of_gt (blk_lt (g := gb158) (o := .cells #[.slice (some ad162) l0_0.length c0_0] 24 (0, 0)) (by (with_reducible repeat (first | refine blk_drewN ?_ _ | refine blk_drew ?_ | refine blk_alloc ?_ _)); exact BK158.out)) : gb163 ≠ gb158)); clear BK158; clear HB; have BK158 := n0_; have HB := n1_; have BK163 := n2_; have GW163 := n3_; have GE163 := n4_; have NB158_163 := n5_; have NB163_158 := n6_; clear n0_ n1_ n2_ n3_ n4_ n5_ n6_; clear hb hbox hg; have hnb122 := NB163_158.out; have hnc122 := NB158_163.out; have hcz123_0 : w121.cell? ⟨gb163, 0, none⟩ = some (.string (⟨#[]⟩ : ByteArray)) := (blk_cell BK163.out 0).trans rfl; have hcz123_1 : w121.cell? ⟨gb163, 1, none⟩ = some (.slice none 0 0) := (blk_cell BK163.out 1).trans rfl; have hfz123_0 := blk_frozen BK163.out 0; have hfz123_1 := blk_frozen BK163.out 1; have hcz124_0 : w121.cell? ⟨gb158, 0, none⟩ = some (.slice (some ad162) l0_0.length c0_0) := (blk_cell BK158.out 0).trans rfl; have hfz124_0 := blk_frozen BK158.out 0) | ((with_reducible refine gate_callee (f := 21) rfl ?_); refine goesL_ (some 47) rfl rfl Try.func21 (by kernel_rfl) rfl #[.agg #[.slice (some ad162) l0_0.length c0_0], .string a3] rfl (by (try simp only [List.map_toArray, List.map_cons, List.map_nil]); first | done | rfl | (simp only [List.length_drop, List.length_take]; rfl)) ?_; (with_reducible refine (schema_Find.calls _ _ l0_0 a3 t164 _ ?side1 ?side2 A27.out).mono ?_); (case side1 => exact Kd.C_below HR0_0.out (by repeat (first | (with_reducible first | exact HB.out | apply below_alloc | apply pw_below_drewN | apply below_drew1 | refine below_set ?_ GE158.out | refine below_set ?_ GE163.out) | exact HB.out))); (case side2 => exact HC0_0.out); rintro e w125 ⟨rfl, hb⟩; refine ⟨_, rfl, ?_⟩; have n0_ := am9_ (blk_below (g := gb158) (o := .cells #[.slice (some ad162) l0_0.length c0_0] 24 (0, 0)) (by (with_reducible repeat (first | refine blk_drewN ?_ _ | refine blk_drew ?_ | refine blk_alloc ?_ _)); refine blk_far ?_ NB158_163.out _; (with_reducible repeat (first | refine blk_drewN ?_ _ | refine blk_drew ?_ | refine blk_alloc ?_ _)); refine blk_far ?_ NB158_163.out _; (with_reducible repeat (first | refine blk_drewN ?_ _ | refine blk_drew ?_ | refine blk_alloc ?_ _)); exact BK158.out) hb); have n1_ := am9_ (blk_below (g := gb163) (o := .cells #[.string ((rd_T34 l0_0 a1).f0), .slice A162_1 ((rd_T34 l0_0 a1).f1).length c162_1] 34 (0, 0)) (by (with_reducible repeat (first | refine blk_drewN ?_ _ | refine blk_drew ?_ | refine blk_alloc ?_ _)); refine blk_put (cs := #[.string ((rd_T34 l0_0 a1).f0), .slice none 0 0]) ?_ 1 _ rfl; (with_reducible repeat (first | refine blk_drewN ?_ _ | refine blk_drew ?_ | refine blk_alloc ?_ _)); refine blk_put (cs := #[.string (⟨#[]⟩ : ByteArray), .slice none 0 0]) ?_ 0 _ rfl; (with_reducible repeat (first | refine blk_drewN ?_ _ | refine blk_drew ?_ | refine blk_alloc ?_ _)); exact BK163.out) hb); have n2_ := am9_ (below_step (by repeat (first | (with_reducible first | exact HB.out | apply below_alloc | apply pw_below_drewN | apply below_drew1 | refine below_set ?_ GE158.out | refine below_set ?_ GE163.out) | exact HB.out)) hb); clear BK158; clear BK163; clear HB; have BK158 := n0_; have BK163 := n1_; have HB := n2_; clear n0_ n1_ n2_; (try clear hb); (try clear hb2); (try clear hk); (try clear hi); have hcz126_0 : w125.cell? ⟨gb163, 0, none⟩ = some (.string ((rd_T34 l0_0 a1).f0)) := (blk_cell BK163.out 0).trans rfl; have hcz126_1 : w125.cell? ⟨gb163, 1, none⟩ = some (.slice A162_1 ((rd_T34 l0_0 a1).f1).length c162_1) := (blk_cell BK163.out 1).trans rfl; have hfz126_0 := blk_frozen BK163.out 0; have hfz126_1 := blk_frozen BK163.out 1) | ((with_reducible refine gate_callee (f := 15) rfl ?_); refine goesL_ (some 50) rfl rfl Try.func15 (by kernel_rfl) rfl #[.agg #[.string ((rd_T34 l0_0 a1).f0), .slice A162_1 ((rd_T34 l0_0 a1).f1).length c162_1], .string a3] rfl (by (try simp only [List.map_toArray, List.map_cons, List.map_nil]); first | done | rfl | (simp only [List.length_drop, List.length_take]; rfl)) ?_; (with_reducible refine (schema_Field.calls ((rd_T34 l0_0 a1).f0) _ _ ((rd_T34 l0_0 a1).f1) a3 t165 _ ?side1 ?side2 A28.out).mono ?_); (case side1 => repeat (first | exact (Kd.C_below HR162_1.out HB.out) | (with_reducible first | refine ca9_ ?_ _ | refine cn9_ ?_ _ | refine cd9_ ?_))); (case side2 => exact HC162_1.out); rintro e w127 ⟨rfl, hb⟩; refine ⟨_, rfl, ?_⟩; have n0_ := am9_ (blk_below (g := gb158) (o := .cells #[.slice (some ad162) l0_0.length c0_0] 24 (0, 0)) (by (with_reducible repeat (first | refine blk_drewN ?_ _ | refine blk_drew ?_ | refine blk_alloc ?_ _)); exact BK158.out) hb); have n1_ := am9_ (blk_below (g := gb163) (o := .cells #[.string ((rd_T34 l0_0 a1).f0), .slice A162_1 ((rd_T34 l0_0 a1).f1).length c162_1] 34 (0, 0)) (by (with_reducible repeat (first | refine blk_drewN ?_ _ | refine blk_drew ?_ | refine blk_alloc ?_ _)); exact BK163.out) hb); have n2_ := am9_ (below_step (by repeat (first | (with_reducible first | exact HB.out | apply below_alloc | apply pw_below_drewN | apply below_drew1 | refine below_set ?_ GE158.out | refine below_set ?_ GE163.out) | exact HB.out)) hb); clear BK158; clear BK163; clear HB; have BK158 := n0_; have BK163 := n1_; have HB := n2_; clear n0_ n1_ n2_; (try clear hb); (try clear hb2); (try clear hk); (try clear hi); have hcz128_0 : w127.cell? ⟨gb158, 0, none⟩ = some (.slice (some ad162) l0_0.length c0_0) := (blk_cell BK158.out 0).trans rfl; have hfz128_0 := blk_frozen BK158.out 0; have hcz129_0 : w127.cell? ⟨gb163, 0, none⟩ = some (.string ((rd_T34 l0_0 a1).f0)) := (blk_cell BK163.out 0).trans rfl; have hcz129_1 : w127.cell? ⟨gb163, 1, none⟩ = some (.slice A162_1 ((rd_T34 l0_0 a1).f1).length c162_1) := (blk_cell BK163.out 1).trans rfl; have hfz129_0 := blk_frozen BK163.out 0; have hfz129_1 := blk_frozen BK163.out 1) | ((with_reducible refine gate_callee (f := 21) rfl ?_); refine goesL_ (some 54) rfl rfl Try.func21 (by kernel_rfl) rfl #[.agg #[.slice (some ad162) l0_0.length c0_0], .string ((rd_T34 l0_0 a1).f0)] rfl (by (try simp only [List.map_toArray, List.map_cons, List.map_nil]); first | done | rfl | (simp only [List.length_drop, List.length_take]; rfl)) ?_; (with_reducible refine (schema_Find.calls _ _ l0_0 ((rd_T34 l0_0 a1).f0) t166 _ ?side1 ?side2 A29.out).mono ?_); (case side1 => repeat (first | exact (Kd.C_below HR0_0.out HB.out) | (with_reducible first | refine ca9_ ?_ _ | refine cn9_ ?_ _ | refine cd9_ ?_))); (case side2 => exact HC0_0.out); rintro e w130 ⟨rfl, hb⟩; refine ⟨_, rfl, ?_⟩; have n0_ := am9_ (blk_below (g := gb158) (o := .cells #[.slice (some ad162) l0_0.length c0_0] 24 (0, 0)) (by (with_reducible repeat (first | refine blk_drewN ?_ _ | refine blk_drew ?_ | refine blk_alloc ?_ _)); exact BK158.out) hb); have n1_ := am9_ (blk_below (g := gb163) (o := .cells #[.string ((rd_T34 l0_0 a1).f0), .slice A162_1 ((rd_T34 l0_0 a1).f1).length c162_1] 34 (0, 0)) (by (with_reducible repeat (first | refine blk_drewN ?_ _ | refine blk_drew ?_ | refine blk_alloc ?_ _)); exact BK163.out) hb); have n2_ := am9_ (below_step (by repeat (first | (with_reducible first | exact HB.out | apply below_alloc | apply pw_below_drewN | apply below_drew1 | refine below_set ?_ GE158.out | refine below_set ?_ GE163.out) | exact HB.out)) hb); clear BK158; clear BK163; clear HB; have BK158 := n0_; have BK163 := n1_; have HB := n2_; clear n0_ n1_ n2_; (try clear hb); (try clear hb2); (try clear hk); (try clear hi); have hcz131_0 : w130.cell? ⟨gb158, 0, none⟩ = some (.slice (some ad162) l0_0.length c0_0) := (blk_cell BK158.out 0).trans rfl; have hfz131_0 := blk_frozen BK158.out 0; have p167 : 0 ≤ (t164 : Int) := of_decide_eq_true (by first | (with_reducible assumption) | assumption); have q167 : t164 < (l0_0.length : Int) := of_decide_eq_true (by first | (with_reducible assumption) | assumption); obtain ⟨ad167, A167_1, c167_1, e167, hx167_0, hx167_1, hl167_1, hi167_1⟩ := at_T34 HR0_0.out t164 p167 q167; obtain rfl : ad162 = ad167 := (by injection e167); replace hx167_0 := (HB.out.cell (World.block_lt_of_cell? w _ hx167_0)).trans hx167_0; replace hx167_1 := (HB.out.cell (World.block_lt_of_cell? w _ hx167_1)).trans hx167_1; have HR167_1 := Aside0.mk hi167_1; have HC167_1 := Aside0.mk hl167_1; clear hi167_1 hl167_1; replace p167 := eq_true p167; replace q167 := eq_true q167))
                 have n0_ := am9_ (blk_drew BK158.out)
                 have n1_ := am9_ (blk_drew BK163.out)
                 have n2_ := am9_ (below_drew1 HB.out)
                 clear BK158
                 clear BK163
                 clear HB
                 have BK158 := n0_
                 have BK163 := n1_
                 have HB := n2_
                 clear n0_ n1_ n2_
                 have p171 : 0 ≤ (a2 : Int) := of_decide_eq_true (by first | (with_reducible assumption) | assumption)
                 have q171 : a2 < (((rd_T34 l0_0 a1).f1).length : Int) := of_decide_eq_true (by first | (with_reducible assumption) | assumption)
                 obtain ⟨ad171, e171, hx171_0, hx171_1, hx171_2⟩ := at_T40 HR162_1.out a2 p171 q171
                 have hw171_2 := hx171_2
                 have hw171_1 := hx171_1
                 have hw171_0 := hx171_0
                 cases e171
                 replace hx171_0 := (HB.out.cell (World.block_lt_of_cell? w _ hx171_0)).trans hx171_0
                 replace hx171_1 := (HB.out.cell (World.block_lt_of_cell? w _ hx171_1)).trans hx171_1
                 replace hx171_2 := (HB.out.cell (World.block_lt_of_cell? w _ hx171_2)).trans hx171_2
                 replace p171 := eq_true p171
                 replace q171 := eq_true q171
                 refine start_ (n := 22) (S := fun w' => w'.cell? ⟨gb163, 0, none⟩ = some (.string ((rd_T34 l0_0 a1).f0)) ∧ w'.cell? ⟨gb163, 1, none⟩ = some (.slice (some ad171) ((rd_T34 l0_0 a1).f1).length c162_1) ∧ w'.cell? (ad171.add ((a2).toNat * 3)) = some (.string ((rd_T40 ((rd_T34 l0_0 a1).f1) a2).f0)) ∧ w'.cell? ⟨(ad171.add ((a2).toNat * 3)).block, (ad171.add ((a2).toNat * 3)).off + 1, none⟩ = some (.int .i64 ((rd_T40 ((rd_T34 l0_0 a1).f1) a2).f1)) ∧ w'.cell? ⟨(ad171.add ((a2).toNat * 3)).block, (ad171.add ((a2).toNat * 3)).off + 2, none⟩ = some (.string ((rd_T40 ((rd_T34 l0_0 a1).f1) a2).f2))) (ds := []) B9_0 (by kernel_rfl) rfl rfl ⟨(blk_cell BK163.out 0).trans rfl, (blk_cell BK163.out 1).trans rfl, ((HB.out.cell (World.block_lt_of_cell? w _ hw171_0)).trans hw171_0), ((HB.out.cell (World.block_lt_of_cell? w _ hw171_1)).trans hw171_1), ((HB.out.cell (World.block_lt_of_cell? w _ hw171_2)).trans hw171_2)⟩ (fun hHeld => ?_); refine with_tabW foliatelaw06_SchemaNames.tab10 foliatelaw06_SchemaNames.bits10 (fun HT_ HW_ => ?_)
                 generalize w130.drew = w132 at BK158 BK163 HB hx171_0 hx171_1 hx171_2 hHeld ⊢
                 refine pure_ (i := 0) (N := some 99) (v := ?_) (a' := ?_) B9_1 rfl rfl (any_of HT_.out (by kernel_rfl)) (fun _ _ _ h => h) (Or.inl ⟨by rfl, ?_⟩) ?_ ?_; rotate_left; (·intro w'; go_simp; with_reducible rfl); rotate_left; (·simp only [Act.put, q1_9, q2_9, q3_9, i64_w, i32_w]; rfl)
                 refine pure_ (i := 1) (N := some 100) (v := ?_) (a' := ?_) B9_2 rfl rfl (any_of HT_.out (by kernel_rfl)) (fun _ _ _ h => h) (Or.inl ⟨by rfl, ?_⟩) ?_ ?_; rotate_left; (·intro w'; go_simp; with_reducible rfl); rotate_left; (·simp only [Act.put, q1_9, q2_9, q3_9, i64_w, i32_w]; rfl)
                 refine pure_ (i := 2) (N := some 101) (v := ?_) (a' := ?_) B9_3 rfl rfl (any_of HT_.out (by kernel_rfl)) (fun _ _ _ h => h) (Or.inl ⟨by rfl, ?_⟩) ?_ ?_; rotate_left; (·intro w'; go_simp; with_reducible rfl); rotate_left; (·simp only [Act.put, q1_9, q2_9, q3_9, i64_w, i32_w]; rfl)
                 refine pure_ (i := 3) (N := some 102) (v := ?_) (a' := ?_) B9_4 rfl rfl (any_of HT_.out (by kernel_rfl)) (fun _ _ _ h => h) (Or.inl ⟨by rfl, ?_⟩) ?_ ?_; rotate_left; (·intro w'; go_simp; with_reducible rfl); rotate_left; (·simp only [Act.put, q1_9, q2_9, q3_9, i64_w, i32_w]; rfl)
                 refine pure_ (i := 4) (N := some 103) (v := ?_) (a' := ?_) B9_5 rfl rfl (any_of HT_.out (by kernel_rfl)) (fun _ _ _ h => h) (Or.inl ⟨by rfl, ?_⟩) ?_ ?_; rotate_left; (·intro w'; go_simp; with_reducible rfl); rotate_left; (·simp only [Act.put, q1_9, q2_9, q3_9, i64_w, i32_w]; rfl)
                 refine take_ (i := 5) (N := some 104) (v := ?_) (a' := ?_) B9_6 rfl rfl (take_ofW HT_.out HW_.out (by kernel_rfl)) (fun _ _ _ h => h) (Or.inl ⟨by rfl, ?_⟩) hHeld ?_ ?_
                 rotate_left
                 ·rintro w' ⟨s0, s1, s2, s3, s4⟩
                  go_simp
                  with_reducible rfl
                 rotate_left
                 ·simp only [Act.put, q1_9, q2_9, q3_9, i64_w, i32_w]
                  rfl
                 refine pure_ (i := 6) (N := some 105) (v := ?_) (a' := ?_) B9_7 rfl rfl (any_of HT_.out (by kernel_rfl)) (fun _ _ _ h => h) (Or.inl ⟨by rfl, ?_⟩) ?_ ?_; rotate_left; (·intro w'; go_simp; with_reducible rfl); rotate_left; (·simp only [Act.put, q1_9, q2_9, q3_9, i64_w, i32_w]; rfl)
                 refine pure_ (i := 7) (N := some 106) (v := ?_) (a' := ?_) B9_8 rfl rfl (any_of HT_.out (by kernel_rfl)) (fun _ _ _ h => h) (Or.inl ⟨by rfl, ?_⟩) ?_ ?_; rotate_left; (·intro w'; go_simp; with_reducible rfl); rotate_left; (·simp only [Act.put, q1_9, q2_9, q3_9, i64_w, i32_w]; rfl)
                 refine pure_ (i := 8) (N := some 107) (v := ?_) (a' := ?_) B9_9 rfl rfl (any_of HT_.out (by kernel_rfl)) (fun _ _ _ h => h) (Or.inl ⟨by rfl, ?_⟩) ?_ ?_; rotate_left; (·intro w'; go_simp; with_reducible rfl); rotate_left; (·simp only [Act.put, q1_9, q2_9, q3_9, i64_w, i32_w]; rfl)
                 refine pure_ (i := 9) (N := some 108) (v := ?_) (a' := ?_) B9_10 rfl rfl (any_of HT_.out (by kernel_rfl)) (fun _ _ _ h => h) (Or.inl ⟨by rfl, ?_⟩) ?_ ?_; rotate_left; (·intro w'; go_simp; with_reducible rfl); rotate_left; (·simp only [Act.put, q1_9, q2_9, q3_9, i64_w, i32_w]; rfl)
                 refine pure_ (i := 11) (N := some 110) (v := ?_) (a' := ?_) B9_11 rfl rfl (any_of HT_.out (by kernel_rfl)) (fun _ _ _ h => h) (Or.inl ⟨by rfl, ?_⟩) ?_ ?_; rotate_left; (·intro w'; go_simp; with_reducible rfl); rotate_left; (·simp only [Act.put, q1_9, q2_9, q3_9, i64_w, i32_w]; rfl)
                 refine pure_ (i := 13) (N := some 112) (v := ?_) (a' := ?_) B9_12 rfl rfl (any_of HT_.out (by kernel_rfl)) (fun _ _ _ h => h) (Or.inl ⟨by rfl, ?_⟩) ?_ ?_; rotate_left; (·intro w'; go_simp; with_reducible rfl); rotate_left; (·simp only [Act.put, q1_9, q2_9, q3_9, i64_w, i32_w]; rfl)
                 refine pure_ (i := 18) (N := some 117) (v := ?_) (a' := ?_) B9_13 rfl rfl (any_of HT_.out (by kernel_rfl)) (fun _ _ _ h => h) (Or.inl ⟨by rfl, ?_⟩) ?_ ?_; rotate_left; (·intro w'; go_simp; with_reducible rfl); rotate_left; (·simp only [Act.put, q1_9, q2_9, q3_9, i64_w, i32_w]; rfl)
                 refine take_ (i := 10) (N := some 109) (v := ?_) (a' := ?_) B9_16 rfl rfl (take_ofW HT_.out HW_.out (by kernel_rfl)) (fun _ _ _ h => h) (Or.inl ⟨by rfl, ?_⟩) hHeld ?_ ?_
                 rotate_left
                 ·rintro w' ⟨s0, s1, s2, s3, s4⟩
                  go_simp
                  with_reducible rfl
                 rotate_left
                 ·simp only [Act.put, q1_9, q2_9, q3_9, i64_w, i32_w]
                  rfl
                 refine take_ (i := 12) (N := some 111) (v := ?_) (a' := ?_) B9_19 rfl rfl (take_ofW HT_.out HW_.out (by kernel_rfl)) (fun _ _ _ h => h) (Or.inl ⟨by rfl, ?_⟩) hHeld ?_ ?_
                 rotate_left
                 ·rintro w' ⟨s0, s1, s2, s3, s4⟩
                  go_simp
                  with_reducible rfl
                 rotate_left
                 ·simp only [Act.put, q1_9, q2_9, q3_9, i64_w, i32_w]
                  rfl
                 refine pure_ (i := 14) (N := some 113) (v := ?_) (a' := ?_) B9_21 rfl rfl (any_of HT_.out (by kernel_rfl)) (fun _ _ _ h => h) (Or.inl ⟨by rfl, ?_⟩) ?_ ?_; rotate_left; (·intro w'; go_simp; with_reducible rfl); rotate_left; (·simp only [Act.put, q1_9, q2_9, q3_9, i64_w, i32_w]; rfl)
                 refine pure_ (i := 15) (N := some 114) (v := ?_) (a' := ?_) B9_23 rfl rfl (any_of HT_.out (by kernel_rfl)) (fun _ _ _ h => h) (Or.inl ⟨by rfl, ?_⟩) ?_ ?_; rotate_left; (·intro w'; go_simp; with_reducible rfl); rotate_left; (·simp only [Act.put, q1_9, q2_9, q3_9, i64_w, i32_w]; rfl)
                 refine take_ (i := 16) (N := some 115) (v := ?_) (a' := ?_) B9_25 rfl rfl (take_ofW HT_.out HW_.out (by kernel_rfl)) (fun _ _ _ h => h) (Or.inl ⟨by rfl, ?_⟩) hHeld ?_ ?_
                 rotate_left
                 ·rintro w' ⟨s0, s1, s2, s3, s4⟩
                  go_simp
                  with_reducible rfl
                 rotate_left
                 ·simp only [Act.put, q1_9, q2_9, q3_9, i64_w, i32_w]
                  rfl
                 refine one_ (i := 17) (N := some 116) B9_27 rfl rfl (one_of HT_.out (by kernel_rfl)) (by decide) (fun K hK => ?_)
                 refine goes_ Try.func15 (by kernel_rfl) rfl #[.agg #[.string ((rd_T34 l0_0 a1).f0), .slice (some ad171) ((rd_T34 l0_0 a1).f1).length c162_1], .string ((rd_T40 ((rd_T34 l0_0 a1).f1) a2).f0)] (by rfl) rfl rfl (by (try simp only [List.map_toArray, List.map_cons, List.map_nil]); first | done | rfl | (simp only [List.length_drop, List.length_take]; rfl)) ?_
                 with_reducible refine (schema_Field.calls ((rd_T34 l0_0 a1).f0) _ _ ((rd_T34 l0_0 a1).f1) ((rd_T40 ((rd_T34 l0_0 a1).f1) a2).f0) t172 _ ?side1 ?side2 A119.out).mono ?_
                 (case side1 => repeat (first | exact (Kd.C_below HR162_1.out HB.out) | (with_reducible first | refine ca9_ ?_ _ | refine cn9_ ?_ _ | refine cd9_ ?_)))
                 (case side2 => exact HC162_1.out)
                 rintro e w133 ⟨rfl, hb⟩
                 refine ⟨_, rfl, ?_⟩
                 have n0_ := am9_ (blk_below (g := gb158) (o := .cells #[.slice (some ad162) l0_0.length c0_0] 24 (0, 0)) (by (with_reducible repeat (first | refine blk_drewN ?_ _ | refine blk_drew ?_ | refine blk_alloc ?_ _)); exact BK158.out) hb)
                 have n1_ := am9_ (blk_below (g := gb163) (o := .cells #[.string ((rd_T34 l0_0 a1).f0), .slice (some ad171) ((rd_T34 l0_0 a1).f1).length c162_1] 34 (0, 0)) (by (with_reducible repeat (first | refine blk_drewN ?_ _ | refine blk_drew ?_ | refine blk_alloc ?_ _)); exact BK163.out) hb)
                 have n2_ := am9_ (below_step (by repeat (first | (with_reducible first | exact HB.out | apply below_alloc | apply pw_below_drewN | apply below_drew1 | refine below_set ?_ GE158.out | refine below_set ?_ GE163.out) | exact HB.out)) hb)
                 clear BK158
                 clear BK163
                 clear HB
                 have BK158 := n0_
                 have BK163 := n1_
                 have HB := n2_
                 clear n0_ n1_ n2_
                 (try clear hb)
                 (try clear hb2)
                 (try clear hk)
                 (try clear hi)
                 refine hK.out _ _ ⟨(blk_cell BK163.out 0).trans rfl, (blk_cell BK163.out 1).trans rfl, ((HB.out.cell (World.block_lt_of_cell? w _ hw171_0)).trans hw171_0), ((HB.out.cell (World.block_lt_of_cell? w _ hw171_1)).trans hw171_1), ((HB.out.cell (World.block_lt_of_cell? w _ hw171_2)).trans hw171_2)⟩ (fun hHeld => ?_)
                 clear hK K
                 refine norm_ (a' := ?_) ?_ ?_
                 rotate_left
                 ·show Act.put _ (some 116) _ = _
                  simp only [Act.put, q1_9, q2_9, q3_9, i64_w, i32_w]
                  rfl
                 refine pure_ (i := 19) (N := some 118) (v := ?_) (a' := ?_) B9_28 rfl rfl (any_of HT_.out (by kernel_rfl)) (fun _ _ _ h => h) (Or.inl ⟨by rfl, ?_⟩) ?_ ?_; rotate_left; (·intro w'; go_simp; with_reducible rfl); rotate_left; (·simp only [Act.put, q1_9, q2_9, q3_9, i64_w, i32_w]; rfl)
                 refine pure_ (i := 20) (N := some 119) (v := ?_) (a' := ?_) B9_29 rfl rfl (any_of HT_.out (by kernel_rfl)) (fun _ _ _ h => h) (Or.inl ⟨by rfl, ?_⟩) ?_ ?_; rotate_left; (·intro w'; go_simp; with_reducible rfl); rotate_left; (·simp only [Act.put, q1_9, q2_9, q3_9, i64_w, i32_w]; rfl)
                 refine pure_ (i := 21) (N := some 8) (v := ?_) (a' := ?_) B9_30 rfl rfl (any_of HT_.out (by kernel_rfl)) (fun _ _ _ h => h) (Or.inl ⟨by rfl, ?_⟩) ?_ ?_; rotate_left; (·intro w'; go_simp; with_reducible rfl); rotate_left; (·simp only [Act.put, q1_9, q2_9, q3_9, i64_w, i32_w]; rfl)
                 refine done_ (done_of HT_.out (by kernel_rfl)) ?_
                 try go_wp2
                 go_ret
                 exact ⟨by first | rfl | (simp [errW_none, errW_some] <;> rfl) | (simp [*, errW_none, errW_some] <;> rfl), by repeat (first | (with_reducible first | exact HB.out | apply below_alloc | apply pw_below_drewN | apply below_drew1 | refine below_set ?_ GE158.out | refine below_set ?_ GE163.out) | exact HB.out)⟩
                ·rw [if_neg c118] at H
                 exact absurd H (by simp)
               ·rw [if_neg c117] at H
                exact absurd H (by simp)
           ·rw [if_neg c35] at H
            exact absurd H (by simp)
          ·rw [if_neg c34] at H
           exact absurd H (by simp)
         ·rw [if_neg c33] at H
          exact absurd H (by simp)
       ·rw [if_neg c31] at H
        have c31b0 : decide (0 ≤ t164) = false := decide_eq_false c31
        clear c31
        by_cases c134 : t165 ≥ 0
        ·rw [if_pos c134] at H
         have c134b0 : decide (0 ≤ t165) = true := decide_eq_true c134
         clear c134
         by_cases c135 : t165 ≥ (((rd_T34 l0_0 a1).f1).length : Int)
         ·rw [if_pos c135] at H
          exact absurd H (by simp)
         ·rw [if_neg c135] at H
          have c135b0 : decide ((((rd_T34 l0_0 a1).f1).length : Int) ≤ t165) = false := decide_eq_false c135
          clear c135
          by_cases c136 : 0 ≤ t165
          ·rw [if_pos c136] at H
           have c136b0 : decide (0 ≤ t165) = true := decide_eq_true c136
           clear c136
           by_cases c137 : t165 < (((rd_T34 l0_0 a1).f1).length : Int)
           ·rw [if_pos c137] at H
            have c137b0 : decide (t165 < (((rd_T34 l0_0 a1).f1).length : Int)) = true := decide_eq_true c137
            clear c137
            by_cases c138 : ((rd_T40 ((rd_T34 l0_0 a1).f1) t165).f0).toList = a3.toList
            ·rw [if_pos c138] at H
             have c138b0 : (((rd_T40 ((rd_T34 l0_0 a1).f1) t165).f0).toList == a3.toList) = true := beq_iff_eq.mpr c138
             have c138b1 : (((rd_T40 ((rd_T34 l0_0 a1).f1) t165).f0).toList != a3.toList) = false := bne_eq_false_iff_eq.mpr c138
             clear c138
             by_cases c139 : a2 < 0
             ·rw [if_pos c139] at H
              have c139b0 : decide (a2 < 0) = true := decide_eq_true c139
              clear c139
              obtain rfl := Option.some.inj H
              have hcz140_0 : wc.cell? ⟨gb158, 0, none⟩ = some (.slice A0_0 l0_0.length c0_0) := (blk_cell BK158.out 0).trans rfl
              have hfz140_0 := blk_frozen BK158.out 0
              have p162 : 0 ≤ (a1 : Int) := of_decide_eq_true (by first | (with_reducible assumption) | assumption)
              have q162 : a1 < (l0_0.length : Int) := of_decide_eq_true (by first | (with_reducible assumption) | assumption)
              obtain ⟨ad162, A162_1, c162_1, e162, hx162_0, hx162_1, hl162_1, hi162_1⟩ := at_T34 HR0_0.out a1 p162 q162
              cases e162
              replace hx162_0 := (HB.out.cell (World.block_lt_of_cell? w _ hx162_0)).trans hx162_0
              replace hx162_1 := (HB.out.cell (World.block_lt_of_cell? w _ hx162_1)).trans hx162_1
              have HR162_1 := Aside0.mk hi162_1
              have HC162_1 := Aside0.mk hl162_1
              clear hi162_1 hl162_1
              replace p162 := eq_true p162
              replace q162 := eq_true q162
              try go_wp2_with (first | ((with_reducible refine gate_dst (N := 11) rfl ?_); (try (refine gate_guard (by rfl) ?_; dsimp only)); refine box_event ?hg (N := 11) ?hd (cs := #[.string (⟨#[]⟩ : ByteArray), .slice none 0 0]) (t := 34) ?hr ?_; (case hd => rfl); (case hg => rfl); (case hr => first | (go_simp; done) | (go_simp; rfl)); intro gb163 hg w141 hbox hb; have n0_ := am9_ (blk_below (g := gb158) (o := .cells #[.slice (some ad162) l0_0.length c0_0] 24 (0, 0)) (by (with_reducible repeat (first | refine blk_drewN ?_ _ | refine blk_drew ?_ | refine blk_alloc ?_ _)); exact BK158.out) hb); have n1_ := am9_ (below_step (by repeat (first | (with_reducible first | exact HB.out | apply below_alloc | apply pw_below_drewN | apply below_drew1 | refine below_set ?_ GE158.out) | exact HB.out)) hb); have n2_ := am9_ (hbox); have n3_ := am9_ ((by rw [hg]; exact (below_size (by repeat (first | (with_reducible first | exact HB.out | apply below_alloc | apply pw_below_drewN | apply below_drew1 | refine below_set ?_ GE158.out) | exact HB.out))) : w.heap.size ≤ gb163)); have n4_ := am9_ ((by rw [hg]; exact (below_size (by repeat (first | (with_reducible first | exact HB.out | apply below_alloc | apply pw_below_drewN | apply below_drew1 | refine below_set ?_ GE158.out) | exact HB.out))) : w.heap.size ≤ gb163)); have n5_ := am9_ ((by rw [hg]; exact Nat.ne_of_lt (blk_lt (g := gb158) (o := .cells #[.slice (some ad162) l0_0.length c0_0] 24 (0, 0)) (by (with_reducible repeat (first | refine blk_drewN ?_ _ | refine blk_drew ?_ | refine blk_alloc ?_ _)); exact BK158.out)) : gb158 ≠ gb163)); have n6_ := am9_ ((by rw [hg]; exact Nat.ne_of_gt (blk_lt (g := gb158) (o := .cells #[.slice (some ad162) l0_0.length c0_0] 24 (0, 0)) (by (with_reducible repeat (first | refine blk_drewN ?_ _ | refine blk_drew ?_ | refine blk_alloc ?_ _)); exact BK158.out)) : gb163 ≠ gb158)); clear BK158; clear HB; have BK158 := n0_; have HB := n1_; have BK163 := n2_; have GW163 := n3_; have GE163 := n4_; have NB158_163 := n5_; have NB163_158 := n6_; clear n0_ n1_ n2_ n3_ n4_ n5_ n6_; clear hb hbox hg; have hnb142 := NB163_158.out; have hnc142 := NB158_163.out; have hcz143_0 : w141.cell? ⟨gb163, 0, none⟩ = some (.string (⟨#[]⟩ : ByteArray)) := (blk_cell BK163.out 0).trans rfl; have hcz143_1 : w141.cell? ⟨gb163, 1, none⟩ = some (.slice none 0 0) := (blk_cell BK163.out 1).trans rfl; have hfz143_0 := blk_frozen BK163.out 0; have hfz143_1 := blk_frozen BK163.out 1; have hcz144_0 : w141.cell? ⟨gb158, 0, none⟩ = some (.slice (some ad162) l0_0.length c0_0) := (blk_cell BK158.out 0).trans rfl; have hfz144_0 := blk_frozen BK158.out 0) | ((with_reducible refine gate_callee (f := 21) rfl ?_); refine goesL_ (some 47) rfl rfl Try.func21 (by kernel_rfl) rfl #[.agg #[.slice (some ad162) l0_0.length c0_0], .string a3] rfl (by (try simp only [List.map_toArray, List.map_cons, List.map_nil]); first | done | rfl | (simp only [List.length_drop, List.length_take]; rfl)) ?_; (with_reducible refine (schema_Find.calls _ _ l0_0 a3 t164 _ ?side1 ?side2 A27.out).mono ?_); (case side1 => exact Kd.C_below HR0_0.out (by repeat (first | (with_reducible first | exact HB.out | apply below_alloc | apply pw_below_drewN | apply below_drew1 | refine below_set ?_ GE158.out | refine below_set ?_ GE163.out) | exact HB.out))); (case side2 => exact HC0_0.out); rintro e w145 ⟨rfl, hb⟩; refine ⟨_, rfl, ?_⟩; have n0_ := am9_ (blk_below (g := gb158) (o := .cells #[.slice (some ad162) l0_0.length c0_0] 24 (0, 0)) (by (with_reducible repeat (first | refine blk_drewN ?_ _ | refine blk_drew ?_ | refine blk_alloc ?_ _)); refine blk_far ?_ NB158_163.out _; (with_reducible repeat (first | refine blk_drewN ?_ _ | refine blk_drew ?_ | refine blk_alloc ?_ _)); refine blk_far ?_ NB158_163.out _; (with_reducible repeat (first | refine blk_drewN ?_ _ | refine blk_drew ?_ | refine blk_alloc ?_ _)); exact BK158.out) hb); have n1_ := am9_ (blk_below (g := gb163) (o := .cells #[.string ((rd_T34 l0_0 a1).f0), .slice A162_1 ((rd_T34 l0_0 a1).f1).length c162_1] 34 (0, 0)) (by (with_reducible repeat (first | refine blk_drewN ?_ _ | refine blk_drew ?_ | refine blk_alloc ?_ _)); refine blk_put (cs := #[.string ((rd_T34 l0_0 a1).f0), .slice none 0 0]) ?_ 1 _ rfl; (with_reducible repeat (first | refine blk_drewN ?_ _ | refine blk_drew ?_ | refine blk_alloc ?_ _)); refine blk_put (cs := #[.string (⟨#[]⟩ : ByteArray), .slice none 0 0]) ?_ 0 _ rfl; (with_reducible repeat (first | refine blk_drewN ?_ _ | refine blk_drew ?_ | refine blk_alloc ?_ _)); exact BK163.out) hb); have n2_ := am9_ (below_step (by repeat (first | (with_reducible first | exact HB.out | apply below_alloc | apply pw_below_drewN | apply below_drew1 | refine below_set ?_ GE158.out | refine below_set ?_ GE163.out) | exact HB.out)) hb); clear BK158; clear BK163; clear HB; have BK158 := n0_; have BK163 := n1_; have HB := n2_; clear n0_ n1_ n2_; (try clear hb); (try clear hb2); (try clear hk); (try clear hi); have hcz146_0 : w145.cell? ⟨gb163, 0, none⟩ = some (.string ((rd_T34 l0_0 a1).f0)) := (blk_cell BK163.out 0).trans rfl; have hcz146_1 : w145.cell? ⟨gb163, 1, none⟩ = some (.slice A162_1 ((rd_T34 l0_0 a1).f1).length c162_1) := (blk_cell BK163.out 1).trans rfl; have hfz146_0 := blk_frozen BK163.out 0; have hfz146_1 := blk_frozen BK163.out 1) | ((with_reducible refine gate_callee (f := 15) rfl ?_); refine goesL_ (some 50) rfl rfl Try.func15 (by kernel_rfl) rfl #[.agg #[.string ((rd_T34 l0_0 a1).f0), .slice A162_1 ((rd_T34 l0_0 a1).f1).length c162_1], .string a3] rfl (by (try simp only [List.map_toArray, List.map_cons, List.map_nil]); first | done | rfl | (simp only [List.length_drop, List.length_take]; rfl)) ?_; (with_reducible refine (schema_Field.calls ((rd_T34 l0_0 a1).f0) _ _ ((rd_T34 l0_0 a1).f1) a3 t165 _ ?side1 ?side2 A28.out).mono ?_); (case side1 => repeat (first | exact (Kd.C_below HR162_1.out HB.out) | (with_reducible first | refine ca9_ ?_ _ | refine cn9_ ?_ _ | refine cd9_ ?_))); (case side2 => exact HC162_1.out); rintro e w147 ⟨rfl, hb⟩; refine ⟨_, rfl, ?_⟩; have n0_ := am9_ (blk_below (g := gb158) (o := .cells #[.slice (some ad162) l0_0.length c0_0] 24 (0, 0)) (by (with_reducible repeat (first | refine blk_drewN ?_ _ | refine blk_drew ?_ | refine blk_alloc ?_ _)); exact BK158.out) hb); have n1_ := am9_ (blk_below (g := gb163) (o := .cells #[.string ((rd_T34 l0_0 a1).f0), .slice A162_1 ((rd_T34 l0_0 a1).f1).length c162_1] 34 (0, 0)) (by (with_reducible repeat (first | refine blk_drewN ?_ _ | refine blk_drew ?_ | refine blk_alloc ?_ _)); exact BK163.out) hb); have n2_ := am9_ (below_step (by repeat (first | (with_reducible first | exact HB.out | apply below_alloc | apply pw_below_drewN | apply below_drew1 | refine below_set ?_ GE158.out | refine below_set ?_ GE163.out) | exact HB.out)) hb); clear BK158; clear BK163; clear HB; have BK158 := n0_; have BK163 := n1_; have HB := n2_; clear n0_ n1_ n2_; (try clear hb); (try clear hb2); (try clear hk); (try clear hi); have hcz148_0 : w147.cell? ⟨gb158, 0, none⟩ = some (.slice (some ad162) l0_0.length c0_0) := (blk_cell BK158.out 0).trans rfl; have hfz148_0 := blk_frozen BK158.out 0; have hcz149_0 : w147.cell? ⟨gb163, 0, none⟩ = some (.string ((rd_T34 l0_0 a1).f0)) := (blk_cell BK163.out 0).trans rfl; have hcz149_1 : w147.cell? ⟨gb163, 1, none⟩ = some (.slice A162_1 ((rd_T34 l0_0 a1).f1).length c162_1) := (blk_cell BK163.out 1).trans rfl; have hfz149_0 := blk_frozen BK163.out 0; have hfz149_1 := blk_frozen BK163.out 1) | ((with_reducible refine gate_callee (f := 21) rfl ?_); refine goesL_ (some 54) rfl rfl Try.func21 (by kernel_rfl) rfl #[.agg #[.slice (some ad162) l0_0.length c0_0], .string ((rd_T34 l0_0 a1).f0)] rfl (by (try simp only [List.map_toArray, List.map_cons, List.map_nil]); first | done | rfl | (simp only [List.length_drop, List.length_take]; rfl)) ?_; (with_reducible refine (schema_Find.calls _ _ l0_0 ((rd_T34 l0_0 a1).f0) t166 _ ?side1 ?side2 A29.out).mono ?_); (case side1 => repeat (first | exact (Kd.C_below HR0_0.out HB.out) | (with_reducible first | refine ca9_ ?_ _ | refine cn9_ ?_ _ | refine cd9_ ?_))); (case side2 => exact HC0_0.out); rintro e w150 ⟨rfl, hb⟩; refine ⟨_, rfl, ?_⟩; have n0_ := am9_ (blk_below (g := gb158) (o := .cells #[.slice (some ad162) l0_0.length c0_0] 24 (0, 0)) (by (with_reducible repeat (first | refine blk_drewN ?_ _ | refine blk_drew ?_ | refine blk_alloc ?_ _)); exact BK158.out) hb); have n1_ := am9_ (blk_below (g := gb163) (o := .cells #[.string ((rd_T34 l0_0 a1).f0), .slice A162_1 ((rd_T34 l0_0 a1).f1).length c162_1] 34 (0, 0)) (by (with_reducible repeat (first | refine blk_drewN ?_ _ | refine blk_drew ?_ | refine blk_alloc ?_ _)); exact BK163.out) hb); have n2_ := am9_ (below_step (by repeat (first | (with_reducible first | exact HB.out | apply below_alloc | apply pw_below_drewN | apply below_drew1 | refine below_set ?_ GE158.out | refine below_set ?_ GE163.out) | exact HB.out)) hb); clear BK158; clear BK163; clear HB; have BK158 := n0_; have BK163 := n1_; have HB := n2_; clear n0_ n1_ n2_; (try clear hb); (try clear hb2); (try clear hk); (try clear hi); have hcz151_0 : w150.cell? ⟨gb163, 0, none⟩ = some (.string ((rd_T34 l0_0 a1).f0)) := (blk_cell BK163.out 0).trans rfl; have hcz151_1 : w150.cell? ⟨gb163, 1, none⟩ = some (.slice A162_1 ((rd_T34 l0_0 a1).f1).length c162_1) := (blk_cell BK163.out 1).trans rfl; have hfz151_0 := blk_frozen BK163.out 0; have hfz151_1 := blk_frozen BK163.out 1; have p173 : 0 ≤ (t165 : Int) := of_decide_eq_true (by first | (with_reducible assumption) | assumption); have q173 : t165 < (((rd_T34 l0_0 a1).f1).length : Int) := of_decide_eq_true (by first | (with_reducible assumption) | assumption); obtain ⟨ad173, e173, hx173_0, hx173_1, hx173_2⟩ := at_T40 HR162_1.out t165 p173 q173; cases e173; replace hx173_0 := (HB.out.cell (World.block_lt_of_cell? w _ hx173_0)).trans hx173_0; replace hx173_1 := (HB.out.cell (World.block_lt_of_cell? w _ hx173_1)).trans hx173_1; replace hx173_2 := (HB.out.cell (World.block_lt_of_cell? w _ hx173_2)).trans hx173_2; replace p173 := eq_true p173; replace q173 := eq_true q173))
              have n0_ := am9_ (blk_drew BK158.out)
              have n1_ := am9_ (blk_drew BK163.out)
              have n2_ := am9_ (below_drew1 HB.out)
              clear BK158
              clear BK163
              clear HB
              have BK158 := n0_
              have BK163 := n1_
              have HB := n2_
              clear n0_ n1_ n2_
              refine start_ (n := 22) (S := fun w' => True) (ds := []) B9_0 (by kernel_rfl) rfl rfl trivial (fun hHeld => ?_); refine with_tabW foliatelaw06_SchemaNames.tab10 foliatelaw06_SchemaNames.bits10 (fun HT_ HW_ => ?_)
              generalize w150.drew = w152 at BK158 BK163 HB hHeld ⊢
              refine pure_ (i := 0) (N := some 99) (v := ?_) (a' := ?_) B9_1 rfl rfl (any_of HT_.out (by kernel_rfl)) (fun _ _ _ h => h) (Or.inl ⟨by rfl, ?_⟩) ?_ ?_; rotate_left; (·intro w'; go_simp; with_reducible rfl); rotate_left; (·simp only [Act.put, q1_9, q2_9, q3_9, i64_w, i32_w]; rfl)
              refine pure_ (i := 1) (N := some 100) (v := ?_) (a' := ?_) B9_2 rfl rfl (any_of HT_.out (by kernel_rfl)) (fun _ _ _ h => h) (Or.inl ⟨by rfl, ?_⟩) ?_ ?_; rotate_left; (·intro w'; go_simp; with_reducible rfl); rotate_left; (·simp only [Act.put, q1_9, q2_9, q3_9, i64_w, i32_w]; rfl)
              refine pure_ (i := 2) (N := some 101) (v := ?_) (a' := ?_) B9_3 rfl rfl (any_of HT_.out (by kernel_rfl)) (fun _ _ _ h => h) (Or.inl ⟨by rfl, ?_⟩) ?_ ?_; rotate_left; (·intro w'; go_simp; with_reducible rfl); rotate_left; (·simp only [Act.put, q1_9, q2_9, q3_9, i64_w, i32_w]; rfl)
              refine pure_ (i := 3) (N := some 102) (v := undef) (a' := ?_) B9_4 rfl rfl (any_of HT_.out (by kernel_rfl)) (fun _ _ _ h => h) (Or.inr ⟨by rfl, rfl⟩) ?_ ?_
              rotate_left
              ·simp only [Act.put, q1_9, q2_9, q3_9, i64_w, i32_w]
               rfl
              refine pure_ (i := 4) (N := some 103) (v := undef) (a' := ?_) B9_5 rfl rfl (any_of HT_.out (by kernel_rfl)) (fun _ _ _ h => h) (Or.inr ⟨by rfl, rfl⟩) ?_ ?_
              rotate_left
              ·simp only [Act.put, q1_9, q2_9, q3_9, i64_w, i32_w]
               rfl
              refine pure_ (i := 5) (N := some 104) (v := undef) (a' := ?_) B9_6 rfl rfl (any_of HT_.out (by kernel_rfl)) (fun _ _ _ h => h) (Or.inr ⟨by rfl, rfl⟩) ?_ ?_
              rotate_left
              ·simp only [Act.put, q1_9, q2_9, q3_9, i64_w, i32_w]
               rfl
              refine pure_ (i := 6) (N := some 105) (v := undef) (a' := ?_) B9_7 rfl rfl (any_of HT_.out (by kernel_rfl)) (fun _ _ _ h => h) (Or.inr ⟨by rfl, rfl⟩) ?_ ?_
              rotate_left
              ·simp only [Act.put, q1_9, q2_9, q3_9, i64_w, i32_w]
               rfl
              refine pure_ (i := 7) (N := some 106) (v := undef) (a' := ?_) B9_8 rfl rfl (any_of HT_.out (by kernel_rfl)) (fun _ _ _ h => h) (Or.inr ⟨by rfl, rfl⟩) ?_ ?_
              rotate_left
              ·simp only [Act.put, q1_9, q2_9, q3_9, i64_w, i32_w]
               rfl
              refine pure_ (i := 8) (N := some 107) (v := ?_) (a' := ?_) B9_9 rfl rfl (any_of HT_.out (by kernel_rfl)) (fun _ _ _ h => h) (Or.inl ⟨by rfl, ?_⟩) ?_ ?_; rotate_left; (·intro w'; go_simp; with_reducible rfl); rotate_left; (·simp only [Act.put, q1_9, q2_9, q3_9, i64_w, i32_w]; rfl)
              refine pure_ (i := 9) (N := some 108) (v := ?_) (a' := ?_) B9_10 rfl rfl (any_of HT_.out (by kernel_rfl)) (fun _ _ _ h => h) (Or.inl ⟨by rfl, ?_⟩) ?_ ?_; rotate_left; (·intro w'; go_simp; with_reducible rfl); rotate_left; (·simp only [Act.put, q1_9, q2_9, q3_9, i64_w, i32_w]; rfl)
              refine pure_ (i := 10) (N := some 109) (v := undef) (a' := ?_) B9_14 rfl rfl (any_of HT_.out (by kernel_rfl)) (fun _ _ _ h => h) (Or.inr ⟨by rfl, rfl⟩) ?_ ?_
              rotate_left
              ·simp only [Act.put, q1_9, q2_9, q3_9, i64_w, i32_w]
               rfl
              refine pure_ (i := 11) (N := some 110) (v := undef) (a' := ?_) B9_15 rfl rfl (any_of HT_.out (by kernel_rfl)) (fun _ _ _ h => h) (Or.inr ⟨by rfl, rfl⟩) ?_ ?_
              rotate_left
              ·simp only [Act.put, q1_9, q2_9, q3_9, i64_w, i32_w]
               rfl
              refine pure_ (i := 12) (N := some 111) (v := undef) (a' := ?_) B9_17 rfl rfl (any_of HT_.out (by kernel_rfl)) (fun _ _ _ h => h) (Or.inr ⟨by rfl, rfl⟩) ?_ ?_
              rotate_left
              ·simp only [Act.put, q1_9, q2_9, q3_9, i64_w, i32_w]
               rfl
              refine pure_ (i := 13) (N := some 112) (v := undef) (a' := ?_) B9_18 rfl rfl (any_of HT_.out (by kernel_rfl)) (fun _ _ _ h => h) (Or.inr ⟨by rfl, rfl⟩) ?_ ?_
              rotate_left
              ·simp only [Act.put, q1_9, q2_9, q3_9, i64_w, i32_w]
               rfl
              refine pure_ (i := 14) (N := some 113) (v := undef) (a' := ?_) B9_20 rfl rfl (any_of HT_.out (by kernel_rfl)) (fun _ _ _ h => h) (Or.inr ⟨by rfl, rfl⟩) ?_ ?_
              rotate_left
              ·simp only [Act.put, q1_9, q2_9, q3_9, i64_w, i32_w]
               rfl
              refine pure_ (i := 15) (N := some 114) (v := undef) (a' := ?_) B9_22 rfl rfl (any_of HT_.out (by kernel_rfl)) (fun _ _ _ h => h) (Or.inr ⟨by rfl, rfl⟩) ?_ ?_
              rotate_left
              ·simp only [Act.put, q1_9, q2_9, q3_9, i64_w, i32_w]
               rfl
              refine pure_ (i := 16) (N := some 115) (v := undef) (a' := ?_) B9_24 rfl rfl (any_of HT_.out (by kernel_rfl)) (fun _ _ _ h => h) (Or.inr ⟨by rfl, rfl⟩) ?_ ?_
              rotate_left
              ·simp only [Act.put, q1_9, q2_9, q3_9, i64_w, i32_w]
               rfl
              refine pure_ (i := 17) (N := some 116) (v := undef) (a' := ?_) B9_26 rfl rfl (any_of HT_.out (by kernel_rfl)) (fun _ _ _ h => h) (Or.inr ⟨by rfl, rfl⟩) ?_ ?_
              rotate_left
              ·simp only [Act.put, q1_9, q2_9, q3_9, i64_w, i32_w]
               rfl
              refine pure_ (i := 18) (N := some 117) (v := undef) (a' := ?_) B9_27 rfl rfl (any_of HT_.out (by kernel_rfl)) (fun _ _ _ h => h) (Or.inr ⟨by rfl, rfl⟩) ?_ ?_
              rotate_left
              ·simp only [Act.put, q1_9, q2_9, q3_9, i64_w, i32_w]
               rfl
              refine pure_ (i := 19) (N := some 118) (v := undef) (a' := ?_) B9_28 rfl rfl (any_of HT_.out (by kernel_rfl)) (fun _ _ _ h => h) (Or.inr ⟨by rfl, rfl⟩) ?_ ?_
              rotate_left
              ·simp only [Act.put, q1_9, q2_9, q3_9, i64_w, i32_w]
               rfl
              refine pure_ (i := 20) (N := some 119) (v := ?_) (a' := ?_) B9_29 rfl rfl (any_of HT_.out (by kernel_rfl)) (fun _ _ _ h => h) (Or.inl ⟨by rfl, ?_⟩) ?_ ?_; rotate_left; (·intro w'; go_simp; with_reducible rfl); rotate_left; (·simp only [Act.put, q1_9, q2_9, q3_9, i64_w, i32_w]; rfl)
              refine pure_ (i := 21) (N := some 8) (v := ?_) (a' := ?_) B9_30 rfl rfl (any_of HT_.out (by kernel_rfl)) (fun _ _ _ h => h) (Or.inl ⟨by rfl, ?_⟩) ?_ ?_; rotate_left; (·intro w'; go_simp; with_reducible rfl); rotate_left; (·simp only [Act.put, q1_9, q2_9, q3_9, i64_w, i32_w]; rfl)
              refine done_ (done_of HT_.out (by kernel_rfl)) ?_
              try go_wp2
              go_ret
              exact ⟨by first | rfl | (simp [errW_none, errW_some] <;> rfl) | (simp [*, errW_none, errW_some] <;> rfl), by repeat (first | (with_reducible first | exact HB.out | apply below_alloc | apply pw_below_drewN | apply below_drew1 | refine below_set ?_ GE158.out | refine below_set ?_ GE163.out) | exact HB.out)⟩
             ·rw [if_neg c139] at H
              have c139b0 : decide (a2 < 0) = false := decide_eq_false c139
              clear c139
              by_cases c153 : a2 ≥ (((rd_T34 l0_0 a1).f1).length : Int)
              ·rw [if_pos c153] at H
               have c153b0 : decide ((((rd_T34 l0_0 a1).f1).length : Int) ≤ a2) = true := decide_eq_true c153
               clear c153
               obtain rfl := Option.some.inj H
               have hcz154_0 : wc.cell? ⟨gb158, 0, none⟩ = some (.slice A0_0 l0_0.length c0_0) := (blk_cell BK158.out 0).trans rfl
               have hfz154_0 := blk_frozen BK158.out 0
               have p162 : 0 ≤ (a1 : Int) := of_decide_eq_true (by first | (with_reducible assumption) | assumption)
               have q162 : a1 < (l0_0.length : Int) := of_decide_eq_true (by first | (with_reducible assumption) | assumption)
               obtain ⟨ad162, A162_1, c162_1, e162, hx162_0, hx162_1, hl162_1, hi162_1⟩ := at_T34 HR0_0.out a1 p162 q162
               cases e162
               replace hx162_0 := (HB.out.cell (World.block_lt_of_cell? w _ hx162_0)).trans hx162_0
               replace hx162_1 := (HB.out.cell (World.block_lt_of_cell? w _ hx162_1)).trans hx162_1
               have HR162_1 := Aside0.mk hi162_1
               have HC162_1 := Aside0.mk hl162_1
               clear hi162_1 hl162_1
               replace p162 := eq_true p162
               replace q162 := eq_true q162
               try go_wp2_with (first | ((with_reducible refine gate_dst (N := 11) rfl ?_); (try (refine gate_guard (by rfl) ?_; dsimp only)); refine box_event ?hg (N := 11) ?hd (cs := #[.string (⟨#[]⟩ : ByteArray), .slice none 0 0]) (t := 34) ?hr ?_; (case hd => rfl); (case hg => rfl); (case hr => first | (go_simp; done) | (go_simp; rfl)); intro gb163 hg w155 hbox hb; have n0_ := am9_ (blk_below (g := gb158) (o := .cells #[.slice (some ad162) l0_0.length c0_0] 24 (0, 0)) (by (with_reducible repeat (first | refine blk_drewN ?_ _ | refine blk_drew ?_ | refine blk_alloc ?_ _)); exact BK158.out) hb); have n1_ := am9_ (below_step (by repeat (first | (with_reducible first | exact HB.out | apply below_alloc | apply pw_below_drewN | apply below_drew1 | refine below_set ?_ GE158.out) | exact HB.out)) hb); have n2_ := am9_ (hbox); have n3_ := am9_ ((by rw [hg]; exact (below_size (by repeat (first | (with_reducible first | exact HB.out | apply below_alloc | apply pw_below_drewN | apply below_drew1 | refine below_set ?_ GE158.out) | exact HB.out))) : w.heap.size ≤ gb163)); have n4_ := am9_ ((by rw [hg]; exact (below_size (by repeat (first | (with_reducible first | exact HB.out | apply below_alloc | apply pw_below_drewN | apply below_drew1 | refine below_set ?_ GE158.out) | exact HB.out))) : w.heap.size ≤ gb163)); have n5_ := am9_ ((by rw [hg]; exact Nat.ne_of_lt (blk_lt (g := gb158) (o := .cells #[.slice (some ad162) l0_0.length c0_0] 24 (0, 0)) (by (with_reducible repeat (first | refine blk_drewN ?_ _ | refine blk_drew ?_ | refine blk_alloc ?_ _)); exact BK158.out)) : gb158 ≠ gb163)); have n6_ := am9_ ((by rw [hg]; exact Nat.ne_of_gt (blk_lt (g := gb158) (o := .cells #[.slice (some ad162) l0_0.length c0_0] 24 (0, 0)) (by (with_reducible repeat (first | refine blk_drewN ?_ _ | refine blk_drew ?_ | refine blk_alloc ?_ _)); exact BK158.out)) : gb163 ≠ gb158)); clear BK158; clear HB; have BK158 := n0_; have HB := n1_; have BK163 := n2_; have GW163 := n3_; have GE163 := n4_; have NB158_163 := n5_; have NB163_158 := n6_; clear n0_ n1_ n2_ n3_ n4_ n5_ n6_; clear hb hbox hg; have hnb156 := NB163_158.out; have hnc156 := NB158_163.out; have hcz157_0 : w155.cell? ⟨gb163, 0, none⟩ = some (.string (⟨#[]⟩ : ByteArray)) := (blk_cell BK163.out 0).trans rfl; have hcz157_1 : w155.cell? ⟨gb163, 1, none⟩ = some (.slice none 0 0) := (blk_cell BK163.out 1).trans rfl; have hfz157_0 := blk_frozen BK163.out 0; have hfz157_1 := blk_frozen BK163.out 1; have hcz158_0 : w155.cell? ⟨gb158, 0, none⟩ = some (.slice (some ad162) l0_0.length c0_0) := (blk_cell BK158.out 0).trans rfl; have hfz158_0 := blk_frozen BK158.out 0) | ((with_reducible refine gate_callee (f := 21) rfl ?_); refine goesL_ (some 47) rfl rfl Try.func21 (by kernel_rfl) rfl #[.agg #[.slice (some ad162) l0_0.length c0_0], .string a3] rfl (by (try simp only [List.map_toArray, List.map_cons, List.map_nil]); first | done | rfl | (simp only [List.length_drop, List.length_take]; rfl)) ?_; (with_reducible refine (schema_Find.calls _ _ l0_0 a3 t164 _ ?side1 ?side2 A27.out).mono ?_); (case side1 => exact Kd.C_below HR0_0.out (by repeat (first | (with_reducible first | exact HB.out | apply below_alloc | apply pw_below_drewN | apply below_drew1 | refine below_set ?_ GE158.out | refine below_set ?_ GE163.out) | exact HB.out))); (case side2 => exact HC0_0.out); rintro e w159 ⟨rfl, hb⟩; refine ⟨_, rfl, ?_⟩; have n0_ := am9_ (blk_below (g := gb158) (o := .cells #[.slice (some ad162) l0_0.length c0_0] 24 (0, 0)) (by (with_reducible repeat (first | refine blk_drewN ?_ _ | refine blk_drew ?_ | refine blk_alloc ?_ _)); refine blk_far ?_ NB158_163.out _; (with_reducible repeat (first | refine blk_drewN ?_ _ | refine blk_drew ?_ | refine blk_alloc ?_ _)); refine blk_far ?_ NB158_163.out _; (with_reducible repeat (first | refine blk_drewN ?_ _ | refine blk_drew ?_ | refine blk_alloc ?_ _)); exact BK158.out) hb); have n1_ := am9_ (blk_below (g := gb163) (o := .cells #[.string ((rd_T34 l0_0 a1).f0), .slice A162_1 ((rd_T34 l0_0 a1).f1).length c162_1] 34 (0, 0)) (by (with_reducible repeat (first | refine blk_drewN ?_ _ | refine blk_drew ?_ | refine blk_alloc ?_ _)); refine blk_put (cs := #[.string ((rd_T34 l0_0 a1).f0), .slice none 0 0]) ?_ 1 _ rfl; (with_reducible repeat (first | refine blk_drewN ?_ _ | refine blk_drew ?_ | refine blk_alloc ?_ _)); refine blk_put (cs := #[.string (⟨#[]⟩ : ByteArray), .slice none 0 0]) ?_ 0 _ rfl; (with_reducible repeat (first | refine blk_drewN ?_ _ | refine blk_drew ?_ | refine blk_alloc ?_ _)); exact BK163.out) hb); have n2_ := am9_ (below_step (by repeat (first | (with_reducible first | exact HB.out | apply below_alloc | apply pw_below_drewN | apply below_drew1 | refine below_set ?_ GE158.out | refine below_set ?_ GE163.out) | exact HB.out)) hb); clear BK158; clear BK163; clear HB; have BK158 := n0_; have BK163 := n1_; have HB := n2_; clear n0_ n1_ n2_; (try clear hb); (try clear hb2); (try clear hk); (try clear hi); have hcz160_0 : w159.cell? ⟨gb163, 0, none⟩ = some (.string ((rd_T34 l0_0 a1).f0)) := (blk_cell BK163.out 0).trans rfl; have hcz160_1 : w159.cell? ⟨gb163, 1, none⟩ = some (.slice A162_1 ((rd_T34 l0_0 a1).f1).length c162_1) := (blk_cell BK163.out 1).trans rfl; have hfz160_0 := blk_frozen BK163.out 0; have hfz160_1 := blk_frozen BK163.out 1) | ((with_reducible refine gate_callee (f := 15) rfl ?_); refine goesL_ (some 50) rfl rfl Try.func15 (by kernel_rfl) rfl #[.agg #[.string ((rd_T34 l0_0 a1).f0), .slice A162_1 ((rd_T34 l0_0 a1).f1).length c162_1], .string a3] rfl (by (try simp only [List.map_toArray, List.map_cons, List.map_nil]); first | done | rfl | (simp only [List.length_drop, List.length_take]; rfl)) ?_; (with_reducible refine (schema_Field.calls ((rd_T34 l0_0 a1).f0) _ _ ((rd_T34 l0_0 a1).f1) a3 t165 _ ?side1 ?side2 A28.out).mono ?_); (case side1 => repeat (first | exact (Kd.C_below HR162_1.out HB.out) | (with_reducible first | refine ca9_ ?_ _ | refine cn9_ ?_ _ | refine cd9_ ?_))); (case side2 => exact HC162_1.out); rintro e w161 ⟨rfl, hb⟩; refine ⟨_, rfl, ?_⟩; have n0_ := am9_ (blk_below (g := gb158) (o := .cells #[.slice (some ad162) l0_0.length c0_0] 24 (0, 0)) (by (with_reducible repeat (first | refine blk_drewN ?_ _ | refine blk_drew ?_ | refine blk_alloc ?_ _)); exact BK158.out) hb); have n1_ := am9_ (blk_below (g := gb163) (o := .cells #[.string ((rd_T34 l0_0 a1).f0), .slice A162_1 ((rd_T34 l0_0 a1).f1).length c162_1] 34 (0, 0)) (by (with_reducible repeat (first | refine blk_drewN ?_ _ | refine blk_drew ?_ | refine blk_alloc ?_ _)); exact BK163.out) hb); have n2_ := am9_ (below_step (by repeat (first | (with_reducible first | exact HB.out | apply below_alloc | apply pw_below_drewN | apply below_drew1 | refine below_set ?_ GE158.out | refine below_set ?_ GE163.out) | exact HB.out)) hb); clear BK158; clear BK163; clear HB; have BK158 := n0_; have BK163 := n1_; have HB := n2_; clear n0_ n1_ n2_; (try clear hb); (try clear hb2); (try clear hk); (try clear hi); have hcz162_0 : w161.cell? ⟨gb158, 0, none⟩ = some (.slice (some ad162) l0_0.length c0_0) := (blk_cell BK158.out 0).trans rfl; have hfz162_0 := blk_frozen BK158.out 0; have hcz163_0 : w161.cell? ⟨gb163, 0, none⟩ = some (.string ((rd_T34 l0_0 a1).f0)) := (blk_cell BK163.out 0).trans rfl; have hcz163_1 : w161.cell? ⟨gb163, 1, none⟩ = some (.slice A162_1 ((rd_T34 l0_0 a1).f1).length c162_1) := (blk_cell BK163.out 1).trans rfl; have hfz163_0 := blk_frozen BK163.out 0; have hfz163_1 := blk_frozen BK163.out 1) | ((with_reducible refine gate_callee (f := 21) rfl ?_); refine goesL_ (some 54) rfl rfl Try.func21 (by kernel_rfl) rfl #[.agg #[.slice (some ad162) l0_0.length c0_0], .string ((rd_T34 l0_0 a1).f0)] rfl (by (try simp only [List.map_toArray, List.map_cons, List.map_nil]); first | done | rfl | (simp only [List.length_drop, List.length_take]; rfl)) ?_; (with_reducible refine (schema_Find.calls _ _ l0_0 ((rd_T34 l0_0 a1).f0) t166 _ ?side1 ?side2 A29.out).mono ?_); (case side1 => repeat (first | exact (Kd.C_below HR0_0.out HB.out) | (with_reducible first | refine ca9_ ?_ _ | refine cn9_ ?_ _ | refine cd9_ ?_))); (case side2 => exact HC0_0.out); rintro e w164 ⟨rfl, hb⟩; refine ⟨_, rfl, ?_⟩; have n0_ := am9_ (blk_below (g := gb158) (o := .cells #[.slice (some ad162) l0_0.length c0_0] 24 (0, 0)) (by (with_reducible repeat (first | refine blk_drewN ?_ _ | refine blk_drew ?_ | refine blk_alloc ?_ _)); exact BK158.out) hb); have n1_ := am9_ (blk_below (g := gb163) (o := .cells #[.string ((rd_T34 l0_0 a1).f0), .slice A162_1 ((rd_T34 l0_0 a1).f1).length c162_1] 34 (0, 0)) (by (with_reducible repeat (first | refine blk_drewN ?_ _ | refine blk_drew ?_ | refine blk_alloc ?_ _)); exact BK163.out) hb); have n2_ := am9_ (below_step (by repeat (first | (with_reducible first | exact HB.out | apply below_alloc | apply pw_below_drewN | apply below_drew1 | refine below_set ?_ GE158.out | refine below_set ?_ GE163.out) | exact HB.out)) hb); clear BK158; clear BK163; clear HB; have BK158 := n0_; have BK163 := n1_; have HB := n2_; clear n0_ n1_ n2_; (try clear hb); (try clear hb2); (try clear hk); (try clear hi); have hcz165_0 : w164.cell? ⟨gb163, 0, none⟩ = some (.string ((rd_T34 l0_0 a1).f0)) := (blk_cell BK163.out 0).trans rfl; have hcz165_1 : w164.cell? ⟨gb163, 1, none⟩ = some (.slice A162_1 ((rd_T34 l0_0 a1).f1).length c162_1) := (blk_cell BK163.out 1).trans rfl; have hfz165_0 := blk_frozen BK163.out 0; have hfz165_1 := blk_frozen BK163.out 1; have p173 : 0 ≤ (t165 : Int) := of_decide_eq_true (by first | (with_reducible assumption) | assumption); have q173 : t165 < (((rd_T34 l0_0 a1).f1).length : Int) := of_decide_eq_true (by first | (with_reducible assumption) | assumption); obtain ⟨ad173, e173, hx173_0, hx173_1, hx173_2⟩ := at_T40 HR162_1.out t165 p173 q173; cases e173; replace hx173_0 := (HB.out.cell (World.block_lt_of_cell? w _ hx173_0)).trans hx173_0; replace hx173_1 := (HB.out.cell (World.block_lt_of_cell? w _ hx173_1)).trans hx173_1; replace hx173_2 := (HB.out.cell (World.block_lt_of_cell? w _ hx173_2)).trans hx173_2; replace p173 := eq_true p173; replace q173 := eq_true q173))
               have n0_ := am9_ (blk_drew BK158.out)
               have n1_ := am9_ (blk_drew BK163.out)
               have n2_ := am9_ (below_drew1 HB.out)
               clear BK158
               clear BK163
               clear HB
               have BK158 := n0_
               have BK163 := n1_
               have HB := n2_
               clear n0_ n1_ n2_
               refine start_ (n := 22) (S := fun w' => w'.cell? ⟨gb163, 0, none⟩ = some (.string ((rd_T34 l0_0 a1).f0)) ∧ w'.cell? ⟨gb163, 1, none⟩ = some (.slice (some ad173) ((rd_T34 l0_0 a1).f1).length c162_1)) (ds := []) B9_0 (by kernel_rfl) rfl rfl ⟨(blk_cell BK163.out 0).trans rfl, (blk_cell BK163.out 1).trans rfl⟩ (fun hHeld => ?_); refine with_tabW foliatelaw06_SchemaNames.tab10 foliatelaw06_SchemaNames.bits10 (fun HT_ HW_ => ?_)
               generalize w164.drew = w166 at BK158 BK163 HB hHeld ⊢
               refine pure_ (i := 0) (N := some 99) (v := ?_) (a' := ?_) B9_1 rfl rfl (any_of HT_.out (by kernel_rfl)) (fun _ _ _ h => h) (Or.inl ⟨by rfl, ?_⟩) ?_ ?_; rotate_left; (·intro w'; go_simp; with_reducible rfl); rotate_left; (·simp only [Act.put, q1_9, q2_9, q3_9, i64_w, i32_w]; rfl)
               refine pure_ (i := 1) (N := some 100) (v := ?_) (a' := ?_) B9_2 rfl rfl (any_of HT_.out (by kernel_rfl)) (fun _ _ _ h => h) (Or.inl ⟨by rfl, ?_⟩) ?_ ?_; rotate_left; (·intro w'; go_simp; with_reducible rfl); rotate_left; (·simp only [Act.put, q1_9, q2_9, q3_9, i64_w, i32_w]; rfl)
               refine pure_ (i := 2) (N := some 101) (v := ?_) (a' := ?_) B9_3 rfl rfl (any_of HT_.out (by kernel_rfl)) (fun _ _ _ h => h) (Or.inl ⟨by rfl, ?_⟩) ?_ ?_; rotate_left; (·intro w'; go_simp; with_reducible rfl); rotate_left; (·simp only [Act.put, q1_9, q2_9, q3_9, i64_w, i32_w]; rfl)
               refine pure_ (i := 3) (N := some 102) (v := ?_) (a' := ?_) B9_4 rfl rfl (any_of HT_.out (by kernel_rfl)) (fun _ _ _ h => h) (Or.inl ⟨by rfl, ?_⟩) ?_ ?_; rotate_left; (·intro w'; go_simp; with_reducible rfl); rotate_left; (·simp only [Act.put, q1_9, q2_9, q3_9, i64_w, i32_w]; rfl)
               refine pure_ (i := 4) (N := some 103) (v := ?_) (a' := ?_) B9_5 rfl rfl (any_of HT_.out (by kernel_rfl)) (fun _ _ _ h => h) (Or.inl ⟨by rfl, ?_⟩) ?_ ?_; rotate_left; (·intro w'; go_simp; with_reducible rfl); rotate_left; (·simp only [Act.put, q1_9, q2_9, q3_9, i64_w, i32_w]; rfl)
               refine take_ (i := 5) (N := some 104) (v := ?_) (a' := ?_) B9_6 rfl rfl (take_ofW HT_.out HW_.out (by kernel_rfl)) (fun _ _ _ h => h) (Or.inl ⟨by rfl, ?_⟩) hHeld ?_ ?_
               rotate_left
               ·rintro w' ⟨s0, s1⟩
                go_simp
                with_reducible rfl
               rotate_left
               ·simp only [Act.put, q1_9, q2_9, q3_9, i64_w, i32_w]
                rfl
               refine pure_ (i := 6) (N := some 105) (v := ?_) (a' := ?_) B9_7 rfl rfl (any_of HT_.out (by kernel_rfl)) (fun _ _ _ h => h) (Or.inl ⟨by rfl, ?_⟩) ?_ ?_; rotate_left; (·intro w'; go_simp; with_reducible rfl); rotate_left; (·simp only [Act.put, q1_9, q2_9, q3_9, i64_w, i32_w]; rfl)
               refine pure_ (i := 7) (N := some 106) (v := ?_) (a' := ?_) B9_8 rfl rfl (any_of HT_.out (by kernel_rfl)) (fun _ _ _ h => h) (Or.inl ⟨by rfl, ?_⟩) ?_ ?_; rotate_left; (·intro w'; go_simp; with_reducible rfl); rotate_left; (·simp only [Act.put, q1_9, q2_9, q3_9, i64_w, i32_w]; rfl)
               refine pure_ (i := 8) (N := some 107) (v := ?_) (a' := ?_) B9_9 rfl rfl (any_of HT_.out (by kernel_rfl)) (fun _ _ _ h => h) (Or.inl ⟨by rfl, ?_⟩) ?_ ?_; rotate_left; (·intro w'; go_simp; with_reducible rfl); rotate_left; (·simp only [Act.put, q1_9, q2_9, q3_9, i64_w, i32_w]; rfl)
               refine pure_ (i := 9) (N := some 108) (v := ?_) (a' := ?_) B9_10 rfl rfl (any_of HT_.out (by kernel_rfl)) (fun _ _ _ h => h) (Or.inl ⟨by rfl, ?_⟩) ?_ ?_; rotate_left; (·intro w'; go_simp; with_reducible rfl); rotate_left; (·simp only [Act.put, q1_9, q2_9, q3_9, i64_w, i32_w]; rfl)
               refine pure_ (i := 10) (N := some 109) (v := undef) (a' := ?_) B9_14 rfl rfl (any_of HT_.out (by kernel_rfl)) (fun _ _ _ h => h) (Or.inr ⟨by rfl, rfl⟩) ?_ ?_
               rotate_left
               ·simp only [Act.put, q1_9, q2_9, q3_9, i64_w, i32_w]
                rfl
               refine pure_ (i := 11) (N := some 110) (v := undef) (a' := ?_) B9_15 rfl rfl (any_of HT_.out (by kernel_rfl)) (fun _ _ _ h => h) (Or.inr ⟨by rfl, rfl⟩) ?_ ?_
               rotate_left
               ·simp only [Act.put, q1_9, q2_9, q3_9, i64_w, i32_w]
                rfl
               refine pure_ (i := 12) (N := some 111) (v := undef) (a' := ?_) B9_17 rfl rfl (any_of HT_.out (by kernel_rfl)) (fun _ _ _ h => h) (Or.inr ⟨by rfl, rfl⟩) ?_ ?_
               rotate_left
               ·simp only [Act.put, q1_9, q2_9, q3_9, i64_w, i32_w]
                rfl
               refine pure_ (i := 13) (N := some 112) (v := undef) (a' := ?_) B9_18 rfl rfl (any_of HT_.out (by kernel_rfl)) (fun _ _ _ h => h) (Or.inr ⟨by rfl, rfl⟩) ?_ ?_
               rotate_left
               ·simp only [Act.put, q1_9, q2_9, q3_9, i64_w, i32_w]
                rfl
               refine pure_ (i := 14) (N := some 113) (v := undef) (a' := ?_) B9_20 rfl rfl (any_of HT_.out (by kernel_rfl)) (fun _ _ _ h => h) (Or.inr ⟨by rfl, rfl⟩) ?_ ?_
               rotate_left
               ·simp only [Act.put, q1_9, q2_9, q3_9, i64_w, i32_w]
                rfl
               refine pure_ (i := 15) (N := some 114) (v := undef) (a' := ?_) B9_22 rfl rfl (any_of HT_.out (by kernel_rfl)) (fun _ _ _ h => h) (Or.inr ⟨by rfl, rfl⟩) ?_ ?_
               rotate_left
               ·simp only [Act.put, q1_9, q2_9, q3_9, i64_w, i32_w]
                rfl
               refine pure_ (i := 16) (N := some 115) (v := undef) (a' := ?_) B9_24 rfl rfl (any_of HT_.out (by kernel_rfl)) (fun _ _ _ h => h) (Or.inr ⟨by rfl, rfl⟩) ?_ ?_
               rotate_left
               ·simp only [Act.put, q1_9, q2_9, q3_9, i64_w, i32_w]
                rfl
               refine pure_ (i := 17) (N := some 116) (v := undef) (a' := ?_) B9_26 rfl rfl (any_of HT_.out (by kernel_rfl)) (fun _ _ _ h => h) (Or.inr ⟨by rfl, rfl⟩) ?_ ?_
               rotate_left
               ·simp only [Act.put, q1_9, q2_9, q3_9, i64_w, i32_w]
                rfl
               refine pure_ (i := 18) (N := some 117) (v := undef) (a' := ?_) B9_27 rfl rfl (any_of HT_.out (by kernel_rfl)) (fun _ _ _ h => h) (Or.inr ⟨by rfl, rfl⟩) ?_ ?_
               rotate_left
               ·simp only [Act.put, q1_9, q2_9, q3_9, i64_w, i32_w]
                rfl
               refine pure_ (i := 19) (N := some 118) (v := undef) (a' := ?_) B9_28 rfl rfl (any_of HT_.out (by kernel_rfl)) (fun _ _ _ h => h) (Or.inr ⟨by rfl, rfl⟩) ?_ ?_
               rotate_left
               ·simp only [Act.put, q1_9, q2_9, q3_9, i64_w, i32_w]
                rfl
               refine pure_ (i := 20) (N := some 119) (v := ?_) (a' := ?_) B9_29 rfl rfl (any_of HT_.out (by kernel_rfl)) (fun _ _ _ h => h) (Or.inl ⟨by rfl, ?_⟩) ?_ ?_; rotate_left; (·intro w'; go_simp; with_reducible rfl); rotate_left; (·simp only [Act.put, q1_9, q2_9, q3_9, i64_w, i32_w]; rfl)
               refine pure_ (i := 21) (N := some 8) (v := ?_) (a' := ?_) B9_30 rfl rfl (any_of HT_.out (by kernel_rfl)) (fun _ _ _ h => h) (Or.inl ⟨by rfl, ?_⟩) ?_ ?_; rotate_left; (·intro w'; go_simp; with_reducible rfl); rotate_left; (·simp only [Act.put, q1_9, q2_9, q3_9, i64_w, i32_w]; rfl)
               refine done_ (done_of HT_.out (by kernel_rfl)) ?_
               try go_wp2
               go_ret
               exact ⟨by first | rfl | (simp [errW_none, errW_some] <;> rfl) | (simp [*, errW_none, errW_some] <;> rfl), by repeat (first | (with_reducible first | exact HB.out | apply below_alloc | apply pw_below_drewN | apply below_drew1 | refine below_set ?_ GE158.out | refine below_set ?_ GE163.out) | exact HB.out)⟩
              ·rw [if_neg c153] at H
               have c153b0 : decide ((((rd_T34 l0_0 a1).f1).length : Int) ≤ a2) = false := decide_eq_false c153
               clear c153
               by_cases c167 : 0 ≤ a2
               ·rw [if_pos c167] at H
                have c167b0 : decide (0 ≤ a2) = true := decide_eq_true c167
                clear c167
                by_cases c168 : a2 < (((rd_T34 l0_0 a1).f1).length : Int)
                ·rw [if_pos c168] at H
                 have c168b0 : decide (a2 < (((rd_T34 l0_0 a1).f1).length : Int)) = true := decide_eq_true c168
                 clear c168
                 replace H := Option.bind_eq_some_iff.mp H
                 obtain ⟨t175, A1690, H⟩ := H
                 replace H : (some (t175 == a2)) = some r := H
                 have A169 := Aside0.mk A1690
                 clear A1690
                 obtain rfl := Option.some.inj H
                 have hcz170_0 : wc.cell? ⟨gb158, 0, none⟩ = some (.slice A0_0 l0_0.length c0_0) := (blk_cell BK158.out 0).trans rfl
                 have hfz170_0 := blk_frozen BK158.out 0
                 have p162 : 0 ≤ (a1 : Int) := of_decide_eq_true (by first | (with_reducible assumption) | assumption)
                 have q162 : a1 < (l0_0.length : Int) := of_decide_eq_true (by first | (with_reducible assumption) | assumption)
                 obtain ⟨ad162, A162_1, c162_1, e162, hx162_0, hx162_1, hl162_1, hi162_1⟩ := at_T34 HR0_0.out a1 p162 q162
                 cases e162
                 replace hx162_0 := (HB.out.cell (World.block_lt_of_cell? w _ hx162_0)).trans hx162_0
                 replace hx162_1 := (HB.out.cell (World.block_lt_of_cell? w _ hx162_1)).trans hx162_1
                 have HR162_1 := Aside0.mk hi162_1
                 have HC162_1 := Aside0.mk hl162_1
                 clear hi162_1 hl162_1
                 replace p162 := eq_true p162
                 replace q162 := eq_true q162
                 try go_wp2_with (first | ((with_reducible refine gate_dst (N := 11) rfl ?_); (try (refine gate_guard (by rfl) ?_; dsimp only)); refine box_event ?hg (N := 11) ?hd (cs := #[.string (⟨#[]⟩ : ByteArray), .slice none 0 0]) (t := 34) ?hr ?_; (case hd => rfl); (case hg => rfl); (case hr => first | (go_simp; done) | (go_simp; rfl)); intro gb163 hg w171 hbox hb; have n0_ := am9_ (blk_below (g := gb158) (o := .cells #[.slice (some ad162) l0_0.length c0_0] 24 (0, 0)) (by (with_reducible repeat (first | refine blk_drewN ?_ _ | refine blk_drew ?_ | refine blk_alloc ?_ _)); exact BK158.out) hb); have n1_ := am9_ (below_step (by repeat (first | (with_reducible first | exact HB.out | apply below_alloc | apply pw_below_drewN | apply below_drew1 | refine below_set ?_ GE158.out) | exact HB.out)) hb); have n2_ := am9_ (hbox); have n3_ := am9_ ((by rw [hg]; exact (below_size (by repeat (first | (with_reducible first | exact HB.out | apply below_alloc | apply pw_below_drewN | apply below_drew1 | refine below_set ?_ GE158.out) | exact HB.out))) : w.heap.size ≤ gb163)); have n4_ := am9_ ((by rw [hg]; exact (below_size (by repeat (first | (with_reducible first | exact HB.out | apply below_alloc | apply pw_below_drewN | apply below_drew1 | refine below_set ?_ GE158.out) | exact HB.out))) : w.heap.size ≤ gb163)); have n5_ := am9_ ((by rw [hg]; exact Nat.ne_of_lt (blk_lt (g := gb158) (o := .cells #[.slice (some ad162) l0_0.length c0_0] 24 (0, 0)) (by (with_reducible repeat (first | refine blk_drewN ?_ _ | refine blk_drew ?_ | refine blk_alloc ?_ _)); exact BK158.out)) : gb158 ≠ gb163)); have n6_ := am9_ ((by rw [hg]; exact Nat.ne_of_gt (blk_lt (g := gb158) (o := .cells #[.slice (some ad162) l0_0.length c0_0] 24 (0, 0)) (by (with_reducible repeat (first | refine blk_drewN ?_ _ | refine blk_drew ?_ | refine blk_alloc ?_ _)); exact BK158.out)) : gb163 ≠ gb158)); clear BK158; clear HB; have BK158 := n0_; have HB := n1_; have BK163 := n2_; have GW163 := n3_; have GE163 := n4_; have NB158_163 := n5_; have NB163_158 := n6_; clear n0_ n1_ n2_ n3_ n4_ n5_ n6_; clear hb hbox hg; have hnb172 := NB163_158.out; have hnc172 := NB158_163.out; have hcz173_0 : w171.cell? ⟨gb163, 0, none⟩ = some (.string (⟨#[]⟩ : ByteArray)) := (blk_cell BK163.out 0).trans rfl; have hcz173_1 : w171.cell? ⟨gb163, 1, none⟩ = some (.slice none 0 0) := (blk_cell BK163.out 1).trans rfl; have hfz173_0 := blk_frozen BK163.out 0; have hfz173_1 := blk_frozen BK163.out 1; have hcz174_0 : w171.cell? ⟨gb158, 0, none⟩ = some (.slice (some ad162) l0_0.length c0_0) := (blk_cell BK158.out 0).trans rfl; have hfz174_0 := blk_frozen BK158.out 0) | ((with_reducible refine gate_callee (f := 21) rfl ?_); refine goesL_ (some 47) rfl rfl Try.func21 (by kernel_rfl) rfl #[.agg #[.slice (some ad162) l0_0.length c0_0], .string a3] rfl (by (try simp only [List.map_toArray, List.map_cons, List.map_nil]); first | done | rfl | (simp only [List.length_drop, List.length_take]; rfl)) ?_; (with_reducible refine (schema_Find.calls _ _ l0_0 a3 t164 _ ?side1 ?side2 A27.out).mono ?_); (case side1 => exact Kd.C_below HR0_0.out (by repeat (first | (with_reducible first | exact HB.out | apply below_alloc | apply pw_below_drewN | apply below_drew1 | refine below_set ?_ GE158.out | refine below_set ?_ GE163.out) | exact HB.out))); (case side2 => exact HC0_0.out); rintro e w175 ⟨rfl, hb⟩; refine ⟨_, rfl, ?_⟩; have n0_ := am9_ (blk_below (g := gb158) (o := .cells #[.slice (some ad162) l0_0.length c0_0] 24 (0, 0)) (by (with_reducible repeat (first | refine blk_drewN ?_ _ | refine blk_drew ?_ | refine blk_alloc ?_ _)); refine blk_far ?_ NB158_163.out _; (with_reducible repeat (first | refine blk_drewN ?_ _ | refine blk_drew ?_ | refine blk_alloc ?_ _)); refine blk_far ?_ NB158_163.out _; (with_reducible repeat (first | refine blk_drewN ?_ _ | refine blk_drew ?_ | refine blk_alloc ?_ _)); exact BK158.out) hb); have n1_ := am9_ (blk_below (g := gb163) (o := .cells #[.string ((rd_T34 l0_0 a1).f0), .slice A162_1 ((rd_T34 l0_0 a1).f1).length c162_1] 34 (0, 0)) (by (with_reducible repeat (first | refine blk_drewN ?_ _ | refine blk_drew ?_ | refine blk_alloc ?_ _)); refine blk_put (cs := #[.string ((rd_T34 l0_0 a1).f0), .slice none 0 0]) ?_ 1 _ rfl; (with_reducible repeat (first | refine blk_drewN ?_ _ | refine blk_drew ?_ | refine blk_alloc ?_ _)); refine blk_put (cs := #[.string (⟨#[]⟩ : ByteArray), .slice none 0 0]) ?_ 0 _ rfl; (with_reducible repeat (first | refine blk_drewN ?_ _ | refine blk_drew ?_ | refine blk_alloc ?_ _)); exact BK163.out) hb); have n2_ := am9_ (below_step (by repeat (first | (with_reducible first | exact HB.out | apply below_alloc | apply pw_below_drewN | apply below_drew1 | refine below_set ?_ GE158.out | refine below_set ?_ GE163.out) | exact HB.out)) hb); clear BK158; clear BK163; clear HB; have BK158 := n0_; have BK163 := n1_; have HB := n2_; clear n0_ n1_ n2_; (try clear hb); (try clear hb2); (try clear hk); (try clear hi); have hcz176_0 : w175.cell? ⟨gb163, 0, none⟩ = some (.string ((rd_T34 l0_0 a1).f0)) := (blk_cell BK163.out 0).trans rfl; have hcz176_1 : w175.cell? ⟨gb163, 1, none⟩ = some (.slice A162_1 ((rd_T34 l0_0 a1).f1).length c162_1) := (blk_cell BK163.out 1).trans rfl; have hfz176_0 := blk_frozen BK163.out 0; have hfz176_1 := blk_frozen BK163.out 1) | ((with_reducible refine gate_callee (f := 15) rfl ?_); refine goesL_ (some 50) rfl rfl Try.func15 (by kernel_rfl) rfl #[.agg #[.string ((rd_T34 l0_0 a1).f0), .slice A162_1 ((rd_T34 l0_0 a1).f1).length c162_1], .string a3] rfl (by (try simp only [List.map_toArray, List.map_cons, List.map_nil]); first | done | rfl | (simp only [List.length_drop, List.length_take]; rfl)) ?_; (with_reducible refine (schema_Field.calls ((rd_T34 l0_0 a1).f0) _ _ ((rd_T34 l0_0 a1).f1) a3 t165 _ ?side1 ?side2 A28.out).mono ?_); (case side1 => repeat (first | exact (Kd.C_below HR162_1.out HB.out) | (with_reducible first | refine ca9_ ?_ _ | refine cn9_ ?_ _ | refine cd9_ ?_))); (case side2 => exact HC162_1.out); rintro e w177 ⟨rfl, hb⟩; refine ⟨_, rfl, ?_⟩; have n0_ := am9_ (blk_below (g := gb158) (o := .cells #[.slice (some ad162) l0_0.length c0_0] 24 (0, 0)) (by (with_reducible repeat (first | refine blk_drewN ?_ _ | refine blk_drew ?_ | refine blk_alloc ?_ _)); exact BK158.out) hb); have n1_ := am9_ (blk_below (g := gb163) (o := .cells #[.string ((rd_T34 l0_0 a1).f0), .slice A162_1 ((rd_T34 l0_0 a1).f1).length c162_1] 34 (0, 0)) (by (with_reducible repeat (first | refine blk_drewN ?_ _ | refine blk_drew ?_ | refine blk_alloc ?_ _)); exact BK163.out) hb); have n2_ := am9_ (below_step (by repeat (first | (with_reducible first | exact HB.out | apply below_alloc | apply pw_below_drewN | apply below_drew1 | refine below_set ?_ GE158.out | refine below_set ?_ GE163.out) | exact HB.out)) hb); clear BK158; clear BK163; clear HB; have BK158 := n0_; have BK163 := n1_; have HB := n2_; clear n0_ n1_ n2_; (try clear hb); (try clear hb2); (try clear hk); (try clear hi); have hcz178_0 : w177.cell? ⟨gb158, 0, none⟩ = some (.slice (some ad162) l0_0.length c0_0) := (blk_cell BK158.out 0).trans rfl; have hfz178_0 := blk_frozen BK158.out 0; have hcz179_0 : w177.cell? ⟨gb163, 0, none⟩ = some (.string ((rd_T34 l0_0 a1).f0)) := (blk_cell BK163.out 0).trans rfl; have hcz179_1 : w177.cell? ⟨gb163, 1, none⟩ = some (.slice A162_1 ((rd_T34 l0_0 a1).f1).length c162_1) := (blk_cell BK163.out 1).trans rfl; have hfz179_0 := blk_frozen BK163.out 0; have hfz179_1 := blk_frozen BK163.out 1) | ((with_reducible refine gate_callee (f := 21) rfl ?_); refine goesL_ (some 54) rfl rfl Try.func21 (by kernel_rfl) rfl #[.agg #[.slice (some ad162) l0_0.length c0_0], .string ((rd_T34 l0_0 a1).f0)] rfl (by (try simp only [List.map_toArray, List.map_cons, List.map_nil]); first | done | rfl | (simp only [List.length_drop, List.length_take]; rfl)) ?_; (with_reducible refine (schema_Find.calls _ _ l0_0 ((rd_T34 l0_0 a1).f0) t166 _ ?side1 ?side2 A29.out).mono ?_); (case side1 => repeat (first | exact (Kd.C_below HR0_0.out HB.out) | (with_reducible first | refine ca9_ ?_ _ | refine cn9_ ?_ _ | refine cd9_ ?_))); (case side2 => exact HC0_0.out); rintro e w180 ⟨rfl, hb⟩; refine ⟨_, rfl, ?_⟩; have n0_ := am9_ (blk_below (g := gb158) (o := .cells #[.slice (some ad162) l0_0.length c0_0] 24 (0, 0)) (by (with_reducible repeat (first | refine blk_drewN ?_ _ | refine blk_drew ?_ | refine blk_alloc ?_ _)); exact BK158.out) hb); have n1_ := am9_ (blk_below (g := gb163) (o := .cells #[.string ((rd_T34 l0_0 a1).f0), .slice A162_1 ((rd_T34 l0_0 a1).f1).length c162_1] 34 (0, 0)) (by (with_reducible repeat (first | refine blk_drewN ?_ _ | refine blk_drew ?_ | refine blk_alloc ?_ _)); exact BK163.out) hb); have n2_ := am9_ (below_step (by repeat (first | (with_reducible first | exact HB.out | apply below_alloc | apply pw_below_drewN | apply below_drew1 | refine below_set ?_ GE158.out | refine below_set ?_ GE163.out) | exact HB.out)) hb); clear BK158; clear BK163; clear HB; have BK158 := n0_; have BK163 := n1_; have HB := n2_; clear n0_ n1_ n2_; (try clear hb); (try clear hb2); (try clear hk); (try clear hi); have hcz181_0 : w180.cell? ⟨gb163, 0, none⟩ = some (.string ((rd_T34 l0_0 a1).f0)) := (blk_cell BK163.out 0).trans rfl; have hcz181_1 : w180.cell? ⟨gb163, 1, none⟩ = some (.slice A162_1 ((rd_T34 l0_0 a1).f1).length c162_1) := (blk_cell BK163.out 1).trans rfl; have hfz181_0 := blk_frozen BK163.out 0; have hfz181_1 := blk_frozen BK163.out 1; have p173 : 0 ≤ (t165 : Int) := of_decide_eq_true (by first | (with_reducible assumption) | assumption); have q173 : t165 < (((rd_T34 l0_0 a1).f1).length : Int) := of_decide_eq_true (by first | (with_reducible assumption) | assumption); obtain ⟨ad173, e173, hx173_0, hx173_1, hx173_2⟩ := at_T40 HR162_1.out t165 p173 q173; cases e173; replace hx173_0 := (HB.out.cell (World.block_lt_of_cell? w _ hx173_0)).trans hx173_0; replace hx173_1 := (HB.out.cell (World.block_lt_of_cell? w _ hx173_1)).trans hx173_1; replace hx173_2 := (HB.out.cell (World.block_lt_of_cell? w _ hx173_2)).trans hx173_2; replace p173 := eq_true p173; replace q173 := eq_true q173))
                 have n0_ := am9_ (blk_drew BK158.out)
                 have n1_ := am9_ (blk_drew BK163.out)
                 have n2_ := am9_ (below_drew1 HB.out)
                 clear BK158
                 clear BK163
                 clear HB
                 have BK158 := n0_
                 have BK163 := n1_
                 have HB := n2_
                 clear n0_ n1_ n2_
                 have p174 : 0 ≤ (a2 : Int) := of_decide_eq_true (by first | (with_reducible assumption) | assumption)
                 have q174 : a2 < (((rd_T34 l0_0 a1).f1).length : Int) := of_decide_eq_true (by first | (with_reducible assumption) | assumption)
                 obtain ⟨ad174, e174, hx174_0, hx174_1, hx174_2⟩ := at_T40 HR162_1.out a2 p174 q174
                 have hw174_2 := hx174_2
                 have hw174_1 := hx174_1
                 have hw174_0 := hx174_0
                 obtain rfl : ad173 = ad174 := (by injection e174)
                 replace hx174_0 := (HB.out.cell (World.block_lt_of_cell? w _ hx174_0)).trans hx174_0
                 replace hx174_1 := (HB.out.cell (World.block_lt_of_cell? w _ hx174_1)).trans hx174_1
                 replace hx174_2 := (HB.out.cell (World.block_lt_of_cell? w _ hx174_2)).trans hx174_2
                 replace p174 := eq_true p174
                 replace q174 := eq_true q174
                 refine start_ (n := 22) (S := fun w' => w'.cell? ⟨gb163, 0, none⟩ = some (.string ((rd_T34 l0_0 a1).f0)) ∧ w'.cell? ⟨gb163, 1, none⟩ = some (.slice (some ad173) ((rd_T34 l0_0 a1).f1).length c162_1) ∧ w'.cell? (ad173.add ((a2).toNat * 3)) = some (.string ((rd_T40 ((rd_T34 l0_0 a1).f1) a2).f0)) ∧ w'.cell? ⟨(ad173.add ((a2).toNat * 3)).block, (ad173.add ((a2).toNat * 3)).off + 1, none⟩ = some (.int .i64 ((rd_T40 ((rd_T34 l0_0 a1).f1) a2).f1)) ∧ w'.cell? ⟨(ad173.add ((a2).toNat * 3)).block, (ad173.add ((a2).toNat * 3)).off + 2, none⟩ = some (.string ((rd_T40 ((rd_T34 l0_0 a1).f1) a2).f2))) (ds := []) B9_0 (by kernel_rfl) rfl rfl ⟨(blk_cell BK163.out 0).trans rfl, (blk_cell BK163.out 1).trans rfl, ((HB.out.cell (World.block_lt_of_cell? w _ hw174_0)).trans hw174_0), ((HB.out.cell (World.block_lt_of_cell? w _ hw174_1)).trans hw174_1), ((HB.out.cell (World.block_lt_of_cell? w _ hw174_2)).trans hw174_2)⟩ (fun hHeld => ?_); refine with_tabW foliatelaw06_SchemaNames.tab10 foliatelaw06_SchemaNames.bits10 (fun HT_ HW_ => ?_)
                 generalize w180.drew = w182 at BK158 BK163 HB hx174_0 hx174_1 hx174_2 hHeld ⊢
                 refine pure_ (i := 0) (N := some 99) (v := ?_) (a' := ?_) B9_1 rfl rfl (any_of HT_.out (by kernel_rfl)) (fun _ _ _ h => h) (Or.inl ⟨by rfl, ?_⟩) ?_ ?_; rotate_left; (·intro w'; go_simp; with_reducible rfl); rotate_left; (·simp only [Act.put, q1_9, q2_9, q3_9, i64_w, i32_w]; rfl)
                 refine pure_ (i := 1) (N := some 100) (v := ?_) (a' := ?_) B9_2 rfl rfl (any_of HT_.out (by kernel_rfl)) (fun _ _ _ h => h) (Or.inl ⟨by rfl, ?_⟩) ?_ ?_; rotate_left; (·intro w'; go_simp; with_reducible rfl); rotate_left; (·simp only [Act.put, q1_9, q2_9, q3_9, i64_w, i32_w]; rfl)
                 refine pure_ (i := 2) (N := some 101) (v := ?_) (a' := ?_) B9_3 rfl rfl (any_of HT_.out (by kernel_rfl)) (fun _ _ _ h => h) (Or.inl ⟨by rfl, ?_⟩) ?_ ?_; rotate_left; (·intro w'; go_simp; with_reducible rfl); rotate_left; (·simp only [Act.put, q1_9, q2_9, q3_9, i64_w, i32_w]; rfl)
                 refine pure_ (i := 3) (N := some 102) (v := ?_) (a' := ?_) B9_4 rfl rfl (any_of HT_.out (by kernel_rfl)) (fun _ _ _ h => h) (Or.inl ⟨by rfl, ?_⟩) ?_ ?_; rotate_left; (·intro w'; go_simp; with_reducible rfl); rotate_left; (·simp only [Act.put, q1_9, q2_9, q3_9, i64_w, i32_w]; rfl)
                 refine pure_ (i := 4) (N := some 103) (v := ?_) (a' := ?_) B9_5 rfl rfl (any_of HT_.out (by kernel_rfl)) (fun _ _ _ h => h) (Or.inl ⟨by rfl, ?_⟩) ?_ ?_; rotate_left; (·intro w'; go_simp; with_reducible rfl); rotate_left; (·simp only [Act.put, q1_9, q2_9, q3_9, i64_w, i32_w]; rfl)
                 refine take_ (i := 5) (N := some 104) (v := ?_) (a' := ?_) B9_6 rfl rfl (take_ofW HT_.out HW_.out (by kernel_rfl)) (fun _ _ _ h => h) (Or.inl ⟨by rfl, ?_⟩) hHeld ?_ ?_
                 rotate_left
                 ·rintro w' ⟨s0, s1, s2, s3, s4⟩
                  go_simp
                  with_reducible rfl
                 rotate_left
                 ·simp only [Act.put, q1_9, q2_9, q3_9, i64_w, i32_w]
                  rfl
                 refine pure_ (i := 6) (N := some 105) (v := ?_) (a' := ?_) B9_7 rfl rfl (any_of HT_.out (by kernel_rfl)) (fun _ _ _ h => h) (Or.inl ⟨by rfl, ?_⟩) ?_ ?_; rotate_left; (·intro w'; go_simp; with_reducible rfl); rotate_left; (·simp only [Act.put, q1_9, q2_9, q3_9, i64_w, i32_w]; rfl)
                 refine pure_ (i := 7) (N := some 106) (v := ?_) (a' := ?_) B9_8 rfl rfl (any_of HT_.out (by kernel_rfl)) (fun _ _ _ h => h) (Or.inl ⟨by rfl, ?_⟩) ?_ ?_; rotate_left; (·intro w'; go_simp; with_reducible rfl); rotate_left; (·simp only [Act.put, q1_9, q2_9, q3_9, i64_w, i32_w]; rfl)
                 refine pure_ (i := 8) (N := some 107) (v := ?_) (a' := ?_) B9_9 rfl rfl (any_of HT_.out (by kernel_rfl)) (fun _ _ _ h => h) (Or.inl ⟨by rfl, ?_⟩) ?_ ?_; rotate_left; (·intro w'; go_simp; with_reducible rfl); rotate_left; (·simp only [Act.put, q1_9, q2_9, q3_9, i64_w, i32_w]; rfl)
                 refine pure_ (i := 9) (N := some 108) (v := ?_) (a' := ?_) B9_10 rfl rfl (any_of HT_.out (by kernel_rfl)) (fun _ _ _ h => h) (Or.inl ⟨by rfl, ?_⟩) ?_ ?_; rotate_left; (·intro w'; go_simp; with_reducible rfl); rotate_left; (·simp only [Act.put, q1_9, q2_9, q3_9, i64_w, i32_w]; rfl)
                 refine pure_ (i := 11) (N := some 110) (v := ?_) (a' := ?_) B9_11 rfl rfl (any_of HT_.out (by kernel_rfl)) (fun _ _ _ h => h) (Or.inl ⟨by rfl, ?_⟩) ?_ ?_; rotate_left; (·intro w'; go_simp; with_reducible rfl); rotate_left; (·simp only [Act.put, q1_9, q2_9, q3_9, i64_w, i32_w]; rfl)
                 refine pure_ (i := 13) (N := some 112) (v := ?_) (a' := ?_) B9_12 rfl rfl (any_of HT_.out (by kernel_rfl)) (fun _ _ _ h => h) (Or.inl ⟨by rfl, ?_⟩) ?_ ?_; rotate_left; (·intro w'; go_simp; with_reducible rfl); rotate_left; (·simp only [Act.put, q1_9, q2_9, q3_9, i64_w, i32_w]; rfl)
                 refine pure_ (i := 18) (N := some 117) (v := ?_) (a' := ?_) B9_13 rfl rfl (any_of HT_.out (by kernel_rfl)) (fun _ _ _ h => h) (Or.inl ⟨by rfl, ?_⟩) ?_ ?_; rotate_left; (·intro w'; go_simp; with_reducible rfl); rotate_left; (·simp only [Act.put, q1_9, q2_9, q3_9, i64_w, i32_w]; rfl)
                 refine take_ (i := 10) (N := some 109) (v := ?_) (a' := ?_) B9_16 rfl rfl (take_ofW HT_.out HW_.out (by kernel_rfl)) (fun _ _ _ h => h) (Or.inl ⟨by rfl, ?_⟩) hHeld ?_ ?_
                 rotate_left
                 ·rintro w' ⟨s0, s1, s2, s3, s4⟩
                  go_simp
                  with_reducible rfl
                 rotate_left
                 ·simp only [Act.put, q1_9, q2_9, q3_9, i64_w, i32_w]
                  rfl
                 refine take_ (i := 12) (N := some 111) (v := ?_) (a' := ?_) B9_19 rfl rfl (take_ofW HT_.out HW_.out (by kernel_rfl)) (fun _ _ _ h => h) (Or.inl ⟨by rfl, ?_⟩) hHeld ?_ ?_
                 rotate_left
                 ·rintro w' ⟨s0, s1, s2, s3, s4⟩
                  go_simp
                  with_reducible rfl
                 rotate_left
                 ·simp only [Act.put, q1_9, q2_9, q3_9, i64_w, i32_w]
                  rfl
                 refine pure_ (i := 14) (N := some 113) (v := ?_) (a' := ?_) B9_21 rfl rfl (any_of HT_.out (by kernel_rfl)) (fun _ _ _ h => h) (Or.inl ⟨by rfl, ?_⟩) ?_ ?_; rotate_left; (·intro w'; go_simp; with_reducible rfl); rotate_left; (·simp only [Act.put, q1_9, q2_9, q3_9, i64_w, i32_w]; rfl)
                 refine pure_ (i := 15) (N := some 114) (v := ?_) (a' := ?_) B9_23 rfl rfl (any_of HT_.out (by kernel_rfl)) (fun _ _ _ h => h) (Or.inl ⟨by rfl, ?_⟩) ?_ ?_; rotate_left; (·intro w'; go_simp; with_reducible rfl); rotate_left; (·simp only [Act.put, q1_9, q2_9, q3_9, i64_w, i32_w]; rfl)
                 refine take_ (i := 16) (N := some 115) (v := ?_) (a' := ?_) B9_25 rfl rfl (take_ofW HT_.out HW_.out (by kernel_rfl)) (fun _ _ _ h => h) (Or.inl ⟨by rfl, ?_⟩) hHeld ?_ ?_
                 rotate_left
                 ·rintro w' ⟨s0, s1, s2, s3, s4⟩
                  go_simp
                  with_reducible rfl
                 rotate_left
                 ·simp only [Act.put, q1_9, q2_9, q3_9, i64_w, i32_w]
                  rfl
                 refine one_ (i := 17) (N := some 116) B9_27 rfl rfl (one_of HT_.out (by kernel_rfl)) (by decide) (fun K hK => ?_)
                 refine goes_ Try.func15 (by kernel_rfl) rfl #[.agg #[.string ((rd_T34 l0_0 a1).f0), .slice (some ad173) ((rd_T34 l0_0 a1).f1).length c162_1], .string ((rd_T40 ((rd_T34 l0_0 a1).f1) a2).f0)] (by rfl) rfl rfl (by (try simp only [List.map_toArray, List.map_cons, List.map_nil]); first | done | rfl | (simp only [List.length_drop, List.length_take]; rfl)) ?_
                 with_reducible refine (schema_Field.calls ((rd_T34 l0_0 a1).f0) _ _ ((rd_T34 l0_0 a1).f1) ((rd_T40 ((rd_T34 l0_0 a1).f1) a2).f0) t175 _ ?side1 ?side2 A169.out).mono ?_
                 (case side1 => repeat (first | exact (Kd.C_below HR162_1.out HB.out) | (with_reducible first | refine ca9_ ?_ _ | refine cn9_ ?_ _ | refine cd9_ ?_)))
                 (case side2 => exact HC162_1.out)
                 rintro e w183 ⟨rfl, hb⟩
                 refine ⟨_, rfl, ?_⟩
                 have n0_ := am9_ (blk_below (g := gb158) (o := .cells #[.slice (some ad162) l0_0.length c0_0] 24 (0, 0)) (by (with_reducible repeat (first | refine blk_drewN ?_ _ | refine blk_drew ?_ | refine blk_alloc ?_ _)); exact BK158.out) hb)
                 have n1_ := am9_ (blk_below (g := gb163) (o := .cells #[.string ((rd_T34 l0_0 a1).f0), .slice (some ad173) ((rd_T34 l0_0 a1).f1).length c162_1] 34 (0, 0)) (by (with_reducible repeat (first | refine blk_drewN ?_ _ | refine blk_drew ?_ | refine blk_alloc ?_ _)); exact BK163.out) hb)
                 have n2_ := am9_ (below_step (by repeat (first | (with_reducible first | exact HB.out | apply below_alloc | apply pw_below_drewN | apply below_drew1 | refine below_set ?_ GE158.out | refine below_set ?_ GE163.out) | exact HB.out)) hb)
                 clear BK158
                 clear BK163
                 clear HB
                 have BK158 := n0_
                 have BK163 := n1_
                 have HB := n2_
                 clear n0_ n1_ n2_
                 (try clear hb)
                 (try clear hb2)
                 (try clear hk)
                 (try clear hi)
                 refine hK.out _ _ ⟨(blk_cell BK163.out 0).trans rfl, (blk_cell BK163.out 1).trans rfl, ((HB.out.cell (World.block_lt_of_cell? w _ hw174_0)).trans hw174_0), ((HB.out.cell (World.block_lt_of_cell? w _ hw174_1)).trans hw174_1), ((HB.out.cell (World.block_lt_of_cell? w _ hw174_2)).trans hw174_2)⟩ (fun hHeld => ?_)
                 clear hK K
                 refine norm_ (a' := ?_) ?_ ?_
                 rotate_left
                 ·show Act.put _ (some 116) _ = _
                  simp only [Act.put, q1_9, q2_9, q3_9, i64_w, i32_w]
                  rfl
                 refine pure_ (i := 19) (N := some 118) (v := ?_) (a' := ?_) B9_28 rfl rfl (any_of HT_.out (by kernel_rfl)) (fun _ _ _ h => h) (Or.inl ⟨by rfl, ?_⟩) ?_ ?_; rotate_left; (·intro w'; go_simp; with_reducible rfl); rotate_left; (·simp only [Act.put, q1_9, q2_9, q3_9, i64_w, i32_w]; rfl)
                 refine pure_ (i := 20) (N := some 119) (v := ?_) (a' := ?_) B9_29 rfl rfl (any_of HT_.out (by kernel_rfl)) (fun _ _ _ h => h) (Or.inl ⟨by rfl, ?_⟩) ?_ ?_; rotate_left; (·intro w'; go_simp; with_reducible rfl); rotate_left; (·simp only [Act.put, q1_9, q2_9, q3_9, i64_w, i32_w]; rfl)
                 refine pure_ (i := 21) (N := some 8) (v := ?_) (a' := ?_) B9_30 rfl rfl (any_of HT_.out (by kernel_rfl)) (fun _ _ _ h => h) (Or.inl ⟨by rfl, ?_⟩) ?_ ?_; rotate_left; (·intro w'; go_simp; with_reducible rfl); rotate_left; (·simp only [Act.put, q1_9, q2_9, q3_9, i64_w, i32_w]; rfl)
                 refine done_ (done_of HT_.out (by kernel_rfl)) ?_
                 try go_wp2
                 go_ret
                 exact ⟨by first | rfl | (simp [errW_none, errW_some] <;> rfl) | (simp [*, errW_none, errW_some] <;> rfl), by repeat (first | (with_reducible first | exact HB.out | apply below_alloc | apply pw_below_drewN | apply below_drew1 | refine below_set ?_ GE158.out | refine below_set ?_ GE163.out) | exact HB.out)⟩
                ·rw [if_neg c168] at H
                 exact absurd H (by simp)
               ·rw [if_neg c167] at H
                exact absurd H (by simp)
            ·rw [if_neg c138] at H
             exact absurd H (by simp)
           ·rw [if_neg c137] at H
            exact absurd H (by simp)
          ·rw [if_neg c136] at H
           exact absurd H (by simp)
        ·rw [if_neg c134] at H
         have c134b0 : decide (0 ≤ t165) = false := decide_eq_false c134
         clear c134
         by_cases c184 : a2 < 0
         ·rw [if_pos c184] at H
          have c184b0 : decide (a2 < 0) = true := decide_eq_true c184
          clear c184
          obtain rfl := Option.some.inj H
          have hcz185_0 : wc.cell? ⟨gb158, 0, none⟩ = some (.slice A0_0 l0_0.length c0_0) := (blk_cell BK158.out 0).trans rfl
          have hfz185_0 := blk_frozen BK158.out 0
          have p162 : 0 ≤ (a1 : Int) := of_decide_eq_true (by first | (with_reducible assumption) | assumption)
          have q162 : a1 < (l0_0.length : Int) := of_decide_eq_true (by first | (with_reducible assumption) | assumption)
          obtain ⟨ad162, A162_1, c162_1, e162, hx162_0, hx162_1, hl162_1, hi162_1⟩ := at_T34 HR0_0.out a1 p162 q162
          cases e162
          replace hx162_0 := (HB.out.cell (World.block_lt_of_cell? w _ hx162_0)).trans hx162_0
          replace hx162_1 := (HB.out.cell (World.block_lt_of_cell? w _ hx162_1)).trans hx162_1
          have HR162_1 := Aside0.mk hi162_1
          have HC162_1 := Aside0.mk hl162_1
          clear hi162_1 hl162_1
          replace p162 := eq_true p162
          replace q162 := eq_true q162
          try go_wp2_with (first | ((with_reducible refine gate_dst (N := 11) rfl ?_); (try (refine gate_guard (by rfl) ?_; dsimp only)); refine box_event ?hg (N := 11) ?hd (cs := #[.string (⟨#[]⟩ : ByteArray), .slice none 0 0]) (t := 34) ?hr ?_; (case hd => rfl); (case hg => rfl); (case hr => first | (go_simp; done) | (go_simp; rfl)); intro gb163 hg w186 hbox hb; have n0_ := am9_ (blk_below (g := gb158) (o := .cells #[.slice (some ad162) l0_0.length c0_0] 24 (0, 0)) (by (with_reducible repeat (first | refine blk_drewN ?_ _ | refine blk_drew ?_ | refine blk_alloc ?_ _)); exact BK158.out) hb); have n1_ := am9_ (below_step (by repeat (first | (with_reducible first | exact HB.out | apply below_alloc | apply pw_below_drewN | apply below_drew1 | refine below_set ?_ GE158.out) | exact HB.out)) hb); have n2_ := am9_ (hbox); have n3_ := am9_ ((by rw [hg]; exact (below_size (by repeat (first | (with_reducible first | exact HB.out | apply below_alloc | apply pw_below_drewN | apply below_drew1 | refine below_set ?_ GE158.out) | exact HB.out))) : w.heap.size ≤ gb163)); have n4_ := am9_ ((by rw [hg]; exact (below_size (by repeat (first | (with_reducible first | exact HB.out | apply below_alloc | apply pw_below_drewN | apply below_drew1 | refine below_set ?_ GE158.out) | exact HB.out))) : w.heap.size ≤ gb163)); have n5_ := am9_ ((by rw [hg]; exact Nat.ne_of_lt (blk_lt (g := gb158) (o := .cells #[.slice (some ad162) l0_0.length c0_0] 24 (0, 0)) (by (with_reducible repeat (first | refine blk_drewN ?_ _ | refine blk_drew ?_ | refine blk_alloc ?_ _)); exact BK158.out)) : gb158 ≠ gb163)); have n6_ := am9_ ((by rw [hg]; exact Nat.ne_of_gt (blk_lt (g := gb158) (o := .cells #[.slice (some ad162) l0_0.length c0_0] 24 (0, 0)) (by (with_reducible repeat (first | refine blk_drewN ?_ _ | refine blk_drew ?_ | refine blk_alloc ?_ _)); exact BK158.out)) : gb163 ≠ gb158)); clear BK158; clear HB; have BK158 := n0_; have HB := n1_; have BK163 := n2_; have GW163 := n3_; have GE163 := n4_; have NB158_163 := n5_; have NB163_158 := n6_; clear n0_ n1_ n2_ n3_ n4_ n5_ n6_; clear hb hbox hg; have hnb187 := NB163_158.out; have hnc187 := NB158_163.out; have hcz188_0 : w186.cell? ⟨gb163, 0, none⟩ = some (.string (⟨#[]⟩ : ByteArray)) := (blk_cell BK163.out 0).trans rfl; have hcz188_1 : w186.cell? ⟨gb163, 1, none⟩ = some (.slice none 0 0) := (blk_cell BK163.out 1).trans rfl; have hfz188_0 := blk_frozen BK163.out 0; have hfz188_1 := blk_frozen BK163.out 1; have hcz189_0 : w186.cell? ⟨gb158, 0, none⟩ = some (.slice (some ad162) l0_0.length c0_0) := (blk_cell BK158.out 0).trans rfl; have hfz189_0 := blk_frozen BK158.out 0) | ((with_reducible refine gate_callee (f := 21) rfl ?_); refine goesL_ (some 47) rfl rfl Try.func21 (by kernel_rfl) rfl #[.agg #[.slice (some ad162) l0_0.length c0_0], .string a3] rfl (by (try simp only [List.map_toArray, List.map_cons, List.map_nil]); first | done | rfl | (simp only [List.length_drop, List.length_take]; rfl)) ?_; (with_reducible refine (schema_Find.calls _ _ l0_0 a3 t164 _ ?side1 ?side2 A27.out).mono ?_); (case side1 => exact Kd.C_below HR0_0.out (by repeat (first | (with_reducible first | exact HB.out | apply below_alloc | apply pw_below_drewN | apply below_drew1 | refine below_set ?_ GE158.out | refine below_set ?_ GE163.out) | exact HB.out))); (case side2 => exact HC0_0.out); rintro e w190 ⟨rfl, hb⟩; refine ⟨_, rfl, ?_⟩; have n0_ := am9_ (blk_below (g := gb158) (o := .cells #[.slice (some ad162) l0_0.length c0_0] 24 (0, 0)) (by (with_reducible repeat (first | refine blk_drewN ?_ _ | refine blk_drew ?_ | refine blk_alloc ?_ _)); refine blk_far ?_ NB158_163.out _; (with_reducible repeat (first | refine blk_drewN ?_ _ | refine blk_drew ?_ | refine blk_alloc ?_ _)); refine blk_far ?_ NB158_163.out _; (with_reducible repeat (first | refine blk_drewN ?_ _ | refine blk_drew ?_ | refine blk_alloc ?_ _)); exact BK158.out) hb); have n1_ := am9_ (blk_below (g := gb163) (o := .cells #[.string ((rd_T34 l0_0 a1).f0), .slice A162_1 ((rd_T34 l0_0 a1).f1).length c162_1] 34 (0, 0)) (by (with_reducible repeat (first | refine blk_drewN ?_ _ | refine blk_drew ?_ | refine blk_alloc ?_ _)); refine blk_put (cs := #[.string ((rd_T34 l0_0 a1).f0), .slice none 0 0]) ?_ 1 _ rfl; (with_reducible repeat (first | refine blk_drewN ?_ _ | refine blk_drew ?_ | refine blk_alloc ?_ _)); refine blk_put (cs := #[.string (⟨#[]⟩ : ByteArray), .slice none 0 0]) ?_ 0 _ rfl; (with_reducible repeat (first | refine blk_drewN ?_ _ | refine blk_drew ?_ | refine blk_alloc ?_ _)); exact BK163.out) hb); have n2_ := am9_ (below_step (by repeat (first | (with_reducible first | exact HB.out | apply below_alloc | apply pw_below_drewN | apply below_drew1 | refine below_set ?_ GE158.out | refine below_set ?_ GE163.out) | exact HB.out)) hb); clear BK158; clear BK163; clear HB; have BK158 := n0_; have BK163 := n1_; have HB := n2_; clear n0_ n1_ n2_; (try clear hb); (try clear hb2); (try clear hk); (try clear hi); have hcz191_0 : w190.cell? ⟨gb163, 0, none⟩ = some (.string ((rd_T34 l0_0 a1).f0)) := (blk_cell BK163.out 0).trans rfl; have hcz191_1 : w190.cell? ⟨gb163, 1, none⟩ = some (.slice A162_1 ((rd_T34 l0_0 a1).f1).length c162_1) := (blk_cell BK163.out 1).trans rfl; have hfz191_0 := blk_frozen BK163.out 0; have hfz191_1 := blk_frozen BK163.out 1) | ((with_reducible refine gate_callee (f := 15) rfl ?_); refine goesL_ (some 50) rfl rfl Try.func15 (by kernel_rfl) rfl #[.agg #[.string ((rd_T34 l0_0 a1).f0), .slice A162_1 ((rd_T34 l0_0 a1).f1).length c162_1], .string a3] rfl (by (try simp only [List.map_toArray, List.map_cons, List.map_nil]); first | done | rfl | (simp only [List.length_drop, List.length_take]; rfl)) ?_; (with_reducible refine (schema_Field.calls ((rd_T34 l0_0 a1).f0) _ _ ((rd_T34 l0_0 a1).f1) a3 t165 _ ?side1 ?side2 A28.out).mono ?_); (case side1 => repeat (first | exact (Kd.C_below HR162_1.out HB.out) | (with_reducible first | refine ca9_ ?_ _ | refine cn9_ ?_ _ | refine cd9_ ?_))); (case side2 => exact HC162_1.out); rintro e w192 ⟨rfl, hb⟩; refine ⟨_, rfl, ?_⟩; have n0_ := am9_ (blk_below (g := gb158) (o := .cells #[.slice (some ad162) l0_0.length c0_0] 24 (0, 0)) (by (with_reducible repeat (first | refine blk_drewN ?_ _ | refine blk_drew ?_ | refine blk_alloc ?_ _)); exact BK158.out) hb); have n1_ := am9_ (blk_below (g := gb163) (o := .cells #[.string ((rd_T34 l0_0 a1).f0), .slice A162_1 ((rd_T34 l0_0 a1).f1).length c162_1] 34 (0, 0)) (by (with_reducible repeat (first | refine blk_drewN ?_ _ | refine blk_drew ?_ | refine blk_alloc ?_ _)); exact BK163.out) hb); have n2_ := am9_ (below_step (by repeat (first | (with_reducible first | exact HB.out | apply below_alloc | apply pw_below_drewN | apply below_drew1 | refine below_set ?_ GE158.out | refine below_set ?_ GE163.out) | exact HB.out)) hb); clear BK158; clear BK163; clear HB; have BK158 := n0_; have BK163 := n1_; have HB := n2_; clear n0_ n1_ n2_; (try clear hb); (try clear hb2); (try clear hk); (try clear hi); have hcz193_0 : w192.cell? ⟨gb158, 0, none⟩ = some (.slice (some ad162) l0_0.length c0_0) := (blk_cell BK158.out 0).trans rfl; have hfz193_0 := blk_frozen BK158.out 0; have hcz194_0 : w192.cell? ⟨gb163, 0, none⟩ = some (.string ((rd_T34 l0_0 a1).f0)) := (blk_cell BK163.out 0).trans rfl; have hcz194_1 : w192.cell? ⟨gb163, 1, none⟩ = some (.slice A162_1 ((rd_T34 l0_0 a1).f1).length c162_1) := (blk_cell BK163.out 1).trans rfl; have hfz194_0 := blk_frozen BK163.out 0; have hfz194_1 := blk_frozen BK163.out 1) | ((with_reducible refine gate_callee (f := 21) rfl ?_); refine goesL_ (some 54) rfl rfl Try.func21 (by kernel_rfl) rfl #[.agg #[.slice (some ad162) l0_0.length c0_0], .string ((rd_T34 l0_0 a1).f0)] rfl (by (try simp only [List.map_toArray, List.map_cons, List.map_nil]); first | done | rfl | (simp only [List.length_drop, List.length_take]; rfl)) ?_; (with_reducible refine (schema_Find.calls _ _ l0_0 ((rd_T34 l0_0 a1).f0) t166 _ ?side1 ?side2 A29.out).mono ?_); (case side1 => repeat (first | exact (Kd.C_below HR0_0.out HB.out) | (with_reducible first | refine ca9_ ?_ _ | refine cn9_ ?_ _ | refine cd9_ ?_))); (case side2 => exact HC0_0.out); rintro e w195 ⟨rfl, hb⟩; refine ⟨_, rfl, ?_⟩; have n0_ := am9_ (blk_below (g := gb158) (o := .cells #[.slice (some ad162) l0_0.length c0_0] 24 (0, 0)) (by (with_reducible repeat (first | refine blk_drewN ?_ _ | refine blk_drew ?_ | refine blk_alloc ?_ _)); exact BK158.out) hb); have n1_ := am9_ (blk_below (g := gb163) (o := .cells #[.string ((rd_T34 l0_0 a1).f0), .slice A162_1 ((rd_T34 l0_0 a1).f1).length c162_1] 34 (0, 0)) (by (with_reducible repeat (first | refine blk_drewN ?_ _ | refine blk_drew ?_ | refine blk_alloc ?_ _)); exact BK163.out) hb); have n2_ := am9_ (below_step (by repeat (first | (with_reducible first | exact HB.out | apply below_alloc | apply pw_below_drewN | apply below_drew1 | refine below_set ?_ GE158.out | refine below_set ?_ GE163.out) | exact HB.out)) hb); clear BK158; clear BK163; clear HB; have BK158 := n0_; have BK163 := n1_; have HB := n2_; clear n0_ n1_ n2_; (try clear hb); (try clear hb2); (try clear hk); (try clear hi)))
          have n0_ := am9_ (blk_drew BK158.out)
          have n1_ := am9_ (blk_drew BK163.out)
          have n2_ := am9_ (below_drew1 HB.out)
          clear BK158
          clear BK163
          clear HB
          have BK158 := n0_
          have BK163 := n1_
          have HB := n2_
          clear n0_ n1_ n2_
          refine start_ (n := 22) (S := fun w' => True) (ds := []) B9_0 (by kernel_rfl) rfl rfl trivial (fun hHeld => ?_); refine with_tabW foliatelaw06_SchemaNames.tab10 foliatelaw06_SchemaNames.bits10 (fun HT_ HW_ => ?_)
          generalize w195.drew = w196 at BK158 BK163 HB hHeld ⊢
          refine pure_ (i := 0) (N := some 99) (v := ?_) (a' := ?_) B9_1 rfl rfl (any_of HT_.out (by kernel_rfl)) (fun _ _ _ h => h) (Or.inl ⟨by rfl, ?_⟩) ?_ ?_; rotate_left; (·intro w'; go_simp; with_reducible rfl); rotate_left; (·simp only [Act.put, q1_9, q2_9, q3_9, i64_w, i32_w]; rfl)
          refine pure_ (i := 1) (N := some 100) (v := ?_) (a' := ?_) B9_2 rfl rfl (any_of HT_.out (by kernel_rfl)) (fun _ _ _ h => h) (Or.inl ⟨by rfl, ?_⟩) ?_ ?_; rotate_left; (·intro w'; go_simp; with_reducible rfl); rotate_left; (·simp only [Act.put, q1_9, q2_9, q3_9, i64_w, i32_w]; rfl)
          refine pure_ (i := 2) (N := some 101) (v := ?_) (a' := ?_) B9_3 rfl rfl (any_of HT_.out (by kernel_rfl)) (fun _ _ _ h => h) (Or.inl ⟨by rfl, ?_⟩) ?_ ?_; rotate_left; (·intro w'; go_simp; with_reducible rfl); rotate_left; (·simp only [Act.put, q1_9, q2_9, q3_9, i64_w, i32_w]; rfl)
          refine pure_ (i := 3) (N := some 102) (v := undef) (a' := ?_) B9_4 rfl rfl (any_of HT_.out (by kernel_rfl)) (fun _ _ _ h => h) (Or.inr ⟨by rfl, rfl⟩) ?_ ?_
          rotate_left
          ·simp only [Act.put, q1_9, q2_9, q3_9, i64_w, i32_w]
           rfl
          refine pure_ (i := 4) (N := some 103) (v := undef) (a' := ?_) B9_5 rfl rfl (any_of HT_.out (by kernel_rfl)) (fun _ _ _ h => h) (Or.inr ⟨by rfl, rfl⟩) ?_ ?_
          rotate_left
          ·simp only [Act.put, q1_9, q2_9, q3_9, i64_w, i32_w]
           rfl
          refine pure_ (i := 5) (N := some 104) (v := undef) (a' := ?_) B9_6 rfl rfl (any_of HT_.out (by kernel_rfl)) (fun _ _ _ h => h) (Or.inr ⟨by rfl, rfl⟩) ?_ ?_
          rotate_left
          ·simp only [Act.put, q1_9, q2_9, q3_9, i64_w, i32_w]
           rfl
          refine pure_ (i := 6) (N := some 105) (v := undef) (a' := ?_) B9_7 rfl rfl (any_of HT_.out (by kernel_rfl)) (fun _ _ _ h => h) (Or.inr ⟨by rfl, rfl⟩) ?_ ?_
          rotate_left
          ·simp only [Act.put, q1_9, q2_9, q3_9, i64_w, i32_w]
           rfl
          refine pure_ (i := 7) (N := some 106) (v := undef) (a' := ?_) B9_8 rfl rfl (any_of HT_.out (by kernel_rfl)) (fun _ _ _ h => h) (Or.inr ⟨by rfl, rfl⟩) ?_ ?_
          rotate_left
          ·simp only [Act.put, q1_9, q2_9, q3_9, i64_w, i32_w]
           rfl
          refine pure_ (i := 8) (N := some 107) (v := ?_) (a' := ?_) B9_9 rfl rfl (any_of HT_.out (by kernel_rfl)) (fun _ _ _ h => h) (Or.inl ⟨by rfl, ?_⟩) ?_ ?_; rotate_left; (·intro w'; go_simp; with_reducible rfl); rotate_left; (·simp only [Act.put, q1_9, q2_9, q3_9, i64_w, i32_w]; rfl)
          refine pure_ (i := 9) (N := some 108) (v := ?_) (a' := ?_) B9_10 rfl rfl (any_of HT_.out (by kernel_rfl)) (fun _ _ _ h => h) (Or.inl ⟨by rfl, ?_⟩) ?_ ?_; rotate_left; (·intro w'; go_simp; with_reducible rfl); rotate_left; (·simp only [Act.put, q1_9, q2_9, q3_9, i64_w, i32_w]; rfl)
          refine pure_ (i := 10) (N := some 109) (v := undef) (a' := ?_) B9_14 rfl rfl (any_of HT_.out (by kernel_rfl)) (fun _ _ _ h => h) (Or.inr ⟨by rfl, rfl⟩) ?_ ?_
          rotate_left
          ·simp only [Act.put, q1_9, q2_9, q3_9, i64_w, i32_w]
           rfl
          refine pure_ (i := 11) (N := some 110) (v := undef) (a' := ?_) B9_15 rfl rfl (any_of HT_.out (by kernel_rfl)) (fun _ _ _ h => h) (Or.inr ⟨by rfl, rfl⟩) ?_ ?_
          rotate_left
          ·simp only [Act.put, q1_9, q2_9, q3_9, i64_w, i32_w]
           rfl
          refine pure_ (i := 12) (N := some 111) (v := undef) (a' := ?_) B9_17 rfl rfl (any_of HT_.out (by kernel_rfl)) (fun _ _ _ h => h) (Or.inr ⟨by rfl, rfl⟩) ?_ ?_
          rotate_left
          ·simp only [Act.put, q1_9, q2_9, q3_9, i64_w, i32_w]
           rfl
          refine pure_ (i := 13) (N := some 112) (v := undef) (a' := ?_) B9_18 rfl rfl (any_of HT_.out (by kernel_rfl)) (fun _ _ _ h => h) (Or.inr ⟨by rfl, rfl⟩) ?_ ?_
          rotate_left
          ·simp only [Act.put, q1_9, q2_9, q3_9, i64_w, i32_w]
           rfl
          refine pure_ (i := 14) (N := some 113) (v := undef) (a' := ?_) B9_20 rfl rfl (any_of HT_.out (by kernel_rfl)) (fun _ _ _ h => h) (Or.inr ⟨by rfl, rfl⟩) ?_ ?_
          rotate_left
          ·simp only [Act.put, q1_9, q2_9, q3_9, i64_w, i32_w]
           rfl
          refine pure_ (i := 15) (N := some 114) (v := undef) (a' := ?_) B9_22 rfl rfl (any_of HT_.out (by kernel_rfl)) (fun _ _ _ h => h) (Or.inr ⟨by rfl, rfl⟩) ?_ ?_
          rotate_left
          ·simp only [Act.put, q1_9, q2_9, q3_9, i64_w, i32_w]
           rfl
          refine pure_ (i := 16) (N := some 115) (v := undef) (a' := ?_) B9_24 rfl rfl (any_of HT_.out (by kernel_rfl)) (fun _ _ _ h => h) (Or.inr ⟨by rfl, rfl⟩) ?_ ?_
          rotate_left
          ·simp only [Act.put, q1_9, q2_9, q3_9, i64_w, i32_w]
           rfl
          refine pure_ (i := 17) (N := some 116) (v := undef) (a' := ?_) B9_26 rfl rfl (any_of HT_.out (by kernel_rfl)) (fun _ _ _ h => h) (Or.inr ⟨by rfl, rfl⟩) ?_ ?_
          rotate_left
          ·simp only [Act.put, q1_9, q2_9, q3_9, i64_w, i32_w]
           rfl
          refine pure_ (i := 18) (N := some 117) (v := undef) (a' := ?_) B9_27 rfl rfl (any_of HT_.out (by kernel_rfl)) (fun _ _ _ h => h) (Or.inr ⟨by rfl, rfl⟩) ?_ ?_
          rotate_left
          ·simp only [Act.put, q1_9, q2_9, q3_9, i64_w, i32_w]
           rfl
          refine pure_ (i := 19) (N := some 118) (v := undef) (a' := ?_) B9_28 rfl rfl (any_of HT_.out (by kernel_rfl)) (fun _ _ _ h => h) (Or.inr ⟨by rfl, rfl⟩) ?_ ?_
          rotate_left
          ·simp only [Act.put, q1_9, q2_9, q3_9, i64_w, i32_w]
           rfl
          refine pure_ (i := 20) (N := some 119) (v := ?_) (a' := ?_) B9_29 rfl rfl (any_of HT_.out (by kernel_rfl)) (fun _ _ _ h => h) (Or.inl ⟨by rfl, ?_⟩) ?_ ?_; rotate_left; (·intro w'; go_simp; with_reducible rfl); rotate_left; (·simp only [Act.put, q1_9, q2_9, q3_9, i64_w, i32_w]; rfl)
          refine pure_ (i := 21) (N := some 8) (v := ?_) (a' := ?_) B9_30 rfl rfl (any_of HT_.out (by kernel_rfl)) (fun _ _ _ h => h) (Or.inl ⟨by rfl, ?_⟩) ?_ ?_; rotate_left; (·intro w'; go_simp; with_reducible rfl); rotate_left; (·simp only [Act.put, q1_9, q2_9, q3_9, i64_w, i32_w]; rfl)
          refine done_ (done_of HT_.out (by kernel_rfl)) ?_
          try go_wp2
          go_ret
          exact ⟨by first | rfl | (simp [errW_none, errW_some] <;> rfl) | (simp [*, errW_none, errW_some] <;> rfl), by repeat (first | (with_reducible first | exact HB.out | apply below_alloc | apply pw_below_drewN | apply below_drew1 | refine below_set ?_ GE158.out | refine below_set ?_ GE163.out) | exact HB.out)⟩
         ·rw [if_neg c184] at H
          have c184b0 : decide (a2 < 0) = false := decide_eq_false c184
          clear c184
          by_cases c197 : a2 ≥ (((rd_T34 l0_0 a1).f1).length : Int)
          ·rw [if_pos c197] at H
           have c197b0 : decide ((((rd_T34 l0_0 a1).f1).length : Int) ≤ a2) = true := decide_eq_true c197
           clear c197
           obtain rfl := Option.some.inj H
           have hcz198_0 : wc.cell? ⟨gb158, 0, none⟩ = some (.slice A0_0 l0_0.length c0_0) := (blk_cell BK158.out 0).trans rfl
           have hfz198_0 := blk_frozen BK158.out 0
           have p162 : 0 ≤ (a1 : Int) := of_decide_eq_true (by first | (with_reducible assumption) | assumption)
           have q162 : a1 < (l0_0.length : Int) := of_decide_eq_true (by first | (with_reducible assumption) | assumption)
           obtain ⟨ad162, A162_1, c162_1, e162, hx162_0, hx162_1, hl162_1, hi162_1⟩ := at_T34 HR0_0.out a1 p162 q162
           cases e162
           replace hx162_0 := (HB.out.cell (World.block_lt_of_cell? w _ hx162_0)).trans hx162_0
           replace hx162_1 := (HB.out.cell (World.block_lt_of_cell? w _ hx162_1)).trans hx162_1
           have HR162_1 := Aside0.mk hi162_1
           have HC162_1 := Aside0.mk hl162_1
           clear hi162_1 hl162_1
           replace p162 := eq_true p162
           replace q162 := eq_true q162
           try go_wp2_with (first | ((with_reducible refine gate_dst (N := 11) rfl ?_); (try (refine gate_guard (by rfl) ?_; dsimp only)); refine box_event ?hg (N := 11) ?hd (cs := #[.string (⟨#[]⟩ : ByteArray), .slice none 0 0]) (t := 34) ?hr ?_; (case hd => rfl); (case hg => rfl); (case hr => first | (go_simp; done) | (go_simp; rfl)); intro gb163 hg w199 hbox hb; have n0_ := am9_ (blk_below (g := gb158) (o := .cells #[.slice (some ad162) l0_0.length c0_0] 24 (0, 0)) (by (with_reducible repeat (first | refine blk_drewN ?_ _ | refine blk_drew ?_ | refine blk_alloc ?_ _)); exact BK158.out) hb); have n1_ := am9_ (below_step (by repeat (first | (with_reducible first | exact HB.out | apply below_alloc | apply pw_below_drewN | apply below_drew1 | refine below_set ?_ GE158.out) | exact HB.out)) hb); have n2_ := am9_ (hbox); have n3_ := am9_ ((by rw [hg]; exact (below_size (by repeat (first | (with_reducible first | exact HB.out | apply below_alloc | apply pw_below_drewN | apply below_drew1 | refine below_set ?_ GE158.out) | exact HB.out))) : w.heap.size ≤ gb163)); have n4_ := am9_ ((by rw [hg]; exact (below_size (by repeat (first | (with_reducible first | exact HB.out | apply below_alloc | apply pw_below_drewN | apply below_drew1 | refine below_set ?_ GE158.out) | exact HB.out))) : w.heap.size ≤ gb163)); have n5_ := am9_ ((by rw [hg]; exact Nat.ne_of_lt (blk_lt (g := gb158) (o := .cells #[.slice (some ad162) l0_0.length c0_0] 24 (0, 0)) (by (with_reducible repeat (first | refine blk_drewN ?_ _ | refine blk_drew ?_ | refine blk_alloc ?_ _)); exact BK158.out)) : gb158 ≠ gb163)); have n6_ := am9_ ((by rw [hg]; exact Nat.ne_of_gt (blk_lt (g := gb158) (o := .cells #[.slice (some ad162) l0_0.length c0_0] 24 (0, 0)) (by (with_reducible repeat (first | refine blk_drewN ?_ _ | refine blk_drew ?_ | refine blk_alloc ?_ _)); exact BK158.out)) : gb163 ≠ gb158)); clear BK158; clear HB; have BK158 := n0_; have HB := n1_; have BK163 := n2_; have GW163 := n3_; have GE163 := n4_; have NB158_163 := n5_; have NB163_158 := n6_; clear n0_ n1_ n2_ n3_ n4_ n5_ n6_; clear hb hbox hg; have hnb200 := NB163_158.out; have hnc200 := NB158_163.out; have hcz201_0 : w199.cell? ⟨gb163, 0, none⟩ = some (.string (⟨#[]⟩ : ByteArray)) := (blk_cell BK163.out 0).trans rfl; have hcz201_1 : w199.cell? ⟨gb163, 1, none⟩ = some (.slice none 0 0) := (blk_cell BK163.out 1).trans rfl; have hfz201_0 := blk_frozen BK163.out 0; have hfz201_1 := blk_frozen BK163.out 1; have hcz202_0 : w199.cell? ⟨gb158, 0, none⟩ = some (.slice (some ad162) l0_0.length c0_0) := (blk_cell BK158.out 0).trans rfl; have hfz202_0 := blk_frozen BK158.out 0) | ((with_reducible refine gate_callee (f := 21) rfl ?_); refine goesL_ (some 47) rfl rfl Try.func21 (by kernel_rfl) rfl #[.agg #[.slice (some ad162) l0_0.length c0_0], .string a3] rfl (by (try simp only [List.map_toArray, List.map_cons, List.map_nil]); first | done | rfl | (simp only [List.length_drop, List.length_take]; rfl)) ?_; (with_reducible refine (schema_Find.calls _ _ l0_0 a3 t164 _ ?side1 ?side2 A27.out).mono ?_); (case side1 => exact Kd.C_below HR0_0.out (by repeat (first | (with_reducible first | exact HB.out | apply below_alloc | apply pw_below_drewN | apply below_drew1 | refine below_set ?_ GE158.out | refine below_set ?_ GE163.out) | exact HB.out))); (case side2 => exact HC0_0.out); rintro e w203 ⟨rfl, hb⟩; refine ⟨_, rfl, ?_⟩; have n0_ := am9_ (blk_below (g := gb158) (o := .cells #[.slice (some ad162) l0_0.length c0_0] 24 (0, 0)) (by (with_reducible repeat (first | refine blk_drewN ?_ _ | refine blk_drew ?_ | refine blk_alloc ?_ _)); refine blk_far ?_ NB158_163.out _; (with_reducible repeat (first | refine blk_drewN ?_ _ | refine blk_drew ?_ | refine blk_alloc ?_ _)); refine blk_far ?_ NB158_163.out _; (with_reducible repeat (first | refine blk_drewN ?_ _ | refine blk_drew ?_ | refine blk_alloc ?_ _)); exact BK158.out) hb); have n1_ := am9_ (blk_below (g := gb163) (o := .cells #[.string ((rd_T34 l0_0 a1).f0), .slice A162_1 ((rd_T34 l0_0 a1).f1).length c162_1] 34 (0, 0)) (by (with_reducible repeat (first | refine blk_drewN ?_ _ | refine blk_drew ?_ | refine blk_alloc ?_ _)); refine blk_put (cs := #[.string ((rd_T34 l0_0 a1).f0), .slice none 0 0]) ?_ 1 _ rfl; (with_reducible repeat (first | refine blk_drewN ?_ _ | refine blk_drew ?_ | refine blk_alloc ?_ _)); refine blk_put (cs := #[.string (⟨#[]⟩ : ByteArray), .slice none 0 0]) ?_ 0 _ rfl; (with_reducible repeat (first | refine blk_drewN ?_ _ | refine blk_drew ?_ | refine blk_alloc ?_ _)); exact BK163.out) hb); have n2_ := am9_ (below_step (by repeat (first | (with_reducible first | exact HB.out | apply below_alloc | apply pw_below_drewN | apply below_drew1 | refine below_set ?_ GE158.out | refine below_set ?_ GE163.out) | exact HB.out)) hb); clear BK158; clear BK163; clear HB; have BK158 := n0_; have BK163 := n1_; have HB := n2_; clear n0_ n1_ n2_; (try clear hb); (try clear hb2); (try clear hk); (try clear hi); have hcz204_0 : w203.cell? ⟨gb163, 0, none⟩ = some (.string ((rd_T34 l0_0 a1).f0)) := (blk_cell BK163.out 0).trans rfl; have hcz204_1 : w203.cell? ⟨gb163, 1, none⟩ = some (.slice A162_1 ((rd_T34 l0_0 a1).f1).length c162_1) := (blk_cell BK163.out 1).trans rfl; have hfz204_0 := blk_frozen BK163.out 0; have hfz204_1 := blk_frozen BK163.out 1) | ((with_reducible refine gate_callee (f := 15) rfl ?_); refine goesL_ (some 50) rfl rfl Try.func15 (by kernel_rfl) rfl #[.agg #[.string ((rd_T34 l0_0 a1).f0), .slice A162_1 ((rd_T34 l0_0 a1).f1).length c162_1], .string a3] rfl (by (try simp only [List.map_toArray, List.map_cons, List.map_nil]); first | done | rfl | (simp only [List.length_drop, List.length_take]; rfl)) ?_; (with_reducible refine (schema_Field.calls ((rd_T34 l0_0 a1).f0) _ _ ((rd_T34 l0_0 a1).f1) a3 t165 _ ?side1 ?side2 A28.out).mono ?_); (case side1 => repeat (first | exact (Kd.C_below HR162_1.out HB.out) | (with_reducible first | refine ca9_ ?_ _ | refine cn9_ ?_ _ | refine cd9_ ?_))); (case side2 => exact HC162_1.out); rintro e w205 ⟨rfl, hb⟩; refine ⟨_, rfl, ?_⟩; have n0_ := am9_ (blk_below (g := gb158) (o := .cells #[.slice (some ad162) l0_0.length c0_0] 24 (0, 0)) (by (with_reducible repeat (first | refine blk_drewN ?_ _ | refine blk_drew ?_ | refine blk_alloc ?_ _)); exact BK158.out) hb); have n1_ := am9_ (blk_below (g := gb163) (o := .cells #[.string ((rd_T34 l0_0 a1).f0), .slice A162_1 ((rd_T34 l0_0 a1).f1).length c162_1] 34 (0, 0)) (by (with_reducible repeat (first | refine blk_drewN ?_ _ | refine blk_drew ?_ | refine blk_alloc ?_ _)); exact BK163.out) hb); have n2_ := am9_ (below_step (by repeat (first | (with_reducible first | exact HB.out | apply below_alloc | apply pw_below_drewN | apply below_drew1 | refine below_set ?_ GE158.out | refine below_set ?_ GE163.out) | exact HB.out)) hb); clear BK158; clear BK163; clear HB; have BK158 := n0_; have BK163 := n1_; have HB := n2_; clear n0_ n1_ n2_; (try clear hb); (try clear hb2); (try clear hk); (try clear hi); have hcz206_0 : w205.cell? ⟨gb158, 0, none⟩ = some (.slice (some ad162) l0_0.length c0_0) := (blk_cell BK158.out 0).trans rfl; have hfz206_0 := blk_frozen BK158.out 0; have hcz207_0 : w205.cell? ⟨gb163, 0, none⟩ = some (.string ((rd_T34 l0_0 a1).f0)) := (blk_cell BK163.out 0).trans rfl; have hcz207_1 : w205.cell? ⟨gb163, 1, none⟩ = some (.slice A162_1 ((rd_T34 l0_0 a1).f1).length c162_1) := (blk_cell BK163.out 1).trans rfl; have hfz207_0 := blk_frozen BK163.out 0; have hfz207_1 := blk_frozen BK163.out 1) | ((with_reducible refine gate_callee (f := 21) rfl ?_); refine goesL_ (some 54) rfl rfl Try.func21 (by kernel_rfl) rfl #[.agg #[.slice (some ad162) l0_0.length c0_0], .string ((rd_T34 l0_0 a1).f0)] rfl (by (try simp only [List.map_toArray, List.map_cons, List.map_nil]); first | done | rfl | (simp only [List.length_drop, List.length_take]; rfl)) ?_; (with_reducible refine (schema_Find.calls _ _ l0_0 ((rd_T34 l0_0 a1).f0) t166 _ ?side1 ?side2 A29.out).mono ?_); (case side1 => repeat (first | exact (Kd.C_below HR0_0.out HB.out) | (with_reducible first | refine ca9_ ?_ _ | refine cn9_ ?_ _ | refine cd9_ ?_))); (case side2 => exact HC0_0.out); rintro e w208 ⟨rfl, hb⟩; refine ⟨_, rfl, ?_⟩; have n0_ := am9_ (blk_below (g := gb158) (o := .cells #[.slice (some ad162) l0_0.length c0_0] 24 (0, 0)) (by (with_reducible repeat (first | refine blk_drewN ?_ _ | refine blk_drew ?_ | refine blk_alloc ?_ _)); exact BK158.out) hb); have n1_ := am9_ (blk_below (g := gb163) (o := .cells #[.string ((rd_T34 l0_0 a1).f0), .slice A162_1 ((rd_T34 l0_0 a1).f1).length c162_1] 34 (0, 0)) (by (with_reducible repeat (first | refine blk_drewN ?_ _ | refine blk_drew ?_ | refine blk_alloc ?_ _)); exact BK163.out) hb); have n2_ := am9_ (below_step (by repeat (first | (with_reducible first | exact HB.out | apply below_alloc | apply pw_below_drewN | apply below_drew1 | refine below_set ?_ GE158.out | refine below_set ?_ GE163.out) | exact HB.out)) hb); clear BK158; clear BK163; clear HB; have BK158 := n0_; have BK163 := n1_; have HB := n2_; clear n0_ n1_ n2_; (try clear hb); (try clear hb2); (try clear hk); (try clear hi)))
           have n0_ := am9_ (blk_drew BK158.out)
           have n1_ := am9_ (blk_drew BK163.out)
           have n2_ := am9_ (below_drew1 HB.out)
           clear BK158
           clear BK163
           clear HB
           have BK158 := n0_
           have BK163 := n1_
           have HB := n2_
           clear n0_ n1_ n2_
           refine start_ (n := 22) (S := fun w' => w'.cell? ⟨gb163, 0, none⟩ = some (.string ((rd_T34 l0_0 a1).f0)) ∧ w'.cell? ⟨gb163, 1, none⟩ = some (.slice A162_1 ((rd_T34 l0_0 a1).f1).length c162_1)) (ds := []) B9_0 (by kernel_rfl) rfl rfl ⟨(blk_cell BK163.out 0).trans rfl, (blk_cell BK163.out 1).trans rfl⟩ (fun hHeld => ?_); refine with_tabW foliatelaw06_SchemaNames.tab10 foliatelaw06_SchemaNames.bits10 (fun HT_ HW_ => ?_)
           generalize w208.drew = w209 at BK158 BK163 HB hHeld ⊢
           refine pure_ (i := 0) (N := some 99) (v := ?_) (a' := ?_) B9_1 rfl rfl (any_of HT_.out (by kernel_rfl)) (fun _ _ _ h => h) (Or.inl ⟨by rfl, ?_⟩) ?_ ?_; rotate_left; (·intro w'; go_simp; with_reducible rfl); rotate_left; (·simp only [Act.put, q1_9, q2_9, q3_9, i64_w, i32_w]; rfl)
           refine pure_ (i := 1) (N := some 100) (v := ?_) (a' := ?_) B9_2 rfl rfl (any_of HT_.out (by kernel_rfl)) (fun _ _ _ h => h) (Or.inl ⟨by rfl, ?_⟩) ?_ ?_; rotate_left; (·intro w'; go_simp; with_reducible rfl); rotate_left; (·simp only [Act.put, q1_9, q2_9, q3_9, i64_w, i32_w]; rfl)
           refine pure_ (i := 2) (N := some 101) (v := ?_) (a' := ?_) B9_3 rfl rfl (any_of HT_.out (by kernel_rfl)) (fun _ _ _ h => h) (Or.inl ⟨by rfl, ?_⟩) ?_ ?_; rotate_left; (·intro w'; go_simp; with_reducible rfl); rotate_left; (·simp only [Act.put, q1_9, q2_9, q3_9, i64_w, i32_w]; rfl)
           refine pure_ (i := 3) (N := some 102) (v := ?_) (a' := ?_) B9_4 rfl rfl (any_of HT_.out (by kernel_rfl)) (fun _ _ _ h => h) (Or.inl ⟨by rfl, ?_⟩) ?_ ?_; rotate_left; (·intro w'; go_simp; with_reducible rfl); rotate_left; (·simp only [Act.put, q1_9, q2_9, q3_9, i64_w, i32_w]; rfl)
           refine pure_ (i := 4) (N := some 103) (v := ?_) (a' := ?_) B9_5 rfl rfl (any_of HT_.out (by kernel_rfl)) (fun _ _ _ h => h) (Or.inl ⟨by rfl, ?_⟩) ?_ ?_; rotate_left; (·intro w'; go_simp; with_reducible rfl); rotate_left; (·simp only [Act.put, q1_9, q2_9, q3_9, i64_w, i32_w]; rfl)
           refine take_ (i := 5) (N := some 104) (v := ?_) (a' := ?_) B9_6 rfl rfl (take_ofW HT_.out HW_.out (by kernel_rfl)) (fun _ _ _ h => h) (Or.inl ⟨by rfl, ?_⟩) hHeld ?_ ?_
           rotate_left
           ·rintro w' ⟨s0, s1⟩
            go_simp
            with_reducible rfl
           rotate_left
           ·simp only [Act.put, q1_9, q2_9, q3_9, i64_w, i32_w]
            rfl
           refine pure_ (i := 6) (N := some 105) (v := ?_) (a' := ?_) B9_7 rfl rfl (any_of HT_.out (by kernel_rfl)) (fun _ _ _ h => h) (Or.inl ⟨by rfl, ?_⟩) ?_ ?_; rotate_left; (·intro w'; go_simp; with_reducible rfl); rotate_left; (·simp only [Act.put, q1_9, q2_9, q3_9, i64_w, i32_w]; rfl)
           refine pure_ (i := 7) (N := some 106) (v := ?_) (a' := ?_) B9_8 rfl rfl (any_of HT_.out (by kernel_rfl)) (fun _ _ _ h => h) (Or.inl ⟨by rfl, ?_⟩) ?_ ?_; rotate_left; (·intro w'; go_simp; with_reducible rfl); rotate_left; (·simp only [Act.put, q1_9, q2_9, q3_9, i64_w, i32_w]; rfl)
           refine pure_ (i := 8) (N := some 107) (v := ?_) (a' := ?_) B9_9 rfl rfl (any_of HT_.out (by kernel_rfl)) (fun _ _ _ h => h) (Or.inl ⟨by rfl, ?_⟩) ?_ ?_; rotate_left; (·intro w'; go_simp; with_reducible rfl); rotate_left; (·simp only [Act.put, q1_9, q2_9, q3_9, i64_w, i32_w]; rfl)
           refine pure_ (i := 9) (N := some 108) (v := ?_) (a' := ?_) B9_10 rfl rfl (any_of HT_.out (by kernel_rfl)) (fun _ _ _ h => h) (Or.inl ⟨by rfl, ?_⟩) ?_ ?_; rotate_left; (·intro w'; go_simp; with_reducible rfl); rotate_left; (·simp only [Act.put, q1_9, q2_9, q3_9, i64_w, i32_w]; rfl)
           refine pure_ (i := 10) (N := some 109) (v := undef) (a' := ?_) B9_14 rfl rfl (any_of HT_.out (by kernel_rfl)) (fun _ _ _ h => h) (Or.inr ⟨by rfl, rfl⟩) ?_ ?_
           rotate_left
           ·simp only [Act.put, q1_9, q2_9, q3_9, i64_w, i32_w]
            rfl
           refine pure_ (i := 11) (N := some 110) (v := undef) (a' := ?_) B9_15 rfl rfl (any_of HT_.out (by kernel_rfl)) (fun _ _ _ h => h) (Or.inr ⟨by rfl, rfl⟩) ?_ ?_
           rotate_left
           ·simp only [Act.put, q1_9, q2_9, q3_9, i64_w, i32_w]
            rfl
           refine pure_ (i := 12) (N := some 111) (v := undef) (a' := ?_) B9_17 rfl rfl (any_of HT_.out (by kernel_rfl)) (fun _ _ _ h => h) (Or.inr ⟨by rfl, rfl⟩) ?_ ?_
           rotate_left
           ·simp only [Act.put, q1_9, q2_9, q3_9, i64_w, i32_w]
            rfl
           refine pure_ (i := 13) (N := some 112) (v := undef) (a' := ?_) B9_18 rfl rfl (any_of HT_.out (by kernel_rfl)) (fun _ _ _ h => h) (Or.inr ⟨by rfl, rfl⟩) ?_ ?_
           rotate_left
           ·simp only [Act.put, q1_9, q2_9, q3_9, i64_w, i32_w]
            rfl
           refine pure_ (i := 14) (N := some 113) (v := undef) (a' := ?_) B9_20 rfl rfl (any_of HT_.out (by kernel_rfl)) (fun _ _ _ h => h) (Or.inr ⟨by rfl, rfl⟩) ?_ ?_
           rotate_left
           ·simp only [Act.put, q1_9, q2_9, q3_9, i64_w, i32_w]
            rfl
           refine pure_ (i := 15) (N := some 114) (v := undef) (a' := ?_) B9_22 rfl rfl (any_of HT_.out (by kernel_rfl)) (fun _ _ _ h => h) (Or.inr ⟨by rfl, rfl⟩) ?_ ?_
           rotate_left
           ·simp only [Act.put, q1_9, q2_9, q3_9, i64_w, i32_w]
            rfl
           refine pure_ (i := 16) (N := some 115) (v := undef) (a' := ?_) B9_24 rfl rfl (any_of HT_.out (by kernel_rfl)) (fun _ _ _ h => h) (Or.inr ⟨by rfl, rfl⟩) ?_ ?_
           rotate_left
           ·simp only [Act.put, q1_9, q2_9, q3_9, i64_w, i32_w]
            rfl
           refine pure_ (i := 17) (N := some 116) (v := undef) (a' := ?_) B9_26 rfl rfl (any_of HT_.out (by kernel_rfl)) (fun _ _ _ h => h) (Or.inr ⟨by rfl, rfl⟩) ?_ ?_
           rotate_left
           ·simp only [Act.put, q1_9, q2_9, q3_9, i64_w, i32_w]
            rfl
           refine pure_ (i := 18) (N := some 117) (v := undef) (a' := ?_) B9_27 rfl rfl (any_of HT_.out (by kernel_rfl)) (fun _ _ _ h => h) (Or.inr ⟨by rfl, rfl⟩) ?_ ?_
           rotate_left
           ·simp only [Act.put, q1_9, q2_9, q3_9, i64_w, i32_w]
            rfl
           refine pure_ (i := 19) (N := some 118) (v := undef) (a' := ?_) B9_28 rfl rfl (any_of HT_.out (by kernel_rfl)) (fun _ _ _ h => h) (Or.inr ⟨by rfl, rfl⟩) ?_ ?_
           rotate_left
           ·simp only [Act.put, q1_9, q2_9, q3_9, i64_w, i32_w]
            rfl
           refine pure_ (i := 20) (N := some 119) (v := ?_) (a' := ?_) B9_29 rfl rfl (any_of HT_.out (by kernel_rfl)) (fun _ _ _ h => h) (Or.inl ⟨by rfl, ?_⟩) ?_ ?_; rotate_left; (·intro w'; go_simp; with_reducible rfl); rotate_left; (·simp only [Act.put, q1_9, q2_9, q3_9, i64_w, i32_w]; rfl)
           refine pure_ (i := 21) (N := some 8) (v := ?_) (a' := ?_) B9_30 rfl rfl (any_of HT_.out (by kernel_rfl)) (fun _ _ _ h => h) (Or.inl ⟨by rfl, ?_⟩) ?_ ?_; rotate_left; (·intro w'; go_simp; with_reducible rfl); rotate_left; (·simp only [Act.put, q1_9, q2_9, q3_9, i64_w, i32_w]; rfl)
           refine done_ (done_of HT_.out (by kernel_rfl)) ?_
           try go_wp2
           go_ret
           exact ⟨by first | rfl | (simp [errW_none, errW_some] <;> rfl) | (simp [*, errW_none, errW_some] <;> rfl), by repeat (first | (with_reducible first | exact HB.out | apply below_alloc | apply pw_below_drewN | apply below_drew1 | refine below_set ?_ GE158.out | refine below_set ?_ GE163.out) | exact HB.out)⟩
          ·rw [if_neg c197] at H
           have c197b0 : decide ((((rd_T34 l0_0 a1).f1).length : Int) ≤ a2) = false := decide_eq_false c197
           clear c197
           by_cases c210 : 0 ≤ a2
           ·rw [if_pos c210] at H
            have c210b0 : decide (0 ≤ a2) = true := decide_eq_true c210
            clear c210
            by_cases c211 : a2 < (((rd_T34 l0_0 a1).f1).length : Int)
            ·rw [if_pos c211] at H
             have c211b0 : decide (a2 < (((rd_T34 l0_0 a1).f1).length : Int)) = true := decide_eq_true c211
             clear c211
             replace H := Option.bind_eq_some_iff.mp H
             obtain ⟨t177, A2120, H⟩ := H
             replace H : (some (t177 == a2)) = some r := H
             have A212 := Aside0.mk A2120
             clear A2120
             obtain rfl := Option.some.inj H
             have hcz213_0 : wc.cell? ⟨gb158, 0, none⟩ = some (.slice A0_0 l0_0.length c0_0) := (blk_cell BK158.out 0).trans rfl
             have hfz213_0 := blk_frozen BK158.out 0
             have p162 : 0 ≤ (a1 : Int) := of_decide_eq_true (by first | (with_reducible assumption) | assumption)
             have q162 : a1 < (l0_0.length : Int) := of_decide_eq_true (by first | (with_reducible assumption) | assumption)
             obtain ⟨ad162, A162_1, c162_1, e162, hx162_0, hx162_1, hl162_1, hi162_1⟩ := at_T34 HR0_0.out a1 p162 q162
             cases e162
             replace hx162_0 := (HB.out.cell (World.block_lt_of_cell? w _ hx162_0)).trans hx162_0
             replace hx162_1 := (HB.out.cell (World.block_lt_of_cell? w _ hx162_1)).trans hx162_1
             have HR162_1 := Aside0.mk hi162_1
             have HC162_1 := Aside0.mk hl162_1
             clear hi162_1 hl162_1
             replace p162 := eq_true p162
             replace q162 := eq_true q162
             try go_wp2_with (first | ((with_reducible refine gate_dst (N := 11) rfl ?_); (try (refine gate_guard (by rfl) ?_; dsimp only)); refine box_event ?hg (N := 11) ?hd (cs := #[.string (⟨#[]⟩ : ByteArray), .slice none 0 0]) (t := 34) ?hr ?_; (case hd => rfl); (case hg => rfl); (case hr => first | (go_simp; done) | (go_simp; rfl)); intro gb163 hg w214 hbox hb; have n0_ := am9_ (blk_below (g := gb158) (o := .cells #[.slice (some ad162) l0_0.length c0_0] 24 (0, 0)) (by (with_reducible repeat (first | refine blk_drewN ?_ _ | refine blk_drew ?_ | refine blk_alloc ?_ _)); exact BK158.out) hb); have n1_ := am9_ (below_step (by repeat (first | (with_reducible first | exact HB.out | apply below_alloc | apply pw_below_drewN | apply below_drew1 | refine below_set ?_ GE158.out) | exact HB.out)) hb); have n2_ := am9_ (hbox); have n3_ := am9_ ((by rw [hg]; exact (below_size (by repeat (first | (with_reducible first | exact HB.out | apply below_alloc | apply pw_below_drewN | apply below_drew1 | refine below_set ?_ GE158.out) | exact HB.out))) : w.heap.size ≤ gb163)); have n4_ := am9_ ((by rw [hg]; exact (below_size (by repeat (first | (with_reducible first | exact HB.out | apply below_alloc | apply pw_below_drewN | apply below_drew1 | refine below_set ?_ GE158.out) | exact HB.out))) : w.heap.size ≤ gb163)); have n5_ := am9_ ((by rw [hg]; exact Nat.ne_of_lt (blk_lt (g := gb158) (o := .cells #[.slice (some ad162) l0_0.length c0_0] 24 (0, 0)) (by (with_reducible repeat (first | refine blk_drewN ?_ _ | refine blk_drew ?_ | refine blk_alloc ?_ _)); exact BK158.out)) : gb158 ≠ gb163)); have n6_ := am9_ ((by rw [hg]; exact Nat.ne_of_gt (blk_lt (g := gb158) (o := .cells #[.slice (some ad162) l0_0.length c0_0] 24 (0, 0)) (by (with_reducible repeat (first | refine blk_drewN ?_ _ | refine blk_drew ?_ | refine blk_alloc ?_ _)); exact BK158.out)) : gb163 ≠ gb158)); clear BK158; clear HB; have BK158 := n0_; have HB := n1_; have BK163 := n2_; have GW163 := n3_; have GE163 := n4_; have NB158_163 := n5_; have NB163_158 := n6_; clear n0_ n1_ n2_ n3_ n4_ n5_ n6_; clear hb hbox hg; have hnb215 := NB163_158.out; have hnc215 := NB158_163.out; have hcz216_0 : w214.cell? ⟨gb163, 0, none⟩ = some (.string (⟨#[]⟩ : ByteArray)) := (blk_cell BK163.out 0).trans rfl; have hcz216_1 : w214.cell? ⟨gb163, 1, none⟩ = some (.slice none 0 0) := (blk_cell BK163.out 1).trans rfl; have hfz216_0 := blk_frozen BK163.out 0; have hfz216_1 := blk_frozen BK163.out 1; have hcz217_0 : w214.cell? ⟨gb158, 0, none⟩ = some (.slice (some ad162) l0_0.length c0_0) := (blk_cell BK158.out 0).trans rfl; have hfz217_0 := blk_frozen BK158.out 0) | ((with_reducible refine gate_callee (f := 21) rfl ?_); refine goesL_ (some 47) rfl rfl Try.func21 (by kernel_rfl) rfl #[.agg #[.slice (some ad162) l0_0.length c0_0], .string a3] rfl (by (try simp only [List.map_toArray, List.map_cons, List.map_nil]); first | done | rfl | (simp only [List.length_drop, List.length_take]; rfl)) ?_; (with_reducible refine (schema_Find.calls _ _ l0_0 a3 t164 _ ?side1 ?side2 A27.out).mono ?_); (case side1 => exact Kd.C_below HR0_0.out (by repeat (first | (with_reducible first | exact HB.out | apply below_alloc | apply pw_below_drewN | apply below_drew1 | refine below_set ?_ GE158.out | refine below_set ?_ GE163.out) | exact HB.out))); (case side2 => exact HC0_0.out); rintro e w218 ⟨rfl, hb⟩; refine ⟨_, rfl, ?_⟩; have n0_ := am9_ (blk_below (g := gb158) (o := .cells #[.slice (some ad162) l0_0.length c0_0] 24 (0, 0)) (by (with_reducible repeat (first | refine blk_drewN ?_ _ | refine blk_drew ?_ | refine blk_alloc ?_ _)); refine blk_far ?_ NB158_163.out _; (with_reducible repeat (first | refine blk_drewN ?_ _ | refine blk_drew ?_ | refine blk_alloc ?_ _)); refine blk_far ?_ NB158_163.out _; (with_reducible repeat (first | refine blk_drewN ?_ _ | refine blk_drew ?_ | refine blk_alloc ?_ _)); exact BK158.out) hb); have n1_ := am9_ (blk_below (g := gb163) (o := .cells #[.string ((rd_T34 l0_0 a1).f0), .slice A162_1 ((rd_T34 l0_0 a1).f1).length c162_1] 34 (0, 0)) (by (with_reducible repeat (first | refine blk_drewN ?_ _ | refine blk_drew ?_ | refine blk_alloc ?_ _)); refine blk_put (cs := #[.string ((rd_T34 l0_0 a1).f0), .slice none 0 0]) ?_ 1 _ rfl; (with_reducible repeat (first | refine blk_drewN ?_ _ | refine blk_drew ?_ | refine blk_alloc ?_ _)); refine blk_put (cs := #[.string (⟨#[]⟩ : ByteArray), .slice none 0 0]) ?_ 0 _ rfl; (with_reducible repeat (first | refine blk_drewN ?_ _ | refine blk_drew ?_ | refine blk_alloc ?_ _)); exact BK163.out) hb); have n2_ := am9_ (below_step (by repeat (first | (with_reducible first | exact HB.out | apply below_alloc | apply pw_below_drewN | apply below_drew1 | refine below_set ?_ GE158.out | refine below_set ?_ GE163.out) | exact HB.out)) hb); clear BK158; clear BK163; clear HB; have BK158 := n0_; have BK163 := n1_; have HB := n2_; clear n0_ n1_ n2_; (try clear hb); (try clear hb2); (try clear hk); (try clear hi); have hcz219_0 : w218.cell? ⟨gb163, 0, none⟩ = some (.string ((rd_T34 l0_0 a1).f0)) := (blk_cell BK163.out 0).trans rfl; have hcz219_1 : w218.cell? ⟨gb163, 1, none⟩ = some (.slice A162_1 ((rd_T34 l0_0 a1).f1).length c162_1) := (blk_cell BK163.out 1).trans rfl; have hfz219_0 := blk_frozen BK163.out 0; have hfz219_1 := blk_frozen BK163.out 1) | ((with_reducible refine gate_callee (f := 15) rfl ?_); refine goesL_ (some 50) rfl rfl Try.func15 (by kernel_rfl) rfl #[.agg #[.string ((rd_T34 l0_0 a1).f0), .slice A162_1 ((rd_T34 l0_0 a1).f1).length c162_1], .string a3] rfl (by (try simp only [List.map_toArray, List.map_cons, List.map_nil]); first | done | rfl | (simp only [List.length_drop, List.length_take]; rfl)) ?_; (with_reducible refine (schema_Field.calls ((rd_T34 l0_0 a1).f0) _ _ ((rd_T34 l0_0 a1).f1) a3 t165 _ ?side1 ?side2 A28.out).mono ?_); (case side1 => repeat (first | exact (Kd.C_below HR162_1.out HB.out) | (with_reducible first | refine ca9_ ?_ _ | refine cn9_ ?_ _ | refine cd9_ ?_))); (case side2 => exact HC162_1.out); rintro e w220 ⟨rfl, hb⟩; refine ⟨_, rfl, ?_⟩; have n0_ := am9_ (blk_below (g := gb158) (o := .cells #[.slice (some ad162) l0_0.length c0_0] 24 (0, 0)) (by (with_reducible repeat (first | refine blk_drewN ?_ _ | refine blk_drew ?_ | refine blk_alloc ?_ _)); exact BK158.out) hb); have n1_ := am9_ (blk_below (g := gb163) (o := .cells #[.string ((rd_T34 l0_0 a1).f0), .slice A162_1 ((rd_T34 l0_0 a1).f1).length c162_1] 34 (0, 0)) (by (with_reducible repeat (first | refine blk_drewN ?_ _ | refine blk_drew ?_ | refine blk_alloc ?_ _)); exact BK163.out) hb); have n2_ := am9_ (below_step (by repeat (first | (with_reducible first | exact HB.out | apply below_alloc | apply pw_below_drewN | apply below_drew1 | refine below_set ?_ GE158.out | refine below_set ?_ GE163.out) | exact HB.out)) hb); clear BK158; clear BK163; clear HB; have BK158 := n0_; have BK163 := n1_; have HB := n2_; clear n0_ n1_ n2_; (try clear hb); (try clear hb2); (try clear hk); (try clear hi); have hcz221_0 : w220.cell? ⟨gb158, 0, none⟩ = some (.slice (some ad162) l0_0.length c0_0) := (blk_cell BK158.out 0).trans rfl; have hfz221_0 := blk_frozen BK158.out 0; have hcz222_0 : w220.cell? ⟨gb163, 0, none⟩ = some (.string ((rd_T34 l0_0 a1).f0)) := (blk_cell BK163.out 0).trans rfl; have hcz222_1 : w220.cell? ⟨gb163, 1, none⟩ = some (.slice A162_1 ((rd_T34 l0_0 a1).f1).length c162_1) := (blk_cell BK163.out 1).trans rfl; have hfz222_0 := blk_frozen BK163.out 0; have hfz222_1 := blk_frozen BK163.out 1) | ((with_reducible refine gate_callee (f := 21) rfl ?_); refine goesL_ (some 54) rfl rfl Try.func21 (by kernel_rfl) rfl #[.agg #[.slice (some ad162) l0_0.length c0_0], .string ((rd_T34 l0_0 a1).f0)] rfl (by (try simp only [List.map_toArray, List.map_cons, List.map_nil]); first | done | rfl | (simp only [List.length_drop, List.length_take]; rfl)) ?_; (with_reducible refine (schema_Find.calls _ _ l0_0 ((rd_T34 l0_0 a1).f0) t166 _ ?side1 ?side2 A29.out).mono ?_); (case side1 => repeat (first | exact (Kd.C_below HR0_0.out HB.out) | (with_reducible first | refine ca9_ ?_ _ | refine cn9_ ?_ _ | refine cd9_ ?_))); (case side2 => exact HC0_0.out); rintro e w223 ⟨rfl, hb⟩; refine ⟨_, rfl, ?_⟩; have n0_ := am9_ (blk_below (g := gb158) (o := .cells #[.slice (some ad162) l0_0.length c0_0] 24 (0, 0)) (by (with_reducible repeat (first | refine blk_drewN ?_ _ | refine blk_drew ?_ | refine blk_alloc ?_ _)); exact BK158.out) hb); have n1_ := am9_ (blk_below (g := gb163) (o := .cells #[.string ((rd_T34 l0_0 a1).f0), .slice A162_1 ((rd_T34 l0_0 a1).f1).length c162_1] 34 (0, 0)) (by (with_reducible repeat (first | refine blk_drewN ?_ _ | refine blk_drew ?_ | refine blk_alloc ?_ _)); exact BK163.out) hb); have n2_ := am9_ (below_step (by repeat (first | (with_reducible first | exact HB.out | apply below_alloc | apply pw_below_drewN | apply below_drew1 | refine below_set ?_ GE158.out | refine below_set ?_ GE163.out) | exact HB.out)) hb); clear BK158; clear BK163; clear HB; have BK158 := n0_; have BK163 := n1_; have HB := n2_; clear n0_ n1_ n2_; (try clear hb); (try clear hb2); (try clear hk); (try clear hi)))
             have n0_ := am9_ (blk_drew BK158.out)
             have n1_ := am9_ (blk_drew BK163.out)
             have n2_ := am9_ (below_drew1 HB.out)
             clear BK158
             clear BK163
             clear HB
             have BK158 := n0_
             have BK163 := n1_
             have HB := n2_
             clear n0_ n1_ n2_
             have p176 : 0 ≤ (a2 : Int) := of_decide_eq_true (by first | (with_reducible assumption) | assumption)
             have q176 : a2 < (((rd_T34 l0_0 a1).f1).length : Int) := of_decide_eq_true (by first | (with_reducible assumption) | assumption)
             obtain ⟨ad176, e176, hx176_0, hx176_1, hx176_2⟩ := at_T40 HR162_1.out a2 p176 q176
             have hw176_2 := hx176_2
             have hw176_1 := hx176_1
             have hw176_0 := hx176_0
             cases e176
             replace hx176_0 := (HB.out.cell (World.block_lt_of_cell? w _ hx176_0)).trans hx176_0
             replace hx176_1 := (HB.out.cell (World.block_lt_of_cell? w _ hx176_1)).trans hx176_1
             replace hx176_2 := (HB.out.cell (World.block_lt_of_cell? w _ hx176_2)).trans hx176_2
             replace p176 := eq_true p176
             replace q176 := eq_true q176
             refine start_ (n := 22) (S := fun w' => w'.cell? ⟨gb163, 0, none⟩ = some (.string ((rd_T34 l0_0 a1).f0)) ∧ w'.cell? ⟨gb163, 1, none⟩ = some (.slice (some ad176) ((rd_T34 l0_0 a1).f1).length c162_1) ∧ w'.cell? (ad176.add ((a2).toNat * 3)) = some (.string ((rd_T40 ((rd_T34 l0_0 a1).f1) a2).f0)) ∧ w'.cell? ⟨(ad176.add ((a2).toNat * 3)).block, (ad176.add ((a2).toNat * 3)).off + 1, none⟩ = some (.int .i64 ((rd_T40 ((rd_T34 l0_0 a1).f1) a2).f1)) ∧ w'.cell? ⟨(ad176.add ((a2).toNat * 3)).block, (ad176.add ((a2).toNat * 3)).off + 2, none⟩ = some (.string ((rd_T40 ((rd_T34 l0_0 a1).f1) a2).f2))) (ds := []) B9_0 (by kernel_rfl) rfl rfl ⟨(blk_cell BK163.out 0).trans rfl, (blk_cell BK163.out 1).trans rfl, ((HB.out.cell (World.block_lt_of_cell? w _ hw176_0)).trans hw176_0), ((HB.out.cell (World.block_lt_of_cell? w _ hw176_1)).trans hw176_1), ((HB.out.cell (World.block_lt_of_cell? w _ hw176_2)).trans hw176_2)⟩ (fun hHeld => ?_); refine with_tabW foliatelaw06_SchemaNames.tab10 foliatelaw06_SchemaNames.bits10 (fun HT_ HW_ => ?_)
             generalize w223.drew = w224 at BK158 BK163 HB hx176_0 hx176_1 hx176_2 hHeld ⊢
             refine pure_ (i := 0) (N := some 99) (v := ?_) (a' := ?_) B9_1 rfl rfl (any_of HT_.out (by kernel_rfl)) (fun _ _ _ h => h) (Or.inl ⟨by rfl, ?_⟩) ?_ ?_; rotate_left; (·intro w'; go_simp; with_reducible rfl); rotate_left; (·simp only [Act.put, q1_9, q2_9, q3_9, i64_w, i32_w]; rfl)
             refine pure_ (i := 1) (N := some 100) (v := ?_) (a' := ?_) B9_2 rfl rfl (any_of HT_.out (by kernel_rfl)) (fun _ _ _ h => h) (Or.inl ⟨by rfl, ?_⟩) ?_ ?_; rotate_left; (·intro w'; go_simp; with_reducible rfl); rotate_left; (·simp only [Act.put, q1_9, q2_9, q3_9, i64_w, i32_w]; rfl)
             refine pure_ (i := 2) (N := some 101) (v := ?_) (a' := ?_) B9_3 rfl rfl (any_of HT_.out (by kernel_rfl)) (fun _ _ _ h => h) (Or.inl ⟨by rfl, ?_⟩) ?_ ?_; rotate_left; (·intro w'; go_simp; with_reducible rfl); rotate_left; (·simp only [Act.put, q1_9, q2_9, q3_9, i64_w, i32_w]; rfl)
             refine pure_ (i := 3) (N := some 102) (v := ?_) (a' := ?_) B9_4 rfl rfl (any_of HT_.out (by kernel_rfl)) (fun _ _ _ h => h) (Or.inl ⟨by rfl, ?_⟩) ?_ ?_; rotate_left; (·intro w'; go_simp; with_reducible rfl); rotate_left; (·simp only [Act.put, q1_9, q2_9, q3_9, i64_w, i32_w]; rfl)
             refine pure_ (i := 4) (N := some 103) (v := ?_) (a' := ?_) B9_5 rfl rfl (any_of HT_.out (by kernel_rfl)) (fun _ _ _ h => h) (Or.inl ⟨by rfl, ?_⟩) ?_ ?_; rotate_left; (·intro w'; go_simp; with_reducible rfl); rotate_left; (·simp only [Act.put, q1_9, q2_9, q3_9, i64_w, i32_w]; rfl)
             refine take_ (i := 5) (N := some 104) (v := ?_) (a' := ?_) B9_6 rfl rfl (take_ofW HT_.out HW_.out (by kernel_rfl)) (fun _ _ _ h => h) (Or.inl ⟨by rfl, ?_⟩) hHeld ?_ ?_
             rotate_left
             ·rintro w' ⟨s0, s1, s2, s3, s4⟩
              go_simp
              with_reducible rfl
             rotate_left
             ·simp only [Act.put, q1_9, q2_9, q3_9, i64_w, i32_w]
              rfl
             refine pure_ (i := 6) (N := some 105) (v := ?_) (a' := ?_) B9_7 rfl rfl (any_of HT_.out (by kernel_rfl)) (fun _ _ _ h => h) (Or.inl ⟨by rfl, ?_⟩) ?_ ?_; rotate_left; (·intro w'; go_simp; with_reducible rfl); rotate_left; (·simp only [Act.put, q1_9, q2_9, q3_9, i64_w, i32_w]; rfl)
             refine pure_ (i := 7) (N := some 106) (v := ?_) (a' := ?_) B9_8 rfl rfl (any_of HT_.out (by kernel_rfl)) (fun _ _ _ h => h) (Or.inl ⟨by rfl, ?_⟩) ?_ ?_; rotate_left; (·intro w'; go_simp; with_reducible rfl); rotate_left; (·simp only [Act.put, q1_9, q2_9, q3_9, i64_w, i32_w]; rfl)
             refine pure_ (i := 8) (N := some 107) (v := ?_) (a' := ?_) B9_9 rfl rfl (any_of HT_.out (by kernel_rfl)) (fun _ _ _ h => h) (Or.inl ⟨by rfl, ?_⟩) ?_ ?_; rotate_left; (·intro w'; go_simp; with_reducible rfl); rotate_left; (·simp only [Act.put, q1_9, q2_9, q3_9, i64_w, i32_w]; rfl)
             refine pure_ (i := 9) (N := some 108) (v := ?_) (a' := ?_) B9_10 rfl rfl (any_of HT_.out (by kernel_rfl)) (fun _ _ _ h => h) (Or.inl ⟨by rfl, ?_⟩) ?_ ?_; rotate_left; (·intro w'; go_simp; with_reducible rfl); rotate_left; (·simp only [Act.put, q1_9, q2_9, q3_9, i64_w, i32_w]; rfl)
             refine pure_ (i := 11) (N := some 110) (v := ?_) (a' := ?_) B9_11 rfl rfl (any_of HT_.out (by kernel_rfl)) (fun _ _ _ h => h) (Or.inl ⟨by rfl, ?_⟩) ?_ ?_; rotate_left; (·intro w'; go_simp; with_reducible rfl); rotate_left; (·simp only [Act.put, q1_9, q2_9, q3_9, i64_w, i32_w]; rfl)
             refine pure_ (i := 13) (N := some 112) (v := ?_) (a' := ?_) B9_12 rfl rfl (any_of HT_.out (by kernel_rfl)) (fun _ _ _ h => h) (Or.inl ⟨by rfl, ?_⟩) ?_ ?_; rotate_left; (·intro w'; go_simp; with_reducible rfl); rotate_left; (·simp only [Act.put, q1_9, q2_9, q3_9, i64_w, i32_w]; rfl)
             refine pure_ (i := 18) (N := some 117) (v := ?_) (a' := ?_) B9_13 rfl rfl (any_of HT_.out (by kernel_rfl)) (fun _ _ _ h => h) (Or.inl ⟨by rfl, ?_⟩) ?_ ?_; rotate_left; (·intro w'; go_simp; with_reducible rfl); rotate_left; (·simp only [Act.put, q1_9, q2_9, q3_9, i64_w, i32_w]; rfl)
             refine take_ (i := 10) (N := some 109) (v := ?_) (a' := ?_) B9_16 rfl rfl (take_ofW HT_.out HW_.out (by kernel_rfl)) (fun _ _ _ h => h) (Or.inl ⟨by rfl, ?_⟩) hHeld ?_ ?_
             rotate_left
             ·rintro w' ⟨s0, s1, s2, s3, s4⟩
              go_simp
              with_reducible rfl
             rotate_left
             ·simp only [Act.put, q1_9, q2_9, q3_9, i64_w, i32_w]
              rfl
             refine take_ (i := 12) (N := some 111) (v := ?_) (a' := ?_) B9_19 rfl rfl (take_ofW HT_.out HW_.out (by kernel_rfl)) (fun _ _ _ h => h) (Or.inl ⟨by rfl, ?_⟩) hHeld ?_ ?_
             rotate_left
             ·rintro w' ⟨s0, s1, s2, s3, s4⟩
              go_simp
              with_reducible rfl
             rotate_left
             ·simp only [Act.put, q1_9, q2_9, q3_9, i64_w, i32_w]
              rfl
             refine pure_ (i := 14) (N := some 113) (v := ?_) (a' := ?_) B9_21 rfl rfl (any_of HT_.out (by kernel_rfl)) (fun _ _ _ h => h) (Or.inl ⟨by rfl, ?_⟩) ?_ ?_; rotate_left; (·intro w'; go_simp; with_reducible rfl); rotate_left; (·simp only [Act.put, q1_9, q2_9, q3_9, i64_w, i32_w]; rfl)
             refine pure_ (i := 15) (N := some 114) (v := ?_) (a' := ?_) B9_23 rfl rfl (any_of HT_.out (by kernel_rfl)) (fun _ _ _ h => h) (Or.inl ⟨by rfl, ?_⟩) ?_ ?_; rotate_left; (·intro w'; go_simp; with_reducible rfl); rotate_left; (·simp only [Act.put, q1_9, q2_9, q3_9, i64_w, i32_w]; rfl)
             refine take_ (i := 16) (N := some 115) (v := ?_) (a' := ?_) B9_25 rfl rfl (take_ofW HT_.out HW_.out (by kernel_rfl)) (fun _ _ _ h => h) (Or.inl ⟨by rfl, ?_⟩) hHeld ?_ ?_
             rotate_left
             ·rintro w' ⟨s0, s1, s2, s3, s4⟩
              go_simp
              with_reducible rfl
             rotate_left
             ·simp only [Act.put, q1_9, q2_9, q3_9, i64_w, i32_w]
              rfl
             refine one_ (i := 17) (N := some 116) B9_27 rfl rfl (one_of HT_.out (by kernel_rfl)) (by decide) (fun K hK => ?_)
             refine goes_ Try.func15 (by kernel_rfl) rfl #[.agg #[.string ((rd_T34 l0_0 a1).f0), .slice (some ad176) ((rd_T34 l0_0 a1).f1).length c162_1], .string ((rd_T40 ((rd_T34 l0_0 a1).f1) a2).f0)] (by rfl) rfl rfl (by (try simp only [List.map_toArray, List.map_cons, List.map_nil]); first | done | rfl | (simp only [List.length_drop, List.length_take]; rfl)) ?_
             with_reducible refine (schema_Field.calls ((rd_T34 l0_0 a1).f0) _ _ ((rd_T34 l0_0 a1).f1) ((rd_T40 ((rd_T34 l0_0 a1).f1) a2).f0) t177 _ ?side1 ?side2 A212.out).mono ?_
             (case side1 => repeat (first | exact (Kd.C_below HR162_1.out HB.out) | (with_reducible first | refine ca9_ ?_ _ | refine cn9_ ?_ _ | refine cd9_ ?_)))
             (case side2 => exact HC162_1.out)
             rintro e w225 ⟨rfl, hb⟩
             refine ⟨_, rfl, ?_⟩
             have n0_ := am9_ (blk_below (g := gb158) (o := .cells #[.slice (some ad162) l0_0.length c0_0] 24 (0, 0)) (by (with_reducible repeat (first | refine blk_drewN ?_ _ | refine blk_drew ?_ | refine blk_alloc ?_ _)); exact BK158.out) hb)
             have n1_ := am9_ (blk_below (g := gb163) (o := .cells #[.string ((rd_T34 l0_0 a1).f0), .slice (some ad176) ((rd_T34 l0_0 a1).f1).length c162_1] 34 (0, 0)) (by (with_reducible repeat (first | refine blk_drewN ?_ _ | refine blk_drew ?_ | refine blk_alloc ?_ _)); exact BK163.out) hb)
             have n2_ := am9_ (below_step (by repeat (first | (with_reducible first | exact HB.out | apply below_alloc | apply pw_below_drewN | apply below_drew1 | refine below_set ?_ GE158.out | refine below_set ?_ GE163.out) | exact HB.out)) hb)
             clear BK158
             clear BK163
             clear HB
             have BK158 := n0_
             have BK163 := n1_
             have HB := n2_
             clear n0_ n1_ n2_
             (try clear hb)
             (try clear hb2)
             (try clear hk)
             (try clear hi)
             refine hK.out _ _ ⟨(blk_cell BK163.out 0).trans rfl, (blk_cell BK163.out 1).trans rfl, ((HB.out.cell (World.block_lt_of_cell? w _ hw176_0)).trans hw176_0), ((HB.out.cell (World.block_lt_of_cell? w _ hw176_1)).trans hw176_1), ((HB.out.cell (World.block_lt_of_cell? w _ hw176_2)).trans hw176_2)⟩ (fun hHeld => ?_)
             clear hK K
             refine norm_ (a' := ?_) ?_ ?_
             rotate_left
             ·show Act.put _ (some 116) _ = _
              simp only [Act.put, q1_9, q2_9, q3_9, i64_w, i32_w]
              rfl
             refine pure_ (i := 19) (N := some 118) (v := ?_) (a' := ?_) B9_28 rfl rfl (any_of HT_.out (by kernel_rfl)) (fun _ _ _ h => h) (Or.inl ⟨by rfl, ?_⟩) ?_ ?_; rotate_left; (·intro w'; go_simp; with_reducible rfl); rotate_left; (·simp only [Act.put, q1_9, q2_9, q3_9, i64_w, i32_w]; rfl)
             refine pure_ (i := 20) (N := some 119) (v := ?_) (a' := ?_) B9_29 rfl rfl (any_of HT_.out (by kernel_rfl)) (fun _ _ _ h => h) (Or.inl ⟨by rfl, ?_⟩) ?_ ?_; rotate_left; (·intro w'; go_simp; with_reducible rfl); rotate_left; (·simp only [Act.put, q1_9, q2_9, q3_9, i64_w, i32_w]; rfl)
             refine pure_ (i := 21) (N := some 8) (v := ?_) (a' := ?_) B9_30 rfl rfl (any_of HT_.out (by kernel_rfl)) (fun _ _ _ h => h) (Or.inl ⟨by rfl, ?_⟩) ?_ ?_; rotate_left; (·intro w'; go_simp; with_reducible rfl); rotate_left; (·simp only [Act.put, q1_9, q2_9, q3_9, i64_w, i32_w]; rfl)
             refine done_ (done_of HT_.out (by kernel_rfl)) ?_
             try go_wp2
             go_ret
             exact ⟨by first | rfl | (simp [errW_none, errW_some] <;> rfl) | (simp [*, errW_none, errW_some] <;> rfl), by repeat (first | (with_reducible first | exact HB.out | apply below_alloc | apply pw_below_drewN | apply below_drew1 | refine below_set ?_ GE158.out | refine below_set ?_ GE163.out) | exact HB.out)⟩
            ·rw [if_neg c211] at H
             exact absurd H (by simp)
           ·rw [if_neg c210] at H
            exact absurd H (by simp)
      ·rw [if_neg c30] at H
       exact absurd H (by simp)
     ·rw [if_neg c26] at H
      exact absurd H (by simp)
    ·rw [if_neg c25] at H
     exact absurd H (by simp)

end Go.Proofs.Ytlcanmndeempfaa.PNm
