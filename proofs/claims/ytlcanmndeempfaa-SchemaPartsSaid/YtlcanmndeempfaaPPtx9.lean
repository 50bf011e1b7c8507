-- Written by wip/tools/myprint.py, a program of the prover's own, over the kit's print; the contracts named 'HAND' there are typed by hand.
import Derived.Test.YtlcanmndeempfaaPPtx0
import Derived.Test.YtlcanmndeempfaaPPtx2
import Derived.Test.YtlcanmndeempfaaPPtx3
import Derived.Test.YtlcanmndeempfaaPPtx4
import Derived.Test.YtlcanmndeempfaaPPtx8
namespace Go.Proofs.Ytlcanmndeempfaa.PPt
open Go.RowKit Go.Proofs.YtlcanmndeempfaaW.PrintWords Go.Proofs.YtlcanmndeempfaaW.PrintLast Go.Proofs.YtlcanmndeempfaaW.PrintMore
attribute [local go_sem] max2_int min2_int max_two min_two max_three min_three max_four min_four   -- for this text's walks alone
set_option linter.unusedVariables false
set_option linter.unusedSimpArgs false

theorem q1_9 {α : Type} (l : List α) (i : Nat) (a : α) : l.toArray.setIfInBounds i a = (l.set i a).toArray := List.setIfInBounds_toArray ..
theorem q2_9 {α : Type} (x : α) (l : List α) (a : α) : (x :: l).set 0 a = a :: l := rfl
theorem q3_9 {α : Type} (x : α) (l : List α) (i : Nat) (a : α) : (x :: l).set (i + 1) a = x :: l.set i a := rfl
abbrev t_9 : Bool := true
abbrev f_9 : Bool := false
abbrev B9_0 : Array Bool := #[f_9,f_9,f_9,f_9,f_9,f_9,f_9,f_9,f_9,f_9,f_9,f_9,f_9,f_9,f_9,f_9,f_9,f_9,f_9,f_9,f_9,f_9,f_9,f_9,f_9,f_9,f_9,f_9,f_9,f_9,f_9,f_9,f_9,f_9]
abbrev B9_1 : Array Bool := #[f_9,f_9,f_9,f_9,f_9,f_9,f_9,f_9,f_9,f_9,f_9,f_9,f_9,f_9,f_9,f_9,f_9,f_9,f_9,f_9,f_9,f_9]
abbrev B9_2 : Array Bool := #[t_9,f_9,f_9,f_9,f_9,f_9,f_9,f_9,f_9,f_9,f_9,f_9,f_9,f_9,f_9,f_9,f_9,f_9,f_9,f_9,f_9,f_9,f_9,f_9,f_9,f_9,f_9,f_9,f_9,f_9,f_9,f_9,f_9,f_9]
abbrev B9_3 : Array Bool := #[t_9,f_9,f_9,f_9,f_9,f_9,f_9,f_9,f_9,f_9,f_9,f_9,f_9,f_9,f_9,f_9,f_9,f_9,f_9,f_9,f_9,f_9]
abbrev B9_4 : Array Bool := #[t_9,t_9,f_9,f_9,f_9,f_9,f_9,f_9,f_9,f_9,f_9,f_9,f_9,f_9,f_9,f_9,f_9,f_9,f_9,f_9,f_9,f_9,f_9,f_9,f_9,f_9,f_9,f_9,f_9,f_9,f_9,f_9,f_9,f_9]
abbrev B9_5 : Array Bool := #[t_9,t_9,f_9,f_9,f_9,f_9,f_9,f_9,f_9,f_9,f_9,f_9,f_9,f_9,f_9,f_9,f_9,f_9,f_9,f_9,f_9,f_9]
abbrev B9_6 : Array Bool := #[t_9,t_9,t_9,f_9,f_9,f_9,f_9,f_9,f_9,f_9,f_9,f_9,f_9,f_9,f_9,f_9,f_9,f_9,f_9,f_9,f_9,f_9,f_9,f_9,f_9,f_9,f_9,f_9,f_9,f_9,f_9,f_9,f_9,f_9]
abbrev B9_7 : Array Bool := #[t_9,t_9,t_9,f_9,f_9,f_9,f_9,f_9,f_9,f_9,f_9,f_9,f_9,f_9,f_9,f_9,f_9,f_9,f_9,f_9,f_9,f_9]
abbrev B9_8 : Array Bool := #[t_9,t_9,t_9,t_9,f_9,f_9,f_9,f_9,f_9,f_9,f_9,f_9,f_9,f_9,f_9,f_9,f_9,f_9,f_9,f_9,f_9,f_9,f_9,f_9,f_9,f_9,f_9,f_9,f_9,f_9,f_9,f_9,f_9,f_9]
abbrev B9_9 : Array Bool := #[t_9,t_9,t_9,t_9,f_9,f_9,f_9,f_9,f_9,f_9,f_9,f_9,f_9,f_9,f_9,f_9,f_9,f_9,f_9,f_9,f_9,f_9]
abbrev B9_10 : Array Bool := #[t_9,t_9,t_9,t_9,t_9,f_9,f_9,f_9,f_9,f_9,f_9,f_9,f_9,f_9,f_9,f_9,f_9,f_9,f_9,f_9,f_9,f_9,f_9,f_9,f_9,f_9,f_9,f_9,f_9,f_9,f_9,f_9,f_9,f_9]
abbrev B9_11 : Array Bool := #[t_9,t_9,t_9,t_9,t_9,f_9,f_9,f_9,f_9,f_9,f_9,f_9,f_9,f_9,f_9,f_9,f_9,f_9,f_9,f_9,f_9,f_9]
abbrev B9_12 : Array Bool := #[t_9,t_9,t_9,t_9,t_9,t_9,f_9,f_9,f_9,f_9,f_9,f_9,f_9,f_9,f_9,f_9,f_9,f_9,f_9,f_9,f_9,f_9,f_9,f_9,f_9,f_9,f_9,f_9,f_9,f_9,f_9,f_9,f_9,f_9]
abbrev B9_13 : Array Bool := #[t_9,t_9,t_9,t_9,t_9,t_9,f_9,f_9,f_9,f_9,f_9,f_9,f_9,f_9,f_9,f_9,f_9,f_9,f_9,f_9,f_9,f_9]
abbrev B9_14 : Array Bool := #[t_9,t_9,t_9,t_9,t_9,t_9,t_9,f_9,f_9,f_9,f_9,f_9,f_9,f_9,f_9,f_9,f_9,f_9,f_9,f_9,f_9,f_9,f_9,f_9,f_9,f_9,f_9,f_9,f_9,f_9,f_9,f_9,f_9,f_9]
abbrev B9_15 : Array Bool := #[t_9,t_9,t_9,t_9,t_9,t_9,t_9,f_9,f_9,f_9,f_9,f_9,f_9,f_9,f_9,f_9,f_9,f_9,f_9,f_9,f_9,f_9]
abbrev B9_16 : Array Bool := #[t_9,t_9,t_9,t_9,t_9,t_9,t_9,t_9,f_9,f_9,f_9,f_9,f_9,f_9,f_9,f_9,f_9,f_9,f_9,f_9,f_9,f_9,f_9,f_9,f_9,f_9,f_9,f_9,f_9,f_9,f_9,f_9,f_9,f_9]
abbrev B9_17 : Array Bool := #[t_9,t_9,t_9,t_9,t_9,t_9,t_9,t_9,f_9,f_9,f_9,f_9,f_9,f_9,f_9,f_9,f_9,f_9,f_9,f_9,f_9,f_9]
abbrev B9_18 : Array Bool := #[t_9,t_9,t_9,t_9,t_9,t_9,t_9,t_9,t_9,f_9,f_9,f_9,f_9,f_9,f_9,f_9,f_9,f_9,f_9,f_9,f_9,f_9,f_9,f_9,f_9,f_9,f_9,f_9,f_9,f_9,f_9,f_9,f_9,f_9]
abbrev B9_19 : Array Bool := #[t_9,t_9,t_9,t_9,t_9,t_9,t_9,t_9,t_9,f_9,f_9,f_9,f_9,f_9,f_9,f_9,f_9,f_9,f_9,f_9,f_9,f_9]
abbrev B9_20 : Array Bool := #[t_9,t_9,t_9,t_9,t_9,t_9,t_9,t_9,t_9,t_9,f_9,f_9,f_9,f_9,f_9,f_9,f_9,f_9,f_9,f_9,f_9,f_9,f_9,f_9,f_9,f_9,f_9,f_9,f_9,f_9,f_9,f_9,f_9,f_9]
abbrev B9_21 : Array Bool := #[t_9,t_9,t_9,t_9,t_9,t_9,t_9,t_9,t_9,t_9,f_9,f_9,f_9,f_9,f_9,f_9,f_9,f_9,f_9,f_9,f_9,f_9]
abbrev B9_22 : Array Bool := #[t_9,t_9,t_9,t_9,t_9,t_9,t_9,t_9,t_9,t_9,t_9,f_9,f_9,f_9,f_9,f_9,f_9,f_9,f_9,f_9,f_9,f_9,f_9,f_9,f_9,f_9,f_9,f_9,f_9,f_9,f_9,f_9,f_9,f_9]
abbrev B9_23 : Array Bool := #[t_9,t_9,t_9,t_9,t_9,t_9,t_9,t_9,t_9,t_9,t_9,f_9,f_9,f_9,f_9,f_9,f_9,f_9,f_9,f_9,f_9,f_9]
abbrev B9_24 : Array Bool := #[t_9,t_9,t_9,t_9,t_9,t_9,t_9,t_9,t_9,t_9,t_9,t_9,f_9,f_9,f_9,f_9,f_9,f_9,f_9,f_9,f_9,f_9,f_9,f_9,f_9,f_9,f_9,f_9,f_9,f_9,f_9,f_9,f_9,f_9]
abbrev B9_25 : Array Bool := #[t_9,t_9,t_9,t_9,t_9,t_9,t_9,t_9,t_9,t_9,t_9,t_9,f_9,f_9,f_9,f_9,f_9,f_9,f_9,f_9,f_9,f_9]
abbrev B9_26 : Array Bool := #[t_9,t_9,t_9,t_9,t_9,t_9,t_9,t_9,t_9,t_9,t_9,t_9,t_9,f_9,f_9,f_9,f_9,f_9,f_9,f_9,f_9,f_9,f_9,f_9,f_9,f_9,f_9,f_9,f_9,f_9,f_9,f_9,f_9,f_9]
abbrev B9_27 : Array Bool := #[t_9,t_9,t_9,t_9,t_9,t_9,t_9,t_9,t_9,t_9,t_9,t_9,t_9,f_9,f_9,f_9,f_9,f_9,f_9,f_9,f_9,f_9]
abbrev B9_28 : Array Bool := #[t_9,t_9,t_9,t_9,t_9,t_9,t_9,t_9,t_9,t_9,t_9,t_9,t_9,t_9,f_9,f_9,f_9,f_9,f_9,f_9,f_9,f_9,f_9,f_9,f_9,f_9,f_9,f_9,f_9,f_9,f_9,f_9,f_9,f_9]
abbrev B9_29 : Array Bool := #[t_9,t_9,t_9,t_9,t_9,t_9,t_9,t_9,t_9,t_9,t_9,t_9,t_9,t_9,f_9,f_9,f_9,f_9,f_9,f_9,f_9,f_9]
abbrev B9_30 : Array Bool := #[t_9,t_9,t_9,t_9,t_9,t_9,t_9,t_9,t_9,t_9,t_9,t_9,t_9,t_9,t_9,f_9,f_9,f_9,f_9,f_9,f_9,f_9,f_9,f_9,f_9,f_9,f_9,f_9,f_9,f_9,f_9,f_9,f_9,f_9]
abbrev B9_31 : Array Bool := #[t_9,t_9,t_9,t_9,t_9,t_9,t_9,t_9,t_9,t_9,t_9,t_9,t_9,t_9,t_9,f_9,f_9,f_9,f_9,f_9,f_9,f_9]
abbrev B9_32 : Array Bool := #[t_9,t_9,t_9,t_9,t_9,t_9,t_9,t_9,t_9,t_9,t_9,t_9,t_9,t_9,t_9,t_9,f_9,f_9,f_9,f_9,f_9,f_9,f_9,f_9,f_9,f_9,f_9,f_9,f_9,f_9,f_9,f_9,f_9,f_9]
abbrev B9_33 : Array Bool := #[t_9,t_9,t_9,t_9,t_9,t_9,t_9,t_9,t_9,t_9,t_9,t_9,t_9,t_9,t_9,t_9,f_9,f_9,f_9,f_9,f_9,f_9]
abbrev B9_34 : Array Bool := #[t_9,t_9,t_9,t_9,t_9,t_9,t_9,t_9,t_9,t_9,t_9,t_9,t_9,t_9,t_9,t_9,t_9,f_9,f_9,f_9,f_9,f_9,f_9,f_9,f_9,f_9,f_9,f_9,f_9,f_9,f_9,f_9,f_9,f_9]
abbrev B9_35 : Array Bool := #[t_9,t_9,t_9,t_9,t_9,t_9,t_9,t_9,t_9,t_9,t_9,t_9,t_9,t_9,t_9,t_9,t_9,f_9,f_9,f_9,f_9,f_9]
abbrev B9_36 : Array Bool := #[t_9,t_9,t_9,t_9,t_9,t_9,t_9,t_9,t_9,t_9,t_9,t_9,t_9,t_9,t_9,t_9,t_9,t_9,f_9,f_9,f_9,f_9,f_9,f_9,f_9,f_9,f_9,f_9,f_9,f_9,f_9,f_9,f_9,f_9]
abbrev B9_37 : Array Bool := #[t_9,t_9,t_9,t_9,t_9,t_9,t_9,t_9,t_9,t_9,t_9,t_9,t_9,t_9,t_9,t_9,t_9,t_9,f_9,f_9,f_9,f_9]
abbrev B9_38 : Array Bool := #[t_9,t_9,t_9,t_9,t_9,t_9,t_9,t_9,t_9,t_9,t_9,t_9,t_9,t_9,t_9,t_9,t_9,t_9,t_9,f_9,f_9,f_9,f_9,f_9,f_9,f_9,f_9,f_9,f_9,f_9,f_9,f_9,f_9,f_9]
abbrev B9_39 : Array Bool := #[t_9,t_9,t_9,t_9,t_9,t_9,t_9,t_9,t_9,t_9,t_9,t_9,t_9,t_9,t_9,t_9,t_9,t_9,t_9,f_9,f_9,f_9]
abbrev B9_40 : Array Bool := #[t_9,t_9,t_9,t_9,t_9,t_9,t_9,t_9,t_9,t_9,t_9,t_9,t_9,t_9,t_9,t_9,t_9,t_9,t_9,t_9,f_9,f_9,f_9,f_9,f_9,f_9,f_9,f_9,f_9,f_9,f_9,f_9,f_9,f_9]
abbrev B9_41 : Array Bool := #[t_9,t_9,t_9,t_9,t_9,t_9,t_9,t_9,t_9,t_9,t_9,t_9,t_9,t_9,t_9,t_9,t_9,t_9,t_9,t_9,f_9,f_9]
abbrev B9_42 : Array Bool := #[t_9,t_9,t_9,t_9,t_9,t_9,t_9,t_9,t_9,t_9,t_9,t_9,t_9,t_9,t_9,t_9,t_9,t_9,t_9,t_9,t_9,f_9,f_9,f_9,f_9,f_9,f_9,f_9,f_9,f_9,f_9,f_9,f_9,f_9]
abbrev B9_43 : Array Bool := #[t_9,t_9,t_9,t_9,t_9,t_9,t_9,t_9,t_9,t_9,t_9,t_9,t_9,t_9,t_9,t_9,t_9,t_9,t_9,t_9,t_9,f_9,f_9,f_9,f_9,f_9,f_9,t_9,f_9,f_9,f_9,f_9,f_9,f_9]
abbrev B9_44 : Array Bool := #[t_9,t_9,t_9,t_9,t_9,t_9,t_9,t_9,t_9,t_9,t_9,t_9,t_9,t_9,t_9,t_9,t_9,t_9,t_9,t_9,t_9,f_9]
abbrev B9_45 : Array Bool := #[t_9,t_9,t_9,t_9,t_9,t_9,t_9,t_9,t_9,t_9,t_9,t_9,t_9,t_9,t_9,t_9,t_9,t_9,t_9,t_9,t_9,t_9,f_9,f_9,f_9,f_9,f_9,t_9,f_9,f_9,f_9,f_9,f_9,f_9]
abbrev B9_46 : Array Bool := #[t_9,t_9,t_9,t_9,t_9,t_9,t_9,t_9,t_9,t_9,t_9,t_9,t_9,t_9,t_9,t_9,t_9,t_9,t_9,t_9,t_9,t_9,t_9,f_9,f_9,f_9,f_9,t_9,f_9,f_9,f_9,f_9,f_9,f_9]
abbrev B9_47 : Array Bool := #[t_9,t_9,t_9,t_9,t_9,t_9,t_9,t_9,t_9,t_9,t_9,t_9,t_9,t_9,t_9,t_9,t_9,t_9,t_9,t_9,t_9,t_9,t_9,t_9,f_9,f_9,f_9,t_9,f_9,f_9,f_9,f_9,f_9,f_9]
abbrev B9_48 : Array Bool := #[t_9,t_9,t_9,t_9,t_9,t_9,t_9,t_9,t_9,t_9,t_9,t_9,t_9,t_9,t_9,t_9,t_9,t_9,t_9,t_9,t_9,t_9,t_9,t_9,t_9,f_9,f_9,t_9,f_9,f_9,f_9,f_9,f_9,f_9]
abbrev B9_49 : Array Bool := #[t_9,t_9,t_9,t_9,t_9,t_9,t_9,t_9,t_9,t_9,t_9,t_9,t_9,t_9,t_9,t_9,t_9,t_9,t_9,t_9,t_9,t_9,t_9,t_9,t_9,t_9,f_9,t_9,f_9,f_9,f_9,f_9,f_9,f_9]
abbrev B9_50 : Array Bool := #[t_9,t_9,t_9,t_9,t_9,t_9,t_9,t_9,t_9,t_9,t_9,t_9,t_9,t_9,t_9,t_9,t_9,t_9,t_9,t_9,t_9,t_9,t_9,t_9,t_9,t_9,t_9,t_9,f_9,f_9,f_9,f_9,f_9,f_9]
abbrev B9_51 : Array Bool := #[t_9,t_9,t_9,t_9,t_9,t_9,t_9,t_9,t_9,t_9,t_9,t_9,t_9,t_9,t_9,t_9,t_9,t_9,t_9,t_9,t_9,t_9,t_9,t_9,t_9,t_9,t_9,t_9,t_9,f_9,f_9,f_9,f_9,f_9]
abbrev B9_52 : Array Bool := #[t_9,t_9,t_9,t_9,t_9,t_9,t_9,t_9,t_9,t_9,t_9,t_9,t_9,t_9,t_9,t_9,t_9,t_9,t_9,t_9,t_9,t_9,t_9,t_9,t_9,t_9,t_9,t_9,t_9,t_9,f_9,f_9,f_9,f_9]
abbrev B9_53 : Array Bool := #[t_9,t_9,t_9,t_9,t_9,t_9,t_9,t_9,t_9,t_9,t_9,t_9,t_9,t_9,t_9,t_9,t_9,t_9,t_9,t_9,t_9,t_9,t_9,t_9,t_9,t_9,t_9,t_9,t_9,t_9,t_9,f_9,f_9,f_9]
abbrev B9_54 : Array Bool := #[t_9,t_9,t_9,t_9,t_9,t_9,t_9,t_9,t_9,t_9,t_9,t_9,t_9,t_9,t_9,t_9,t_9,t_9,t_9,t_9,t_9,t_9,t_9,t_9,t_9,t_9,t_9,t_9,t_9,t_9,t_9,t_9,f_9,f_9]
abbrev B9_55 : Array Bool := #[t_9,t_9,t_9,t_9,t_9,t_9,t_9,t_9,t_9,t_9,t_9,t_9,t_9,t_9,t_9,t_9,t_9,t_9,t_9,t_9,t_9,t_9,t_9,t_9,t_9,t_9,t_9,t_9,t_9,t_9,t_9,t_9,t_9,f_9]
abbrev B9_56 : Array Bool := #[t_9,t_9,t_9,t_9,t_9,t_9,t_9,t_9,t_9,t_9,t_9,t_9,t_9,t_9,t_9,t_9,t_9,t_9,t_9,t_9,t_9,t_9,t_9,t_9,t_9,t_9,t_9,t_9,t_9,t_9,t_9,t_9,t_9,t_9]
abbrev B9_57 : Array Bool := #[t_9,t_9,t_9,t_9,t_9,t_9,t_9,t_9,t_9,t_9,t_9,t_9,t_9,t_9,t_9,t_9,t_9,t_9,t_9,t_9,t_9,t_9]
theorem am9_ {p : Prop} (h : p) : Aside0 p := ⟨h⟩
abbrev ra9_ := @Kd.R_alloc
abbrev rn9_ := @Kd.R_drewN
abbrev rd9_ := @Kd.R_drew
abbrev ca9_ := @Kd.C_alloc
abbrev cn9_ := @Kd.C_drewN
abbrev cd9_ := @Kd.C_drew
/-! ### foliatelaw06_SchemaParts: function 7 -/
mutual
def foliatelaw06_SchemaParts.j0 : Nat → Int → Bool → Bool → List (S34) → Option (Bool)
 | 0, _, _, _, _ => none
 | k + 1, x1, x5, x25, x159000 => if x25 = true then (some x5) else (foliatelaw06_SchemaParts.l0 k x1 (⟨#[]⟩ : ByteArray) true 0 x159000)
def foliatelaw06_SchemaParts.l0 : Nat → Int → ByteArray → Bool → Int → List (S34) → Option (Bool)
 | 0, _, _, _, _, _ => none
 | k + 1, x1, x7, x8, x9, x159000 => if x9 < (x159000.length : Int) then (if 0 ≤ x9 then (if x8 = true then ((schema_May.f k [rd_T34 x159000 x9]).bind fun t164 => ((schema_Text.f k [rd_T34 x159000 x9]).bind fun t165 => (if x7.size + t165.size ≤ 9223372036854775807 then (foliatelaw06_SchemaParts.l0 k x1 (x7 ++ t165) t164 (wrap64 (x9 + 1)) x159000) else (none)))) else ((schema_Text.f k [rd_T34 x159000 x9]).bind fun t166 => (if x7.size + t166.size ≤ 9223372036854775807 then (foliatelaw06_SchemaParts.l0 k x1 (x7 ++ t166) false (wrap64 (x9 + 1)) x159000) else (none)))) else (none)) else ((schema_Text.f k x159000).bind fun t167 => (if x8 = true then (if t167.toList = x7.toList then (if 0 < (x159000.length : Int) then (if (t167.size : Int) < (wrap64 ((((rd_T34 x159000 0).f0).size : Int) + 2)) then (none) else (if 0 ≤ (((rd_T34 x159000 0).f0).size : Int) then (if (((rd_T34 x159000 0).f0).size : Int) ≤ (t167.size : Int) then (if (t167.extract 0 ((((rd_T34 x159000 0).f0).size : Int) : Int).toNat).toList = ((rd_T34 x159000 0).f0).toList then (if x1 < 0 then (some true) else (if x1 ≥ (x159000.length : Int) then (some true) else (if 0 ≤ x1 then (if x1 < (x159000.length : Int) then ((schema_Find.f x159000 ((rd_T34 x159000 x1).f0)).bind fun t172 => (some (t172 == x1))) else (none)) else (none)))) else (none)) else (none)) else (none))) else (none)) else (none)) else (if 0 < (x159000.length : Int) then (if (t167.size : Int) < (wrap64 ((((rd_T34 x159000 0).f0).size : Int) + 2)) then (none) else (if 0 ≤ (((rd_T34 x159000 0).f0).size : Int) then (if (((rd_T34 x159000 0).f0).size : Int) ≤ (t167.size : Int) then (if (t167.extract 0 ((((rd_T34 x159000 0).f0).size : Int) : Int).toNat).toList = ((rd_T34 x159000 0).f0).toList then (if x1 < 0 then (some true) else (if x1 ≥ (x159000.length : Int) then (some true) else (if 0 ≤ x1 then (if x1 < (x159000.length : Int) then ((schema_Find.f x159000 ((rd_T34 x159000 x1).f0)).bind fun t177 => (some (t177 == x1))) else (none)) else (none)))) else (none)) else (none)) else (none))) else (none))))
end
def foliatelaw06_SchemaParts.f (k : Nat) (l0_0 : List (S34)) (a1 : Int) : Option (Bool) := (foliatelaw06_awake.f k).bind fun t159 => ((foliatelaw06_Few.f k l0_0 10).bind fun t160 => (if t159 = true then (if t160 = true then ((schema_May.f k l0_0).bind fun t161 => (foliatelaw06_SchemaParts.j0 k a1 t159 (!t161) l0_0)) else (foliatelaw06_SchemaParts.j0 k a1 t159 true l0_0)) else (foliatelaw06_SchemaParts.j0 k a1 t159 true l0_0)))
theorem foliatelaw06_SchemaParts.mono_l : ∀ k, (∀ y0 y1 y2 y3, LeO (foliatelaw06_SchemaParts.j0 k y0 y1 y2 y3) (foliatelaw06_SchemaParts.j0 (k + 1) y0 y1 y2 y3)) ∧ (∀ y0 y1 y2 y3 y4, LeO (foliatelaw06_SchemaParts.l0 k y0 y1 y2 y3 y4) (foliatelaw06_SchemaParts.l0 (k + 1) y0 y1 y2 y3 y4))
 | 0 => ⟨fun _ _ _ _ r h => by simp [foliatelaw06_SchemaParts.j0] at h, fun _ _ _ _ _ r h => by simp [foliatelaw06_SchemaParts.l0] at h⟩
 | k + 1 => by
  obtain ⟨ih0, ih1⟩ := foliatelaw06_SchemaParts.mono_l k
  refine ⟨?_, ?_⟩
  ·intro y0 y1 y2 y3
   unfold foliatelaw06_SchemaParts.j0
   repeat' first
   | (with_reducible exact ih0 _ _ _ _)
   | (with_reducible exact ih1 _ _ _ _ _)
   | (with_reducible exact foliatelaw06_Few.mono _ _ _)
   | (with_reducible exact foliatelaw06_awake.mono _)
   | (with_reducible exact schema_May.mono _ _)
   | (with_reducible exact schema_Text.mono _ _)
   | (with_reducible exact LeO.refl _)
   | (with_reducible exact LeO.none _)
   | (with_reducible refine LeO.ite ?_ ?_)
   | (with_reducible refine LeO.bind ?_ (fun _ => ?_))
   | exact ih0 _ _ _ _
   | exact ih1 _ _ _ _ _
   | exact foliatelaw06_Few.mono _ _ _
   | exact foliatelaw06_awake.mono _
   | exact schema_May.mono _ _
   | exact schema_Text.mono _ _
   | exact LeO.none _
   | refine LeO.ite ?_ ?_
   | refine LeO.bind ?_ (fun _ => ?_)
  ·intro y0 y1 y2 y3 y4
   unfold foliatelaw06_SchemaParts.l0
   repeat' first
   | (with_reducible exact ih0 _ _ _ _)
   | (with_reducible exact ih1 _ _ _ _ _)
   | (with_reducible exact foliatelaw06_Few.mono _ _ _)
   | (with_reducible exact foliatelaw06_awake.mono _)
   | (with_reducible exact schema_May.mono _ _)
   | (with_reducible exact schema_Text.mono _ _)
   | (with_reducible exact LeO.refl _)
   | (with_reducible exact LeO.none _)
   | (with_reducible refine LeO.ite ?_ ?_)
   | (with_reducible refine LeO.bind ?_ (fun _ => ?_))
   | exact ih0 _ _ _ _
   | exact ih1 _ _ _ _ _
   | exact foliatelaw06_Few.mono _ _ _
   | exact foliatelaw06_awake.mono _
   | exact schema_May.mono _ _
   | exact schema_Text.mono _ _
   | exact LeO.none _
   | refine LeO.ite ?_ ?_
   | refine LeO.bind ?_ (fun _ => ?_)
theorem foliatelaw06_SchemaParts.mono : ∀ a0 a1 k, LeO (foliatelaw06_SchemaParts.f k a0 a1) (foliatelaw06_SchemaParts.f (k + 1) a0 a1) := by
 intro a0 a1 k
 obtain ⟨ih0, ih1⟩ := foliatelaw06_SchemaParts.mono_l k
 unfold foliatelaw06_SchemaParts.f
 repeat' first
   | (with_reducible exact ih0 _ _ _ _)
   | (with_reducible exact ih1 _ _ _ _ _)
   | (with_reducible exact foliatelaw06_Few.mono _ _ _)
   | (with_reducible exact foliatelaw06_awake.mono _)
   | (with_reducible exact schema_May.mono _ _)
   | (with_reducible exact schema_Text.mono _ _)
   | (with_reducible exact LeO.refl _)
   | (with_reducible exact LeO.none _)
   | (with_reducible refine LeO.ite ?_ ?_)
   | (with_reducible refine LeO.bind ?_ (fun _ => ?_))
   | exact ih0 _ _ _ _
   | exact ih1 _ _ _ _ _
   | exact foliatelaw06_Few.mono _ _ _
   | exact foliatelaw06_awake.mono _
   | exact schema_May.mono _ _
   | exact schema_Text.mono _ _
   | exact LeO.none _
   | refine LeO.ite ?_ ?_
   | refine LeO.bind ?_ (fun _ => ?_)
def foliatelaw06_SchemaParts.T14 : Bool × List (List Nat × List Nat) := (true, [([], []), ([0], [0]), ([1], [1]), ([1], [1]), ([2, 3, 1], [1, 2, 3]), ([1, 4], [1, 4]), ([5, 1], [5]), ([6], [6]), ([7, 6], [6, 7]), ([6], [6]), ([9, 6], [6, 9]), ([10, 6], [6, 10]), ([11, 6], [6, 11]), ([12, 6], [6, 12]), ([13, 6], [6, 13]), ([14, 6], [6, 14]), ([8, 15, 6], [6, 8, 15]), ([6, 16], [6, 16]), ([17, 6], [17]), ([18], [18]), ([18], [18]), ([20, 18], [18, 20]), ([21, 18], [18, 21]), ([22, 18], [18, 22]), ([23, 18], [18, 23]), ([24, 18], [18, 24]), ([19, 25, 18], [18, 19, 25]), ([18], [18]), ([27, 18], [18, 27]), ([28, 18], [18, 28]), ([29, 18], [18, 29]), ([30, 18], [18, 30]), ([26, 31, 18], [18, 26, 31]), ([18, 32], [18, 32])])
def foliatelaw06_SchemaParts.B14 : List Nat := [0, 1, 3, 3, 15, 31, 63, 127, 255, 127, 639, 1663, 3711, 7807, 15999, 32383, 65535, 131071, 262143, 524287, 524287, 1572863, 3670015, 7864319, 16252927, 33030143, 67108863, 524287, 134742015, 403177471, 940048383, 2013790207, 4294967295, 8589934591]
theorem foliatelaw06_SchemaParts.tab14 : rtab .any (opsOf Try.f7 14) = foliatelaw06_SchemaParts.T14 := by kernel_rfl
theorem foliatelaw06_SchemaParts.bits14 : waitsOk foliatelaw06_SchemaParts.T14.2 foliatelaw06_SchemaParts.B14 = true := by kernel_rfl
def foliatelaw06_SchemaParts.T16 : Bool × List (List Nat × List Nat) := (true, [([], []), ([0], [0]), ([1], [1]), ([2], [2]), ([2], [2]), ([4, 2], [2, 4]), ([5, 2], [2, 5]), ([3, 6, 2], [2, 3, 6]), ([2, 7], [2, 7]), ([8, 2], [8]), ([9], [9]), ([9], [9]), ([11, 9], [9, 11]), ([9], [9]), ([12, 13, 9], [9, 12, 13]), ([14, 9], [9, 14]), ([15, 9], [9, 15]), ([10, 16, 9, 9], [9, 10, 16]), ([9], [9]), ([17, 18, 9], [9, 17, 18]), ([9, 19], [9, 19]), ([20, 17, 0, 1, 2, 3, 4, 5, 6, 7, 8, 9, 10, 11, 12, 13, 14, 15, 16, 17, 18, 19, 20], [20])])
def foliatelaw06_SchemaParts.B16 : List Nat := [0, 1, 3, 7, 7, 23, 55, 127, 255, 511, 1023, 1023, 3071, 1023, 15359, 31743, 64511, 131071, 1023, 524287, 1048575, 2097151]
theorem foliatelaw06_SchemaParts.tab16 : rtab .any (opsOf Try.f7 16) = foliatelaw06_SchemaParts.T16 := by kernel_rfl
theorem foliatelaw06_SchemaParts.bits16 : waitsOk foliatelaw06_SchemaParts.T16.2 foliatelaw06_SchemaParts.B16 = true := by kernel_rfl
section
variable {P : Program} {ops : Array Oper} {rest : List Oper} {o : Oper} {a : Act} {Q : Exit → Act → World → Prop}
theorem rowlit_event {W : World} (hgd : o.guard = none) {N : Tmp} (_hd : o.dst = some N) {cs : Array Value} {e : TypeId} {n : Nat}
  (hrun : (execOp a.eval o).run P W = .ok (.value (.slice (some ⟨W.heap.size, 0, none⟩) n n)) (W.alloc (.cells cs e (0, 0))))
  (h : ∀ g, g = W.heap.size → ∀ w1, w1.heap[g]? = some (.cells cs e (0, 0)) → Below W.heap.size W w1 → wpList P ops Q rest (a.put o.dst (.slice (some ⟨g, 0, none⟩) n n)) w1) : wpList P ops Q (o :: rest) a W :=
 Kd.event_run hgd hrun (h _ rfl _ (blk_new W _) (below_alloc (Below.refl _ _) _))
end
theorem one_C {W : World} {g : Nat} {x : S34} {A1 : Option Addr} {c1 : Nat} (hl : x.f1.length ≤ c1) (h : W.heap[g]? = some (.cells #[.string x.f0, .slice A1 x.f1.length c1] 34 (0, 0))) (hc : Kd.C k40 W A1 x.f1.length x.f1) : Kd.C k34 W (some ⟨g, 0, none⟩) 1 [x] := by
 refine ⟨rfl, by simp, fun _ => ⟨⟨g, 0, none⟩, rfl, fun j s hs => ?_⟩⟩
 have hj : j = 0 := by
  have := (List.getElem?_eq_some_iff.1 hs).1
  simpa using this
 subst hj
 obtain rfl : x = s := by simpa using hs
 refine ⟨[.string x.f0, .slice A1 x.f1.length c1], rfl, k34_mk W x hl hc, fun i u hu => ?_⟩
 have hi : i < 2 := by
  have := (List.getElem?_eq_some_iff.1 hu).1
  simpa using this
 have hi2 : i = 0 ∨ i = 1 := by omega
 rcases hi2 with rfl | rfl
 ·obtain rfl : Value.string x.f0 = u := by simpa using hu
  exact (blk_cell h 0).trans rfl
 ·obtain rfl : Value.slice A1 x.f1.length c1 = u := by simpa using hu
  exact (blk_cell h 1).trans rfl
theorem May_one (k : Nat) (A : Option Addr) (c : Nat) (l : List S34) (h1 : l.length = 1) (r : Bool) (w : World) (hr : Kd.C k34 w A 1 l) (hc : 1 ≤ c) (h : schema_May.f k l = some r) : Calls Try.prog 17 #[.agg #[.slice A 1 c]] w fun e w' => e = .returned (.bool r) ∧ Below w.heap.size w w' := by
 have := schema_May.calls k A c l r w (h1.symm ▸ hr) (h1.symm ▸ hc) h
 rw [h1] at this
 exact this
theorem Text_one (k : Nat) (A : Option Addr) (c : Nat) (l : List S34) (h1 : l.length = 1) (r : ByteArray) (w : World) (hr : Kd.C k34 w A 1 l) (hc : 1 ≤ c) (h : schema_Text.f k l = some r) : Calls Try.prog 19 #[.agg #[.slice A 1 c]] w fun e w' => e = .returned (.string r) ∧ Below w.heap.size w w' := by
 have := schema_Text.calls k A c l r w (h1.symm ▸ hr) (h1.symm ▸ hc) h
 rw [h1] at this
 exact this
set_option maxHeartbeats 8000000 in
set_option maxRecDepth 100000 in
theorem foliatelaw06_SchemaParts.calls (k : Nat) (A0_0 : Option Addr) (c0_0 : Nat) (l0_0 : List (S34)) (a1 : Int) (r : Bool) (w : World) (hr0_0 : Kd.C k34 w A0_0 l0_0.length l0_0) (hc0_0 : l0_0.length ≤ c0_0) (h : foliatelaw06_SchemaParts.f k l0_0 a1 = some r) :
  Calls Try.prog 7 #[.agg #[.slice A0_0 l0_0.length c0_0], .int .i64 a1] w fun e w' => e = .returned (.bool r) ∧ Below w.heap.size w w' := by
 have hu24 := Try.underlying24
 have hu34 := Try.underlying34
 have HR0_0 := Aside0.mk hr0_0
 have HC0_0 := Aside0.mk hc0_0
 clear hr0_0 hc0_0
 have HB := am9_ (Below.refl w.heap.size w)
 have H : ((foliatelaw06_awake.f k).bind fun t159 => ((foliatelaw06_Few.f k l0_0 10).bind fun t160 => (if t159 = true then (if t160 = true then ((schema_May.f k l0_0).bind fun t161 => (foliatelaw06_SchemaParts.j0 k a1 t159 (!t161) l0_0)) else (foliatelaw06_SchemaParts.j0 k a1 t159 true l0_0)) else (foliatelaw06_SchemaParts.j0 k a1 t159 true l0_0)))) = some r := h
 clear h
 replace H := Option.bind_eq_some_iff.mp H
 obtain ⟨t159, A30, H⟩ := H
 replace H : ((foliatelaw06_Few.f k l0_0 10).bind fun t160 => (if t159 = true then (if t160 = true then ((schema_May.f k l0_0).bind fun t161 => (foliatelaw06_SchemaParts.j0 k a1 t159 (!t161) l0_0)) else (foliatelaw06_SchemaParts.j0 k a1 t159 true l0_0)) else (foliatelaw06_SchemaParts.j0 k a1 t159 true l0_0))) = some r := H
 have A3 := Aside0.mk A30
 clear A30
 replace H := Option.bind_eq_some_iff.mp H
 obtain ⟨t160, A40, H⟩ := H
 replace H : (if t159 = true then (if t160 = true then ((schema_May.f k l0_0).bind fun t161 => (foliatelaw06_SchemaParts.j0 k a1 t159 (!t161) l0_0)) else (foliatelaw06_SchemaParts.j0 k a1 t159 true l0_0)) else (foliatelaw06_SchemaParts.j0 k a1 t159 true l0_0)) = some r := H
 have A4 := Aside0.mk A40
 clear A40
 have HC5 := Aside0.mk H
 clear H
 go_enter Try.func7, Try.ntmps7
 go_upto_region 3 with (first | ((with_reducible refine gate_dst (N := 2) rfl ?_); (try (refine gate_guard (by rfl) ?_; dsimp only)); refine box_event ?hg (N := 2) ?hd (cs := #[.slice A0_0 l0_0.length c0_0]) (t := 24) ?hr ?_; (case hd => rfl); (case hg => rfl); (case hr => first | (go_simp; done) | (go_simp; rfl)); intro gb158 hg w6 hbox hb; have n0_ := am9_ (below_step (by repeat (first | exact HB.out | apply below_alloc | apply pw_below_drewN | apply below_drew1)) hb); have n1_ := am9_ (hbox); have n2_ := am9_ ((by rw [hg]; exact (below_size (by repeat (first | exact HB.out | apply below_alloc | apply pw_below_drewN | apply below_drew1))) : w.heap.size ≤ gb158)); have n3_ := am9_ ((by rw [hg]; exact (below_size (by repeat (first | exact HB.out | apply below_alloc | apply pw_below_drewN | apply below_drew1))) : w.heap.size ≤ gb158)); clear HB; have HB := n0_; have BK158 := n1_; have GW158 := n2_; have GE158 := n3_; clear n0_ n1_ n2_ n3_; clear hb hbox hg) | ((with_reducible refine gate_callee (f := 9) rfl ?_); refine goesL_ (some 12) rfl rfl Try.func9 (by kernel_rfl) rfl #[] rfl (by (try simp only [List.map_toArray, List.map_cons, List.map_nil]); first | done | rfl | (simp only [List.length_drop, List.length_take]; rfl)) ?_; (with_reducible refine (foliatelaw06_awake.calls k  t159 _ A3.out).mono ?_); rintro e w7 ⟨rfl, hb⟩; refine ⟨_, rfl, ?_⟩; have n0_ := am9_ (blk_below (g := gb158) (o := .cells #[.slice A0_0 l0_0.length c0_0] 24 (0, 0)) (by (with_reducible repeat (first | refine blk_drewN ?_ _ | refine blk_drew ?_ | refine blk_alloc ?_ _)); exact BK158.out) hb); have n1_ := am9_ (below_step (by repeat (first | (with_reducible first | exact HB.out | apply below_alloc | apply pw_below_drewN | apply below_drew1 | refine below_set ?_ GE158.out) | exact HB.out)) hb); clear BK158; clear HB; have BK158 := n0_; have HB := n1_; clear n0_ n1_; (try clear hb); (try clear hb2); (try clear hk); (try clear hi); have hcz8_0 : w7.cell? ⟨gb158, 0, none⟩ = some (.slice A0_0 l0_0.length c0_0) := (blk_cell BK158.out 0).trans rfl; have hfz8_0 := blk_frozen BK158.out 0) | ((with_reducible refine gate_callee (f := 10) rfl ?_); refine goesL_ (some 14) rfl rfl Try.func10 (by kernel_rfl) rfl #[.agg #[.slice A0_0 l0_0.length c0_0], .int .i64 10] rfl (by (try simp only [List.map_toArray, List.map_cons, List.map_nil]); first | done | rfl | (simp only [List.length_drop, List.length_take]; rfl)) ?_; (with_reducible refine (foliatelaw06_Few.calls k _ _ l0_0 10 t160 _ ?side1 ?side2 A4.out).mono ?_); (case side1 => repeat (first | exact (Kd.C_below HR0_0.out HB.out) | (with_reducible first | refine ca9_ ?_ _ | refine cn9_ ?_ _ | refine cd9_ ?_))); (case side2 => exact HC0_0.out); rintro e w9 ⟨rfl, hb⟩; refine ⟨_, rfl, ?_⟩; have n0_ := am9_ (blk_below (g := gb158) (o := .cells #[.slice A0_0 l0_0.length c0_0] 24 (0, 0)) (by (with_reducible repeat (first | refine blk_drewN ?_ _ | refine blk_drew ?_ | refine blk_alloc ?_ _)); exact BK158.out) hb); have n1_ := am9_ (below_step (by repeat (first | (with_reducible first | exact HB.out | apply below_alloc | apply pw_below_drewN | apply below_drew1 | refine below_set ?_ GE158.out) | exact HB.out)) hb); clear BK158; clear HB; have BK158 := n0_; have HB := n1_; clear n0_ n1_; (try clear hb); (try clear hb2); (try clear hk); (try clear hi)))
 (try simp only [Act.put, q1_9, q2_9, q3_9])
 go_cut [25] (fun v25 wc => ∃ (kq : Nat) (x25_4 : Bool), v25 = .bool x25_4 ∧ Aside0 (foliatelaw06_SchemaParts.j0 kq a1 t159 x25_4 l0_0 = some r) ∧ Aside0 (kq ≤ k) ∧ Aside0 (wc.heap[gb158]? = some (.cells #[(.slice A0_0 l0_0.length c0_0)] 24 (0, 0))) ∧ Aside0 (Below w.heap.size w wc))
 case first =>
  have H := HC5.out
  clear HC5
  by_cases c10 : t159 = true
  ·subst c10
   have H1 : (if t160 = true then ((schema_May.f k l0_0).bind fun t161 => (foliatelaw06_SchemaParts.j0 k a1 true (!t161) l0_0)) else (foliatelaw06_SchemaParts.j0 k a1 true true l0_0)) = some r := by rw [if_pos rfl] at H; exact H
   clear H
   have H := H1
   clear H1
   by_cases c11 : t160 = true
   ·subst c11
    have H1 : ((schema_May.f k l0_0).bind fun t161 => (foliatelaw06_SchemaParts.j0 k a1 true (!t161) l0_0)) = some r := by rw [if_pos rfl] at H; exact H
    clear H
    have H := H1
    clear H1
    replace H := Option.bind_eq_some_iff.mp H
    obtain ⟨t161, A120, H⟩ := H
    replace H : (foliatelaw06_SchemaParts.j0 k a1 true (!t161) l0_0) = some r := H
    have A12 := Aside0.mk A120
    clear A120
    have H' := Aside0.mk H
    clear H
    have hcz13_0 : w9.cell? ⟨gb158, 0, none⟩ = some (.slice A0_0 l0_0.length c0_0) := (blk_cell BK158.out 0).trans rfl
    have hfz13_0 := blk_frozen BK158.out 0
    go_wp2_with (first | (go_at_call 17; (with_reducible refine (schema_May.calls k _ _ l0_0 t161 _ ?side1 ?side2 A12.out).mono ?_); (case side1 => repeat (first | exact (Kd.C_below HR0_0.out HB.out) | (with_reducible first | refine ca9_ ?_ _ | refine cn9_ ?_ _ | refine cd9_ ?_))); (case side2 => exact HC0_0.out); rintro e w14 ⟨rfl, hb⟩; have n0_ := am9_ (blk_below (g := gb158) (o := .cells #[.slice A0_0 l0_0.length c0_0] 24 (0, 0)) (by (with_reducible repeat (first | refine blk_drewN ?_ _ | refine blk_drew ?_ | refine blk_alloc ?_ _)); exact BK158.out) hb); have n1_ := am9_ (below_step (by repeat (first | (with_reducible first | exact HB.out | apply below_alloc | apply pw_below_drewN | apply below_drew1 | refine below_set ?_ GE158.out) | exact HB.out)) hb); clear BK158; clear HB; have BK158 := n0_; have HB := n1_; clear n0_ n1_; (try clear hb); (try clear hb2); (try clear hk); (try clear hi)))
    go_meet
    case rel => exact ⟨_, (!t161), (by first | rfl | (simp; done) | (simp [*]; done)), H', ⟨by first | omega | exact Nat.le_refl _⟩, ⟨by (with_reducible repeat (first | refine blk_drewN ?_ _ | refine blk_drew ?_ | refine blk_alloc ?_ _)); exact BK158.out⟩, ⟨by repeat (first | (with_reducible first | exact HB.out | apply below_alloc | apply pw_below_drewN | apply below_drew1 | refine below_set ?_ GE158.out) | exact HB.out)⟩⟩
   ·replace c11 := Bool.eq_false_iff.mpr c11
    subst c11
    have H1 : (foliatelaw06_SchemaParts.j0 k a1 true true l0_0) = some r := by rw [if_neg (show ¬ (false = true) by decide)] at H; exact H
    clear H
    have H := H1
    clear H1
    have H' := Aside0.mk H
    clear H
    go_wp2
    go_meet
    case rel => exact ⟨_, (true), (by first | rfl | (simp; done) | (simp [*]; done)), H', ⟨by first | omega | exact Nat.le_refl _⟩, ⟨by (with_reducible repeat (first | refine blk_drewN ?_ _ | refine blk_drew ?_ | refine blk_alloc ?_ _)); exact BK158.out⟩, ⟨by repeat (first | (with_reducible first | exact HB.out | apply below_alloc | apply pw_below_drewN | apply below_drew1 | refine below_set ?_ GE158.out) | exact HB.out)⟩⟩
  ·replace c10 := Bool.eq_false_iff.mpr c10
   subst c10
   have H1 : (foliatelaw06_SchemaParts.j0 k a1 false true l0_0) = some r := by rw [if_neg (show ¬ (false = true) by decide)] at H; exact H
   clear H
   have H := H1
   clear H1
   have H' := Aside0.mk H
   clear H
   go_wp2
   go_meet
   case rel => exact ⟨_, (true), (by first | rfl | (simp; done) | (simp [*]; done)), H', ⟨by first | omega | exact Nat.le_refl _⟩, ⟨by (with_reducible repeat (first | refine blk_drewN ?_ _ | refine blk_drew ?_ | refine blk_alloc ?_ _)); exact BK158.out⟩, ⟨by repeat (first | (with_reducible first | exact HB.out | apply below_alloc | apply pw_below_drewN | apply below_drew1 | refine below_set ?_ GE158.out) | exact HB.out)⟩⟩
 case rest =>
  clear HC5
  try clear c1
  try clear p2
  try clear c7
  try clear c9
  try clear c10
  try clear c11
  try clear hcz13_0
  try clear hcz8_0
  try clear hfz13_0
  try clear hfz8_0
  obtain ⟨kq, x25_4, rfl, HA, HJ4, BK158, HB⟩ := hcut
  cases kq with
  | zero => exact absurd HA.out (by simp [foliatelaw06_SchemaParts.j0])
  | succ kj4 =>
   have H := HA.out
   clear HA
   simp only [foliatelaw06_SchemaParts.j0] at H
   by_cases c15 : x25_4 = true
   ·subst c15
    have H1 : (some t159) = some r := by rw [if_pos rfl] at H; exact H
    clear H
    have H := H1
    clear H1
    obtain rfl := Option.some.inj H
    go_wp2
    go_ret
    exact ⟨by first | rfl | (simp [errW_none, errW_some] <;> rfl) | (simp [*, errW_none, errW_some] <;> rfl), by repeat (first | (with_reducible first | exact HB.out | apply below_alloc | apply pw_below_drewN | apply below_drew1 | refine below_set ?_ GE158.out) | exact HB.out)⟩
   ·replace c15 := Bool.eq_false_iff.mpr c15
    subst c15
    have H1 : (foliatelaw06_SchemaParts.l0 kj4 a1 (⟨#[]⟩ : ByteArray) true 0 l0_0) = some r := by rw [if_neg (show ¬ (false = true) by decide)] at H; exact H
    clear H
    have H := H1
    clear H1
    have H' := Aside0.mk H
    clear H
    go_wp2
    go_loopg [7, 8, 9] kj4 (fun kq v7 v8 v9 w' => ∃ (x7_2 : ByteArray) (x8_2 : Bool) (x9_2 : Int), v7 = .string x7_2 ∧ v8 = .bool x8_2 ∧ v9 = .int .i64 x9_2 ∧ Aside0 (foliatelaw06_SchemaParts.l0 kq a1 x7_2 x8_2 x9_2 l0_0 = some r) ∧ Aside0 (kq ≤ kj4) ∧ Aside0 (w'.heap[gb158]? = some (.cells #[(.slice A0_0 l0_0.length c0_0)] 24 (0, 0))) ∧ Aside0 (Below w.heap.size w w'))
    case atStart => exact ⟨((⟨#[]⟩ : ByteArray)), (true), (0), (by first | rfl | (simp; done) | (simp [*]; done)), (by first | rfl | (simp; done) | (simp [*]; done)), (by first | rfl | (simp; done) | (simp [*]; done)), H', ⟨Nat.le_refl _⟩, ⟨by (with_reducible repeat (first | refine blk_drewN ?_ _ | refine blk_drew ?_ | refine blk_alloc ?_ _)); exact BK158.out⟩, ⟨by repeat (first | (with_reducible first | exact HB.out | apply below_alloc | apply pw_below_drewN | apply below_drew1 | refine below_set ?_ GE158.out) | exact HB.out)⟩⟩
    case round =>
     clear H'
     try clear c1
     try clear p2
     try clear c7
     try clear c9
     try clear c10
     try clear c11
     try clear c15
     try clear hcz13_0
     try clear hcz8_0
     try clear hfz13_0
     try clear hfz8_0
     try clear p2
     obtain ⟨x7_2, x8_2, x9_2, rfl, rfl, rfl, HA, HK2, BK158, HB⟩ := hrel
     cases gk with
     | zero => exact absurd HA.out (by simp [foliatelaw06_SchemaParts.l0])
     | succ k2 =>
      have H := HA.out
      clear HA
      simp only [foliatelaw06_SchemaParts.l0] at H
      by_cases c16 : x9_2 < (l0_0.length : Int)
      ·rw [if_pos c16] at H
       have c16b0 : decide (x9_2 < (l0_0.length : Int)) = true := decide_eq_true c16
       clear c16
       by_cases c17 : 0 ≤ x9_2
       ·rw [if_pos c17] at H
        have c17b0 : decide (0 ≤ x9_2) = true := decide_eq_true c17
        clear c17
        by_cases c18 : x8_2 = true
        ·subst c18
         have H1 : ((schema_May.f k2 [rd_T34 l0_0 x9_2]).bind fun t164 => ((schema_Text.f k2 [rd_T34 l0_0 x9_2]).bind fun t165 => (if x7_2.size + t165.size ≤ 9223372036854775807 then (foliatelaw06_SchemaParts.l0 k2 a1 (x7_2 ++ t165) t164 (wrap64 (x9_2 + 1)) l0_0) else (none)))) = some r := by rw [if_pos rfl] at H; exact H
         clear H
         have H := H1
         clear H1
         replace H := Option.bind_eq_some_iff.mp H
         obtain ⟨t164, A190, H⟩ := H
         replace H : ((schema_Text.f k2 [rd_T34 l0_0 x9_2]).bind fun t165 => (if x7_2.size + t165.size ≤ 9223372036854775807 then (foliatelaw06_SchemaParts.l0 k2 a1 (x7_2 ++ t165) t164 (wrap64 (x9_2 + 1)) l0_0) else (none))) = some r := H
         have A19 := Aside0.mk A190
         clear A190
         replace H := Option.bind_eq_some_iff.mp H
         obtain ⟨t165, A200, H⟩ := H
         replace H : (if x7_2.size + t165.size ≤ 9223372036854775807 then (foliatelaw06_SchemaParts.l0 k2 a1 (x7_2 ++ t165) t164 (wrap64 (x9_2 + 1)) l0_0) else (none)) = some r := H
         have A20 := Aside0.mk A200
         clear A200
         by_cases c21 : x7_2.size + t165.size ≤ 9223372036854775807
         ·rw [if_pos c21] at H
          have c21b0 := eq_true c21
          have c21b1 : decide (x7_2.size + t165.size ≤ 9223372036854775807) = true := decide_eq_true c21
          try have c21b2 : (9223372036854775807 < x7_2.size + t165.size) = False := eq_false (Nat.not_lt.2 c21)
          have H' := Aside0.mk H
          clear H
          have hcz22_0 : wr.cell? ⟨gb158, 0, none⟩ = some (.slice A0_0 l0_0.length c0_0) := (blk_cell BK158.out 0).trans rfl
          have hfz22_0 := blk_frozen BK158.out 0
          have p162 : 0 ≤ (x9_2 : Int) := of_decide_eq_true (by first | (with_reducible assumption) | assumption)
          have q162 : x9_2 < (l0_0.length : Int) := of_decide_eq_true (by first | (with_reducible assumption) | assumption)
          obtain ⟨ad162, A162_1, c162_1, e162, hx162_0, hx162_1, hl162_1, hi162_1⟩ := at_T34 HR0_0.out x9_2 p162 q162
          cases e162
          replace hx162_0 := (HB.out.cell (World.block_lt_of_cell? w _ hx162_0)).trans hx162_0
          replace hx162_1 := (HB.out.cell (World.block_lt_of_cell? w _ hx162_1)).trans hx162_1
          have HR162_1 := Aside0.mk hi162_1
          have HC162_1 := Aside0.mk hl162_1
          clear hi162_1 hl162_1
          replace p162 := eq_true p162
          replace q162 := eq_true q162
          go_wp2_with (first | ((with_reducible refine gate_dst (N := 39) rfl ?_); refine rowlit_event ?hg (N := 39) ?hd (cs := #[.string ((rd_T34 l0_0 x9_2).f0), .slice A162_1 ((rd_T34 l0_0 x9_2).f1).length c162_1]) (e := 34) (n := 1) ?hr ?_; (case hd => rfl); (case hg => rfl); (case hr => first | (go_simp; done) | (go_simp; rfl)); intro gb200 hg w200 hbox hb; have n0_ := am9_ (blk_below (g := gb158) (o := .cells #[.slice (some ad162) l0_0.length c0_0] 24 (0, 0)) (by (with_reducible repeat (first | refine blk_drewN ?_ _ | refine blk_drew ?_ | refine blk_alloc ?_ _)); exact BK158.out) hb); have n1_ := am9_ (below_step (by repeat (first | (with_reducible first | exact HB.out | apply below_alloc | apply pw_below_drewN | apply below_drew1 | refine below_set ?_ GE158.out) | exact HB.out)) hb); have n2_ := am9_ (one_C HC162_1.out hbox (Kd.C_below HR162_1.out n1_.out)); have n3_ := am9_ (Below.refl w200.heap.size w200); clear BK158; clear HB; have BK158 := n0_; have HB := n1_; have HKC := n2_; have HB2 := n3_; clear n0_ n1_ n2_ n3_; clear hb hbox hg) | ((with_reducible refine gate_dst (N := 10) rfl ?_); (try (refine gate_guard (by rfl) ?_; dsimp only)); refine box_event ?hg (N := 10) ?hd (cs := #[.slice none 0 0]) (t := 24) ?hr ?_; (case hd => rfl); (case hg => rfl); (case hr => first | (go_simp; done) | (go_simp; rfl)); intro gb163 hg w23 hbox hb; have m0_ := am9_ (below_step (by repeat (first | (with_reducible first | exact HB2.out | apply below_alloc | apply pw_below_drewN | apply below_drew1) | exact HB2.out)) hb); have m1_ := am9_ ((by rw [hg]; exact (below_size (by repeat (first | (with_reducible first | exact HB2.out | apply below_alloc | apply pw_below_drewN | apply below_drew1) | exact HB2.out)))) : w200.heap.size ≤ gb163); clear HB2; have HB2 := m0_; have GE2 := m1_; clear m0_ m1_; have n0_ := am9_ (blk_below (g := gb158) (o := .cells #[.slice (some ad162) l0_0.length c0_0] 24 (0, 0)) (by (with_reducible repeat (first | refine blk_drewN ?_ _ | refine blk_drew ?_ | refine blk_alloc ?_ _)); exact BK158.out) hb); have n1_ := am9_ (below_step (by repeat (first | (with_reducible first | exact HB.out | apply below_alloc | apply pw_below_drewN | apply below_drew1 | refine below_set ?_ GE158.out) | exact HB.out)) hb); have n2_ := am9_ (hbox); have n3_ := am9_ ((by rw [hg]; exact (below_size (by repeat (first | (with_reducible first | exact HB.out | apply below_alloc | apply pw_below_drewN | apply below_drew1 | refine below_set ?_ GE158.out) | exact HB.out))) : w.heap.size ≤ gb163)); have n4_ := am9_ ((by rw [hg]; exact (below_size (by repeat (first | (with_reducible first | exact HB.out | apply below_alloc | apply pw_below_drewN | apply below_drew1 | refine below_set ?_ GE158.out) | exact HB.out))) : w.heap.size ≤ gb163)); have n5_ := am9_ ((by rw [hg]; exact Nat.ne_of_lt (blk_lt (g := gb158) (o := .cells #[.slice (some ad162) l0_0.length c0_0] 24 (0, 0)) (by (with_reducible repeat (first | refine blk_drewN ?_ _ | refine blk_drew ?_ | refine blk_alloc ?_ _)); exact BK158.out)) : gb158 ≠ gb163)); have n6_ := am9_ ((by rw [hg]; exact Nat.ne_of_gt (blk_lt (g := gb158) (o := .cells #[.slice (some ad162) l0_0.length c0_0] 24 (0, 0)) (by (with_reducible repeat (first | refine blk_drewN ?_ _ | refine blk_drew ?_ | refine blk_alloc ?_ _)); exact BK158.out)) : gb163 ≠ gb158)); clear BK158; clear HB; have BK158 := n0_; have HB := n1_; have BK163 := n2_; have GW163 := n3_; have GE163 := n4_; have NB158_163 := n5_; have NB163_158 := n6_; clear n0_ n1_ n2_ n3_ n4_ n5_ n6_; clear hb hbox hg; have hnb24 := NB163_158.out; have hnc24 := NB158_163.out; have hcz25_0 : w23.cell? ⟨gb163, 0, none⟩ = some (.slice none 0 0) := (blk_cell BK163.out 0).trans rfl; have hfz25_0 := blk_frozen BK163.out 0) | (go_at_call 17; (with_reducible refine (May_one k2 _ _ [rd_T34 l0_0 x9_2] rfl t164 _ ?side1 ?side2 A19.out).mono ?_); (case side1 => exact Kd.C_below HKC.out (by repeat (first | (with_reducible first | exact HB2.out | apply below_alloc | apply pw_below_drewN | apply below_drew1 | refine below_set ?_ GE2.out) | exact HB2.out))); (case side2 => exact Nat.le_refl 1); rintro e w26 ⟨rfl, hb⟩; have m0_ := am9_ (below_step (by repeat (first | (with_reducible first | exact HB2.out | apply below_alloc | apply pw_below_drewN | apply below_drew1 | refine below_set ?_ GE2.out) | exact HB2.out)) hb); clear HB2; have HB2 := m0_; clear m0_; have n0_ := am9_ (blk_below (g := gb158) (o := .cells #[.slice (some ad162) l0_0.length c0_0] 24 (0, 0)) (by (with_reducible repeat (first | refine blk_drewN ?_ _ | refine blk_drew ?_ | refine blk_alloc ?_ _)); refine blk_far ?_ NB158_163.out _; (with_reducible repeat (first | refine blk_drewN ?_ _ | refine blk_drew ?_ | refine blk_alloc ?_ _)); exact BK158.out) hb); have n1_ := am9_ (blk_below (g := gb163) (o := .cells #[.slice (some ⟨gb200, 0, none⟩) 1 1] 24 (0, 0)) (by (with_reducible repeat (first | refine blk_drewN ?_ _ | refine blk_drew ?_ | refine blk_alloc ?_ _)); refine blk_put (cs := #[.slice none 0 0]) ?_ 0 _ rfl; (with_reducible repeat (first | refine blk_drewN ?_ _ | refine blk_drew ?_ | refine blk_alloc ?_ _)); exact BK163.out) hb); have n2_ := am9_ (below_step (by repeat (first | (with_reducible first | exact HB.out | apply below_alloc | apply pw_below_drewN | apply below_drew1 | refine below_set ?_ GE158.out | refine below_set ?_ GE163.out) | exact HB.out)) hb); clear BK158; clear BK163; clear HB; have BK158 := n0_; have BK163 := n1_; have HB := n2_; clear n0_ n1_ n2_; (try clear hb); (try clear hb2); (try clear hk); (try clear hi); have hcz27_0 : w26.cell? ⟨gb163, 0, none⟩ = some (.slice (some ⟨gb200, 0, none⟩) 1 1) := (blk_cell BK163.out 0).trans rfl; have hfz27_0 := blk_frozen BK163.out 0) | ((with_reducible refine gate_callee (f := 19) rfl ?_); refine goesL_ (some 48) rfl rfl Try.func19 (by kernel_rfl) rfl #[.agg #[.slice (some ⟨gb200, 0, none⟩) 1 1]] rfl (by (try simp only [List.map_toArray, List.map_cons, List.map_nil]); first | done | rfl | (simp only [List.length_drop, List.length_take]; rfl)) ?_; (with_reducible refine (Text_one k2 _ _ [rd_T34 l0_0 x9_2] rfl t165 _ ?side1 ?side2 A20.out).mono ?_); (case side1 => exact Kd.C_below HKC.out (by repeat (first | (with_reducible first | exact HB2.out | apply below_alloc | apply pw_below_drewN | apply below_drew1 | refine below_set ?_ GE2.out) | exact HB2.out))); (case side2 => exact Nat.le_refl 1); rintro e w28 ⟨rfl, hb⟩; refine ⟨_, rfl, ?_⟩; have m0_ := am9_ (below_step (by repeat (first | (with_reducible first | exact HB2.out | apply below_alloc | apply pw_below_drewN | apply below_drew1 | refine below_set ?_ GE2.out) | exact HB2.out)) hb); clear HB2; have HB2 := m0_; clear m0_; have n0_ := am9_ (blk_below (g := gb158) (o := .cells #[.slice (some ad162) l0_0.length c0_0] 24 (0, 0)) (by (with_reducible repeat (first | refine blk_drewN ?_ _ | refine blk_drew ?_ | refine blk_alloc ?_ _)); exact BK158.out) hb); have n1_ := am9_ (blk_below (g := gb163) (o := .cells #[.slice (some ⟨gb200, 0, none⟩) 1 1] 24 (0, 0)) (by (with_reducible repeat (first | refine blk_drewN ?_ _ | refine blk_drew ?_ | refine blk_alloc ?_ _)); exact BK163.out) hb); have n2_ := am9_ (below_step (by repeat (first | (with_reducible first | exact HB.out | apply below_alloc | apply pw_below_drewN | apply below_drew1 | refine below_set ?_ GE158.out | refine below_set ?_ GE163.out) | exact HB.out)) hb); clear BK158; clear BK163; clear HB; have BK158 := n0_; have BK163 := n1_; have HB := n2_; clear n0_ n1_ n2_; (try clear hb); (try clear hb2); (try clear hk); (try clear hi)))
          go_roundg k2
          case measure => have := HJ4.out; have := HK2.out; omega
          case rel => exact ⟨(x7_2 ++ t165), (t164), (wrap64 (x9_2 + 1)), (by first | rfl | (simp; done) | (simp [*]; done)), (by first | rfl | (simp; done) | (simp [*]; done)), (by first | rfl | (simp; done) | (simp [*]; done)), H', ⟨by have := HJ4.out; have := HK2.out; omega⟩, ⟨by (with_reducible repeat (first | refine blk_drewN ?_ _ | refine blk_drew ?_ | refine blk_alloc ?_ _)); exact BK158.out⟩, ⟨by repeat (first | (with_reducible first | exact HB.out | apply below_alloc | apply pw_below_drewN | apply below_drew1 | refine below_set ?_ GE158.out | refine below_set ?_ GE163.out) | exact HB.out)⟩⟩
         ·rw [if_neg c21] at H
          exact absurd H (by simp)
        ·replace c18 := Bool.eq_false_iff.mpr c18
         subst c18
         have H1 : ((schema_Text.f k2 [rd_T34 l0_0 x9_2]).bind fun t166 => (if x7_2.size + t166.size ≤ 9223372036854775807 then (foliatelaw06_SchemaParts.l0 k2 a1 (x7_2 ++ t166) false (wrap64 (x9_2 + 1)) l0_0) else (none))) = some r := by rw [if_neg (show ¬ (false = true) by decide)] at H; exact H
         clear H
         have H := H1
         clear H1
         replace H := Option.bind_eq_some_iff.mp H
         obtain ⟨t166, A290, H⟩ := H
         replace H : (if x7_2.size + t166.size ≤ 9223372036854775807 then (foliatelaw06_SchemaParts.l0 k2 a1 (x7_2 ++ t166) false (wrap64 (x9_2 + 1)) l0_0) else (none)) = some r := H
         have A29 := Aside0.mk A290
         clear A290
         by_cases c30 : x7_2.size + t166.size ≤ 9223372036854775807
         ·rw [if_pos c30] at H
          have c30b0 := eq_true c30
          have c30b1 : decide (x7_2.size + t166.size ≤ 9223372036854775807) = true := decide_eq_true c30
          try have c30b2 : (9223372036854775807 < x7_2.size + t166.size) = False := eq_false (Nat.not_lt.2 c30)
          have H' := Aside0.mk H
          clear H
          have hcz31_0 : wr.cell? ⟨gb158, 0, none⟩ = some (.slice A0_0 l0_0.length c0_0) := (blk_cell BK158.out 0).trans rfl
          have hfz31_0 := blk_frozen BK158.out 0
          have p162 : 0 ≤ (x9_2 : Int) := of_decide_eq_true (by first | (with_reducible assumption) | assumption)
          have q162 : x9_2 < (l0_0.length : Int) := of_decide_eq_true (by first | (with_reducible assumption) | assumption)
          obtain ⟨ad162, A162_1, c162_1, e162, hx162_0, hx162_1, hl162_1, hi162_1⟩ := at_T34 HR0_0.out x9_2 p162 q162
          cases e162
          replace hx162_0 := (HB.out.cell (World.block_lt_of_cell? w _ hx162_0)).trans hx162_0
          replace hx162_1 := (HB.out.cell (World.block_lt_of_cell? w _ hx162_1)).trans hx162_1
          have HR162_1 := Aside0.mk hi162_1
          have HC162_1 := Aside0.mk hl162_1
          clear hi162_1 hl162_1
          replace p162 := eq_true p162
          replace q162 := eq_true q162
          go_wp2_with (first | ((with_reducible refine gate_dst (N := 39) rfl ?_); refine rowlit_event ?hg (N := 39) ?hd (cs := #[.string ((rd_T34 l0_0 x9_2).f0), .slice A162_1 ((rd_T34 l0_0 x9_2).f1).length c162_1]) (e := 34) (n := 1) ?hr ?_; (case hd => rfl); (case hg => rfl); (case hr => first | (go_simp; done) | (go_simp; rfl)); intro gb200 hg w200 hbox hb; have n0_ := am9_ (blk_below (g := gb158) (o := .cells #[.slice (some ad162) l0_0.length c0_0] 24 (0, 0)) (by (with_reducible repeat (first | refine blk_drewN ?_ _ | refine blk_drew ?_ | refine blk_alloc ?_ _)); exact BK158.out) hb); have n1_ := am9_ (below_step (by repeat (first | (with_reducible first | exact HB.out | apply below_alloc | apply pw_below_drewN | apply below_drew1 | refine below_set ?_ GE158.out) | exact HB.out)) hb); have n2_ := am9_ (one_C HC162_1.out hbox (Kd.C_below HR162_1.out n1_.out)); have n3_ := am9_ (Below.refl w200.heap.size w200); clear BK158; clear HB; have BK158 := n0_; have HB := n1_; have HKC := n2_; have HB2 := n3_; clear n0_ n1_ n2_ n3_; clear hb hbox hg) | ((with_reducible refine gate_dst (N := 10) rfl ?_); (try (refine gate_guard (by rfl) ?_; dsimp only)); refine box_event ?hg (N := 10) ?hd (cs := #[.slice none 0 0]) (t := 24) ?hr ?_; (case hd => rfl); (case hg => rfl); (case hr => first | (go_simp; done) | (go_simp; rfl)); intro gb163 hg w32 hbox hb; have m0_ := am9_ (below_step (by repeat (first | (with_reducible first | exact HB2.out | apply below_alloc | apply pw_below_drewN | apply below_drew1) | exact HB2.out)) hb); have m1_ := am9_ ((by rw [hg]; exact (below_size (by repeat (first | (with_reducible first | exact HB2.out | apply below_alloc | apply pw_below_drewN | apply below_drew1) | exact HB2.out)))) : w200.heap.size ≤ gb163); clear HB2; have HB2 := m0_; have GE2 := m1_; clear m0_ m1_; have n0_ := am9_ (blk_below (g := gb158) (o := .cells #[.slice (some ad162) l0_0.length c0_0] 24 (0, 0)) (by (with_reducible repeat (first | refine blk_drewN ?_ _ | refine blk_drew ?_ | refine blk_alloc ?_ _)); exact BK158.out) hb); have n1_ := am9_ (below_step (by repeat (first | (with_reducible first | exact HB.out | apply below_alloc | apply pw_below_drewN | apply below_drew1 | refine below_set ?_ GE158.out) | exact HB.out)) hb); have n2_ := am9_ (hbox); have n3_ := am9_ ((by rw [hg]; exact (below_size (by repeat (first | (with_reducible first | exact HB.out | apply below_alloc | apply pw_below_drewN | apply below_drew1 | refine below_set ?_ GE158.out) | exact HB.out))) : w.heap.size ≤ gb163)); have n4_ := am9_ ((by rw [hg]; exact (below_size (by repeat (first | (with_reducible first | exact HB.out | apply below_alloc | apply pw_below_drewN | apply below_drew1 | refine below_set ?_ GE158.out) | exact HB.out))) : w.heap.size ≤ gb163)); have n5_ := am9_ ((by rw [hg]; exact Nat.ne_of_lt (blk_lt (g := gb158) (o := .cells #[.slice (some ad162) l0_0.length c0_0] 24 (0, 0)) (by (with_reducible repeat (first | refine blk_drewN ?_ _ | refine blk_drew ?_ | refine blk_alloc ?_ _)); exact BK158.out)) : gb158 ≠ gb163)); have n6_ := am9_ ((by rw [hg]; exact Nat.ne_of_gt (blk_lt (g := gb158) (o := .cells #[.slice (some ad162) l0_0.length c0_0] 24 (0, 0)) (by (with_reducible repeat (first | refine blk_drewN ?_ _ | refine blk_drew ?_ | refine blk_alloc ?_ _)); exact BK158.out)) : gb163 ≠ gb158)); clear BK158; clear HB; have BK158 := n0_; have HB := n1_; have BK163 := n2_; have GW163 := n3_; have GE163 := n4_; have NB158_163 := n5_; have NB163_158 := n6_; clear n0_ n1_ n2_ n3_ n4_ n5_ n6_; clear hb hbox hg; have hnb33 := NB163_158.out; have hnc33 := NB158_163.out; have hcz34_0 : w32.cell? ⟨gb163, 0, none⟩ = some (.slice none 0 0) := (blk_cell BK163.out 0).trans rfl; have hfz34_0 := blk_frozen BK163.out 0) | ((with_reducible refine gate_callee (f := 19) rfl ?_); refine goesL_ (some 48) rfl rfl Try.func19 (by kernel_rfl) rfl #[.agg #[.slice (some ⟨gb200, 0, none⟩) 1 1]] rfl (by (try simp only [List.map_toArray, List.map_cons, List.map_nil]); first | done | rfl | (simp only [List.length_drop, List.length_take]; rfl)) ?_; (with_reducible refine (Text_one k2 _ _ [rd_T34 l0_0 x9_2] rfl t166 _ ?side1 ?side2 A29.out).mono ?_); (case side1 => exact Kd.C_below HKC.out (by repeat (first | (with_reducible first | exact HB2.out | apply below_alloc | apply pw_below_drewN | apply below_drew1 | refine below_set ?_ GE2.out) | exact HB2.out))); (case side2 => exact Nat.le_refl 1); rintro e w35 ⟨rfl, hb⟩; refine ⟨_, rfl, ?_⟩; have m0_ := am9_ (below_step (by repeat (first | (with_reducible first | exact HB2.out | apply below_alloc | apply pw_below_drewN | apply below_drew1 | refine below_set ?_ GE2.out) | exact HB2.out)) hb); clear HB2; have HB2 := m0_; clear m0_; have n0_ := am9_ (blk_below (g := gb158) (o := .cells #[.slice (some ad162) l0_0.length c0_0] 24 (0, 0)) (by (with_reducible repeat (first | refine blk_drewN ?_ _ | refine blk_drew ?_ | refine blk_alloc ?_ _)); refine blk_far ?_ NB158_163.out _; (with_reducible repeat (first | refine blk_drewN ?_ _ | refine blk_drew ?_ | refine blk_alloc ?_ _)); exact BK158.out) hb); have n1_ := am9_ (blk_below (g := gb163) (o := .cells #[.slice (some ⟨gb200, 0, none⟩) 1 1] 24 (0, 0)) (by (with_reducible repeat (first | refine blk_drewN ?_ _ | refine blk_drew ?_ | refine blk_alloc ?_ _)); refine blk_put (cs := #[.slice none 0 0]) ?_ 0 _ rfl; (with_reducible repeat (first | refine blk_drewN ?_ _ | refine blk_drew ?_ | refine blk_alloc ?_ _)); exact BK163.out) hb); have n2_ := am9_ (below_step (by repeat (first | (with_reducible first | exact HB.out | apply below_alloc | apply pw_below_drewN | apply below_drew1 | refine below_set ?_ GE158.out | refine below_set ?_ GE163.out) | exact HB.out)) hb); clear BK158; clear BK163; clear HB; have BK158 := n0_; have BK163 := n1_; have HB := n2_; clear n0_ n1_ n2_; (try clear hb); (try clear hb2); (try clear hk); (try clear hi)))
          go_roundg k2
          case measure => have := HJ4.out; have := HK2.out; omega
          case rel => exact ⟨(x7_2 ++ t166), (false), (wrap64 (x9_2 + 1)), (by first | rfl | (simp; done) | (simp [*]; done)), (by first | rfl | (simp; done) | (simp [*]; done)), (by first | rfl | (simp; done) | (simp [*]; done)), H', ⟨by have := HJ4.out; have := HK2.out; omega⟩, ⟨by (with_reducible repeat (first | refine blk_drewN ?_ _ | refine blk_drew ?_ | refine blk_alloc ?_ _)); exact BK158.out⟩, ⟨by repeat (first | (with_reducible first | exact HB.out | apply below_alloc | apply pw_below_drewN | apply below_drew1 | refine below_set ?_ GE158.out | refine below_set ?_ GE163.out) | exact HB.out)⟩⟩
         ·rw [if_neg c30] at H
          exact absurd H (by simp)
       ·rw [if_neg c17] at H
        exact absurd H (by simp)
      ·rw [if_neg c16] at H
       have c16b0 : decide (x9_2 < (l0_0.length : Int)) = false := decide_eq_false c16
       clear c16
       replace H := Option.bind_eq_some_iff.mp H
       obtain ⟨t167, A360, H⟩ := H
       replace H : (if x8_2 = true then (if t167.toList = x7_2.toList then (if 0 < (l0_0.length : Int) then (if (t167.size : Int) < (wrap64 ((((rd_T34 l0_0 0).f0).size : Int) + 2)) then (none) else (if 0 ≤ (((rd_T34 l0_0 0).f0).size : Int) then (if (((rd_T34 l0_0 0).f0).size : Int) ≤ (t167.size : Int) then (if (t167.extract 0 ((((rd_T34 l0_0 0).f0).size : Int) : Int).toNat).toList = ((rd_T34 l0_0 0).f0).toList then (if a1 < 0 then (some true) else (if a1 ≥ (l0_0.length : Int) then (some true) else (if 0 ≤ a1 then (if a1 < (l0_0.length : Int) then ((schema_Find.f l0_0 ((rd_T34 l0_0 a1).f0)).bind fun t172 => (some (t172 == a1))) else (none)) else (none)))) else (none)) else (none)) else (none))) else (none)) else (none)) else (if 0 < (l0_0.length : Int) then (if (t167.size : Int) < (wrap64 ((((rd_T34 l0_0 0).f0).size : Int) + 2)) then (none) else (if 0 ≤ (((rd_T34 l0_0 0).f0).size : Int) then (if (((rd_T34 l0_0 0).f0).size : Int) ≤ (t167.size : Int) then (if (t167.extract 0 ((((rd_T34 l0_0 0).f0).size : Int) : Int).toNat).toList = ((rd_T34 l0_0 0).f0).toList then (if a1 < 0 then (some true) else (if a1 ≥ (l0_0.length : Int) then (some true) else (if 0 ≤ a1 then (if a1 < (l0_0.length : Int) then ((schema_Find.f l0_0 ((rd_T34 l0_0 a1).f0)).bind fun t177 => (some (t177 == a1))) else (none)) else (none)))) else (none)) else (none)) else (none))) else (none))) = some r := H
       have A36 := Aside0.mk A360
       clear A360
       by_cases c37 : x8_2 = true
       ·subst c37
        have H1 : (if t167.toList = x7_2.toList then (if 0 < (l0_0.length : Int) then (if (t167.size : Int) < (wrap64 ((((rd_T34 l0_0 0).f0).size : Int) + 2)) then (none) else (if 0 ≤ (((rd_T34 l0_0 0).f0).size : Int) then (if (((rd_T34 l0_0 0).f0).size : Int) ≤ (t167.size : Int) then (if (t167.extract 0 ((((rd_T34 l0_0 0).f0).size : Int) : Int).toNat).toList = ((rd_T34 l0_0 0).f0).toList then (if a1 < 0 then (some true) else (if a1 ≥ (l0_0.length : Int) then (some true) else (if 0 ≤ a1 then (if a1 < (l0_0.length : Int) then ((schema_Find.f l0_0 ((rd_T34 l0_0 a1).f0)).bind fun t172 => (some (t172 == a1))) else (none)) else (none)))) else (none)) else (none)) else (none))) else (none)) else (none)) = some r := by rw [if_pos rfl] at H; exact H
        clear H
        have H := H1
        clear H1
        by_cases c38 : t167.toList = x7_2.toList
        ·rw [if_pos c38] at H
         have c38b0 : (t167.toList == x7_2.toList) = true := beq_iff_eq.mpr c38
         have c38b1 : (t167.toList != x7_2.toList) = false := bne_eq_false_iff_eq.mpr c38
         clear c38
         by_cases c39 : 0 < (l0_0.length : Int)
         ·rw [if_pos c39] at H
          have c39b0 : decide (0 < (l0_0.length : Int)) = true := decide_eq_true c39
          have c39b1 : decide (0 < l0_0.length) = true := decide_eq_true (by omega)
          clear c39
          by_cases c40 : (t167.size : Int) < (wrap64 ((((rd_T34 l0_0 0).f0).size : Int) + 2))
          ·rw [if_pos c40] at H
           have c40b0 : decide ((t167.size : Int) < (wrap64 ((((rd_T34 l0_0 0).f0).size : Int) + 2))) = true := decide_eq_true c40
           clear c40
           exact absurd H (by simp)
          ·rw [if_neg c40] at H
           have c40b0 : decide ((t167.size : Int) < (wrap64 ((((rd_T34 l0_0 0).f0).size : Int) + 2))) = false := decide_eq_false c40
           clear c40
           by_cases c41 : 0 ≤ (((rd_T34 l0_0 0).f0).size : Int)
           ·rw [if_pos c41] at H
            have c41b0 := eq_true c41
            have c41b1 : decide (0 ≤ (((rd_T34 l0_0 0).f0).size : Int)) = true := decide_eq_true c41
            clear c41
            by_cases c42 : (((rd_T34 l0_0 0).f0).size : Int) ≤ (t167.size : Int)
            ·rw [if_pos c42] at H
             have c42b0 := eq_true c42
             have c42b1 : decide ((((rd_T34 l0_0 0).f0).size : Int) ≤ (t167.size : Int)) = true := decide_eq_true c42
             clear c42
             by_cases c43 : (t167.extract 0 ((((rd_T34 l0_0 0).f0).size : Int) : Int).toNat).toList = ((rd_T34 l0_0 0).f0).toList
             ·rw [if_pos c43] at H
              have c43b0 : ((t167.extract 0 ((((rd_T34 l0_0 0).f0).size : Int) : Int).toNat).toList == ((rd_T34 l0_0 0).f0).toList) = true := beq_iff_eq.mpr c43
              have c43z_ : ((t167.extract 0 (((rd_T34 l0_0 0).f0).size)).toList == ((rd_T34 l0_0 0).f0).toList) = true := c43b0
              have c43b1 : ((t167.extract 0 ((((rd_T34 l0_0 0).f0).size : Int) : Int).toNat).toList != ((rd_T34 l0_0 0).f0).toList) = false := bne_eq_false_iff_eq.mpr c43
              clear c43
              by_cases c44 : a1 < 0
              ·rw [if_pos c44] at H
               have c44b0 : decide (a1 < 0) = true := decide_eq_true c44
               clear c44
               obtain rfl := Option.some.inj H
               have hcz45_0 : wr.cell? ⟨gb158, 0, none⟩ = some (.slice A0_0 l0_0.length c0_0) := (blk_cell BK158.out 0).trans rfl
               have hfz45_0 := blk_frozen BK158.out 0
               try go_wp2_with (first | ((with_reducible refine gate_callee (f := 19) rfl ?_); refine goesL_ (some 51) rfl rfl Try.func19 (by kernel_rfl) rfl #[.agg #[.slice A0_0 l0_0.length c0_0]] rfl (by (try simp only [List.map_toArray, List.map_cons, List.map_nil]); first | done | rfl | (simp only [List.length_drop, List.length_take]; rfl)) ?_; (with_reducible refine (schema_Text.calls k2 _ _ l0_0 t167 _ ?side1 ?side2 A36.out).mono ?_); (case side1 => repeat (first | exact (Kd.C_below HR0_0.out HB.out) | (with_reducible first | refine ca9_ ?_ _ | refine cn9_ ?_ _ | refine cd9_ ?_))); (case side2 => exact HC0_0.out); rintro e w46 ⟨rfl, hb⟩; refine ⟨_, rfl, ?_⟩; have n0_ := am9_ (blk_below (g := gb158) (o := .cells #[.slice A0_0 l0_0.length c0_0] 24 (0, 0)) (by (with_reducible repeat (first | refine blk_drewN ?_ _ | refine blk_drew ?_ | refine blk_alloc ?_ _)); exact BK158.out) hb); have n1_ := am9_ (below_step (by repeat (first | (with_reducible first | exact HB.out | apply below_alloc | apply pw_below_drewN | apply below_drew1 | refine below_set ?_ GE158.out) | exact HB.out)) hb); clear BK158; clear HB; have BK158 := n0_; have HB := n1_; clear n0_ n1_; (try clear hb); (try clear hb2); (try clear hk); (try clear hi)))
               have n0_ := am9_ (blk_drew BK158.out)
               have n1_ := am9_ (below_drew1 HB.out)
               clear BK158
               clear HB
               have BK158 := n0_
               have HB := n1_
               clear n0_ n1_
               have p168 : 0 ≤ (0 : Int) := (by omega)
               have q168 : 0 < (l0_0.length : Int) := of_decide_eq_true (by first | (with_reducible assumption) | assumption)
               obtain ⟨ad168, A168_1, c168_1, e168, hx168_0, hx168_1, hl168_1, hi168_1⟩ := at_T34 HR0_0.out 0 p168 q168
               have hw168_1 := hx168_1
               (try rw [show ((0 : Int)).toNat = 0 from rfl] at hw168_1)
               (try rw [show 0 * 2 = 0 from rfl] at hw168_1)
               (try rw [Addr.add_zero'] at hw168_1)
               have hw168_0 := hx168_0
               (try rw [show ((0 : Int)).toNat = 0 from rfl] at hw168_0)
               (try rw [show 0 * 2 = 0 from rfl] at hw168_0)
               (try rw [Addr.add_zero'] at hw168_0)
               cases e168
               have qi168 : (0 < l0_0.length) = True := eq_true (by omega)
               (try rw [show ((0 : Int)).toNat = 0 from rfl] at hx168_0)
               (try rw [show 0 * 2 = 0 from rfl] at hx168_0)
               (try rw [Addr.add_zero'] at hx168_0)
               (try rw [show ((0 : Int)).toNat = 0 from rfl] at hx168_1)
               (try rw [show 0 * 2 = 0 from rfl] at hx168_1)
               (try rw [Addr.add_zero'] at hx168_1)
               replace hx168_0 := (HB.out.cell (World.block_lt_of_cell? w _ hx168_0)).trans hx168_0
               replace hx168_1 := (HB.out.cell (World.block_lt_of_cell? w _ hx168_1)).trans hx168_1
               have HR168_1 := Aside0.mk hi168_1
               have HC168_1 := Aside0.mk hl168_1
               clear hi168_1 hl168_1
               replace p168 := eq_true p168
               replace q168 := eq_true q168
               have p169 : 0 ≤ (0 : Int) := (by omega)
               have q169 : 0 < (l0_0.length : Int) := of_decide_eq_true (by first | (with_reducible assumption) | assumption)
               obtain ⟨ad169, A169_1, c169_1, e169, hx169_0, hx169_1, hl169_1, hi169_1⟩ := at_T34 HR0_0.out 0 p169 q169
               have hw169_1 := hx169_1
               (try rw [show ((0 : Int)).toNat = 0 from rfl] at hw169_1)
               (try rw [show 0 * 2 = 0 from rfl] at hw169_1)
               (try rw [Addr.add_zero'] at hw169_1)
               have hw169_0 := hx169_0
               (try rw [show ((0 : Int)).toNat = 0 from rfl] at hw169_0)
               (try rw [show 0 * 2 = 0 from rfl] at hw169_0)
               (try rw [Addr.add_zero'] at hw169_0)
               obtain rfl : ad168 = ad169 := (by injection e169)
               have qi169 : (0 < l0_0.length) = True := eq_true (by omega)
               (try rw [show ((0 : Int)).toNat = 0 from rfl] at hx169_0)
               (try rw [show 0 * 2 = 0 from rfl] at hx169_0)
               (try rw [Addr.add_zero'] at hx169_0)
               (try rw [show ((0 : Int)).toNat = 0 from rfl] at hx169_1)
               (try rw [show 0 * 2 = 0 from rfl] at hx169_1)
               (try rw [Addr.add_zero'] at hx169_1)
               replace hx169_0 := (HB.out.cell (World.block_lt_of_cell? w _ hx169_0)).trans hx169_0
               replace hx169_1 := (HB.out.cell (World.block_lt_of_cell? w _ hx169_1)).trans hx169_1
               have HR169_1 := Aside0.mk hi169_1
               have HC169_1 := Aside0.mk hl169_1
               clear hi169_1 hl169_1
               replace p169 := eq_true p169
               replace q169 := eq_true q169
               have ea_ := Option.some.inj (hx168_1.symm.trans hx169_1)
               injection ea_ with ea_ en_ ec_
               subst ea_
               subst ec_
               clear en_
               have p170 : 0 ≤ (0 : Int) := (by omega)
               have q170 : 0 < (l0_0.length : Int) := of_decide_eq_true (by first | (with_reducible assumption) | assumption)
               obtain ⟨ad170, A170_1, c170_1, e170, hx170_0, hx170_1, hl170_1, hi170_1⟩ := at_T34 HR0_0.out 0 p170 q170
               have hw170_1 := hx170_1
               (try rw [show ((0 : Int)).toNat = 0 from rfl] at hw170_1)
               (try rw [show 0 * 2 = 0 from rfl] at hw170_1)
               (try rw [Addr.add_zero'] at hw170_1)
               have hw170_0 := hx170_0
               (try rw [show ((0 : Int)).toNat = 0 from rfl] at hw170_0)
               (try rw [show 0 * 2 = 0 from rfl] at hw170_0)
               (try rw [Addr.add_zero'] at hw170_0)
               obtain rfl : ad168 = ad170 := (by injection e170)
               have qi170 : (0 < l0_0.length) = True := eq_true (by omega)
               (try rw [show ((0 : Int)).toNat = 0 from rfl] at hx170_0)
               (try rw [show 0 * 2 = 0 from rfl] at hx170_0)
               (try rw [Addr.add_zero'] at hx170_0)
               (try rw [show ((0 : Int)).toNat = 0 from rfl] at hx170_1)
               (try rw [show 0 * 2 = 0 from rfl] at hx170_1)
               (try rw [Addr.add_zero'] at hx170_1)
               replace hx170_0 := (HB.out.cell (World.block_lt_of_cell? w _ hx170_0)).trans hx170_0
               replace hx170_1 := (HB.out.cell (World.block_lt_of_cell? w _ hx170_1)).trans hx170_1
               have HR170_1 := Aside0.mk hi170_1
               have HC170_1 := Aside0.mk hl170_1
               clear hi170_1 hl170_1
               replace p170 := eq_true p170
               replace q170 := eq_true q170
               have ea_ := Option.some.inj (hx168_1.symm.trans hx170_1)
               injection ea_ with ea_ en_ ec_
               subst ea_
               subst ec_
               clear en_
               refine start_ (n := 34) (S := fun w' => w'.cell? ⟨gb158, 0, none⟩ = some (.slice (some ad168) l0_0.length c0_0) ∧ w'.cell? ad168 = some (.string ((rd_T34 l0_0 0).f0)) ∧ w'.cell? ⟨ad168.block, ad168.off + 1, none⟩ = some (.slice A168_1 ((rd_T34 l0_0 0).f1).length c168_1) ∧ w'.cell? ad168 = some (.string ((rd_T34 l0_0 0).f0)) ∧ w'.cell? ⟨ad168.block, ad168.off + 1, none⟩ = some (.slice A168_1 ((rd_T34 l0_0 0).f1).length c168_1) ∧ w'.cell? ad168 = some (.string ((rd_T34 l0_0 0).f0)) ∧ w'.cell? ⟨ad168.block, ad168.off + 1, none⟩ = some (.slice A168_1 ((rd_T34 l0_0 0).f1).length c168_1)) (ds := []) B9_0 (by kernel_rfl) rfl rfl ⟨(blk_cell BK158.out 0).trans rfl, ((HB.out.cell (World.block_lt_of_cell? w _ hw168_0)).trans hw168_0), ((HB.out.cell (World.block_lt_of_cell? w _ hw168_1)).trans hw168_1), ((HB.out.cell (World.block_lt_of_cell? w _ hw169_0)).trans hw169_0), ((HB.out.cell (World.block_lt_of_cell? w _ hw169_1)).trans hw169_1), ((HB.out.cell (World.block_lt_of_cell? w _ hw170_0)).trans hw170_0), ((HB.out.cell (World.block_lt_of_cell? w _ hw170_1)).trans hw170_1)⟩ (fun hHeld => ?_); refine with_tabW foliatelaw06_SchemaParts.tab14 foliatelaw06_SchemaParts.bits14 (fun HT_ HW_ => ?_)
               generalize w46.drew = w47 at BK158 HB HR168_1 HR169_1 HR170_1 hx168_0 hx168_1 hx169_0 hx169_1 hx170_0 hx170_1 hHeld ⊢
               refine pure_ (i := 0) (N := some 52) (v := ?_) (a' := ?_) B9_2 rfl rfl (any_of HT_.out (by kernel_rfl)) (fun _ _ _ h => h) (Or.inl ⟨by rfl, ?_⟩) ?_ ?_; rotate_left; (·intro w'; go_simp; with_reducible rfl); rotate_left; (·simp only [Act.put, q1_9, q2_9, q3_9, i64_w, i32_w]; rfl)
               refine pure_ (i := 1) (N := some 53) (v := ?_) (a' := ?_) B9_4 rfl rfl (any_of HT_.out (by kernel_rfl)) (fun _ _ _ h => h) (Or.inl ⟨by rfl, ?_⟩) ?_ ?_; rotate_left; (·intro w'; go_simp; with_reducible rfl); rotate_left; (·simp only [Act.put, q1_9, q2_9, q3_9, i64_w, i32_w]; rfl)
               refine pure_ (i := 2) (N := some 54) (v := ?_) (a' := ?_) B9_6 rfl rfl (any_of HT_.out (by kernel_rfl)) (fun _ _ _ h => h) (Or.inl ⟨by rfl, ?_⟩) ?_ ?_; rotate_left; (·intro w'; go_simp; with_reducible rfl); rotate_left; (·simp only [Act.put, q1_9, q2_9, q3_9, i64_w, i32_w]; rfl)
               refine pure_ (i := 3) (N := some 55) (v := ?_) (a' := ?_) B9_8 rfl rfl (any_of HT_.out (by kernel_rfl)) (fun _ _ _ h => h) (Or.inl ⟨by rfl, ?_⟩) ?_ ?_; rotate_left; (·intro w'; go_simp; with_reducible rfl); rotate_left; (·simp only [Act.put, q1_9, q2_9, q3_9, i64_w, i32_w]; rfl)
               refine pure_ (i := 4) (N := some 56) (v := ?_) (a' := ?_) B9_10 rfl rfl (any_of HT_.out (by kernel_rfl)) (fun _ _ _ h => h) (Or.inl ⟨by rfl, ?_⟩) ?_ ?_; rotate_left; (·intro w'; go_simp; with_reducible rfl); rotate_left; (·simp only [Act.put, q1_9, q2_9, q3_9, i64_w, i32_w]; rfl)
               refine pure_ (i := 5) (N := some 57) (v := ?_) (a' := ?_) B9_12 rfl rfl (any_of HT_.out (by kernel_rfl)) (fun _ _ _ h => h) (Or.inl ⟨by rfl, ?_⟩) ?_ ?_; rotate_left; (·intro w'; go_simp; with_reducible rfl); rotate_left; (·simp only [Act.put, q1_9, q2_9, q3_9, i64_w, i32_w]; rfl)
               refine pure_ (i := 6) (N := some 58) (v := ?_) (a' := ?_) B9_14 rfl rfl (any_of HT_.out (by kernel_rfl)) (fun _ _ _ h => h) (Or.inl ⟨by rfl, ?_⟩) ?_ ?_; rotate_left; (·intro w'; go_simp; with_reducible rfl); rotate_left; (·simp only [Act.put, q1_9, q2_9, q3_9, i64_w, i32_w]; rfl)
               refine pure_ (i := 7) (N := some 59) (v := ?_) (a' := ?_) B9_16 rfl rfl (any_of HT_.out (by kernel_rfl)) (fun _ _ _ h => h) (Or.inl ⟨by rfl, ?_⟩) ?_ ?_; rotate_left; (·intro w'; go_simp; with_reducible rfl); rotate_left; (·simp only [Act.put, q1_9, q2_9, q3_9, i64_w, i32_w]; rfl)
               refine pure_ (i := 8) (N := some 60) (v := ?_) (a' := ?_) B9_18 rfl rfl (any_of HT_.out (by kernel_rfl)) (fun _ _ _ h => h) (Or.inl ⟨by rfl, ?_⟩) ?_ ?_; rotate_left; (·intro w'; go_simp; with_reducible rfl); rotate_left; (·simp only [Act.put, q1_9, q2_9, q3_9, i64_w, i32_w]; rfl)
               refine pure_ (i := 9) (N := some 61) (v := ?_) (a' := ?_) B9_20 rfl rfl (any_of HT_.out (by kernel_rfl)) (fun _ _ _ h => h) (Or.inl ⟨by rfl, ?_⟩) ?_ ?_; rotate_left; (·intro w'; go_simp; with_reducible rfl); rotate_left; (·simp only [Act.put, q1_9, q2_9, q3_9, i64_w, i32_w]; rfl)
               refine take_ (i := 10) (N := some 62) (v := ?_) (a' := ?_) B9_22 rfl rfl (take_ofW HT_.out HW_.out (by kernel_rfl)) (fun _ _ _ h => h) (Or.inl ⟨by rfl, ?_⟩) hHeld ?_ ?_
               rotate_left
               ·rintro w' ⟨s0, s1, s2, s3, s4, s5, s6⟩
                go_simp
                with_reducible rfl
               rotate_left
               ·simp only [Act.put, q1_9, q2_9, q3_9, i64_w, i32_w]
                rfl
               refine pure_ (i := 11) (N := some 63) (v := ?_) (a' := ?_) B9_24 rfl rfl (any_of HT_.out (by kernel_rfl)) (fun _ _ _ h => h) (Or.inl ⟨by rfl, ?_⟩) ?_ ?_; rotate_left; (·intro w'; go_simp; with_reducible rfl); rotate_left; (·simp only [Act.put, q1_9, q2_9, q3_9, i64_w, i32_w]; rfl)
               refine pure_ (i := 12) (N := some 64) (v := ?_) (a' := ?_) B9_26 rfl rfl (any_of HT_.out (by kernel_rfl)) (fun _ _ _ h => h) (Or.inl ⟨by rfl, ?_⟩) ?_ ?_; rotate_left; (·intro w'; go_simp; with_reducible rfl); rotate_left; (·simp only [Act.put, q1_9, q2_9, q3_9, i64_w, i32_w]; rfl)
               refine take_ (i := 13) (N := some 65) (v := ?_) (a' := ?_) B9_28 rfl rfl (take_ofW HT_.out HW_.out (by kernel_rfl)) (fun _ _ _ h => h) (Or.inl ⟨by rfl, ?_⟩) hHeld ?_ ?_
               rotate_left
               ·rintro w' ⟨s0, s1, s2, s3, s4, s5, s6⟩
                go_simp
                with_reducible rfl
               rotate_left
               ·simp only [Act.put, q1_9, q2_9, q3_9, i64_w, i32_w]
                rfl
               refine pure_ (i := 14) (N := some 66) (v := ?_) (a' := ?_) B9_30 rfl rfl (any_of HT_.out (by kernel_rfl)) (fun _ _ _ h => h) (Or.inl ⟨by rfl, ?_⟩) ?_ ?_; rotate_left; (·intro w'; go_simp; with_reducible rfl); rotate_left; (·simp only [Act.put, q1_9, q2_9, q3_9, i64_w, i32_w]; rfl)
               refine pure_ (i := 15) (N := some 67) (v := ?_) (a' := ?_) B9_32 rfl rfl (any_of HT_.out (by kernel_rfl)) (fun _ _ _ h => h) (Or.inl ⟨by rfl, ?_⟩) ?_ ?_; rotate_left; (·intro w'; go_simp; with_reducible rfl); rotate_left; (·simp only [Act.put, q1_9, q2_9, q3_9, i64_w, i32_w]; rfl)
               refine pure_ (i := 16) (N := some 68) (v := ?_) (a' := ?_) B9_34 rfl rfl (any_of HT_.out (by kernel_rfl)) (fun _ _ _ h => h) (Or.inl ⟨by rfl, ?_⟩) ?_ ?_; rotate_left; (·intro w'; go_simp; with_reducible rfl); rotate_left; (·simp only [Act.put, q1_9, q2_9, q3_9, i64_w, i32_w]; rfl)
               refine pure_ (i := 17) (N := some 69) (v := ?_) (a' := ?_) B9_36 rfl rfl (any_of HT_.out (by kernel_rfl)) (fun _ _ _ h => h) (Or.inl ⟨by rfl, ?_⟩) ?_ ?_; rotate_left; (·intro w'; go_simp; with_reducible rfl); rotate_left; (·simp only [Act.put, q1_9, q2_9, q3_9, i64_w, i32_w]; rfl)
               refine pure_ (i := 18) (N := some 70) (v := ?_) (a' := ?_) B9_38 rfl rfl (any_of HT_.out (by kernel_rfl)) (fun _ _ _ h => h) (Or.inl ⟨by rfl, ?_⟩) ?_ ?_; rotate_left; (·intro w'; go_simp; with_reducible rfl); rotate_left; (·simp only [Act.put, q1_9, q2_9, q3_9, i64_w, i32_w]; rfl)
               refine pure_ (i := 19) (N := some 71) (v := ?_) (a' := ?_) B9_40 rfl rfl (any_of HT_.out (by kernel_rfl)) (fun _ _ _ h => h) (Or.inl ⟨by rfl, ?_⟩) ?_ ?_; rotate_left; (·intro w'; go_simp; with_reducible rfl); rotate_left; (·simp only [Act.put, q1_9, q2_9, q3_9, i64_w, i32_w]; rfl)
               refine pure_ (i := 20) (N := some 72) (v := ?_) (a' := ?_) B9_42 rfl rfl (any_of HT_.out (by kernel_rfl)) (fun _ _ _ h => h) (Or.inl ⟨by rfl, ?_⟩) ?_ ?_; rotate_left; (·intro w'; go_simp; with_reducible rfl); rotate_left; (·simp only [Act.put, q1_9, q2_9, q3_9, i64_w, i32_w]; rfl)
               refine pure_ (i := 27) (N := some 79) (v := ?_) (a' := ?_) B9_43 rfl rfl (any_of HT_.out (by kernel_rfl)) (fun _ _ _ h => h) (Or.inl ⟨by rfl, ?_⟩) ?_ ?_; rotate_left; (·intro w'; go_simp; with_reducible rfl); rotate_left; (·simp only [Act.put, q1_9, q2_9, q3_9, i64_w, i32_w]; rfl)
               refine take_ (i := 21) (N := some 73) (v := ?_) (a' := ?_) B9_45 rfl rfl (take_ofW HT_.out HW_.out (by kernel_rfl)) (fun _ _ _ h => h) (Or.inl ⟨by rfl, ?_⟩) hHeld ?_ ?_
               rotate_left
               ·rintro w' ⟨s0, s1, s2, s3, s4, s5, s6⟩
                go_simp
                with_reducible rfl
               rotate_left
               ·simp only [Act.put, q1_9, q2_9, q3_9, i64_w, i32_w]
                rfl
               refine pure_ (i := 22) (N := some 74) (v := ?_) (a' := ?_) B9_46 rfl rfl (any_of HT_.out (by kernel_rfl)) (fun _ _ _ h => h) (Or.inl ⟨by rfl, ?_⟩) ?_ ?_; rotate_left; (·intro w'; go_simp; with_reducible rfl); rotate_left; (·simp only [Act.put, q1_9, q2_9, q3_9, i64_w, i32_w]; rfl)
               refine pure_ (i := 23) (N := some 75) (v := ?_) (a' := ?_) B9_47 rfl rfl (any_of HT_.out (by kernel_rfl)) (fun _ _ _ h => h) (Or.inl ⟨by rfl, ?_⟩) ?_ ?_; rotate_left; (·intro w'; go_simp; with_reducible rfl); rotate_left; (·simp only [Act.put, q1_9, q2_9, q3_9, i64_w, i32_w]; rfl)
               refine take_ (i := 24) (N := some 76) (v := ?_) (a' := ?_) B9_48 rfl rfl (take_ofW HT_.out HW_.out (by kernel_rfl)) (fun _ _ _ h => h) (Or.inl ⟨by rfl, ?_⟩) hHeld ?_ ?_
               rotate_left
               ·rintro w' ⟨s0, s1, s2, s3, s4, s5, s6⟩
                go_simp
                with_reducible rfl
               rotate_left
               ·simp only [Act.put, q1_9, q2_9, q3_9, i64_w, i32_w]
                rfl
               refine pure_ (i := 25) (N := some 77) (v := ?_) (a' := ?_) B9_49 rfl rfl (any_of HT_.out (by kernel_rfl)) (fun _ _ _ h => h) (Or.inl ⟨by rfl, ?_⟩) ?_ ?_; rotate_left; (·intro w'; go_simp; with_reducible rfl); rotate_left; (·simp only [Act.put, q1_9, q2_9, q3_9, i64_w, i32_w]; rfl)
               refine pure_ (i := 26) (N := some 78) (v := ?_) (a' := ?_) B9_50 rfl rfl (any_of HT_.out (by kernel_rfl)) (fun _ _ _ h => h) (Or.inl ⟨by rfl, ?_⟩) ?_ ?_; rotate_left; (·intro w'; go_simp; with_reducible rfl); rotate_left; (·simp only [Act.put, q1_9, q2_9, q3_9, i64_w, i32_w]; rfl)
               refine take_ (i := 28) (N := some 80) (v := ?_) (a' := ?_) B9_51 rfl rfl (take_ofW HT_.out HW_.out (by kernel_rfl)) (fun _ _ _ h => h) (Or.inl ⟨by rfl, ?_⟩) hHeld ?_ ?_
               rotate_left
               ·rintro w' ⟨s0, s1, s2, s3, s4, s5, s6⟩
                go_simp
                with_reducible rfl
               rotate_left
               ·simp only [Act.put, q1_9, q2_9, q3_9, i64_w, i32_w]
                rfl
               refine pure_ (i := 29) (N := some 81) (v := ?_) (a' := ?_) B9_52 rfl rfl (any_of HT_.out (by kernel_rfl)) (fun _ _ _ h => h) (Or.inl ⟨by rfl, ?_⟩) ?_ ?_; rotate_left; (·intro w'; go_simp; with_reducible rfl); rotate_left; (·simp only [Act.put, q1_9, q2_9, q3_9, i64_w, i32_w]; rfl)
               refine pure_ (i := 30) (N := some 82) (v := ?_) (a' := ?_) B9_53 rfl rfl (any_of HT_.out (by kernel_rfl)) (fun _ _ _ h => h) (Or.inl ⟨by rfl, ?_⟩) ?_ ?_; rotate_left; (·intro w'; go_simp; with_reducible rfl); rotate_left; (·simp only [Act.put, q1_9, q2_9, q3_9, i64_w, i32_w]; rfl)
               refine take_ (i := 31) (N := some 83) (v := ?_) (a' := ?_) B9_54 rfl rfl (take_ofW HT_.out HW_.out (by kernel_rfl)) (fun _ _ _ h => h) (Or.inl ⟨by rfl, ?_⟩) hHeld ?_ ?_
               rotate_left
               ·rintro w' ⟨s0, s1, s2, s3, s4, s5, s6⟩
                go_simp
                with_reducible rfl
               rotate_left
               ·simp only [Act.put, q1_9, q2_9, q3_9, i64_w, i32_w]
                rfl
               refine pure_ (i := 32) (N := some 84) (v := ?_) (a' := ?_) B9_55 rfl rfl (any_of HT_.out (by kernel_rfl)) (fun _ _ _ h => h) (Or.inl ⟨by rfl, ?_⟩) ?_ ?_; rotate_left; (·intro w'; go_simp; with_reducible rfl); rotate_left; (·simp only [Act.put, q1_9, q2_9, q3_9, i64_w, i32_w]; rfl)
               refine pure_ (i := 33) (N := some 85) (v := ?_) (a' := ?_) B9_56 rfl rfl (any_of HT_.out (by kernel_rfl)) (fun _ _ _ h => h) (Or.inl ⟨by rfl, ?_⟩) ?_ ?_; rotate_left; (·intro w'; go_simp; with_reducible rfl); rotate_left; (·simp only [Act.put, q1_9, q2_9, q3_9, i64_w, i32_w]; rfl)
               refine done_ (done_of HT_.out (by kernel_rfl)) ?_
               try go_wp2
               have n0_ := am9_ (blk_drew BK158.out)
               have n1_ := am9_ (below_drew1 HB.out)
               clear BK158
               clear HB
               have BK158 := n0_
               have HB := n1_
               clear n0_ n1_
               refine start_ (n := 22) (S := fun w' => True) (ds := []) B9_1 (by kernel_rfl) rfl rfl trivial (fun hHeld => ?_); refine with_tabW foliatelaw06_SchemaParts.tab16 foliatelaw06_SchemaParts.bits16 (fun HT_ HW_ => ?_)
               generalize w47.drew = w48 at BK158 HB hHeld ⊢
               refine pure_ (i := 0) (N := some 86) (v := ?_) (a' := ?_) B9_3 rfl rfl (any_of HT_.out (by kernel_rfl)) (fun _ _ _ h => h) (Or.inl ⟨by rfl, ?_⟩) ?_ ?_; rotate_left; (·intro w'; go_simp; with_reducible rfl); rotate_left; (·simp only [Act.put, q1_9, q2_9, q3_9, i64_w, i32_w]; rfl)
               refine pure_ (i := 1) (N := some 87) (v := ?_) (a' := ?_) B9_5 rfl rfl (any_of HT_.out (by kernel_rfl)) (fun _ _ _ h => h) (Or.inl ⟨by rfl, ?_⟩) ?_ ?_; rotate_left; (·intro w'; go_simp; with_reducible rfl); rotate_left; (·simp only [Act.put, q1_9, q2_9, q3_9, i64_w, i32_w]; rfl)
               refine pure_ (i := 2) (N := some 88) (v := ?_) (a' := ?_) B9_7 rfl rfl (any_of HT_.out (by kernel_rfl)) (fun _ _ _ h => h) (Or.inl ⟨by rfl, ?_⟩) ?_ ?_; rotate_left; (·intro w'; go_simp; with_reducible rfl); rotate_left; (·simp only [Act.put, q1_9, q2_9, q3_9, i64_w, i32_w]; rfl)
               refine pure_ (i := 3) (N := some 89) (v := undef) (a' := ?_) B9_9 rfl rfl (any_of HT_.out (by kernel_rfl)) (fun _ _ _ h => h) (Or.inr ⟨by rfl, rfl⟩) ?_ ?_
               rotate_left
               ·simp only [Act.put, q1_9, q2_9, q3_9, i64_w, i32_w]
                rfl
               refine pure_ (i := 4) (N := some 90) (v := undef) (a' := ?_) B9_11 rfl rfl (any_of HT_.out (by kernel_rfl)) (fun _ _ _ h => h) (Or.inr ⟨by rfl, rfl⟩) ?_ ?_
               rotate_left
               ·simp only [Act.put, q1_9, q2_9, q3_9, i64_w, i32_w]
                rfl
               refine pure_ (i := 5) (N := some 91) (v := undef) (a' := ?_) B9_13 rfl rfl (any_of HT_.out (by kernel_rfl)) (fun _ _ _ h => h) (Or.inr ⟨by rfl, rfl⟩) ?_ ?_
               rotate_left
               ·simp only [Act.put, q1_9, q2_9, q3_9, i64_w, i32_w]
                rfl
               refine pure_ (i := 6) (N := some 92) (v := undef) (a' := ?_) B9_15 rfl rfl (any_of HT_.out (by kernel_rfl)) (fun _ _ _ h => h) (Or.inr ⟨by rfl, rfl⟩) ?_ ?_
               rotate_left
               ·simp only [Act.put, q1_9, q2_9, q3_9, i64_w, i32_w]
                rfl
               refine pure_ (i := 7) (N := some 93) (v := undef) (a' := ?_) B9_17 rfl rfl (any_of HT_.out (by kernel_rfl)) (fun _ _ _ h => h) (Or.inr ⟨by rfl, rfl⟩) ?_ ?_
               rotate_left
               ·simp only [Act.put, q1_9, q2_9, q3_9, i64_w, i32_w]
                rfl
               refine pure_ (i := 8) (N := some 94) (v := ?_) (a' := ?_) B9_19 rfl rfl (any_of HT_.out (by kernel_rfl)) (fun _ _ _ h => h) (Or.inl ⟨by rfl, ?_⟩) ?_ ?_; rotate_left; (·intro w'; go_simp; with_reducible rfl); rotate_left; (·simp only [Act.put, q1_9, q2_9, q3_9, i64_w, i32_w]; rfl)
               refine pure_ (i := 9) (N := some 95) (v := ?_) (a' := ?_) B9_21 rfl rfl (any_of HT_.out (by kernel_rfl)) (fun _ _ _ h => h) (Or.inl ⟨by rfl, ?_⟩) ?_ ?_; rotate_left; (·intro w'; go_simp; with_reducible rfl); rotate_left; (·simp only [Act.put, q1_9, q2_9, q3_9, i64_w, i32_w]; rfl)
               refine pure_ (i := 10) (N := some 96) (v := undef) (a' := ?_) B9_23 rfl rfl (any_of HT_.out (by kernel_rfl)) (fun _ _ _ h => h) (Or.inr ⟨by rfl, rfl⟩) ?_ ?_
               rotate_left
               ·simp only [Act.put, q1_9, q2_9, q3_9, i64_w, i32_w]
                rfl
               refine pure_ (i := 11) (N := some 97) (v := undef) (a' := ?_) B9_25 rfl rfl (any_of HT_.out (by kernel_rfl)) (fun _ _ _ h => h) (Or.inr ⟨by rfl, rfl⟩) ?_ ?_
               rotate_left
               ·simp only [Act.put, q1_9, q2_9, q3_9, i64_w, i32_w]
                rfl
               refine pure_ (i := 12) (N := some 98) (v := undef) (a' := ?_) B9_27 rfl rfl (any_of HT_.out (by kernel_rfl)) (fun _ _ _ h => h) (Or.inr ⟨by rfl, rfl⟩) ?_ ?_
               rotate_left
               ·simp only [Act.put, q1_9, q2_9, q3_9, i64_w, i32_w]
                rfl
               refine pure_ (i := 13) (N := some 99) (v := undef) (a' := ?_) B9_29 rfl rfl (any_of HT_.out (by kernel_rfl)) (fun _ _ _ h => h) (Or.inr ⟨by rfl, rfl⟩) ?_ ?_
               rotate_left
               ·simp only [Act.put, q1_9, q2_9, q3_9, i64_w, i32_w]
                rfl
               refine pure_ (i := 14) (N := some 100) (v := undef) (a' := ?_) B9_31 rfl rfl (any_of HT_.out (by kernel_rfl)) (fun _ _ _ h => h) (Or.inr ⟨by rfl, rfl⟩) ?_ ?_
               rotate_left
               ·simp only [Act.put, q1_9, q2_9, q3_9, i64_w, i32_w]
                rfl
               refine pure_ (i := 15) (N := some 101) (v := undef) (a' := ?_) B9_33 rfl rfl (any_of HT_.out (by kernel_rfl)) (fun _ _ _ h => h) (Or.inr ⟨by rfl, rfl⟩) ?_ ?_
               rotate_left
               ·simp only [Act.put, q1_9, q2_9, q3_9, i64_w, i32_w]
                rfl
               refine pure_ (i := 16) (N := some 102) (v := undef) (a' := ?_) B9_35 rfl rfl (any_of HT_.out (by kernel_rfl)) (fun _ _ _ h => h) (Or.inr ⟨by rfl, rfl⟩) ?_ ?_
               rotate_left
               ·simp only [Act.put, q1_9, q2_9, q3_9, i64_w, i32_w]
                rfl
               refine pure_ (i := 17) (N := some 103) (v := undef) (a' := ?_) B9_37 rfl rfl (any_of HT_.out (by kernel_rfl)) (fun _ _ _ h => h) (Or.inr ⟨by rfl, rfl⟩) ?_ ?_
               rotate_left
               ·simp only [Act.put, q1_9, q2_9, q3_9, i64_w, i32_w]
                rfl
               refine pure_ (i := 18) (N := some 104) (v := undef) (a' := ?_) B9_39 rfl rfl (any_of HT_.out (by kernel_rfl)) (fun _ _ _ h => h) (Or.inr ⟨by rfl, rfl⟩) ?_ ?_
               rotate_left
               ·simp only [Act.put, q1_9, q2_9, q3_9, i64_w, i32_w]
                rfl
               refine pure_ (i := 19) (N := some 105) (v := undef) (a' := ?_) B9_41 rfl rfl (any_of HT_.out (by kernel_rfl)) (fun _ _ _ h => h) (Or.inr ⟨by rfl, rfl⟩) ?_ ?_
               rotate_left
               ·simp only [Act.put, q1_9, q2_9, q3_9, i64_w, i32_w]
                rfl
               refine pure_ (i := 20) (N := some 106) (v := ?_) (a' := ?_) B9_44 rfl rfl (any_of HT_.out (by kernel_rfl)) (fun _ _ _ h => h) (Or.inl ⟨by rfl, ?_⟩) ?_ ?_; rotate_left; (·intro w'; go_simp; with_reducible rfl); rotate_left; (·simp only [Act.put, q1_9, q2_9, q3_9, i64_w, i32_w]; rfl)
               refine pure_ (i := 21) (N := some 4) (v := ?_) (a' := ?_) B9_57 rfl rfl (any_of HT_.out (by kernel_rfl)) (fun _ _ _ h => h) (Or.inl ⟨by rfl, ?_⟩) ?_ ?_; rotate_left; (·intro w'; go_simp; with_reducible rfl); rotate_left; (·simp only [Act.put, q1_9, q2_9, q3_9, i64_w, i32_w]; rfl)
               refine done_ (done_of HT_.out (by kernel_rfl)) ?_
               try go_wp2
               go_ret
               exact ⟨by first | rfl | (simp [errW_none, errW_some] <;> rfl) | (simp [*, errW_none, errW_some] <;> rfl), by repeat (first | (with_reducible first | exact HB.out | apply below_alloc | apply pw_below_drewN | apply below_drew1 | refine below_set ?_ GE158.out) | exact HB.out)⟩
              ·rw [if_neg c44] at H
               have c44b0 : decide (a1 < 0) = false := decide_eq_false c44
               clear c44
               by_cases c49 : a1 ≥ (l0_0.length : Int)
               ·rw [if_pos c49] at H
                have c49b0 : decide ((l0_0.length : Int) ≤ a1) = true := decide_eq_true c49
                clear c49
                obtain rfl := Option.some.inj H
                have hcz50_0 : wr.cell? ⟨gb158, 0, none⟩ = some (.slice A0_0 l0_0.length c0_0) := (blk_cell BK158.out 0).trans rfl
                have hfz50_0 := blk_frozen BK158.out 0
                try go_wp2_with (first | ((with_reducible refine gate_callee (f := 19) rfl ?_); refine goesL_ (some 51) rfl rfl Try.func19 (by kernel_rfl) rfl #[.agg #[.slice A0_0 l0_0.length c0_0]] rfl (by (try simp only [List.map_toArray, List.map_cons, List.map_nil]); first | done | rfl | (simp only [List.length_drop, List.length_take]; rfl)) ?_; (with_reducible refine (schema_Text.calls k2 _ _ l0_0 t167 _ ?side1 ?side2 A36.out).mono ?_); (case side1 => repeat (first | exact (Kd.C_below HR0_0.out HB.out) | (with_reducible first | refine ca9_ ?_ _ | refine cn9_ ?_ _ | refine cd9_ ?_))); (case side2 => exact HC0_0.out); rintro e w51 ⟨rfl, hb⟩; refine ⟨_, rfl, ?_⟩; have n0_ := am9_ (blk_below (g := gb158) (o := .cells #[.slice A0_0 l0_0.length c0_0] 24 (0, 0)) (by (with_reducible repeat (first | refine blk_drewN ?_ _ | refine blk_drew ?_ | refine blk_alloc ?_ _)); exact BK158.out) hb); have n1_ := am9_ (below_step (by repeat (first | (with_reducible first | exact HB.out | apply below_alloc | apply pw_below_drewN | apply below_drew1 | refine below_set ?_ GE158.out) | exact HB.out)) hb); clear BK158; clear HB; have BK158 := n0_; have HB := n1_; clear n0_ n1_; (try clear hb); (try clear hb2); (try clear hk); (try clear hi)))
                have n0_ := am9_ (blk_drew BK158.out)
                have n1_ := am9_ (below_drew1 HB.out)
                clear BK158
                clear HB
                have BK158 := n0_
                have HB := n1_
                clear n0_ n1_
                have p168 : 0 ≤ (0 : Int) := (by omega)
                have q168 : 0 < (l0_0.length : Int) := of_decide_eq_true (by first | (with_reducible assumption) | assumption)
                obtain ⟨ad168, A168_1, c168_1, e168, hx168_0, hx168_1, hl168_1, hi168_1⟩ := at_T34 HR0_0.out 0 p168 q168
                have hw168_1 := hx168_1
                (try rw [show ((0 : Int)).toNat = 0 from rfl] at hw168_1)
                (try rw [show 0 * 2 = 0 from rfl] at hw168_1)
                (try rw [Addr.add_zero'] at hw168_1)
                have hw168_0 := hx168_0
                (try rw [show ((0 : Int)).toNat = 0 from rfl] at hw168_0)
                (try rw [show 0 * 2 = 0 from rfl] at hw168_0)
                (try rw [Addr.add_zero'] at hw168_0)
                cases e168
                have qi168 : (0 < l0_0.length) = True := eq_true (by omega)
                (try rw [show ((0 : Int)).toNat = 0 from rfl] at hx168_0)
                (try rw [show 0 * 2 = 0 from rfl] at hx168_0)
                (try rw [Addr.add_zero'] at hx168_0)
                (try rw [show ((0 : Int)).toNat = 0 from rfl] at hx168_1)
                (try rw [show 0 * 2 = 0 from rfl] at hx168_1)
                (try rw [Addr.add_zero'] at hx168_1)
                replace hx168_0 := (HB.out.cell (World.block_lt_of_cell? w _ hx168_0)).trans hx168_0
                replace hx168_1 := (HB.out.cell (World.block_lt_of_cell? w _ hx168_1)).trans hx168_1
                have HR168_1 := Aside0.mk hi168_1
                have HC168_1 := Aside0.mk hl168_1
                clear hi168_1 hl168_1
                replace p168 := eq_true p168
                replace q168 := eq_true q168
                have p169 : 0 ≤ (0 : Int) := (by omega)
                have q169 : 0 < (l0_0.length : Int) := of_decide_eq_true (by first | (with_reducible assumption) | assumption)
                obtain ⟨ad169, A169_1, c169_1, e169, hx169_0, hx169_1, hl169_1, hi169_1⟩ := at_T34 HR0_0.out 0 p169 q169
                have hw169_1 := hx169_1
                (try rw [show ((0 : Int)).toNat = 0 from rfl] at hw169_1)
                (try rw [show 0 * 2 = 0 from rfl] at hw169_1)
                (try rw [Addr.add_zero'] at hw169_1)
                have hw169_0 := hx169_0
                (try rw [show ((0 : Int)).toNat = 0 from rfl] at hw169_0)
                (try rw [show 0 * 2 = 0 from rfl] at hw169_0)
                (try rw [Addr.add_zero'] at hw169_0)
                obtain rfl : ad168 = ad169 := (by injection e169)
                have qi169 : (0 < l0_0.length) = True := eq_true (by omega)
                (try rw [show ((0 : Int)).toNat = 0 from rfl] at hx169_0)
                (try rw [show 0 * 2 = 0 from rfl] at hx169_0)
                (try rw [Addr.add_zero'] at hx169_0)
                (try rw [show ((0 : Int)).toNat = 0 from rfl] at hx169_1)
                (try rw [show 0 * 2 = 0 from rfl] at hx169_1)
                (try rw [Addr.add_zero'] at hx169_1)
                replace hx169_0 := (HB.out.cell (World.block_lt_of_cell? w _ hx169_0)).trans hx169_0
                replace hx169_1 := (HB.out.cell (World.block_lt_of_cell? w _ hx169_1)).trans hx169_1
                have HR169_1 := Aside0.mk hi169_1
                have HC169_1 := Aside0.mk hl169_1
                clear hi169_1 hl169_1
                replace p169 := eq_true p169
                replace q169 := eq_true q169
                have ea_ := Option.some.inj (hx168_1.symm.trans hx169_1)
                injection ea_ with ea_ en_ ec_
                subst ea_
                subst ec_
                clear en_
                have p170 : 0 ≤ (0 : Int) := (by omega)
                have q170 : 0 < (l0_0.length : Int) := of_decide_eq_true (by first | (with_reducible assumption) | assumption)
                obtain ⟨ad170, A170_1, c170_1, e170, hx170_0, hx170_1, hl170_1, hi170_1⟩ := at_T34 HR0_0.out 0 p170 q170
                have hw170_1 := hx170_1
                (try rw [show ((0 : Int)).toNat = 0 from rfl] at hw170_1)
                (try rw [show 0 * 2 = 0 from rfl] at hw170_1)
                (try rw [Addr.add_zero'] at hw170_1)
                have hw170_0 := hx170_0
                (try rw [show ((0 : Int)).toNat = 0 from rfl] at hw170_0)
                (try rw [show 0 * 2 = 0 from rfl] at hw170_0)
                (try rw [Addr.add_zero'] at hw170_0)
                obtain rfl : ad168 = ad170 := (by injection e170)
                have qi170 : (0 < l0_0.length) = True := eq_true (by omega)
                (try rw [show ((0 : Int)).toNat = 0 from rfl] at hx170_0)
                (try rw [show 0 * 2 = 0 from rfl] at hx170_0)
                (try rw [Addr.add_zero'] at hx170_0)
                (try rw [show ((0 : Int)).toNat = 0 from rfl] at hx170_1)
                (try rw [show 0 * 2 = 0 from rfl] at hx170_1)
                (try rw [Addr.add_zero'] at hx170_1)
                replace hx170_0 := (HB.out.cell (World.block_lt_of_cell? w _ hx170_0)).trans hx170_0
                replace hx170_1 := (HB.out.cell (World.block_lt_of_cell? w _ hx170_1)).trans hx170_1
                have HR170_1 := Aside0.mk hi170_1
                have HC170_1 := Aside0.mk hl170_1
                clear hi170_1 hl170_1
                replace p170 := eq_true p170
                replace q170 := eq_true q170
                have ea_ := Option.some.inj (hx168_1.symm.trans hx170_1)
                injection ea_ with ea_ en_ ec_
                subst ea_
                subst ec_
                clear en_
                refine start_ (n := 34) (S := fun w' => w'.cell? ⟨gb158, 0, none⟩ = some (.slice (some ad168) l0_0.length c0_0) ∧ w'.cell? ad168 = some (.string ((rd_T34 l0_0 0).f0)) ∧ w'.cell? ⟨ad168.block, ad168.off + 1, none⟩ = some (.slice A168_1 ((rd_T34 l0_0 0).f1).length c168_1) ∧ w'.cell? ad168 = some (.string ((rd_T34 l0_0 0).f0)) ∧ w'.cell? ⟨ad168.block, ad168.off + 1, none⟩ = some (.slice A168_1 ((rd_T34 l0_0 0).f1).length c168_1) ∧ w'.cell? ad168 = some (.string ((rd_T34 l0_0 0).f0)) ∧ w'.cell? ⟨ad168.block, ad168.off + 1, none⟩ = some (.slice A168_1 ((rd_T34 l0_0 0).f1).length c168_1)) (ds := []) B9_0 (by kernel_rfl) rfl rfl ⟨(blk_cell BK158.out 0).trans rfl, ((HB.out.cell (World.block_lt_of_cell? w _ hw168_0)).trans hw168_0), ((HB.out.cell (World.block_lt_of_cell? w _ hw168_1)).trans hw168_1), ((HB.out.cell (World.block_lt_of_cell? w _ hw169_0)).trans hw169_0), ((HB.out.cell (World.block_lt_of_cell? w _ hw169_1)).trans hw169_1), ((HB.out.cell (World.block_lt_of_cell? w _ hw170_0)).trans hw170_0), ((HB.out.cell (World.block_lt_of_cell? w _ hw170_1)).trans hw170_1)⟩ (fun hHeld => ?_); refine with_tabW foliatelaw06_SchemaParts.tab14 foliatelaw06_SchemaParts.bits14 (fun HT_ HW_ => ?_)
                generalize w51.drew = w52 at BK158 HB HR168_1 HR169_1 HR170_1 hx168_0 hx168_1 hx169_0 hx169_1 hx170_0 hx170_1 hHeld ⊢
                refine pure_ (i := 0) (N := some 52) (v := ?_) (a' := ?_) B9_2 rfl rfl (any_of HT_.out (by kernel_rfl)) (fun _ _ _ h => h) (Or.inl ⟨by rfl, ?_⟩) ?_ ?_; rotate_left; (·intro w'; go_simp; with_reducible rfl); rotate_left; (·simp only [Act.put, q1_9, q2_9, q3_9, i64_w, i32_w]; rfl)
                refine pure_ (i := 1) (N := some 53) (v := ?_) (a' := ?_) B9_4 rfl rfl (any_of HT_.out (by kernel_rfl)) (fun _ _ _ h => h) (Or.inl ⟨by rfl, ?_⟩) ?_ ?_; rotate_left; (·intro w'; go_simp; with_reducible rfl); rotate_left; (·simp only [Act.put, q1_9, q2_9, q3_9, i64_w, i32_w]; rfl)
                refine pure_ (i := 2) (N := some 54) (v := ?_) (a' := ?_) B9_6 rfl rfl (any_of HT_.out (by kernel_rfl)) (fun _ _ _ h => h) (Or.inl ⟨by rfl, ?_⟩) ?_ ?_; rotate_left; (·intro w'; go_simp; with_reducible rfl); rotate_left; (·simp only [Act.put, q1_9, q2_9, q3_9, i64_w, i32_w]; rfl)
                refine pure_ (i := 3) (N := some 55) (v := ?_) (a' := ?_) B9_8 rfl rfl (any_of HT_.out (by kernel_rfl)) (fun _ _ _ h => h) (Or.inl ⟨by rfl, ?_⟩) ?_ ?_; rotate_left; (·intro w'; go_simp; with_reducible rfl); rotate_left; (·simp only [Act.put, q1_9, q2_9, q3_9, i64_w, i32_w]; rfl)
                refine pure_ (i := 4) (N := some 56) (v := ?_) (a' := ?_) B9_10 rfl rfl (any_of HT_.out (by kernel_rfl)) (fun _ _ _ h => h) (Or.inl ⟨by rfl, ?_⟩) ?_ ?_; rotate_left; (·intro w'; go_simp; with_reducible rfl); rotate_left; (·simp only [Act.put, q1_9, q2_9, q3_9, i64_w, i32_w]; rfl)
                refine pure_ (i := 5) (N := some 57) (v := ?_) (a' := ?_) B9_12 rfl rfl (any_of HT_.out (by kernel_rfl)) (fun _ _ _ h => h) (Or.inl ⟨by rfl, ?_⟩) ?_ ?_; rotate_left; (·intro w'; go_simp; with_reducible rfl); rotate_left; (·simp only [Act.put, q1_9, q2_9, q3_9, i64_w, i32_w]; rfl)
                refine pure_ (i := 6) (N := some 58) (v := ?_) (a' := ?_) B9_14 rfl rfl (any_of HT_.out (by kernel_rfl)) (fun _ _ _ h => h) (Or.inl ⟨by rfl, ?_⟩) ?_ ?_; rotate_left; (·intro w'; go_simp; with_reducible rfl); rotate_left; (·simp only [Act.put, q1_9, q2_9, q3_9, i64_w, i32_w]; rfl)
                refine pure_ (i := 7) (N := some 59) (v := ?_) (a' := ?_) B9_16 rfl rfl (any_of HT_.out (by kernel_rfl)) (fun _ _ _ h => h) (Or.inl ⟨by rfl, ?_⟩) ?_ ?_; rotate_left; (·intro w'; go_simp; with_reducible rfl); rotate_left; (·simp only [Act.put, q1_9, q2_9, q3_9, i64_w, i32_w]; rfl)
                refine pure_ (i := 8) (N := some 60) (v := ?_) (a' := ?_) B9_18 rfl rfl (any_of HT_.out (by kernel_rfl)) (fun _ _ _ h => h) (Or.inl ⟨by rfl, ?_⟩) ?_ ?_; rotate_left; (·intro w'; go_simp; with_reducible rfl); rotate_left; (·simp only [Act.put, q1_9, q2_9, q3_9, i64_w, i32_w]; rfl)
                refine pure_ (i := 9) (N := some 61) (v := ?_) (a' := ?_) B9_20 rfl rfl (any_of HT_.out (by kernel_rfl)) (fun _ _ _ h => h) (Or.inl ⟨by rfl, ?_⟩) ?_ ?_; rotate_left; (·intro w'; go_simp; with_reducible rfl); rotate_left; (·simp only [Act.put, q1_9, q2_9, q3_9, i64_w, i32_w]; rfl)
                refine take_ (i := 10) (N := some 62) (v := ?_) (a' := ?_) B9_22 rfl rfl (take_ofW HT_.out HW_.out (by kernel_rfl)) (fun _ _ _ h => h) (Or.inl ⟨by rfl, ?_⟩) hHeld ?_ ?_
                rotate_left
                ·rintro w' ⟨s0, s1, s2, s3, s4, s5, s6⟩
                 go_simp
                 with_reducible rfl
                rotate_left
                ·simp only [Act.put, q1_9, q2_9, q3_9, i64_w, i32_w]
                 rfl
                refine pure_ (i := 11) (N := some 63) (v := ?_) (a' := ?_) B9_24 rfl rfl (any_of HT_.out (by kernel_rfl)) (fun _ _ _ h => h) (Or.inl ⟨by rfl, ?_⟩) ?_ ?_; rotate_left; (·intro w'; go_simp; with_reducible rfl); rotate_left; (·simp only [Act.put, q1_9, q2_9, q3_9, i64_w, i32_w]; rfl)
                refine pure_ (i := 12) (N := some 64) (v := ?_) (a' := ?_) B9_26 rfl rfl (any_of HT_.out (by kernel_rfl)) (fun _ _ _ h => h) (Or.inl ⟨by rfl, ?_⟩) ?_ ?_; rotate_left; (·intro w'; go_simp; with_reducible rfl); rotate_left; (·simp only [Act.put, q1_9, q2_9, q3_9, i64_w, i32_w]; rfl)
                refine take_ (i := 13) (N := some 65) (v := ?_) (a' := ?_) B9_28 rfl rfl (take_ofW HT_.out HW_.out (by kernel_rfl)) (fun _ _ _ h => h) (Or.inl ⟨by rfl, ?_⟩) hHeld ?_ ?_
                rotate_left
                ·rintro w' ⟨s0, s1, s2, s3, s4, s5, s6⟩
                 go_simp
                 with_reducible rfl
                rotate_left
                ·simp only [Act.put, q1_9, q2_9, q3_9, i64_w, i32_w]
                 rfl
                refine pure_ (i := 14) (N := some 66) (v := ?_) (a' := ?_) B9_30 rfl rfl (any_of HT_.out (by kernel_rfl)) (fun _ _ _ h => h) (Or.inl ⟨by rfl, ?_⟩) ?_ ?_; rotate_left; (·intro w'; go_simp; with_reducible rfl); rotate_left; (·simp only [Act.put, q1_9, q2_9, q3_9, i64_w, i32_w]; rfl)
                refine pure_ (i := 15) (N := some 67) (v := ?_) (a' := ?_) B9_32 rfl rfl (any_of HT_.out (by kernel_rfl)) (fun _ _ _ h => h) (Or.inl ⟨by rfl, ?_⟩) ?_ ?_; rotate_left; (·intro w'; go_simp; with_reducible rfl); rotate_left; (·simp only [Act.put, q1_9, q2_9, q3_9, i64_w, i32_w]; rfl)
                refine pure_ (i := 16) (N := some 68) (v := ?_) (a' := ?_) B9_34 rfl rfl (any_of HT_.out (by kernel_rfl)) (fun _ _ _ h => h) (Or.inl ⟨by rfl, ?_⟩) ?_ ?_; rotate_left; (·intro w'; go_simp; with_reducible rfl); rotate_left; (·simp only [Act.put, q1_9, q2_9, q3_9, i64_w, i32_w]; rfl)
                refine pure_ (i := 17) (N := some 69) (v := ?_) (a' := ?_) B9_36 rfl rfl (any_of HT_.out (by kernel_rfl)) (fun _ _ _ h => h) (Or.inl ⟨by rfl, ?_⟩) ?_ ?_; rotate_left; (·intro w'; go_simp; with_reducible rfl); rotate_left; (·simp only [Act.put, q1_9, q2_9, q3_9, i64_w, i32_w]; rfl)
                refine pure_ (i := 18) (N := some 70) (v := ?_) (a' := ?_) B9_38 rfl rfl (any_of HT_.out (by kernel_rfl)) (fun _ _ _ h => h) (Or.inl ⟨by rfl, ?_⟩) ?_ ?_; rotate_left; (·intro w'; go_simp; with_reducible rfl); rotate_left; (·simp only [Act.put, q1_9, q2_9, q3_9, i64_w, i32_w]; rfl)
                refine pure_ (i := 19) (N := some 71) (v := ?_) (a' := ?_) B9_40 rfl rfl (any_of HT_.out (by kernel_rfl)) (fun _ _ _ h => h) (Or.inl ⟨by rfl, ?_⟩) ?_ ?_; rotate_left; (·intro w'; go_simp; with_reducible rfl); rotate_left; (·simp only [Act.put, q1_9, q2_9, q3_9, i64_w, i32_w]; rfl)
                refine pure_ (i := 20) (N := some 72) (v := ?_) (a' := ?_) B9_42 rfl rfl (any_of HT_.out (by kernel_rfl)) (fun _ _ _ h => h) (Or.inl ⟨by rfl, ?_⟩) ?_ ?_; rotate_left; (·intro w'; go_simp; with_reducible rfl); rotate_left; (·simp only [Act.put, q1_9, q2_9, q3_9, i64_w, i32_w]; rfl)
                refine pure_ (i := 27) (N := some 79) (v := ?_) (a' := ?_) B9_43 rfl rfl (any_of HT_.out (by kernel_rfl)) (fun _ _ _ h => h) (Or.inl ⟨by rfl, ?_⟩) ?_ ?_; rotate_left; (·intro w'; go_simp; with_reducible rfl); rotate_left; (·simp only [Act.put, q1_9, q2_9, q3_9, i64_w, i32_w]; rfl)
                refine take_ (i := 21) (N := some 73) (v := ?_) (a' := ?_) B9_45 rfl rfl (take_ofW HT_.out HW_.out (by kernel_rfl)) (fun _ _ _ h => h) (Or.inl ⟨by rfl, ?_⟩) hHeld ?_ ?_
                rotate_left
                ·rintro w' ⟨s0, s1, s2, s3, s4, s5, s6⟩
                 go_simp
                 with_reducible rfl
                rotate_left
                ·simp only [Act.put, q1_9, q2_9, q3_9, i64_w, i32_w]
                 rfl
                refine pure_ (i := 22) (N := some 74) (v := ?_) (a' := ?_) B9_46 rfl rfl (any_of HT_.out (by kernel_rfl)) (fun _ _ _ h => h) (Or.inl ⟨by rfl, ?_⟩) ?_ ?_; rotate_left; (·intro w'; go_simp; with_reducible rfl); rotate_left; (·simp only [Act.put, q1_9, q2_9, q3_9, i64_w, i32_w]; rfl)
                refine pure_ (i := 23) (N := some 75) (v := ?_) (a' := ?_) B9_47 rfl rfl (any_of HT_.out (by kernel_rfl)) (fun _ _ _ h => h) (Or.inl ⟨by rfl, ?_⟩) ?_ ?_; rotate_left; (·intro w'; go_simp; with_reducible rfl); rotate_left; (·simp only [Act.put, q1_9, q2_9, q3_9, i64_w, i32_w]; rfl)
                refine take_ (i := 24) (N := some 76) (v := ?_) (a' := ?_) B9_48 rfl rfl (take_ofW HT_.out HW_.out (by kernel_rfl)) (fun _ _ _ h => h) (Or.inl ⟨by rfl, ?_⟩) hHeld ?_ ?_
                rotate_left
                ·rintro w' ⟨s0, s1, s2, s3, s4, s5, s6⟩
                 go_simp
                 with_reducible rfl
                rotate_left
                ·simp only [Act.put, q1_9, q2_9, q3_9, i64_w, i32_w]
                 rfl
                refine pure_ (i := 25) (N := some 77) (v := ?_) (a' := ?_) B9_49 rfl rfl (any_of HT_.out (by kernel_rfl)) (fun _ _ _ h => h) (Or.inl ⟨by rfl, ?_⟩) ?_ ?_; rotate_left; (·intro w'; go_simp; with_reducible rfl); rotate_left; (·simp only [Act.put, q1_9, q2_9, q3_9, i64_w, i32_w]; rfl)
                refine pure_ (i := 26) (N := some 78) (v := ?_) (a' := ?_) B9_50 rfl rfl (any_of HT_.out (by kernel_rfl)) (fun _ _ _ h => h) (Or.inl ⟨by rfl, ?_⟩) ?_ ?_; rotate_left; (·intro w'; go_simp; with_reducible rfl); rotate_left; (·simp only [Act.put, q1_9, q2_9, q3_9, i64_w, i32_w]; rfl)
                refine take_ (i := 28) (N := some 80) (v := ?_) (a' := ?_) B9_51 rfl rfl (take_ofW HT_.out HW_.out (by kernel_rfl)) (fun _ _ _ h => h) (Or.inl ⟨by rfl, ?_⟩) hHeld ?_ ?_
                rotate_left
                ·rintro w' ⟨s0, s1, s2, s3, s4, s5, s6⟩
                 go_simp
                 with_reducible rfl
                rotate_left
                ·simp only [Act.put, q1_9, q2_9, q3_9, i64_w, i32_w]
                 rfl
                refine pure_ (i := 29) (N := some 81) (v := ?_) (a' := ?_) B9_52 rfl rfl (any_of HT_.out (by kernel_rfl)) (fun _ _ _ h => h) (Or.inl ⟨by rfl, ?_⟩) ?_ ?_; rotate_left; (·intro w'; go_simp; with_reducible rfl); rotate_left; (·simp only [Act.put, q1_9, q2_9, q3_9, i64_w, i32_w]; rfl)
                refine pure_ (i := 30) (N := some 82) (v := ?_) (a' := ?_) B9_53 rfl rfl (any_of HT_.out (by kernel_rfl)) (fun _ _ _ h => h) (Or.inl ⟨by rfl, ?_⟩) ?_ ?_; rotate_left; (·intro w'; go_simp; with_reducible rfl); rotate_left; (·simp only [Act.put, q1_9, q2_9, q3_9, i64_w, i32_w]; rfl)
                refine take_ (i := 31) (N := some 83) (v := ?_) (a' := ?_) B9_54 rfl rfl (take_ofW HT_.out HW_.out (by kernel_rfl)) (fun _ _ _ h => h) (Or.inl ⟨by rfl, ?_⟩) hHeld ?_ ?_
                rotate_left
                ·rintro w' ⟨s0, s1, s2, s3, s4, s5, s6⟩
                 go_simp
                 with_reducible rfl
                rotate_left
                ·simp only [Act.put, q1_9, q2_9, q3_9, i64_w, i32_w]
                 rfl
                refine pure_ (i := 32) (N := some 84) (v := ?_) (a' := ?_) B9_55 rfl rfl (any_of HT_.out (by kernel_rfl)) (fun _ _ _ h => h) (Or.inl ⟨by rfl, ?_⟩) ?_ ?_; rotate_left; (·intro w'; go_simp; with_reducible rfl); rotate_left; (·simp only [Act.put, q1_9, q2_9, q3_9, i64_w, i32_w]; rfl)
                refine pure_ (i := 33) (N := some 85) (v := ?_) (a' := ?_) B9_56 rfl rfl (any_of HT_.out (by kernel_rfl)) (fun _ _ _ h => h) (Or.inl ⟨by rfl, ?_⟩) ?_ ?_; rotate_left; (·intro w'; go_simp; with_reducible rfl); rotate_left; (·simp only [Act.put, q1_9, q2_9, q3_9, i64_w, i32_w]; rfl)
                refine done_ (done_of HT_.out (by kernel_rfl)) ?_
                try go_wp2
                have n0_ := am9_ (blk_drew BK158.out)
                have n1_ := am9_ (below_drew1 HB.out)
                clear BK158
                clear HB
                have BK158 := n0_
                have HB := n1_
                clear n0_ n1_
                refine start_ (n := 22) (S := fun w' => w'.cell? ⟨gb158, 0, none⟩ = some (.slice (some ad168) l0_0.length c0_0)) (ds := []) B9_1 (by kernel_rfl) rfl rfl ((blk_cell BK158.out 0).trans rfl) (fun hHeld => ?_); refine with_tabW foliatelaw06_SchemaParts.tab16 foliatelaw06_SchemaParts.bits16 (fun HT_ HW_ => ?_)
                generalize w52.drew = w53 at BK158 HB hHeld ⊢
                refine pure_ (i := 0) (N := some 86) (v := ?_) (a' := ?_) B9_3 rfl rfl (any_of HT_.out (by kernel_rfl)) (fun _ _ _ h => h) (Or.inl ⟨by rfl, ?_⟩) ?_ ?_; rotate_left; (·intro w'; go_simp; with_reducible rfl); rotate_left; (·simp only [Act.put, q1_9, q2_9, q3_9, i64_w, i32_w]; rfl)
                refine pure_ (i := 1) (N := some 87) (v := ?_) (a' := ?_) B9_5 rfl rfl (any_of HT_.out (by kernel_rfl)) (fun _ _ _ h => h) (Or.inl ⟨by rfl, ?_⟩) ?_ ?_; rotate_left; (·intro w'; go_simp; with_reducible rfl); rotate_left; (·simp only [Act.put, q1_9, q2_9, q3_9, i64_w, i32_w]; rfl)
                refine pure_ (i := 2) (N := some 88) (v := ?_) (a' := ?_) B9_7 rfl rfl (any_of HT_.out (by kernel_rfl)) (fun _ _ _ h => h) (Or.inl ⟨by rfl, ?_⟩) ?_ ?_; rotate_left; (·intro w'; go_simp; with_reducible rfl); rotate_left; (·simp only [Act.put, q1_9, q2_9, q3_9, i64_w, i32_w]; rfl)
                refine pure_ (i := 3) (N := some 89) (v := ?_) (a' := ?_) B9_9 rfl rfl (any_of HT_.out (by kernel_rfl)) (fun _ _ _ h => h) (Or.inl ⟨by rfl, ?_⟩) ?_ ?_; rotate_left; (·intro w'; go_simp; with_reducible rfl); rotate_left; (·simp only [Act.put, q1_9, q2_9, q3_9, i64_w, i32_w]; rfl)
                refine pure_ (i := 4) (N := some 90) (v := ?_) (a' := ?_) B9_11 rfl rfl (any_of HT_.out (by kernel_rfl)) (fun _ _ _ h => h) (Or.inl ⟨by rfl, ?_⟩) ?_ ?_; rotate_left; (·intro w'; go_simp; with_reducible rfl); rotate_left; (·simp only [Act.put, q1_9, q2_9, q3_9, i64_w, i32_w]; rfl)
                refine take_ (i := 5) (N := some 91) (v := ?_) (a' := ?_) B9_13 rfl rfl (take_ofW HT_.out HW_.out (by kernel_rfl)) (fun _ _ _ h => h) (Or.inl ⟨by rfl, ?_⟩) hHeld ?_ ?_
                rotate_left
                ·intro w' s0
                 go_simp
                 with_reducible rfl
                rotate_left
                ·simp only [Act.put, q1_9, q2_9, q3_9, i64_w, i32_w]
                 rfl
                refine pure_ (i := 6) (N := some 92) (v := ?_) (a' := ?_) B9_15 rfl rfl (any_of HT_.out (by kernel_rfl)) (fun _ _ _ h => h) (Or.inl ⟨by rfl, ?_⟩) ?_ ?_; rotate_left; (·intro w'; go_simp; with_reducible rfl); rotate_left; (·simp only [Act.put, q1_9, q2_9, q3_9, i64_w, i32_w]; rfl)
                refine pure_ (i := 7) (N := some 93) (v := ?_) (a' := ?_) B9_17 rfl rfl (any_of HT_.out (by kernel_rfl)) (fun _ _ _ h => h) (Or.inl ⟨by rfl, ?_⟩) ?_ ?_; rotate_left; (·intro w'; go_simp; with_reducible rfl); rotate_left; (·simp only [Act.put, q1_9, q2_9, q3_9, i64_w, i32_w]; rfl)
                refine pure_ (i := 8) (N := some 94) (v := ?_) (a' := ?_) B9_19 rfl rfl (any_of HT_.out (by kernel_rfl)) (fun _ _ _ h => h) (Or.inl ⟨by rfl, ?_⟩) ?_ ?_; rotate_left; (·intro w'; go_simp; with_reducible rfl); rotate_left; (·simp only [Act.put, q1_9, q2_9, q3_9, i64_w, i32_w]; rfl)
                refine pure_ (i := 9) (N := some 95) (v := ?_) (a' := ?_) B9_21 rfl rfl (any_of HT_.out (by kernel_rfl)) (fun _ _ _ h => h) (Or.inl ⟨by rfl, ?_⟩) ?_ ?_; rotate_left; (·intro w'; go_simp; with_reducible rfl); rotate_left; (·simp only [Act.put, q1_9, q2_9, q3_9, i64_w, i32_w]; rfl)
                refine pure_ (i := 10) (N := some 96) (v := undef) (a' := ?_) B9_23 rfl rfl (any_of HT_.out (by kernel_rfl)) (fun _ _ _ h => h) (Or.inr ⟨by rfl, rfl⟩) ?_ ?_
                rotate_left
                ·simp only [Act.put, q1_9, q2_9, q3_9, i64_w, i32_w]
                 rfl
                refine pure_ (i := 11) (N := some 97) (v := undef) (a' := ?_) B9_25 rfl rfl (any_of HT_.out (by kernel_rfl)) (fun _ _ _ h => h) (Or.inr ⟨by rfl, rfl⟩) ?_ ?_
                rotate_left
                ·simp only [Act.put, q1_9, q2_9, q3_9, i64_w, i32_w]
                 rfl
                refine pure_ (i := 12) (N := some 98) (v := undef) (a' := ?_) B9_27 rfl rfl (any_of HT_.out (by kernel_rfl)) (fun _ _ _ h => h) (Or.inr ⟨by rfl, rfl⟩) ?_ ?_
                rotate_left
                ·simp only [Act.put, q1_9, q2_9, q3_9, i64_w, i32_w]
                 rfl
                refine pure_ (i := 13) (N := some 99) (v := undef) (a' := ?_) B9_29 rfl rfl (any_of HT_.out (by kernel_rfl)) (fun _ _ _ h => h) (Or.inr ⟨by rfl, rfl⟩) ?_ ?_
                rotate_left
                ·simp only [Act.put, q1_9, q2_9, q3_9, i64_w, i32_w]
                 rfl
                refine pure_ (i := 14) (N := some 100) (v := undef) (a' := ?_) B9_31 rfl rfl (any_of HT_.out (by kernel_rfl)) (fun _ _ _ h => h) (Or.inr ⟨by rfl, rfl⟩) ?_ ?_
                rotate_left
                ·simp only [Act.put, q1_9, q2_9, q3_9, i64_w, i32_w]
                 rfl
                refine pure_ (i := 15) (N := some 101) (v := undef) (a' := ?_) B9_33 rfl rfl (any_of HT_.out (by kernel_rfl)) (fun _ _ _ h => h) (Or.inr ⟨by rfl, rfl⟩) ?_ ?_
                rotate_left
                ·simp only [Act.put, q1_9, q2_9, q3_9, i64_w, i32_w]
                 rfl
                refine pure_ (i := 16) (N := some 102) (v := undef) (a' := ?_) B9_35 rfl rfl (any_of HT_.out (by kernel_rfl)) (fun _ _ _ h => h) (Or.inr ⟨by rfl, rfl⟩) ?_ ?_
                rotate_left
                ·simp only [Act.put, q1_9, q2_9, q3_9, i64_w, i32_w]
                 rfl
                refine pure_ (i := 17) (N := some 103) (v := undef) (a' := ?_) B9_37 rfl rfl (any_of HT_.out (by kernel_rfl)) (fun _ _ _ h => h) (Or.inr ⟨by rfl, rfl⟩) ?_ ?_
                rotate_left
                ·simp only [Act.put, q1_9, q2_9, q3_9, i64_w, i32_w]
                 rfl
                refine pure_ (i := 18) (N := some 104) (v := undef) (a' := ?_) B9_39 rfl rfl (any_of HT_.out (by kernel_rfl)) (fun _ _ _ h => h) (Or.inr ⟨by rfl, rfl⟩) ?_ ?_
                rotate_left
                ·simp only [Act.put, q1_9, q2_9, q3_9, i64_w, i32_w]
                 rfl
                refine pure_ (i := 19) (N := some 105) (v := undef) (a' := ?_) B9_41 rfl rfl (any_of HT_.out (by kernel_rfl)) (fun _ _ _ h => h) (Or.inr ⟨by rfl, rfl⟩) ?_ ?_
                rotate_left
                ·simp only [Act.put, q1_9, q2_9, q3_9, i64_w, i32_w]
                 rfl
                refine pure_ (i := 20) (N := some 106) (v := ?_) (a' := ?_) B9_44 rfl rfl (any_of HT_.out (by kernel_rfl)) (fun _ _ _ h => h) (Or.inl ⟨by rfl, ?_⟩) ?_ ?_; rotate_left; (·intro w'; go_simp; with_reducible rfl); rotate_left; (·simp only [Act.put, q1_9, q2_9, q3_9, i64_w, i32_w]; rfl)
                refine pure_ (i := 21) (N := some 4) (v := ?_) (a' := ?_) B9_57 rfl rfl (any_of HT_.out (by kernel_rfl)) (fun _ _ _ h => h) (Or.inl ⟨by rfl, ?_⟩) ?_ ?_; rotate_left; (·intro w'; go_simp; with_reducible rfl); rotate_left; (·simp only [Act.put, q1_9, q2_9, q3_9, i64_w, i32_w]; rfl)
                refine done_ (done_of HT_.out (by kernel_rfl)) ?_
                try go_wp2
                go_ret
                exact ⟨by first | rfl | (simp [errW_none, errW_some] <;> rfl) | (simp [*, errW_none, errW_some] <;> rfl), by repeat (first | (with_reducible first | exact HB.out | apply below_alloc | apply pw_below_drewN | apply below_drew1 | refine below_set ?_ GE158.out) | exact HB.out)⟩
               ·rw [if_neg c49] at H
                have c49b0 : decide ((l0_0.length : Int) ≤ a1) = false := decide_eq_false c49
                clear c49
                by_cases c54 : 0 ≤ a1
                ·rw [if_pos c54] at H
                 have c54b0 : decide (0 ≤ a1) = true := decide_eq_true c54
                 clear c54
                 by_cases c55 : a1 < (l0_0.length : Int)
                 ·rw [if_pos c55] at H
                  have c55b0 : decide (a1 < (l0_0.length : Int)) = true := decide_eq_true c55
                  clear c55
                  replace H := Option.bind_eq_some_iff.mp H
                  obtain ⟨t172, A560, H⟩ := H
                  replace H : (some (t172 == a1)) = some r := H
                  have A56 := Aside0.mk A560
                  clear A560
                  obtain rfl := Option.some.inj H
                  have hcz57_0 : wr.cell? ⟨gb158, 0, none⟩ = some (.slice A0_0 l0_0.length c0_0) := (blk_cell BK158.out 0).trans rfl
                  have hfz57_0 := blk_frozen BK158.out 0
                  try go_wp2_with (first | ((with_reducible refine gate_callee (f := 19) rfl ?_); refine goesL_ (some 51) rfl rfl Try.func19 (by kernel_rfl) rfl #[.agg #[.slice A0_0 l0_0.length c0_0]] rfl (by (try simp only [List.map_toArray, List.map_cons, List.map_nil]); first | done | rfl | (simp only [List.length_drop, List.length_take]; rfl)) ?_; (with_reducible refine (schema_Text.calls k2 _ _ l0_0 t167 _ ?side1 ?side2 A36.out).mono ?_); (case side1 => repeat (first | exact (Kd.C_below HR0_0.out HB.out) | (with_reducible first | refine ca9_ ?_ _ | refine cn9_ ?_ _ | refine cd9_ ?_))); (case side2 => exact HC0_0.out); rintro e w58 ⟨rfl, hb⟩; refine ⟨_, rfl, ?_⟩; have n0_ := am9_ (blk_below (g := gb158) (o := .cells #[.slice A0_0 l0_0.length c0_0] 24 (0, 0)) (by (with_reducible repeat (first | refine blk_drewN ?_ _ | refine blk_drew ?_ | refine blk_alloc ?_ _)); exact BK158.out) hb); have n1_ := am9_ (below_step (by repeat (first | (with_reducible first | exact HB.out | apply below_alloc | apply pw_below_drewN | apply below_drew1 | refine below_set ?_ GE158.out) | exact HB.out)) hb); clear BK158; clear HB; have BK158 := n0_; have HB := n1_; clear n0_ n1_; (try clear hb); (try clear hb2); (try clear hk); (try clear hi)))
                  have n0_ := am9_ (blk_drew BK158.out)
                  have n1_ := am9_ (below_drew1 HB.out)
                  clear BK158
                  clear HB
                  have BK158 := n0_
                  have HB := n1_
                  clear n0_ n1_
                  have p168 : 0 ≤ (0 : Int) := (by omega)
                  have q168 : 0 < (l0_0.length : Int) := of_decide_eq_true (by first | (with_reducible assumption) | assumption)
                  obtain ⟨ad168, A168_1, c168_1, e168, hx168_0, hx168_1, hl168_1, hi168_1⟩ := at_T34 HR0_0.out 0 p168 q168
                  have hw168_1 := hx168_1
                  (try rw [show ((0 : Int)).toNat = 0 from rfl] at hw168_1)
                  (try rw [show 0 * 2 = 0 from rfl] at hw168_1)
                  (try rw [Addr.add_zero'] at hw168_1)
                  have hw168_0 := hx168_0
                  (try rw [show ((0 : Int)).toNat = 0 from rfl] at hw168_0)
                  (try rw [show 0 * 2 = 0 from rfl] at hw168_0)
                  (try rw [Addr.add_zero'] at hw168_0)
                  cases e168
                  have qi168 : (0 < l0_0.length) = True := eq_true (by omega)
                  (try rw [show ((0 : Int)).toNat = 0 from rfl] at hx168_0)
                  (try rw [show 0 * 2 = 0 from rfl] at hx168_0)
                  (try rw [Addr.add_zero'] at hx168_0)
                  (try rw [show ((0 : Int)).toNat = 0 from rfl] at hx168_1)
                  (try rw [show 0 * 2 = 0 from rfl] at hx168_1)
                  (try rw [Addr.add_zero'] at hx168_1)
                  replace hx168_0 := (HB.out.cell (World.block_lt_of_cell? w _ hx168_0)).trans hx168_0
                  replace hx168_1 := (HB.out.cell (World.block_lt_of_cell? w _ hx168_1)).trans hx168_1
                  have HR168_1 := Aside0.mk hi168_1
                  have HC168_1 := Aside0.mk hl168_1
                  clear hi168_1 hl168_1
                  replace p168 := eq_true p168
                  replace q168 := eq_true q168
                  have p169 : 0 ≤ (0 : Int) := (by omega)
                  have q169 : 0 < (l0_0.length : Int) := of_decide_eq_true (by first | (with_reducible assumption) | assumption)
                  obtain ⟨ad169, A169_1, c169_1, e169, hx169_0, hx169_1, hl169_1, hi169_1⟩ := at_T34 HR0_0.out 0 p169 q169
                  have hw169_1 := hx169_1
                  (try rw [show ((0 : Int)).toNat = 0 from rfl] at hw169_1)
                  (try rw [show 0 * 2 = 0 from rfl] at hw169_1)
                  (try rw [Addr.add_zero'] at hw169_1)
                  have hw169_0 := hx169_0
                  (try rw [show ((0 : Int)).toNat = 0 from rfl] at hw169_0)
                  (try rw [show 0 * 2 = 0 from rfl] at hw169_0)
                  (try rw [Addr.add_zero'] at hw169_0)
                  obtain rfl : ad168 = ad169 := (by injection e169)
                  have qi169 : (0 < l0_0.length) = True := eq_true (by omega)
                  (try rw [show ((0 : Int)).toNat = 0 from rfl] at hx169_0)
                  (try rw [show 0 * 2 = 0 from rfl] at hx169_0)
                  (try rw [Addr.add_zero'] at hx169_0)
                  (try rw [show ((0 : Int)).toNat = 0 from rfl] at hx169_1)
                  (try rw [show 0 * 2 = 0 from rfl] at hx169_1)
                  (try rw [Addr.add_zero'] at hx169_1)
                  replace hx169_0 := (HB.out.cell (World.block_lt_of_cell? w _ hx169_0)).trans hx169_0
                  replace hx169_1 := (HB.out.cell (World.block_lt_of_cell? w _ hx169_1)).trans hx169_1
                  have HR169_1 := Aside0.mk hi169_1
                  have HC169_1 := Aside0.mk hl169_1
                  clear hi169_1 hl169_1
                  replace p169 := eq_true p169
                  replace q169 := eq_true q169
                  have ea_ := Option.some.inj (hx168_1.symm.trans hx169_1)
                  injection ea_ with ea_ en_ ec_
                  subst ea_
                  subst ec_
                  clear en_
                  have p170 : 0 ≤ (0 : Int) := (by omega)
                  have q170 : 0 < (l0_0.length : Int) := of_decide_eq_true (by first | (with_reducible assumption) | assumption)
                  obtain ⟨ad170, A170_1, c170_1, e170, hx170_0, hx170_1, hl170_1, hi170_1⟩ := at_T34 HR0_0.out 0 p170 q170
                  have hw170_1 := hx170_1
                  (try rw [show ((0 : Int)).toNat = 0 from rfl] at hw170_1)
                  (try rw [show 0 * 2 = 0 from rfl] at hw170_1)
                  (try rw [Addr.add_zero'] at hw170_1)
                  have hw170_0 := hx170_0
                  (try rw [show ((0 : Int)).toNat = 0 from rfl] at hw170_0)
                  (try rw [show 0 * 2 = 0 from rfl] at hw170_0)
                  (try rw [Addr.add_zero'] at hw170_0)
                  obtain rfl : ad168 = ad170 := (by injection e170)
                  have qi170 : (0 < l0_0.length) = True := eq_true (by omega)
                  (try rw [show ((0 : Int)).toNat = 0 from rfl] at hx170_0)
                  (try rw [show 0 * 2 = 0 from rfl] at hx170_0)
                  (try rw [Addr.add_zero'] at hx170_0)
                  (try rw [show ((0 : Int)).toNat = 0 from rfl] at hx170_1)
                  (try rw [show 0 * 2 = 0 from rfl] at hx170_1)
                  (try rw [Addr.add_zero'] at hx170_1)
                  replace hx170_0 := (HB.out.cell (World.block_lt_of_cell? w _ hx170_0)).trans hx170_0
                  replace hx170_1 := (HB.out.cell (World.block_lt_of_cell? w _ hx170_1)).trans hx170_1
                  have HR170_1 := Aside0.mk hi170_1
                  have HC170_1 := Aside0.mk hl170_1
                  clear hi170_1 hl170_1
                  replace p170 := eq_true p170
                  replace q170 := eq_true q170
                  have ea_ := Option.some.inj (hx168_1.symm.trans hx170_1)
                  injection ea_ with ea_ en_ ec_
                  subst ea_
                  subst ec_
                  clear en_
                  refine start_ (n := 34) (S := fun w' => w'.cell? ⟨gb158, 0, none⟩ = some (.slice (some ad168) l0_0.length c0_0) ∧ w'.cell? ad168 = some (.string ((rd_T34 l0_0 0).f0)) ∧ w'.cell? ⟨ad168.block, ad168.off + 1, none⟩ = some (.slice A168_1 ((rd_T34 l0_0 0).f1).length c168_1) ∧ w'.cell? ad168 = some (.string ((rd_T34 l0_0 0).f0)) ∧ w'.cell? ⟨ad168.block, ad168.off + 1, none⟩ = some (.slice A168_1 ((rd_T34 l0_0 0).f1).length c168_1) ∧ w'.cell? ad168 = some (.string ((rd_T34 l0_0 0).f0)) ∧ w'.cell? ⟨ad168.block, ad168.off + 1, none⟩ = some (.slice A168_1 ((rd_T34 l0_0 0).f1).length c168_1)) (ds := []) B9_0 (by kernel_rfl) rfl rfl ⟨(blk_cell BK158.out 0).trans rfl, ((HB.out.cell (World.block_lt_of_cell? w _ hw168_0)).trans hw168_0), ((HB.out.cell (World.block_lt_of_cell? w _ hw168_1)).trans hw168_1), ((HB.out.cell (World.block_lt_of_cell? w _ hw169_0)).trans hw169_0), ((HB.out.cell (World.block_lt_of_cell? w _ hw169_1)).trans hw169_1), ((HB.out.cell (World.block_lt_of_cell? w _ hw170_0)).trans hw170_0), ((HB.out.cell (World.block_lt_of_cell? w _ hw170_1)).trans hw170_1)⟩ (fun hHeld => ?_); refine with_tabW foliatelaw06_SchemaParts.tab14 foliatelaw06_SchemaParts.bits14 (fun HT_ HW_ => ?_)
                  generalize w58.drew = w59 at BK158 HB HR168_1 HR169_1 HR170_1 hx168_0 hx168_1 hx169_0 hx169_1 hx170_0 hx170_1 hHeld ⊢
                  refine pure_ (i := 0) (N := some 52) (v := ?_) (a' := ?_) B9_2 rfl rfl (any_of HT_.out (by kernel_rfl)) (fun _ _ _ h => h) (Or.inl ⟨by rfl, ?_⟩) ?_ ?_; rotate_left; (·intro w'; go_simp; with_reducible rfl); rotate_left; (·simp only [Act.put, q1_9, q2_9, q3_9, i64_w, i32_w]; rfl)
                  refine pure_ (i := 1) (N := some 53) (v := ?_) (a' := ?_) B9_4 rfl rfl (any_of HT_.out (by kernel_rfl)) (fun _ _ _ h => h) (Or.inl ⟨by rfl, ?_⟩) ?_ ?_; rotate_left; (·intro w'; go_simp; with_reducible rfl); rotate_left; (·simp only [Act.put, q1_9, q2_9, q3_9, i64_w, i32_w]; rfl)
                  refine pure_ (i := 2) (N := some 54) (v := ?_) (a' := ?_) B9_6 rfl rfl (any_of HT_.out (by kernel_rfl)) (fun _ _ _ h => h) (Or.inl ⟨by rfl, ?_⟩) ?_ ?_; rotate_left; (·intro w'; go_simp; with_reducible rfl); rotate_left; (·simp only [Act.put, q1_9, q2_9, q3_9, i64_w, i32_w]; rfl)
                  refine pure_ (i := 3) (N := some 55) (v := ?_) (a' := ?_) B9_8 rfl rfl (any_of HT_.out (by kernel_rfl)) (fun _ _ _ h => h) (Or.inl ⟨by rfl, ?_⟩) ?_ ?_; rotate_left; (·intro w'; go_simp; with_reducible rfl); rotate_left; (·simp only [Act.put, q1_9, q2_9, q3_9, i64_w, i32_w]; rfl)
                  refine pure_ (i := 4) (N := some 56) (v := ?_) (a' := ?_) B9_10 rfl rfl (any_of HT_.out (by kernel_rfl)) (fun _ _ _ h => h) (Or.inl ⟨by rfl, ?_⟩) ?_ ?_; rotate_left; (·intro w'; go_simp; with_reducible rfl); rotate_left; (·simp only [Act.put, q1_9, q2_9, q3_9, i64_w, i32_w]; rfl)
                  refine pure_ (i := 5) (N := some 57) (v := ?_) (a' := ?_) B9_12 rfl rfl (any_of HT_.out (by kernel_rfl)) (fun _ _ _ h => h) (Or.inl ⟨by rfl, ?_⟩) ?_ ?_; rotate_left; (·intro w'; go_simp; with_reducible rfl); rotate_left; (·simp only [Act.put, q1_9, q2_9, q3_9, i64_w, i32_w]; rfl)
                  refine pure_ (i := 6) (N := some 58) (v := ?_) (a' := ?_) B9_14 rfl rfl (any_of HT_.out (by kernel_rfl)) (fun _ _ _ h => h) (Or.inl ⟨by rfl, ?_⟩) ?_ ?_; rotate_left; (·intro w'; go_simp; with_reducible rfl); rotate_left; (·simp only [Act.put, q1_9, q2_9, q3_9, i64_w, i32_w]; rfl)
                  refine pure_ (i := 7) (N := some 59) (v := ?_) (a' := ?_) B9_16 rfl rfl (any_of HT_.out (by kernel_rfl)) (fun _ _ _ h => h) (Or.inl ⟨by rfl, ?_⟩) ?_ ?_; rotate_left; (·intro w'; go_simp; with_reducible rfl); rotate_left; (·simp only [Act.put, q1_9, q2_9, q3_9, i64_w, i32_w]; rfl)
                  refine pure_ (i := 8) (N := some 60) (v := ?_) (a' := ?_) B9_18 rfl rfl (any_of HT_.out (by kernel_rfl)) (fun _ _ _ h => h) (Or.inl ⟨by rfl, ?_⟩) ?_ ?_; rotate_left; (·intro w'; go_simp; with_reducible rfl); rotate_left; (·simp only [Act.put, q1_9, q2_9, q3_9, i64_w, i32_w]; rfl)
                  refine pure_ (i := 9) (N := some 61) (v := ?_) (a' := ?_) B9_20 rfl rfl (any_of HT_.out (by kernel_rfl)) (fun _ _ _ h => h) (Or.inl ⟨by rfl, ?_⟩) ?_ ?_; rotate_left; (·intro w'; go_simp; with_reducible rfl); rotate_left; (·simp only [Act.put, q1_9, q2_9, q3_9, i64_w, i32_w]; rfl)
                  refine take_ (i := 10) (N := some 62) (v := ?_) (a' := ?_) B9_22 rfl rfl (take_ofW HT_.out HW_.out (by kernel_rfl)) (fun _ _ _ h => h) (Or.inl ⟨by rfl, ?_⟩) hHeld ?_ ?_
                  rotate_left
                  ·rintro w' ⟨s0, s1, s2, s3, s4, s5, s6⟩
                   go_simp
                   with_reducible rfl
                  rotate_left
                  ·simp only [Act.put, q1_9, q2_9, q3_9, i64_w, i32_w]
                   rfl
                  refine pure_ (i := 11) (N := some 63) (v := ?_) (a' := ?_) B9_24 rfl rfl (any_of HT_.out (by kernel_rfl)) (fun _ _ _ h => h) (Or.inl ⟨by rfl, ?_⟩) ?_ ?_; rotate_left; (·intro w'; go_simp; with_reducible rfl); rotate_left; (·simp only [Act.put, q1_9, q2_9, q3_9, i64_w, i32_w]; rfl)
                  refine pure_ (i := 12) (N := some 64) (v := ?_) (a' := ?_) B9_26 rfl rfl (any_of HT_.out (by kernel_rfl)) (fun _ _ _ h => h) (Or.inl ⟨by rfl, ?_⟩) ?_ ?_; rotate_left; (·intro w'; go_simp; with_reducible rfl); rotate_left; (·simp only [Act.put, q1_9, q2_9, q3_9, i64_w, i32_w]; rfl)
                  refine take_ (i := 13) (N := some 65) (v := ?_) (a' := ?_) B9_28 rfl rfl (take_ofW HT_.out HW_.out (by kernel_rfl)) (fun _ _ _ h => h) (Or.inl ⟨by rfl, ?_⟩) hHeld ?_ ?_
                  rotate_left
                  ·rintro w' ⟨s0, s1, s2, s3, s4, s5, s6⟩
                   go_simp
                   with_reducible rfl
                  rotate_left
                  ·simp only [Act.put, q1_9, q2_9, q3_9, i64_w, i32_w]
                   rfl
                  refine pure_ (i := 14) (N := some 66) (v := ?_) (a' := ?_) B9_30 rfl rfl (any_of HT_.out (by kernel_rfl)) (fun _ _ _ h => h) (Or.inl ⟨by rfl, ?_⟩) ?_ ?_; rotate_left; (·intro w'; go_simp; with_reducible rfl); rotate_left; (·simp only [Act.put, q1_9, q2_9, q3_9, i64_w, i32_w]; rfl)
                  refine pure_ (i := 15) (N := some 67) (v := ?_) (a' := ?_) B9_32 rfl rfl (any_of HT_.out (by kernel_rfl)) (fun _ _ _ h => h) (Or.inl ⟨by rfl, ?_⟩) ?_ ?_; rotate_left; (·intro w'; go_simp; with_reducible rfl); rotate_left; (·simp only [Act.put, q1_9, q2_9, q3_9, i64_w, i32_w]; rfl)
                  refine pure_ (i := 16) (N := some 68) (v := ?_) (a' := ?_) B9_34 rfl rfl (any_of HT_.out (by kernel_rfl)) (fun _ _ _ h => h) (Or.inl ⟨by rfl, ?_⟩) ?_ ?_; rotate_left; (·intro w'; go_simp; with_reducible rfl); rotate_left; (·simp only [Act.put, q1_9, q2_9, q3_9, i64_w, i32_w]; rfl)
                  refine pure_ (i := 17) (N := some 69) (v := ?_) (a' := ?_) B9_36 rfl rfl (any_of HT_.out (by kernel_rfl)) (fun _ _ _ h => h) (Or.inl ⟨by rfl, ?_⟩) ?_ ?_; rotate_left; (·intro w'; go_simp; with_reducible rfl); rotate_left; (·simp only [Act.put, q1_9, q2_9, q3_9, i64_w, i32_w]; rfl)
                  refine pure_ (i := 18) (N := some 70) (v := ?_) (a' := ?_) B9_38 rfl rfl (any_of HT_.out (by kernel_rfl)) (fun _ _ _ h => h) (Or.inl ⟨by rfl, ?_⟩) ?_ ?_; rotate_left; (·intro w'; go_simp; with_reducible rfl); rotate_left; (·simp only [Act.put, q1_9, q2_9, q3_9, i64_w, i32_w]; rfl)
                  refine pure_ (i := 19) (N := some 71) (v := ?_) (a' := ?_) B9_40 rfl rfl (any_of HT_.out (by kernel_rfl)) (fun _ _ _ h => h) (Or.inl ⟨by rfl, ?_⟩) ?_ ?_; rotate_left; (·intro w'; go_simp; with_reducible rfl); rotate_left; (·simp only [Act.put, q1_9, q2_9, q3_9, i64_w, i32_w]; rfl)
                  refine pure_ (i := 20) (N := some 72) (v := ?_) (a' := ?_) B9_42 rfl rfl (any_of HT_.out (by kernel_rfl)) (fun _ _ _ h => h) (Or.inl ⟨by rfl, ?_⟩) ?_ ?_; rotate_left; (·intro w'; go_simp; with_reducible rfl); rotate_left; (·simp only [Act.put, q1_9, q2_9, q3_9, i64_w, i32_w]; rfl)
                  refine pure_ (i := 27) (N := some 79) (v := ?_) (a' := ?_) B9_43 rfl rfl (any_of HT_.out (by kernel_rfl)) (fun _ _ _ h => h) (Or.inl ⟨by rfl, ?_⟩) ?_ ?_; rotate_left; (·intro w'; go_simp; with_reducible rfl); rotate_left; (·simp only [Act.put, q1_9, q2_9, q3_9, i64_w, i32_w]; rfl)
                  refine take_ (i := 21) (N := some 73) (v := ?_) (a' := ?_) B9_45 rfl rfl (take_ofW HT_.out HW_.out (by kernel_rfl)) (fun _ _ _ h => h) (Or.inl ⟨by rfl, ?_⟩) hHeld ?_ ?_
                  rotate_left
                  ·rintro w' ⟨s0, s1, s2, s3, s4, s5, s6⟩
                   go_simp
                   with_reducible rfl
                  rotate_left
                  ·simp only [Act.put, q1_9, q2_9, q3_9, i64_w, i32_w]
                   rfl
                  refine pure_ (i := 22) (N := some 74) (v := ?_) (a' := ?_) B9_46 rfl rfl (any_of HT_.out (by kernel_rfl)) (fun _ _ _ h => h) (Or.inl ⟨by rfl, ?_⟩) ?_ ?_; rotate_left; (·intro w'; go_simp; with_reducible rfl); rotate_left; (·simp only [Act.put, q1_9, q2_9, q3_9, i64_w, i32_w]; rfl)
                  refine pure_ (i := 23) (N := some 75) (v := ?_) (a' := ?_) B9_47 rfl rfl (any_of HT_.out (by kernel_rfl)) (fun _ _ _ h => h) (Or.inl ⟨by rfl, ?_⟩) ?_ ?_; rotate_left; (·intro w'; go_simp; with_reducible rfl); rotate_left; (·simp only [Act.put, q1_9, q2_9, q3_9, i64_w, i32_w]; rfl)
                  refine take_ (i := 24) (N := some 76) (v := ?_) (a' := ?_) B9_48 rfl rfl (take_ofW HT_.out HW_.out (by kernel_rfl)) (fun _ _ _ h => h) (Or.inl ⟨by rfl, ?_⟩) hHeld ?_ ?_
                  rotate_left
                  ·rintro w' ⟨s0, s1, s2, s3, s4, s5, s6⟩
                   go_simp
                   with_reducible rfl
                  rotate_left
                  ·simp only [Act.put, q1_9, q2_9, q3_9, i64_w, i32_w]
                   rfl
                  refine pure_ (i := 25) (N := some 77) (v := ?_) (a' := ?_) B9_49 rfl rfl (any_of HT_.out (by kernel_rfl)) (fun _ _ _ h => h) (Or.inl ⟨by rfl, ?_⟩) ?_ ?_; rotate_left; (·intro w'; go_simp; with_reducible rfl); rotate_left; (·simp only [Act.put, q1_9, q2_9, q3_9, i64_w, i32_w]; rfl)
                  refine pure_ (i := 26) (N := some 78) (v := ?_) (a' := ?_) B9_50 rfl rfl (any_of HT_.out (by kernel_rfl)) (fun _ _ _ h => h) (Or.inl ⟨by rfl, ?_⟩) ?_ ?_; rotate_left; (·intro w'; go_simp; with_reducible rfl); rotate_left; (·simp only [Act.put, q1_9, q2_9, q3_9, i64_w, i32_w]; rfl)
                  refine take_ (i := 28) (N := some 80) (v := ?_) (a' := ?_) B9_51 rfl rfl (take_ofW HT_.out HW_.out (by kernel_rfl)) (fun _ _ _ h => h) (Or.inl ⟨by rfl, ?_⟩) hHeld ?_ ?_
                  rotate_left
                  ·rintro w' ⟨s0, s1, s2, s3, s4, s5, s6⟩
                   go_simp
                   with_reducible rfl
                  rotate_left
                  ·simp only [Act.put, q1_9, q2_9, q3_9, i64_w, i32_w]
                   rfl
                  refine pure_ (i := 29) (N := some 81) (v := ?_) (a' := ?_) B9_52 rfl rfl (any_of HT_.out (by kernel_rfl)) (fun _ _ _ h => h) (Or.inl ⟨by rfl, ?_⟩) ?_ ?_; rotate_left; (·intro w'; go_simp; with_reducible rfl); rotate_left; (·simp only [Act.put, q1_9, q2_9, q3_9, i64_w, i32_w]; rfl)
                  refine pure_ (i := 30) (N := some 82) (v := ?_) (a' := ?_) B9_53 rfl rfl (any_of HT_.out (by kernel_rfl)) (fun _ _ _ h => h) (Or.inl ⟨by rfl, ?_⟩) ?_ ?_; rotate_left; (·intro w'; go_simp; with_reducible rfl); rotate_left; (·simp only [Act.put, q1_9, q2_9, q3_9, i64_w, i32_w]; rfl)
                  refine take_ (i := 31) (N := some 83) (v := ?_) (a' := ?_) B9_54 rfl rfl (take_ofW HT_.out HW_.out (by kernel_rfl)) (fun _ _ _ h => h) (Or.inl ⟨by rfl, ?_⟩) hHeld ?_ ?_
                  rotate_left
                  ·rintro w' ⟨s0, s1, s2, s3, s4, s5, s6⟩
                   go_simp
                   with_reducible rfl
                  rotate_left
                  ·simp only [Act.put, q1_9, q2_9, q3_9, i64_w, i32_w]
                   rfl
                  refine pure_ (i := 32) (N := some 84) (v := ?_) (a' := ?_) B9_55 rfl rfl (any_of HT_.out (by kernel_rfl)) (fun _ _ _ h => h) (Or.inl ⟨by rfl, ?_⟩) ?_ ?_; rotate_left; (·intro w'; go_simp; with_reducible rfl); rotate_left; (·simp only [Act.put, q1_9, q2_9, q3_9, i64_w, i32_w]; rfl)
                  refine pure_ (i := 33) (N := some 85) (v := ?_) (a' := ?_) B9_56 rfl rfl (any_of HT_.out (by kernel_rfl)) (fun _ _ _ h => h) (Or.inl ⟨by rfl, ?_⟩) ?_ ?_; rotate_left; (·intro w'; go_simp; with_reducible rfl); rotate_left; (·simp only [Act.put, q1_9, q2_9, q3_9, i64_w, i32_w]; rfl)
                  refine done_ (done_of HT_.out (by kernel_rfl)) ?_
                  try go_wp2
                  have n0_ := am9_ (blk_drew BK158.out)
                  have n1_ := am9_ (below_drew1 HB.out)
                  clear BK158
                  clear HB
                  have BK158 := n0_
                  have HB := n1_
                  clear n0_ n1_
                  have p171 : 0 ≤ (a1 : Int) := of_decide_eq_true (by first | (with_reducible assumption) | assumption)
                  have q171 : a1 < (l0_0.length : Int) := of_decide_eq_true (by first | (with_reducible assumption) | assumption)
                  obtain ⟨ad171, A171_1, c171_1, e171, hx171_0, hx171_1, hl171_1, hi171_1⟩ := at_T34 HR0_0.out a1 p171 q171
                  have hw171_1 := hx171_1
                  have hw171_0 := hx171_0
                  obtain rfl : ad168 = ad171 := (by injection e171)
                  replace hx171_0 := (HB.out.cell (World.block_lt_of_cell? w _ hx171_0)).trans hx171_0
                  replace hx171_1 := (HB.out.cell (World.block_lt_of_cell? w _ hx171_1)).trans hx171_1
                  have HR171_1 := Aside0.mk hi171_1
                  have HC171_1 := Aside0.mk hl171_1
                  clear hi171_1 hl171_1
                  replace p171 := eq_true p171
                  replace q171 := eq_true q171
                  refine start_ (n := 22) (S := fun w' => w'.cell? ⟨gb158, 0, none⟩ = some (.slice (some ad168) l0_0.length c0_0) ∧ w'.cell? (ad168.add ((a1).toNat * 2)) = some (.string ((rd_T34 l0_0 a1).f0)) ∧ w'.cell? ⟨(ad168.add ((a1).toNat * 2)).block, (ad168.add ((a1).toNat * 2)).off + 1, none⟩ = some (.slice A171_1 ((rd_T34 l0_0 a1).f1).length c171_1)) (ds := []) B9_1 (by kernel_rfl) rfl rfl ⟨(blk_cell BK158.out 0).trans rfl, ((HB.out.cell (World.block_lt_of_cell? w _ hw171_0)).trans hw171_0), ((HB.out.cell (World.block_lt_of_cell? w _ hw171_1)).trans hw171_1)⟩ (fun hHeld => ?_); refine with_tabW foliatelaw06_SchemaParts.tab16 foliatelaw06_SchemaParts.bits16 (fun HT_ HW_ => ?_)
                  generalize w59.drew = w60 at BK158 HB HR171_1 hx171_0 hx171_1 hHeld ⊢
                  refine pure_ (i := 0) (N := some 86) (v := ?_) (a' := ?_) B9_3 rfl rfl (any_of HT_.out (by kernel_rfl)) (fun _ _ _ h => h) (Or.inl ⟨by rfl, ?_⟩) ?_ ?_; rotate_left; (·intro w'; go_simp; with_reducible rfl); rotate_left; (·simp only [Act.put, q1_9, q2_9, q3_9, i64_w, i32_w]; rfl)
                  refine pure_ (i := 1) (N := some 87) (v := ?_) (a' := ?_) B9_5 rfl rfl (any_of HT_.out (by kernel_rfl)) (fun _ _ _ h => h) (Or.inl ⟨by rfl, ?_⟩) ?_ ?_; rotate_left; (·intro w'; go_simp; with_reducible rfl); rotate_left; (·simp only [Act.put, q1_9, q2_9, q3_9, i64_w, i32_w]; rfl)
                  refine pure_ (i := 2) (N := some 88) (v := ?_) (a' := ?_) B9_7 rfl rfl (any_of HT_.out (by kernel_rfl)) (fun _ _ _ h => h) (Or.inl ⟨by rfl, ?_⟩) ?_ ?_; rotate_left; (·intro w'; go_simp; with_reducible rfl); rotate_left; (·simp only [Act.put, q1_9, q2_9, q3_9, i64_w, i32_w]; rfl)
                  refine pure_ (i := 3) (N := some 89) (v := ?_) (a' := ?_) B9_9 rfl rfl (any_of HT_.out (by kernel_rfl)) (fun _ _ _ h => h) (Or.inl ⟨by rfl, ?_⟩) ?_ ?_; rotate_left; (·intro w'; go_simp; with_reducible rfl); rotate_left; (·simp only [Act.put, q1_9, q2_9, q3_9, i64_w, i32_w]; rfl)
                  refine pure_ (i := 4) (N := some 90) (v := ?_) (a' := ?_) B9_11 rfl rfl (any_of HT_.out (by kernel_rfl)) (fun _ _ _ h => h) (Or.inl ⟨by rfl, ?_⟩) ?_ ?_; rotate_left; (·intro w'; go_simp; with_reducible rfl); rotate_left; (·simp only [Act.put, q1_9, q2_9, q3_9, i64_w, i32_w]; rfl)
                  refine take_ (i := 5) (N := some 91) (v := ?_) (a' := ?_) B9_13 rfl rfl (take_ofW HT_.out HW_.out (by kernel_rfl)) (fun _ _ _ h => h) (Or.inl ⟨by rfl, ?_⟩) hHeld ?_ ?_
                  rotate_left
                  ·rintro w' ⟨s0, s1, s2⟩
                   go_simp
                   with_reducible rfl
                  rotate_left
                  ·simp only [Act.put, q1_9, q2_9, q3_9, i64_w, i32_w]
                   rfl
                  refine pure_ (i := 6) (N := some 92) (v := ?_) (a' := ?_) B9_15 rfl rfl (any_of HT_.out (by kernel_rfl)) (fun _ _ _ h => h) (Or.inl ⟨by rfl, ?_⟩) ?_ ?_; rotate_left; (·intro w'; go_simp; with_reducible rfl); rotate_left; (·simp only [Act.put, q1_9, q2_9, q3_9, i64_w, i32_w]; rfl)
                  refine pure_ (i := 7) (N := some 93) (v := ?_) (a' := ?_) B9_17 rfl rfl (any_of HT_.out (by kernel_rfl)) (fun _ _ _ h => h) (Or.inl ⟨by rfl, ?_⟩) ?_ ?_; rotate_left; (·intro w'; go_simp; with_reducible rfl); rotate_left; (·simp only [Act.put, q1_9, q2_9, q3_9, i64_w, i32_w]; rfl)
                  refine pure_ (i := 8) (N := some 94) (v := ?_) (a' := ?_) B9_19 rfl rfl (any_of HT_.out (by kernel_rfl)) (fun _ _ _ h => h) (Or.inl ⟨by rfl, ?_⟩) ?_ ?_; rotate_left; (·intro w'; go_simp; with_reducible rfl); rotate_left; (·simp only [Act.put, q1_9, q2_9, q3_9, i64_w, i32_w]; rfl)
                  refine pure_ (i := 9) (N := some 95) (v := ?_) (a' := ?_) B9_21 rfl rfl (any_of HT_.out (by kernel_rfl)) (fun _ _ _ h => h) (Or.inl ⟨by rfl, ?_⟩) ?_ ?_; rotate_left; (·intro w'; go_simp; with_reducible rfl); rotate_left; (·simp only [Act.put, q1_9, q2_9, q3_9, i64_w, i32_w]; rfl)
                  refine pure_ (i := 11) (N := some 97) (v := ?_) (a' := ?_) #[t_9,t_9,t_9,t_9,t_9,t_9,t_9,t_9,t_9,t_9,f_9,t_9,f_9,f_9,f_9,f_9,f_9,f_9,f_9,f_9,f_9,f_9] rfl rfl (any_of HT_.out (by kernel_rfl)) (fun _ _ _ h => h) (Or.inl ⟨by rfl, ?_⟩) ?_ ?_; rotate_left; (·intro w'; go_simp; with_reducible rfl); rotate_left; (·simp only [Act.put, q1_9, q2_9, q3_9, i64_w, i32_w]; rfl)
                  refine pure_ (i := 13) (N := some 99) (v := ?_) (a' := ?_) #[t_9,t_9,t_9,t_9,t_9,t_9,t_9,t_9,t_9,t_9,f_9,t_9,f_9,t_9,f_9,f_9,f_9,f_9,f_9,f_9,f_9,f_9] rfl rfl (any_of HT_.out (by kernel_rfl)) (fun _ _ _ h => h) (Or.inl ⟨by rfl, ?_⟩) ?_ ?_; rotate_left; (·intro w'; go_simp; with_reducible rfl); rotate_left; (·simp only [Act.put, q1_9, q2_9, q3_9, i64_w, i32_w]; rfl)
                  refine pure_ (i := 18) (N := some 104) (v := ?_) (a' := ?_) #[t_9,t_9,t_9,t_9,t_9,t_9,t_9,t_9,t_9,t_9,f_9,t_9,f_9,t_9,f_9,f_9,f_9,f_9,t_9,f_9,f_9,f_9] rfl rfl (any_of HT_.out (by kernel_rfl)) (fun _ _ _ h => h) (Or.inl ⟨by rfl, ?_⟩) ?_ ?_; rotate_left; (·intro w'; go_simp; with_reducible rfl); rotate_left; (·simp only [Act.put, q1_9, q2_9, q3_9, i64_w, i32_w]; rfl)
                  refine take_ (i := 10) (N := some 96) (v := ?_) (a' := ?_) #[t_9,t_9,t_9,t_9,t_9,t_9,t_9,t_9,t_9,t_9,t_9,t_9,f_9,t_9,f_9,f_9,f_9,f_9,t_9,f_9,f_9,f_9] rfl rfl (take_ofW HT_.out HW_.out (by kernel_rfl)) (fun _ _ _ h => h) (Or.inl ⟨by rfl, ?_⟩) hHeld ?_ ?_
                  rotate_left
                  ·rintro w' ⟨s0, s1, s2⟩
                   go_simp
                   with_reducible rfl
                  rotate_left
                  ·simp only [Act.put, q1_9, q2_9, q3_9, i64_w, i32_w]
                   rfl
                  refine take_ (i := 12) (N := some 98) (v := ?_) (a' := ?_) #[t_9,t_9,t_9,t_9,t_9,t_9,t_9,t_9,t_9,t_9,t_9,t_9,t_9,t_9,f_9,f_9,f_9,f_9,t_9,f_9,f_9,f_9] rfl rfl (take_ofW HT_.out HW_.out (by kernel_rfl)) (fun _ _ _ h => h) (Or.inl ⟨by rfl, ?_⟩) hHeld ?_ ?_
                  rotate_left
                  ·rintro w' ⟨s0, s1, s2⟩
                   go_simp
                   with_reducible rfl
                  rotate_left
                  ·simp only [Act.put, q1_9, q2_9, q3_9, i64_w, i32_w]
                   rfl
                  refine pure_ (i := 14) (N := some 100) (v := ?_) (a' := ?_) #[t_9,t_9,t_9,t_9,t_9,t_9,t_9,t_9,t_9,t_9,t_9,t_9,t_9,t_9,t_9,f_9,f_9,f_9,t_9,f_9,f_9,f_9] rfl rfl (any_of HT_.out (by kernel_rfl)) (fun _ _ _ h => h) (Or.inl ⟨by rfl, ?_⟩) ?_ ?_; rotate_left; (·intro w'; go_simp; with_reducible rfl); rotate_left; (·simp only [Act.put, q1_9, q2_9, q3_9, i64_w, i32_w]; rfl)
                  refine pure_ (i := 15) (N := some 101) (v := ?_) (a' := ?_) #[t_9,t_9,t_9,t_9,t_9,t_9,t_9,t_9,t_9,t_9,t_9,t_9,t_9,t_9,t_9,t_9,f_9,f_9,t_9,f_9,f_9,f_9] rfl rfl (any_of HT_.out (by kernel_rfl)) (fun _ _ _ h => h) (Or.inl ⟨by rfl, ?_⟩) ?_ ?_; rotate_left; (·intro w'; go_simp; with_reducible rfl); rotate_left; (·simp only [Act.put, q1_9, q2_9, q3_9, i64_w, i32_w]; rfl)
                  refine take_ (i := 16) (N := some 102) (v := ?_) (a' := ?_) #[t_9,t_9,t_9,t_9,t_9,t_9,t_9,t_9,t_9,t_9,t_9,t_9,t_9,t_9,t_9,t_9,t_9,f_9,t_9,f_9,f_9,f_9] rfl rfl (take_ofW HT_.out HW_.out (by kernel_rfl)) (fun _ _ _ h => h) (Or.inl ⟨by rfl, ?_⟩) hHeld ?_ ?_
                  rotate_left
                  ·rintro w' ⟨s0, s1, s2⟩
                   go_simp
                   with_reducible rfl
                  rotate_left
                  ·simp only [Act.put, q1_9, q2_9, q3_9, i64_w, i32_w]
                   rfl
                  refine one_ (i := 17) (N := some 103) B9_39 rfl rfl (one_of HT_.out (by kernel_rfl)) (by decide) (fun K hK => ?_)
                  refine goes_ Try.func21 (by kernel_rfl) rfl #[.agg #[.slice (some ad168) l0_0.length c0_0], .string ((rd_T34 l0_0 a1).f0)] (by rfl) rfl rfl (by (try simp only [List.map_toArray, List.map_cons, List.map_nil]); first | done | rfl | (simp only [List.length_drop, List.length_take]; rfl)) ?_
                  with_reducible refine (schema_Find.calls _ _ l0_0 ((rd_T34 l0_0 a1).f0) t172 _ ?side1 ?side2 A56.out).mono ?_
                  (case side1 => repeat (first | exact (Kd.C_below HR0_0.out HB.out) | (with_reducible first | refine ca9_ ?_ _ | refine cn9_ ?_ _ | refine cd9_ ?_)))
                  (case side2 => exact HC0_0.out)
                  rintro e w61 ⟨rfl, hb⟩
                  refine ⟨_, rfl, ?_⟩
                  have n0_ := am9_ (blk_below (g := gb158) (o := .cells #[.slice (some ad168) l0_0.length c0_0] 24 (0, 0)) (by (with_reducible repeat (first | refine blk_drewN ?_ _ | refine blk_drew ?_ | refine blk_alloc ?_ _)); exact BK158.out) hb)
                  have n1_ := am9_ (below_step (by repeat (first | (with_reducible first | exact HB.out | apply below_alloc | apply pw_below_drewN | apply below_drew1 | refine below_set ?_ GE158.out) | exact HB.out)) hb)
                  clear BK158
                  clear HB
                  have BK158 := n0_
                  have HB := n1_
                  clear n0_ n1_
                  (try clear hb)
                  (try clear hb2)
                  (try clear hk)
                  (try clear hi)
                  refine hK.out _ _ ⟨(blk_cell BK158.out 0).trans rfl, ((HB.out.cell (World.block_lt_of_cell? w _ hw171_0)).trans hw171_0), ((HB.out.cell (World.block_lt_of_cell? w _ hw171_1)).trans hw171_1)⟩ (fun hHeld => ?_)
                  clear hK K
                  refine norm_ (a' := ?_) ?_ ?_
                  rotate_left
                  ·show Act.put _ (some 103) _ = _
                   simp only [Act.put, q1_9, q2_9, q3_9, i64_w, i32_w]
                   rfl
                  refine pure_ (i := 19) (N := some 105) (v := ?_) (a' := ?_) B9_41 rfl rfl (any_of HT_.out (by kernel_rfl)) (fun _ _ _ h => h) (Or.inl ⟨by rfl, ?_⟩) ?_ ?_; rotate_left; (·intro w'; go_simp; with_reducible rfl); rotate_left; (·simp only [Act.put, q1_9, q2_9, q3_9, i64_w, i32_w]; rfl)
                  refine pure_ (i := 20) (N := some 106) (v := ?_) (a' := ?_) B9_44 rfl rfl (any_of HT_.out (by kernel_rfl)) (fun _ _ _ h => h) (Or.inl ⟨by rfl, ?_⟩) ?_ ?_; rotate_left; (·intro w'; go_simp; with_reducible rfl); rotate_left; (·simp only [Act.put, q1_9, q2_9, q3_9, i64_w, i32_w]; rfl)
                  refine pure_ (i := 21) (N := some 4) (v := ?_) (a' := ?_) B9_57 rfl rfl (any_of HT_.out (by kernel_rfl)) (fun _ _ _ h => h) (Or.inl ⟨by rfl, ?_⟩) ?_ ?_; rotate_left; (·intro w'; go_simp; with_reducible rfl); rotate_left; (·simp only [Act.put, q1_9, q2_9, q3_9, i64_w, i32_w]; rfl)
                  refine done_ (done_of HT_.out (by kernel_rfl)) ?_
                  try go_wp2
                  go_ret
                  exact ⟨by first | rfl | (simp [errW_none, errW_some] <;> rfl) | (simp [*, errW_none, errW_some] <;> rfl), by repeat (first | (with_reducible first | exact HB.out | apply below_alloc | apply pw_below_drewN | apply below_drew1 | refine below_set ?_ GE158.out) | exact HB.out)⟩
                 ·rw [if_neg c55] at H
                  exact absurd H (by simp)
                ·rw [if_neg c54] at H
                 exact absurd H (by simp)
             ·rw [if_neg c43] at H
              exact absurd H (by simp)
            ·rw [if_neg c42] at H
             exact absurd H (by simp)
           ·rw [if_neg c41] at H
            exact absurd H (by simp)
         ·rw [if_neg c39] at H
          exact absurd H (by simp)
        ·rw [if_neg c38] at H
         have c38b0 : (t167.toList == x7_2.toList) = false := beq_eq_false_iff_ne.mpr c38
         have c38b1 : (t167.toList != x7_2.toList) = true := bne_iff_ne.mpr c38
         exact absurd H (by simp)
       ·replace c37 := Bool.eq_false_iff.mpr c37
        subst c37
        have H1 : (if 0 < (l0_0.length : Int) then (if (t167.size : Int) < (wrap64 ((((rd_T34 l0_0 0).f0).size : Int) + 2)) then (none) else (if 0 ≤ (((rd_T34 l0_0 0).f0).size : Int) then (if (((rd_T34 l0_0 0).f0).size : Int) ≤ (t167.size : Int) then (if (t167.extract 0 ((((rd_T34 l0_0 0).f0).size : Int) : Int).toNat).toList = ((rd_T34 l0_0 0).f0).toList then (if a1 < 0 then (some true) else (if a1 ≥ (l0_0.length : Int) then (some true) else (if 0 ≤ a1 then (if a1 < (l0_0.length : Int) then ((schema_Find.f l0_0 ((rd_T34 l0_0 a1).f0)).bind fun t177 => (some (t177 == a1))) else (none)) else (none)))) else (none)) else (none)) else (none))) else (none)) = some r := by rw [if_neg (show ¬ (false = true) by decide)] at H; exact H
        clear H
        have H := H1
        clear H1
        by_cases c62 : 0 < (l0_0.length : Int)
        ·rw [if_pos c62] at H
         have c62b0 : decide (0 < (l0_0.length : Int)) = true := decide_eq_true c62
         have c62b1 : decide (0 < l0_0.length) = true := decide_eq_true (by omega)
         clear c62
         by_cases c63 : (t167.size : Int) < (wrap64 ((((rd_T34 l0_0 0).f0).size : Int) + 2))
         ·rw [if_pos c63] at H
          have c63b0 : decide ((t167.size : Int) < (wrap64 ((((rd_T34 l0_0 0).f0).size : Int) + 2))) = true := decide_eq_true c63
          clear c63
          exact absurd H (by simp)
         ·rw [if_neg c63] at H
          have c63b0 : decide ((t167.size : Int) < (wrap64 ((((rd_T34 l0_0 0).f0).size : Int) + 2))) = false := decide_eq_false c63
          clear c63
          by_cases c64 : 0 ≤ (((rd_T34 l0_0 0).f0).size : Int)
          ·rw [if_pos c64] at H
           have c64b0 := eq_true c64
           have c64b1 : decide (0 ≤ (((rd_T34 l0_0 0).f0).size : Int)) = true := decide_eq_true c64
           clear c64
           by_cases c65 : (((rd_T34 l0_0 0).f0).size : Int) ≤ (t167.size : Int)
           ·rw [if_pos c65] at H
            have c65b0 := eq_true c65
            have c65b1 : decide ((((rd_T34 l0_0 0).f0).size : Int) ≤ (t167.size : Int)) = true := decide_eq_true c65
            clear c65
            by_cases c66 : (t167.extract 0 ((((rd_T34 l0_0 0).f0).size : Int) : Int).toNat).toList = ((rd_T34 l0_0 0).f0).toList
            ·rw [if_pos c66] at H
             have c66b0 : ((t167.extract 0 ((((rd_T34 l0_0 0).f0).size : Int) : Int).toNat).toList == ((rd_T34 l0_0 0).f0).toList) = true := beq_iff_eq.mpr c66
             have c66z_ : ((t167.extract 0 (((rd_T34 l0_0 0).f0).size)).toList == ((rd_T34 l0_0 0).f0).toList) = true := c66b0
             have c66b1 : ((t167.extract 0 ((((rd_T34 l0_0 0).f0).size : Int) : Int).toNat).toList != ((rd_T34 l0_0 0).f0).toList) = false := bne_eq_false_iff_eq.mpr c66
             clear c66
             by_cases c67 : a1 < 0
             ·rw [if_pos c67] at H
              have c67b0 : decide (a1 < 0) = true := decide_eq_true c67
              clear c67
              obtain rfl := Option.some.inj H
              have hcz68_0 : wr.cell? ⟨gb158, 0, none⟩ = some (.slice A0_0 l0_0.length c0_0) := (blk_cell BK158.out 0).trans rfl
              have hfz68_0 := blk_frozen BK158.out 0
              try go_wp2_with (first | ((with_reducible refine gate_callee (f := 19) rfl ?_); refine goesL_ (some 51) rfl rfl Try.func19 (by kernel_rfl) rfl #[.agg #[.slice A0_0 l0_0.length c0_0]] rfl (by (try simp only [List.map_toArray, List.map_cons, List.map_nil]); first | done | rfl | (simp only [List.length_drop, List.length_take]; rfl)) ?_; (with_reducible refine (schema_Text.calls k2 _ _ l0_0 t167 _ ?side1 ?side2 A36.out).mono ?_); (case side1 => repeat (first | exact (Kd.C_below HR0_0.out HB.out) | (with_reducible first | refine ca9_ ?_ _ | refine cn9_ ?_ _ | refine cd9_ ?_))); (case side2 => exact HC0_0.out); rintro e w69 ⟨rfl, hb⟩; refine ⟨_, rfl, ?_⟩; have n0_ := am9_ (blk_below (g := gb158) (o := .cells #[.slice A0_0 l0_0.length c0_0] 24 (0, 0)) (by (with_reducible repeat (first | refine blk_drewN ?_ _ | refine blk_drew ?_ | refine blk_alloc ?_ _)); exact BK158.out) hb); have n1_ := am9_ (below_step (by repeat (first | (with_reducible first | exact HB.out | apply below_alloc | apply pw_below_drewN | apply below_drew1 | refine below_set ?_ GE158.out) | exact HB.out)) hb); clear BK158; clear HB; have BK158 := n0_; have HB := n1_; clear n0_ n1_; (try clear hb); (try clear hb2); (try clear hk); (try clear hi)))
              have n0_ := am9_ (blk_drew BK158.out)
              have n1_ := am9_ (below_drew1 HB.out)
              clear BK158
              clear HB
              have BK158 := n0_
              have HB := n1_
              clear n0_ n1_
              have p173 : 0 ≤ (0 : Int) := (by omega)
              have q173 : 0 < (l0_0.length : Int) := of_decide_eq_true (by first | (with_reducible assumption) | assumption)
              obtain ⟨ad173, A173_1, c173_1, e173, hx173_0, hx173_1, hl173_1, hi173_1⟩ := at_T34 HR0_0.out 0 p173 q173
              have hw173_1 := hx173_1
              (try rw [show ((0 : Int)).toNat = 0 from rfl] at hw173_1)
              (try rw [show 0 * 2 = 0 from rfl] at hw173_1)
              (try rw [Addr.add_zero'] at hw173_1)
              have hw173_0 := hx173_0
              (try rw [show ((0 : Int)).toNat = 0 from rfl] at hw173_0)
              (try rw [show 0 * 2 = 0 from rfl] at hw173_0)
              (try rw [Addr.add_zero'] at hw173_0)
              cases e173
              have qi173 : (0 < l0_0.length) = True := eq_true (by omega)
              (try rw [show ((0 : Int)).toNat = 0 from rfl] at hx173_0)
              (try rw [show 0 * 2 = 0 from rfl] at hx173_0)
              (try rw [Addr.add_zero'] at hx173_0)
              (try rw [show ((0 : Int)).toNat = 0 from rfl] at hx173_1)
              (try rw [show 0 * 2 = 0 from rfl] at hx173_1)
              (try rw [Addr.add_zero'] at hx173_1)
              replace hx173_0 := (HB.out.cell (World.block_lt_of_cell? w _ hx173_0)).trans hx173_0
              replace hx173_1 := (HB.out.cell (World.block_lt_of_cell? w _ hx173_1)).trans hx173_1
              have HR173_1 := Aside0.mk hi173_1
              have HC173_1 := Aside0.mk hl173_1
              clear hi173_1 hl173_1
              replace p173 := eq_true p173
              replace q173 := eq_true q173
              have p174 : 0 ≤ (0 : Int) := (by omega)
              have q174 : 0 < (l0_0.length : Int) := of_decide_eq_true (by first | (with_reducible assumption) | assumption)
              obtain ⟨ad174, A174_1, c174_1, e174, hx174_0, hx174_1, hl174_1, hi174_1⟩ := at_T34 HR0_0.out 0 p174 q174
              have hw174_1 := hx174_1
              (try rw [show ((0 : Int)).toNat = 0 from rfl] at hw174_1)
              (try rw [show 0 * 2 = 0 from rfl] at hw174_1)
              (try rw [Addr.add_zero'] at hw174_1)
              have hw174_0 := hx174_0
              (try rw [show ((0 : Int)).toNat = 0 from rfl] at hw174_0)
              (try rw [show 0 * 2 = 0 from rfl] at hw174_0)
              (try rw [Addr.add_zero'] at hw174_0)
              obtain rfl : ad173 = ad174 := (by injection e174)
              have qi174 : (0 < l0_0.length) = True := eq_true (by omega)
              (try rw [show ((0 : Int)).toNat = 0 from rfl] at hx174_0)
              (try rw [show 0 * 2 = 0 from rfl] at hx174_0)
              (try rw [Addr.add_zero'] at hx174_0)
              (try rw [show ((0 : Int)).toNat = 0 from rfl] at hx174_1)
              (try rw [show 0 * 2 = 0 from rfl] at hx174_1)
              (try rw [Addr.add_zero'] at hx174_1)
              replace hx174_0 := (HB.out.cell (World.block_lt_of_cell? w _ hx174_0)).trans hx174_0
              replace hx174_1 := (HB.out.cell (World.block_lt_of_cell? w _ hx174_1)).trans hx174_1
              have HR174_1 := Aside0.mk hi174_1
              have HC174_1 := Aside0.mk hl174_1
              clear hi174_1 hl174_1
              replace p174 := eq_true p174
              replace q174 := eq_true q174
              have ea_ := Option.some.inj (hx173_1.symm.trans hx174_1)
              injection ea_ with ea_ en_ ec_
              subst ea_
              subst ec_
              clear en_
              have p175 : 0 ≤ (0 : Int) := (by omega)
              have q175 : 0 < (l0_0.length : Int) := of_decide_eq_true (by first | (with_reducible assumption) | assumption)
              obtain ⟨ad175, A175_1, c175_1, e175, hx175_0, hx175_1, hl175_1, hi175_1⟩ := at_T34 HR0_0.out 0 p175 q175
              have hw175_1 := hx175_1
              (try rw [show ((0 : Int)).toNat = 0 from rfl] at hw175_1)
              (try rw [show 0 * 2 = 0 from rfl] at hw175_1)
              (try rw [Addr.add_zero'] at hw175_1)
              have hw175_0 := hx175_0
              (try rw [show ((0 : Int)).toNat = 0 from rfl] at hw175_0)
              (try rw [show 0 * 2 = 0 from rfl] at hw175_0)
              (try rw [Addr.add_zero'] at hw175_0)
              obtain rfl : ad173 = ad175 := (by injection e175)
              have qi175 : (0 < l0_0.length) = True := eq_true (by omega)
              (try rw [show ((0 : Int)).toNat = 0 from rfl] at hx175_0)
              (try rw [show 0 * 2 = 0 from rfl] at hx175_0)
              (try rw [Addr.add_zero'] at hx175_0)
              (try rw [show ((0 : Int)).toNat = 0 from rfl] at hx175_1)
              (try rw [show 0 * 2 = 0 from rfl] at hx175_1)
              (try rw [Addr.add_zero'] at hx175_1)
              replace hx175_0 := (HB.out.cell (World.block_lt_of_cell? w _ hx175_0)).trans hx175_0
              replace hx175_1 := (HB.out.cell (World.block_lt_of_cell? w _ hx175_1)).trans hx175_1
              have HR175_1 := Aside0.mk hi175_1
              have HC175_1 := Aside0.mk hl175_1
              clear hi175_1 hl175_1
              replace p175 := eq_true p175
              replace q175 := eq_true q175
              have ea_ := Option.some.inj (hx173_1.symm.trans hx175_1)
              injection ea_ with ea_ en_ ec_
              subst ea_
              subst ec_
              clear en_
              refine start_ (n := 34) (S := fun w' => w'.cell? ⟨gb158, 0, none⟩ = some (.slice (some ad173) l0_0.length c0_0) ∧ w'.cell? ad173 = some (.string ((rd_T34 l0_0 0).f0)) ∧ w'.cell? ⟨ad173.block, ad173.off + 1, none⟩ = some (.slice A173_1 ((rd_T34 l0_0 0).f1).length c173_1) ∧ w'.cell? ad173 = some (.string ((rd_T34 l0_0 0).f0)) ∧ w'.cell? ⟨ad173.block, ad173.off + 1, none⟩ = some (.slice A173_1 ((rd_T34 l0_0 0).f1).length c173_1) ∧ w'.cell? ad173 = some (.string ((rd_T34 l0_0 0).f0)) ∧ w'.cell? ⟨ad173.block, ad173.off + 1, none⟩ = some (.slice A173_1 ((rd_T34 l0_0 0).f1).length c173_1)) (ds := []) B9_0 (by kernel_rfl) rfl rfl ⟨(blk_cell BK158.out 0).trans rfl, ((HB.out.cell (World.block_lt_of_cell? w _ hw173_0)).trans hw173_0), ((HB.out.cell (World.block_lt_of_cell? w _ hw173_1)).trans hw173_1), ((HB.out.cell (World.block_lt_of_cell? w _ hw174_0)).trans hw174_0), ((HB.out.cell (World.block_lt_of_cell? w _ hw174_1)).trans hw174_1), ((HB.out.cell (World.block_lt_of_cell? w _ hw175_0)).trans hw175_0), ((HB.out.cell (World.block_lt_of_cell? w _ hw175_1)).trans hw175_1)⟩ (fun hHeld => ?_); refine with_tabW foliatelaw06_SchemaParts.tab14 foliatelaw06_SchemaParts.bits14 (fun HT_ HW_ => ?_)
              generalize w69.drew = w70 at BK158 HB HR173_1 HR174_1 HR175_1 hx173_0 hx173_1 hx174_0 hx174_1 hx175_0 hx175_1 hHeld ⊢
              refine pure_ (i := 0) (N := some 52) (v := ?_) (a' := ?_) B9_2 rfl rfl (any_of HT_.out (by kernel_rfl)) (fun _ _ _ h => h) (Or.inl ⟨by rfl, ?_⟩) ?_ ?_; rotate_left; (·intro w'; go_simp; with_reducible rfl); rotate_left; (·simp only [Act.put, q1_9, q2_9, q3_9, i64_w, i32_w]; rfl)
              refine pure_ (i := 1) (N := some 53) (v := ?_) (a' := ?_) B9_4 rfl rfl (any_of HT_.out (by kernel_rfl)) (fun _ _ _ h => h) (Or.inl ⟨by rfl, ?_⟩) ?_ ?_; rotate_left; (·intro w'; go_simp; with_reducible rfl); rotate_left; (·simp only [Act.put, q1_9, q2_9, q3_9, i64_w, i32_w]; rfl)
              refine pure_ (i := 2) (N := some 54) (v := undef) (a' := ?_) B9_6 rfl rfl (any_of HT_.out (by kernel_rfl)) (fun _ _ _ h => h) (Or.inr ⟨by rfl, rfl⟩) ?_ ?_
              rotate_left
              ·simp only [Act.put, q1_9, q2_9, q3_9, i64_w, i32_w]
               rfl
              refine pure_ (i := 3) (N := some 55) (v := undef) (a' := ?_) B9_8 rfl rfl (any_of HT_.out (by kernel_rfl)) (fun _ _ _ h => h) (Or.inr ⟨by rfl, rfl⟩) ?_ ?_
              rotate_left
              ·simp only [Act.put, q1_9, q2_9, q3_9, i64_w, i32_w]
               rfl
              refine pure_ (i := 4) (N := some 56) (v := undef) (a' := ?_) B9_10 rfl rfl (any_of HT_.out (by kernel_rfl)) (fun _ _ _ h => h) (Or.inr ⟨by rfl, rfl⟩) ?_ ?_
              rotate_left
              ·simp only [Act.put, q1_9, q2_9, q3_9, i64_w, i32_w]
               rfl
              refine pure_ (i := 5) (N := some 57) (v := ?_) (a' := ?_) B9_12 rfl rfl (any_of HT_.out (by kernel_rfl)) (fun _ _ _ h => h) (Or.inl ⟨by rfl, ?_⟩) ?_ ?_; rotate_left; (·intro w'; go_simp; with_reducible rfl); rotate_left; (·simp only [Act.put, q1_9, q2_9, q3_9, i64_w, i32_w]; rfl)
              refine pure_ (i := 6) (N := some 58) (v := ?_) (a' := ?_) B9_14 rfl rfl (any_of HT_.out (by kernel_rfl)) (fun _ _ _ h => h) (Or.inl ⟨by rfl, ?_⟩) ?_ ?_; rotate_left; (·intro w'; go_simp; with_reducible rfl); rotate_left; (·simp only [Act.put, q1_9, q2_9, q3_9, i64_w, i32_w]; rfl)
              refine pure_ (i := 7) (N := some 59) (v := ?_) (a' := ?_) B9_16 rfl rfl (any_of HT_.out (by kernel_rfl)) (fun _ _ _ h => h) (Or.inl ⟨by rfl, ?_⟩) ?_ ?_; rotate_left; (·intro w'; go_simp; with_reducible rfl); rotate_left; (·simp only [Act.put, q1_9, q2_9, q3_9, i64_w, i32_w]; rfl)
              refine pure_ (i := 8) (N := some 60) (v := ?_) (a' := ?_) B9_18 rfl rfl (any_of HT_.out (by kernel_rfl)) (fun _ _ _ h => h) (Or.inl ⟨by rfl, ?_⟩) ?_ ?_; rotate_left; (·intro w'; go_simp; with_reducible rfl); rotate_left; (·simp only [Act.put, q1_9, q2_9, q3_9, i64_w, i32_w]; rfl)
              refine pure_ (i := 9) (N := some 61) (v := ?_) (a' := ?_) B9_20 rfl rfl (any_of HT_.out (by kernel_rfl)) (fun _ _ _ h => h) (Or.inl ⟨by rfl, ?_⟩) ?_ ?_; rotate_left; (·intro w'; go_simp; with_reducible rfl); rotate_left; (·simp only [Act.put, q1_9, q2_9, q3_9, i64_w, i32_w]; rfl)
              refine take_ (i := 10) (N := some 62) (v := ?_) (a' := ?_) B9_22 rfl rfl (take_ofW HT_.out HW_.out (by kernel_rfl)) (fun _ _ _ h => h) (Or.inl ⟨by rfl, ?_⟩) hHeld ?_ ?_
              rotate_left
              ·rintro w' ⟨s0, s1, s2, s3, s4, s5, s6⟩
               go_simp
               with_reducible rfl
              rotate_left
              ·simp only [Act.put, q1_9, q2_9, q3_9, i64_w, i32_w]
               rfl
              refine pure_ (i := 11) (N := some 63) (v := ?_) (a' := ?_) B9_24 rfl rfl (any_of HT_.out (by kernel_rfl)) (fun _ _ _ h => h) (Or.inl ⟨by rfl, ?_⟩) ?_ ?_; rotate_left; (·intro w'; go_simp; with_reducible rfl); rotate_left; (·simp only [Act.put, q1_9, q2_9, q3_9, i64_w, i32_w]; rfl)
              refine pure_ (i := 12) (N := some 64) (v := ?_) (a' := ?_) B9_26 rfl rfl (any_of HT_.out (by kernel_rfl)) (fun _ _ _ h => h) (Or.inl ⟨by rfl, ?_⟩) ?_ ?_; rotate_left; (·intro w'; go_simp; with_reducible rfl); rotate_left; (·simp only [Act.put, q1_9, q2_9, q3_9, i64_w, i32_w]; rfl)
              refine take_ (i := 13) (N := some 65) (v := ?_) (a' := ?_) B9_28 rfl rfl (take_ofW HT_.out HW_.out (by kernel_rfl)) (fun _ _ _ h => h) (Or.inl ⟨by rfl, ?_⟩) hHeld ?_ ?_
              rotate_left
              ·rintro w' ⟨s0, s1, s2, s3, s4, s5, s6⟩
               go_simp
               with_reducible rfl
              rotate_left
              ·simp only [Act.put, q1_9, q2_9, q3_9, i64_w, i32_w]
               rfl
              refine pure_ (i := 14) (N := some 66) (v := ?_) (a' := ?_) B9_30 rfl rfl (any_of HT_.out (by kernel_rfl)) (fun _ _ _ h => h) (Or.inl ⟨by rfl, ?_⟩) ?_ ?_; rotate_left; (·intro w'; go_simp; with_reducible rfl); rotate_left; (·simp only [Act.put, q1_9, q2_9, q3_9, i64_w, i32_w]; rfl)
              refine pure_ (i := 15) (N := some 67) (v := ?_) (a' := ?_) B9_32 rfl rfl (any_of HT_.out (by kernel_rfl)) (fun _ _ _ h => h) (Or.inl ⟨by rfl, ?_⟩) ?_ ?_; rotate_left; (·intro w'; go_simp; with_reducible rfl); rotate_left; (·simp only [Act.put, q1_9, q2_9, q3_9, i64_w, i32_w]; rfl)
              refine pure_ (i := 16) (N := some 68) (v := ?_) (a' := ?_) B9_34 rfl rfl (any_of HT_.out (by kernel_rfl)) (fun _ _ _ h => h) (Or.inl ⟨by rfl, ?_⟩) ?_ ?_; rotate_left; (·intro w'; go_simp; with_reducible rfl); rotate_left; (·simp only [Act.put, q1_9, q2_9, q3_9, i64_w, i32_w]; rfl)
              refine pure_ (i := 17) (N := some 69) (v := ?_) (a' := ?_) B9_36 rfl rfl (any_of HT_.out (by kernel_rfl)) (fun _ _ _ h => h) (Or.inl ⟨by rfl, ?_⟩) ?_ ?_; rotate_left; (·intro w'; go_simp; with_reducible rfl); rotate_left; (·simp only [Act.put, q1_9, q2_9, q3_9, i64_w, i32_w]; rfl)
              refine pure_ (i := 18) (N := some 70) (v := ?_) (a' := ?_) B9_38 rfl rfl (any_of HT_.out (by kernel_rfl)) (fun _ _ _ h => h) (Or.inl ⟨by rfl, ?_⟩) ?_ ?_; rotate_left; (·intro w'; go_simp; with_reducible rfl); rotate_left; (·simp only [Act.put, q1_9, q2_9, q3_9, i64_w, i32_w]; rfl)
              refine pure_ (i := 19) (N := some 71) (v := ?_) (a' := ?_) B9_40 rfl rfl (any_of HT_.out (by kernel_rfl)) (fun _ _ _ h => h) (Or.inl ⟨by rfl, ?_⟩) ?_ ?_; rotate_left; (·intro w'; go_simp; with_reducible rfl); rotate_left; (·simp only [Act.put, q1_9, q2_9, q3_9, i64_w, i32_w]; rfl)
              refine pure_ (i := 20) (N := some 72) (v := ?_) (a' := ?_) B9_42 rfl rfl (any_of HT_.out (by kernel_rfl)) (fun _ _ _ h => h) (Or.inl ⟨by rfl, ?_⟩) ?_ ?_; rotate_left; (·intro w'; go_simp; with_reducible rfl); rotate_left; (·simp only [Act.put, q1_9, q2_9, q3_9, i64_w, i32_w]; rfl)
              refine pure_ (i := 27) (N := some 79) (v := ?_) (a' := ?_) B9_43 rfl rfl (any_of HT_.out (by kernel_rfl)) (fun _ _ _ h => h) (Or.inl ⟨by rfl, ?_⟩) ?_ ?_; rotate_left; (·intro w'; go_simp; with_reducible rfl); rotate_left; (·simp only [Act.put, q1_9, q2_9, q3_9, i64_w, i32_w]; rfl)
              refine take_ (i := 21) (N := some 73) (v := ?_) (a' := ?_) B9_45 rfl rfl (take_ofW HT_.out HW_.out (by kernel_rfl)) (fun _ _ _ h => h) (Or.inl ⟨by rfl, ?_⟩) hHeld ?_ ?_
              rotate_left
              ·rintro w' ⟨s0, s1, s2, s3, s4, s5, s6⟩
               go_simp
               with_reducible rfl
              rotate_left
              ·simp only [Act.put, q1_9, q2_9, q3_9, i64_w, i32_w]
               rfl
              refine pure_ (i := 22) (N := some 74) (v := ?_) (a' := ?_) B9_46 rfl rfl (any_of HT_.out (by kernel_rfl)) (fun _ _ _ h => h) (Or.inl ⟨by rfl, ?_⟩) ?_ ?_; rotate_left; (·intro w'; go_simp; with_reducible rfl); rotate_left; (·simp only [Act.put, q1_9, q2_9, q3_9, i64_w, i32_w]; rfl)
              refine pure_ (i := 23) (N := some 75) (v := ?_) (a' := ?_) B9_47 rfl rfl (any_of HT_.out (by kernel_rfl)) (fun _ _ _ h => h) (Or.inl ⟨by rfl, ?_⟩) ?_ ?_; rotate_left; (·intro w'; go_simp; with_reducible rfl); rotate_left; (·simp only [Act.put, q1_9, q2_9, q3_9, i64_w, i32_w]; rfl)
              refine take_ (i := 24) (N := some 76) (v := ?_) (a' := ?_) B9_48 rfl rfl (take_ofW HT_.out HW_.out (by kernel_rfl)) (fun _ _ _ h => h) (Or.inl ⟨by rfl, ?_⟩) hHeld ?_ ?_
              rotate_left
              ·rintro w' ⟨s0, s1, s2, s3, s4, s5, s6⟩
               go_simp
               with_reducible rfl
              rotate_left
              ·simp only [Act.put, q1_9, q2_9, q3_9, i64_w, i32_w]
               rfl
              refine pure_ (i := 25) (N := some 77) (v := ?_) (a' := ?_) B9_49 rfl rfl (any_of HT_.out (by kernel_rfl)) (fun _ _ _ h => h) (Or.inl ⟨by rfl, ?_⟩) ?_ ?_; rotate_left; (·intro w'; go_simp; with_reducible rfl); rotate_left; (·simp only [Act.put, q1_9, q2_9, q3_9, i64_w, i32_w]; rfl)
              refine pure_ (i := 26) (N := some 78) (v := ?_) (a' := ?_) B9_50 rfl rfl (any_of HT_.out (by kernel_rfl)) (fun _ _ _ h => h) (Or.inl ⟨by rfl, ?_⟩) ?_ ?_; rotate_left; (·intro w'; go_simp; with_reducible rfl); rotate_left; (·simp only [Act.put, q1_9, q2_9, q3_9, i64_w, i32_w]; rfl)
              refine take_ (i := 28) (N := some 80) (v := ?_) (a' := ?_) B9_51 rfl rfl (take_ofW HT_.out HW_.out (by kernel_rfl)) (fun _ _ _ h => h) (Or.inl ⟨by rfl, ?_⟩) hHeld ?_ ?_
              rotate_left
              ·rintro w' ⟨s0, s1, s2, s3, s4, s5, s6⟩
               go_simp
               with_reducible rfl
              rotate_left
              ·simp only [Act.put, q1_9, q2_9, q3_9, i64_w, i32_w]
               rfl
              refine pure_ (i := 29) (N := some 81) (v := ?_) (a' := ?_) B9_52 rfl rfl (any_of HT_.out (by kernel_rfl)) (fun _ _ _ h => h) (Or.inl ⟨by rfl, ?_⟩) ?_ ?_; rotate_left; (·intro w'; go_simp; with_reducible rfl); rotate_left; (·simp only [Act.put, q1_9, q2_9, q3_9, i64_w, i32_w]; rfl)
              refine pure_ (i := 30) (N := some 82) (v := ?_) (a' := ?_) B9_53 rfl rfl (any_of HT_.out (by kernel_rfl)) (fun _ _ _ h => h) (Or.inl ⟨by rfl, ?_⟩) ?_ ?_; rotate_left; (·intro w'; go_simp; with_reducible rfl); rotate_left; (·simp only [Act.put, q1_9, q2_9, q3_9, i64_w, i32_w]; rfl)
              refine take_ (i := 31) (N := some 83) (v := ?_) (a' := ?_) B9_54 rfl rfl (take_ofW HT_.out HW_.out (by kernel_rfl)) (fun _ _ _ h => h) (Or.inl ⟨by rfl, ?_⟩) hHeld ?_ ?_
              rotate_left
              ·rintro w' ⟨s0, s1, s2, s3, s4, s5, s6⟩
               go_simp
               with_reducible rfl
              rotate_left
              ·simp only [Act.put, q1_9, q2_9, q3_9, i64_w, i32_w]
               rfl
              refine pure_ (i := 32) (N := some 84) (v := ?_) (a' := ?_) B9_55 rfl rfl (any_of HT_.out (by kernel_rfl)) (fun _ _ _ h => h) (Or.inl ⟨by rfl, ?_⟩) ?_ ?_; rotate_left; (·intro w'; go_simp; with_reducible rfl); rotate_left; (·simp only [Act.put, q1_9, q2_9, q3_9, i64_w, i32_w]; rfl)
              refine pure_ (i := 33) (N := some 85) (v := ?_) (a' := ?_) B9_56 rfl rfl (any_of HT_.out (by kernel_rfl)) (fun _ _ _ h => h) (Or.inl ⟨by rfl, ?_⟩) ?_ ?_; rotate_left; (·intro w'; go_simp; with_reducible rfl); rotate_left; (·simp only [Act.put, q1_9, q2_9, q3_9, i64_w, i32_w]; rfl)
              refine done_ (done_of HT_.out (by kernel_rfl)) ?_
              try go_wp2
              have n0_ := am9_ (blk_drew BK158.out)
              have n1_ := am9_ (below_drew1 HB.out)
              clear BK158
              clear HB
              have BK158 := n0_
              have HB := n1_
              clear n0_ n1_
              refine start_ (n := 22) (S := fun w' => True) (ds := []) B9_1 (by kernel_rfl) rfl rfl trivial (fun hHeld => ?_); refine with_tabW foliatelaw06_SchemaParts.tab16 foliatelaw06_SchemaParts.bits16 (fun HT_ HW_ => ?_)
              generalize w70.drew = w71 at BK158 HB hHeld ⊢
              refine pure_ (i := 0) (N := some 86) (v := ?_) (a' := ?_) B9_3 rfl rfl (any_of HT_.out (by kernel_rfl)) (fun _ _ _ h => h) (Or.inl ⟨by rfl, ?_⟩) ?_ ?_; rotate_left; (·intro w'; go_simp; with_reducible rfl); rotate_left; (·simp only [Act.put, q1_9, q2_9, q3_9, i64_w, i32_w]; rfl)
              refine pure_ (i := 1) (N := some 87) (v := ?_) (a' := ?_) B9_5 rfl rfl (any_of HT_.out (by kernel_rfl)) (fun _ _ _ h => h) (Or.inl ⟨by rfl, ?_⟩) ?_ ?_; rotate_left; (·intro w'; go_simp; with_reducible rfl); rotate_left; (·simp only [Act.put, q1_9, q2_9, q3_9, i64_w, i32_w]; rfl)
              refine pure_ (i := 2) (N := some 88) (v := ?_) (a' := ?_) B9_7 rfl rfl (any_of HT_.out (by kernel_rfl)) (fun _ _ _ h => h) (Or.inl ⟨by rfl, ?_⟩) ?_ ?_; rotate_left; (·intro w'; go_simp; with_reducible rfl); rotate_left; (·simp only [Act.put, q1_9, q2_9, q3_9, i64_w, i32_w]; rfl)
              refine pure_ (i := 3) (N := some 89) (v := undef) (a' := ?_) B9_9 rfl rfl (any_of HT_.out (by kernel_rfl)) (fun _ _ _ h => h) (Or.inr ⟨by rfl, rfl⟩) ?_ ?_
              rotate_left
              ·simp only [Act.put, q1_9, q2_9, q3_9, i64_w, i32_w]
               rfl
              refine pure_ (i := 4) (N := some 90) (v := undef) (a' := ?_) B9_11 rfl rfl (any_of HT_.out (by kernel_rfl)) (fun _ _ _ h => h) (Or.inr ⟨by rfl, rfl⟩) ?_ ?_
              rotate_left
              ·simp only [Act.put, q1_9, q2_9, q3_9, i64_w, i32_w]
               rfl
              refine pure_ (i := 5) (N := some 91) (v := undef) (a' := ?_) B9_13 rfl rfl (any_of HT_.out (by kernel_rfl)) (fun _ _ _ h => h) (Or.inr ⟨by rfl, rfl⟩) ?_ ?_
              rotate_left
              ·simp only [Act.put, q1_9, q2_9, q3_9, i64_w, i32_w]
               rfl
              refine pure_ (i := 6) (N := some 92) (v := undef) (a' := ?_) B9_15 rfl rfl (any_of HT_.out (by kernel_rfl)) (fun _ _ _ h => h) (Or.inr ⟨by rfl, rfl⟩) ?_ ?_
              rotate_left
              ·simp only [Act.put, q1_9, q2_9, q3_9, i64_w, i32_w]
               rfl
              refine pure_ (i := 7) (N := some 93) (v := undef) (a' := ?_) B9_17 rfl rfl (any_of HT_.out (by kernel_rfl)) (fun _ _ _ h => h) (Or.inr ⟨by rfl, rfl⟩) ?_ ?_
              rotate_left
              ·simp only [Act.put, q1_9, q2_9, q3_9, i64_w, i32_w]
               rfl
              refine pure_ (i := 8) (N := some 94) (v := ?_) (a' := ?_) B9_19 rfl rfl (any_of HT_.out (by kernel_rfl)) (fun _ _ _ h => h) (Or.inl ⟨by rfl, ?_⟩) ?_ ?_; rotate_left; (·intro w'; go_simp; with_reducible rfl); rotate_left; (·simp only [Act.put, q1_9, q2_9, q3_9, i64_w, i32_w]; rfl)
              refine pure_ (i := 9) (N := some 95) (v := ?_) (a' := ?_) B9_21 rfl rfl (any_of HT_.out (by kernel_rfl)) (fun _ _ _ h => h) (Or.inl ⟨by rfl, ?_⟩) ?_ ?_; rotate_left; (·intro w'; go_simp; with_reducible rfl); rotate_left; (·simp only [Act.put, q1_9, q2_9, q3_9, i64_w, i32_w]; rfl)
              refine pure_ (i := 10) (N := some 96) (v := undef) (a' := ?_) B9_23 rfl rfl (any_of HT_.out (by kernel_rfl)) (fun _ _ _ h => h) (Or.inr ⟨by rfl, rfl⟩) ?_ ?_
              rotate_left
              ·simp only [Act.put, q1_9, q2_9, q3_9, i64_w, i32_w]
               rfl
              refine pure_ (i := 11) (N := some 97) (v := undef) (a' := ?_) B9_25 rfl rfl (any_of HT_.out (by kernel_rfl)) (fun _ _ _ h => h) (Or.inr ⟨by rfl, rfl⟩) ?_ ?_
              rotate_left
              ·simp only [Act.put, q1_9, q2_9, q3_9, i64_w, i32_w]
               rfl
              refine pure_ (i := 12) (N := some 98) (v := undef) (a' := ?_) B9_27 rfl rfl (any_of HT_.out (by kernel_rfl)) (fun _ _ _ h => h) (Or.inr ⟨by rfl, rfl⟩) ?_ ?_
              rotate_left
              ·simp only [Act.put, q1_9, q2_9, q3_9, i64_w, i32_w]
               rfl
              refine pure_ (i := 13) (N := some 99) (v := undef) (a' := ?_) B9_29 rfl rfl (any_of HT_.out (by kernel_rfl)) (fun _ _ _ h => h) (Or.inr ⟨by rfl, rfl⟩) ?_ ?_
              rotate_left
              ·simp only [Act.put, q1_9, q2_9, q3_9, i64_w, i32_w]
               rfl
              refine pure_ (i := 14) (N := some 100) (v := undef) (a' := ?_) B9_31 rfl rfl (any_of HT_.out (by kernel_rfl)) (fun _ _ _ h => h) (Or.inr ⟨by rfl, rfl⟩) ?_ ?_
              rotate_left
              ·simp only [Act.put, q1_9, q2_9, q3_9, i64_w, i32_w]
               rfl
              refine pure_ (i := 15) (N := some 101) (v := undef) (a' := ?_) B9_33 rfl rfl (any_of HT_.out (by kernel_rfl)) (fun _ _ _ h => h) (Or.inr ⟨by rfl, rfl⟩) ?_ ?_
              rotate_left
              ·simp only [Act.put, q1_9, q2_9, q3_9, i64_w, i32_w]
               rfl
              refine pure_ (i := 16) (N := some 102) (v := undef) (a' := ?_) B9_35 rfl rfl (any_of HT_.out (by kernel_rfl)) (fun _ _ _ h => h) (Or.inr ⟨by rfl, rfl⟩) ?_ ?_
              rotate_left
              ·simp only [Act.put, q1_9, q2_9, q3_9, i64_w, i32_w]
               rfl
              refine pure_ (i := 17) (N := some 103) (v := undef) (a' := ?_) B9_37 rfl rfl (any_of HT_.out (by kernel_rfl)) (fun _ _ _ h => h) (Or.inr ⟨by rfl, rfl⟩) ?_ ?_
              rotate_left
              ·simp only [Act.put, q1_9, q2_9, q3_9, i64_w, i32_w]
               rfl
              refine pure_ (i := 18) (N := some 104) (v := undef) (a' := ?_) B9_39 rfl rfl (any_of HT_.out (by kernel_rfl)) (fun _ _ _ h => h) (Or.inr ⟨by rfl, rfl⟩) ?_ ?_
              rotate_left
              ·simp only [Act.put, q1_9, q2_9, q3_9, i64_w, i32_w]
               rfl
              refine pure_ (i := 19) (N := some 105) (v := undef) (a' := ?_) B9_41 rfl rfl (any_of HT_.out (by kernel_rfl)) (fun _ _ _ h => h) (Or.inr ⟨by rfl, rfl⟩) ?_ ?_
              rotate_left
              ·simp only [Act.put, q1_9, q2_9, q3_9, i64_w, i32_w]
               rfl
              refine pure_ (i := 20) (N := some 106) (v := ?_) (a' := ?_) B9_44 rfl rfl (any_of HT_.out (by kernel_rfl)) (fun _ _ _ h => h) (Or.inl ⟨by rfl, ?_⟩) ?_ ?_; rotate_left; (·intro w'; go_simp; with_reducible rfl); rotate_left; (·simp only [Act.put, q1_9, q2_9, q3_9, i64_w, i32_w]; rfl)
              refine pure_ (i := 21) (N := some 4) (v := ?_) (a' := ?_) B9_57 rfl rfl (any_of HT_.out (by kernel_rfl)) (fun _ _ _ h => h) (Or.inl ⟨by rfl, ?_⟩) ?_ ?_; rotate_left; (·intro w'; go_simp; with_reducible rfl); rotate_left; (·simp only [Act.put, q1_9, q2_9, q3_9, i64_w, i32_w]; rfl)
              refine done_ (done_of HT_.out (by kernel_rfl)) ?_
              try go_wp2
              go_ret
              exact ⟨by first | rfl | (simp [errW_none, errW_some] <;> rfl) | (simp [*, errW_none, errW_some] <;> rfl), by repeat (first | (with_reducible first | exact HB.out | apply below_alloc | apply pw_below_drewN | apply below_drew1 | refine below_set ?_ GE158.out) | exact HB.out)⟩
             ·rw [if_neg c67] at H
              have c67b0 : decide (a1 < 0) = false := decide_eq_false c67
              clear c67
              by_cases c72 : a1 ≥ (l0_0.length : Int)
              ·rw [if_pos c72] at H
               have c72b0 : decide ((l0_0.length : Int) ≤ a1) = true := decide_eq_true c72
               clear c72
               obtain rfl := Option.some.inj H
               have hcz73_0 : wr.cell? ⟨gb158, 0, none⟩ = some (.slice A0_0 l0_0.length c0_0) := (blk_cell BK158.out 0).trans rfl
               have hfz73_0 := blk_frozen BK158.out 0
               try go_wp2_with (first | ((with_reducible refine gate_callee (f := 19) rfl ?_); refine goesL_ (some 51) rfl rfl Try.func19 (by kernel_rfl) rfl #[.agg #[.slice A0_0 l0_0.length c0_0]] rfl (by (try simp only [List.map_toArray, List.map_cons, List.map_nil]); first | done | rfl | (simp only [List.length_drop, List.length_take]; rfl)) ?_; (with_reducible refine (schema_Text.calls k2 _ _ l0_0 t167 _ ?side1 ?side2 A36.out).mono ?_); (case side1 => repeat (first | exact (Kd.C_below HR0_0.out HB.out) | (with_reducible first | refine ca9_ ?_ _ | refine cn9_ ?_ _ | refine cd9_ ?_))); (case side2 => exact HC0_0.out); rintro e w74 ⟨rfl, hb⟩; refine ⟨_, rfl, ?_⟩; have n0_ := am9_ (blk_below (g := gb158) (o := .cells #[.slice A0_0 l0_0.length c0_0] 24 (0, 0)) (by (with_reducible repeat (first | refine blk_drewN ?_ _ | refine blk_drew ?_ | refine blk_alloc ?_ _)); exact BK158.out) hb); have n1_ := am9_ (below_step (by repeat (first | (with_reducible first | exact HB.out | apply below_alloc | apply pw_below_drewN | apply below_drew1 | refine below_set ?_ GE158.out) | exact HB.out)) hb); clear BK158; clear HB; have BK158 := n0_; have HB := n1_; clear n0_ n1_; (try clear hb); (try clear hb2); (try clear hk); (try clear hi)))
               have n0_ := am9_ (blk_drew BK158.out)
               have n1_ := am9_ (below_drew1 HB.out)
               clear BK158
               clear HB
               have BK158 := n0_
               have HB := n1_
               clear n0_ n1_
               have p173 : 0 ≤ (0 : Int) := (by omega)
               have q173 : 0 < (l0_0.length : Int) := of_decide_eq_true (by first | (with_reducible assumption) | assumption)
               obtain ⟨ad173, A173_1, c173_1, e173, hx173_0, hx173_1, hl173_1, hi173_1⟩ := at_T34 HR0_0.out 0 p173 q173
               have hw173_1 := hx173_1
               (try rw [show ((0 : Int)).toNat = 0 from rfl] at hw173_1)
               (try rw [show 0 * 2 = 0 from rfl] at hw173_1)
               (try rw [Addr.add_zero'] at hw173_1)
               have hw173_0 := hx173_0
               (try rw [show ((0 : Int)).toNat = 0 from rfl] at hw173_0)
               (try rw [show 0 * 2 = 0 from rfl] at hw173_0)
               (try rw [Addr.add_zero'] at hw173_0)
               cases e173
               have qi173 : (0 < l0_0.length) = True := eq_true (by omega)
               (try rw [show ((0 : Int)).toNat = 0 from rfl] at hx173_0)
               (try rw [show 0 * 2 = 0 from rfl] at hx173_0)
               (try rw [Addr.add_zero'] at hx173_0)
               (try rw [show ((0 : Int)).toNat = 0 from rfl] at hx173_1)
               (try rw [show 0 * 2 = 0 from rfl] at hx173_1)
               (try rw [Addr.add_zero'] at hx173_1)
               replace hx173_0 := (HB.out.cell (World.block_lt_of_cell? w _ hx173_0)).trans hx173_0
               replace hx173_1 := (HB.out.cell (World.block_lt_of_cell? w _ hx173_1)).trans hx173_1
               have HR173_1 := Aside0.mk hi173_1
               have HC173_1 := Aside0.mk hl173_1
               clear hi173_1 hl173_1
               replace p173 := eq_true p173
               replace q173 := eq_true q173
               have p174 : 0 ≤ (0 : Int) := (by omega)
               have q174 : 0 < (l0_0.length : Int) := of_decide_eq_true (by first | (with_reducible assumption) | assumption)
               obtain ⟨ad174, A174_1, c174_1, e174, hx174_0, hx174_1, hl174_1, hi174_1⟩ := at_T34 HR0_0.out 0 p174 q174
               have hw174_1 := hx174_1
               (try rw [show ((0 : Int)).toNat = 0 from rfl] at hw174_1)
               (try rw [show 0 * 2 = 0 from rfl] at hw174_1)
               (try rw [Addr.add_zero'] at hw174_1)
               have hw174_0 := hx174_0
               (try rw [show ((0 : Int)).toNat = 0 from rfl] at hw174_0)
               (try rw [show 0 * 2 = 0 from rfl] at hw174_0)
               (try rw [Addr.add_zero'] at hw174_0)
               obtain rfl : ad173 = ad174 := (by injection e174)
               have qi174 : (0 < l0_0.length) = True := eq_true (by omega)
               (try rw [show ((0 : Int)).toNat = 0 from rfl] at hx174_0)
               (try rw [show 0 * 2 = 0 from rfl] at hx174_0)
               (try rw [Addr.add_zero'] at hx174_0)
               (try rw [show ((0 : Int)).toNat = 0 from rfl] at hx174_1)
               (try rw [show 0 * 2 = 0 from rfl] at hx174_1)
               (try rw [Addr.add_zero'] at hx174_1)
               replace hx174_0 := (HB.out.cell (World.block_lt_of_cell? w _ hx174_0)).trans hx174_0
               replace hx174_1 := (HB.out.cell (World.block_lt_of_cell? w _ hx174_1)).trans hx174_1
               have HR174_1 := Aside0.mk hi174_1
               have HC174_1 := Aside0.mk hl174_1
               clear hi174_1 hl174_1
               replace p174 := eq_true p174
               replace q174 := eq_true q174
               have ea_ := Option.some.inj (hx173_1.symm.trans hx174_1)
               injection ea_ with ea_ en_ ec_
               subst ea_
               subst ec_
               clear en_
               have p175 : 0 ≤ (0 : Int) := (by omega)
               have q175 : 0 < (l0_0.length : Int) := of_decide_eq_true (by first | (with_reducible assumption) | assumption)
               obtain ⟨ad175, A175_1, c175_1, e175, hx175_0, hx175_1, hl175_1, hi175_1⟩ := at_T34 HR0_0.out 0 p175 q175
               have hw175_1 := hx175_1
               (try rw [show ((0 : Int)).toNat = 0 from rfl] at hw175_1)
               (try rw [show 0 * 2 = 0 from rfl] at hw175_1)
               (try rw [Addr.add_zero'] at hw175_1)
               have hw175_0 := hx175_0
               (try rw [show ((0 : Int)).toNat = 0 from rfl] at hw175_0)
               (try rw [show 0 * 2 = 0 from rfl] at hw175_0)
               (try rw [Addr.add_zero'] at hw175_0)
               obtain rfl : ad173 = ad175 := (by injection e175)
               have qi175 : (0 < l0_0.length) = True := eq_true (by omega)
               (try rw [show ((0 : Int)).toNat = 0 from rfl] at hx175_0)
               (try rw [show 0 * 2 = 0 from rfl] at hx175_0)
               (try rw [Addr.add_zero'] at hx175_0)
               (try rw [show ((0 : Int)).toNat = 0 from rfl] at hx175_1)
               (try rw [show 0 * 2 = 0 from rfl] at hx175_1)
               (try rw [Addr.add_zero'] at hx175_1)
               replace hx175_0 := (HB.out.cell (World.block_lt_of_cell? w _ hx175_0)).trans hx175_0
               replace hx175_1 := (HB.out.cell (World.block_lt_of_cell? w _ hx175_1)).trans hx175_1
               have HR175_1 := Aside0.mk hi175_1
               have HC175_1 := Aside0.mk hl175_1
               clear hi175_1 hl175_1
               replace p175 := eq_true p175
               replace q175 := eq_true q175
               have ea_ := Option.some.inj (hx173_1.symm.trans hx175_1)
               injection ea_ with ea_ en_ ec_
               subst ea_
               subst ec_
               clear en_
               refine start_ (n := 34) (S := fun w' => w'.cell? ⟨gb158, 0, none⟩ = some (.slice (some ad173) l0_0.length c0_0) ∧ w'.cell? ad173 = some (.string ((rd_T34 l0_0 0).f0)) ∧ w'.cell? ⟨ad173.block, ad173.off + 1, none⟩ = some (.slice A173_1 ((rd_T34 l0_0 0).f1).length c173_1) ∧ w'.cell? ad173 = some (.string ((rd_T34 l0_0 0).f0)) ∧ w'.cell? ⟨ad173.block, ad173.off + 1, none⟩ = some (.slice A173_1 ((rd_T34 l0_0 0).f1).length c173_1) ∧ w'.cell? ad173 = some (.string ((rd_T34 l0_0 0).f0)) ∧ w'.cell? ⟨ad173.block, ad173.off + 1, none⟩ = some (.slice A173_1 ((rd_T34 l0_0 0).f1).length c173_1)) (ds := []) B9_0 (by kernel_rfl) rfl rfl ⟨(blk_cell BK158.out 0).trans rfl, ((HB.out.cell (World.block_lt_of_cell? w _ hw173_0)).trans hw173_0), ((HB.out.cell (World.block_lt_of_cell? w _ hw173_1)).trans hw173_1), ((HB.out.cell (World.block_lt_of_cell? w _ hw174_0)).trans hw174_0), ((HB.out.cell (World.block_lt_of_cell? w _ hw174_1)).trans hw174_1), ((HB.out.cell (World.block_lt_of_cell? w _ hw175_0)).trans hw175_0), ((HB.out.cell (World.block_lt_of_cell? w _ hw175_1)).trans hw175_1)⟩ (fun hHeld => ?_); refine with_tabW foliatelaw06_SchemaParts.tab14 foliatelaw06_SchemaParts.bits14 (fun HT_ HW_ => ?_)
               generalize w74.drew = w75 at BK158 HB HR173_1 HR174_1 HR175_1 hx173_0 hx173_1 hx174_0 hx174_1 hx175_0 hx175_1 hHeld ⊢
               refine pure_ (i := 0) (N := some 52) (v := ?_) (a' := ?_) B9_2 rfl rfl (any_of HT_.out (by kernel_rfl)) (fun _ _ _ h => h) (Or.inl ⟨by rfl, ?_⟩) ?_ ?_; rotate_left; (·intro w'; go_simp; with_reducible rfl); rotate_left; (·simp only [Act.put, q1_9, q2_9, q3_9, i64_w, i32_w]; rfl)
               refine pure_ (i := 1) (N := some 53) (v := ?_) (a' := ?_) B9_4 rfl rfl (any_of HT_.out (by kernel_rfl)) (fun _ _ _ h => h) (Or.inl ⟨by rfl, ?_⟩) ?_ ?_; rotate_left; (·intro w'; go_simp; with_reducible rfl); rotate_left; (·simp only [Act.put, q1_9, q2_9, q3_9, i64_w, i32_w]; rfl)
               refine pure_ (i := 2) (N := some 54) (v := undef) (a' := ?_) B9_6 rfl rfl (any_of HT_.out (by kernel_rfl)) (fun _ _ _ h => h) (Or.inr ⟨by rfl, rfl⟩) ?_ ?_
               rotate_left
               ·simp only [Act.put, q1_9, q2_9, q3_9, i64_w, i32_w]
                rfl
               refine pure_ (i := 3) (N := some 55) (v := undef) (a' := ?_) B9_8 rfl rfl (any_of HT_.out (by kernel_rfl)) (fun _ _ _ h => h) (Or.inr ⟨by rfl, rfl⟩) ?_ ?_
               rotate_left
               ·simp only [Act.put, q1_9, q2_9, q3_9, i64_w, i32_w]
                rfl
               refine pure_ (i := 4) (N := some 56) (v := undef) (a' := ?_) B9_10 rfl rfl (any_of HT_.out (by kernel_rfl)) (fun _ _ _ h => h) (Or.inr ⟨by rfl, rfl⟩) ?_ ?_
               rotate_left
               ·simp only [Act.put, q1_9, q2_9, q3_9, i64_w, i32_w]
                rfl
               refine pure_ (i := 5) (N := some 57) (v := ?_) (a' := ?_) B9_12 rfl rfl (any_of HT_.out (by kernel_rfl)) (fun _ _ _ h => h) (Or.inl ⟨by rfl, ?_⟩) ?_ ?_; rotate_left; (·intro w'; go_simp; with_reducible rfl); rotate_left; (·simp only [Act.put, q1_9, q2_9, q3_9, i64_w, i32_w]; rfl)
               refine pure_ (i := 6) (N := some 58) (v := ?_) (a' := ?_) B9_14 rfl rfl (any_of HT_.out (by kernel_rfl)) (fun _ _ _ h => h) (Or.inl ⟨by rfl, ?_⟩) ?_ ?_; rotate_left; (·intro w'; go_simp; with_reducible rfl); rotate_left; (·simp only [Act.put, q1_9, q2_9, q3_9, i64_w, i32_w]; rfl)
               refine pure_ (i := 7) (N := some 59) (v := ?_) (a' := ?_) B9_16 rfl rfl (any_of HT_.out (by kernel_rfl)) (fun _ _ _ h => h) (Or.inl ⟨by rfl, ?_⟩) ?_ ?_; rotate_left; (·intro w'; go_simp; with_reducible rfl); rotate_left; (·simp only [Act.put, q1_9, q2_9, q3_9, i64_w, i32_w]; rfl)
               refine pure_ (i := 8) (N := some 60) (v := ?_) (a' := ?_) B9_18 rfl rfl (any_of HT_.out (by kernel_rfl)) (fun _ _ _ h => h) (Or.inl ⟨by rfl, ?_⟩) ?_ ?_; rotate_left; (·intro w'; go_simp; with_reducible rfl); rotate_left; (·simp only [Act.put, q1_9, q2_9, q3_9, i64_w, i32_w]; rfl)
               refine pure_ (i := 9) (N := some 61) (v := ?_) (a' := ?_) B9_20 rfl rfl (any_of HT_.out (by kernel_rfl)) (fun _ _ _ h => h) (Or.inl ⟨by rfl, ?_⟩) ?_ ?_; rotate_left; (·intro w'; go_simp; with_reducible rfl); rotate_left; (·simp only [Act.put, q1_9, q2_9, q3_9, i64_w, i32_w]; rfl)
               refine take_ (i := 10) (N := some 62) (v := ?_) (a' := ?_) B9_22 rfl rfl (take_ofW HT_.out HW_.out (by kernel_rfl)) (fun _ _ _ h => h) (Or.inl ⟨by rfl, ?_⟩) hHeld ?_ ?_
               rotate_left
               ·rintro w' ⟨s0, s1, s2, s3, s4, s5, s6⟩
                go_simp
                with_reducible rfl
               rotate_left
               ·simp only [Act.put, q1_9, q2_9, q3_9, i64_w, i32_w]
                rfl
               refine pure_ (i := 11) (N := some 63) (v := ?_) (a' := ?_) B9_24 rfl rfl (any_of HT_.out (by kernel_rfl)) (fun _ _ _ h => h) (Or.inl ⟨by rfl, ?_⟩) ?_ ?_; rotate_left; (·intro w'; go_simp; with_reducible rfl); rotate_left; (·simp only [Act.put, q1_9, q2_9, q3_9, i64_w, i32_w]; rfl)
               refine pure_ (i := 12) (N := some 64) (v := ?_) (a' := ?_) B9_26 rfl rfl (any_of HT_.out (by kernel_rfl)) (fun _ _ _ h => h) (Or.inl ⟨by rfl, ?_⟩) ?_ ?_; rotate_left; (·intro w'; go_simp; with_reducible rfl); rotate_left; (·simp only [Act.put, q1_9, q2_9, q3_9, i64_w, i32_w]; rfl)
               refine take_ (i := 13) (N := some 65) (v := ?_) (a' := ?_) B9_28 rfl rfl (take_ofW HT_.out HW_.out (by kernel_rfl)) (fun _ _ _ h => h) (Or.inl ⟨by rfl, ?_⟩) hHeld ?_ ?_
               rotate_left
               ·rintro w' ⟨s0, s1, s2, s3, s4, s5, s6⟩
                go_simp
                with_reducible rfl
               rotate_left
               ·simp only [Act.put, q1_9, q2_9, q3_9, i64_w, i32_w]
                rfl
               refine pure_ (i := 14) (N := some 66) (v := ?_) (a' := ?_) B9_30 rfl rfl (any_of HT_.out (by kernel_rfl)) (fun _ _ _ h => h) (Or.inl ⟨by rfl, ?_⟩) ?_ ?_; rotate_left; (·intro w'; go_simp; with_reducible rfl); rotate_left; (·simp only [Act.put, q1_9, q2_9, q3_9, i64_w, i32_w]; rfl)
               refine pure_ (i := 15) (N := some 67) (v := ?_) (a' := ?_) B9_32 rfl rfl (any_of HT_.out (by kernel_rfl)) (fun _ _ _ h => h) (Or.inl ⟨by rfl, ?_⟩) ?_ ?_; rotate_left; (·intro w'; go_simp; with_reducible rfl); rotate_left; (·simp only [Act.put, q1_9, q2_9, q3_9, i64_w, i32_w]; rfl)
               refine pure_ (i := 16) (N := some 68) (v := ?_) (a' := ?_) B9_34 rfl rfl (any_of HT_.out (by kernel_rfl)) (fun _ _ _ h => h) (Or.inl ⟨by rfl, ?_⟩) ?_ ?_; rotate_left; (·intro w'; go_simp; with_reducible rfl); rotate_left; (·simp only [Act.put, q1_9, q2_9, q3_9, i64_w, i32_w]; rfl)
               refine pure_ (i := 17) (N := some 69) (v := ?_) (a' := ?_) B9_36 rfl rfl (any_of HT_.out (by kernel_rfl)) (fun _ _ _ h => h) (Or.inl ⟨by rfl, ?_⟩) ?_ ?_; rotate_left; (·intro w'; go_simp; with_reducible rfl); rotate_left; (·simp only [Act.put, q1_9, q2_9, q3_9, i64_w, i32_w]; rfl)
               refine pure_ (i := 18) (N := some 70) (v := ?_) (a' := ?_) B9_38 rfl rfl (any_of HT_.out (by kernel_rfl)) (fun _ _ _ h => h) (Or.inl ⟨by rfl, ?_⟩) ?_ ?_; rotate_left; (·intro w'; go_simp; with_reducible rfl); rotate_left; (·simp only [Act.put, q1_9, q2_9, q3_9, i64_w, i32_w]; rfl)
               refine pure_ (i := 19) (N := some 71) (v := ?_) (a' := ?_) B9_40 rfl rfl (any_of HT_.out (by kernel_rfl)) (fun _ _ _ h => h) (Or.inl ⟨by rfl, ?_⟩) ?_ ?_; rotate_left; (·intro w'; go_simp; with_reducible rfl); rotate_left; (·simp only [Act.put, q1_9, q2_9, q3_9, i64_w, i32_w]; rfl)
               refine pure_ (i := 20) (N := some 72) (v := ?_) (a' := ?_) B9_42 rfl rfl (any_of HT_.out (by kernel_rfl)) (fun _ _ _ h => h) (Or.inl ⟨by rfl, ?_⟩) ?_ ?_; rotate_left; (·intro w'; go_simp; with_reducible rfl); rotate_left; (·simp only [Act.put, q1_9, q2_9, q3_9, i64_w, i32_w]; rfl)
               refine pure_ (i := 27) (N := some 79) (v := ?_) (a' := ?_) B9_43 rfl rfl (any_of HT_.out (by kernel_rfl)) (fun _ _ _ h => h) (Or.inl ⟨by rfl, ?_⟩) ?_ ?_; rotate_left; (·intro w'; go_simp; with_reducible rfl); rotate_left; (·simp only [Act.put, q1_9, q2_9, q3_9, i64_w, i32_w]; rfl)
               refine take_ (i := 21) (N := some 73) (v := ?_) (a' := ?_) B9_45 rfl rfl (take_ofW HT_.out HW_.out (by kernel_rfl)) (fun _ _ _ h => h) (Or.inl ⟨by rfl, ?_⟩) hHeld ?_ ?_
               rotate_left
               ·rintro w' ⟨s0, s1, s2, s3, s4, s5, s6⟩
                go_simp
                with_reducible rfl
               rotate_left
               ·simp only [Act.put, q1_9, q2_9, q3_9, i64_w, i32_w]
                rfl
               refine pure_ (i := 22) (N := some 74) (v := ?_) (a' := ?_) B9_46 rfl rfl (any_of HT_.out (by kernel_rfl)) (fun _ _ _ h => h) (Or.inl ⟨by rfl, ?_⟩) ?_ ?_; rotate_left; (·intro w'; go_simp; with_reducible rfl); rotate_left; (·simp only [Act.put, q1_9, q2_9, q3_9, i64_w, i32_w]; rfl)
               refine pure_ (i := 23) (N := some 75) (v := ?_) (a' := ?_) B9_47 rfl rfl (any_of HT_.out (by kernel_rfl)) (fun _ _ _ h => h) (Or.inl ⟨by rfl, ?_⟩) ?_ ?_; rotate_left; (·intro w'; go_simp; with_reducible rfl); rotate_left; (·simp only [Act.put, q1_9, q2_9, q3_9, i64_w, i32_w]; rfl)
               refine take_ (i := 24) (N := some 76) (v := ?_) (a' := ?_) B9_48 rfl rfl (take_ofW HT_.out HW_.out (by kernel_rfl)) (fun _ _ _ h => h) (Or.inl ⟨by rfl, ?_⟩) hHeld ?_ ?_
               rotate_left
               ·rintro w' ⟨s0, s1, s2, s3, s4, s5, s6⟩
                go_simp
                with_reducible rfl
               rotate_left
               ·simp only [Act.put, q1_9, q2_9, q3_9, i64_w, i32_w]
                rfl
               refine pure_ (i := 25) (N := some 77) (v := ?_) (a' := ?_) B9_49 rfl rfl (any_of HT_.out (by kernel_rfl)) (fun _ _ _ h => h) (Or.inl ⟨by rfl, ?_⟩) ?_ ?_; rotate_left; (·intro w'; go_simp; with_reducible rfl); rotate_left; (·simp only [Act.put, q1_9, q2_9, q3_9, i64_w, i32_w]; rfl)
               refine pure_ (i := 26) (N := some 78) (v := ?_) (a' := ?_) B9_50 rfl rfl (any_of HT_.out (by kernel_rfl)) (fun _ _ _ h => h) (Or.inl ⟨by rfl, ?_⟩) ?_ ?_; rotate_left; (·intro w'; go_simp; with_reducible rfl); rotate_left; (·simp only [Act.put, q1_9, q2_9, q3_9, i64_w, i32_w]; rfl)
               refine take_ (i := 28) (N := some 80) (v := ?_) (a' := ?_) B9_51 rfl rfl (take_ofW HT_.out HW_.out (by kernel_rfl)) (fun _ _ _ h => h) (Or.inl ⟨by rfl, ?_⟩) hHeld ?_ ?_
               rotate_left
               ·rintro w' ⟨s0, s1, s2, s3, s4, s5, s6⟩
                go_simp
                with_reducible rfl
               rotate_left
               ·simp only [Act.put, q1_9, q2_9, q3_9, i64_w, i32_w]
                rfl
               refine pure_ (i := 29) (N := some 81) (v := ?_) (a' := ?_) B9_52 rfl rfl (any_of HT_.out (by kernel_rfl)) (fun _ _ _ h => h) (Or.inl ⟨by rfl, ?_⟩) ?_ ?_; rotate_left; (·intro w'; go_simp; with_reducible rfl); rotate_left; (·simp only [Act.put, q1_9, q2_9, q3_9, i64_w, i32_w]; rfl)
               refine pure_ (i := 30) (N := some 82) (v := ?_) (a' := ?_) B9_53 rfl rfl (any_of HT_.out (by kernel_rfl)) (fun _ _ _ h => h) (Or.inl ⟨by rfl, ?_⟩) ?_ ?_; rotate_left; (·intro w'; go_simp; with_reducible rfl); rotate_left; (·simp only [Act.put, q1_9, q2_9, q3_9, i64_w, i32_w]; rfl)
               refine take_ (i := 31) (N := some 83) (v := ?_) (a' := ?_) B9_54 rfl rfl (take_ofW HT_.out HW_.out (by kernel_rfl)) (fun _ _ _ h => h) (Or.inl ⟨by rfl, ?_⟩) hHeld ?_ ?_
               rotate_left
               ·rintro w' ⟨s0, s1, s2, s3, s4, s5, s6⟩
                go_simp
                with_reducible rfl
               rotate_left
               ·simp only [Act.put, q1_9, q2_9, q3_9, i64_w, i32_w]
                rfl
               refine pure_ (i := 32) (N := some 84) (v := ?_) (a' := ?_) B9_55 rfl rfl (any_of HT_.out (by kernel_rfl)) (fun _ _ _ h => h) (Or.inl ⟨by rfl, ?_⟩) ?_ ?_; rotate_left; (·intro w'; go_simp; with_reducible rfl); rotate_left; (·simp only [Act.put, q1_9, q2_9, q3_9, i64_w, i32_w]; rfl)
               refine pure_ (i := 33) (N := some 85) (v := ?_) (a' := ?_) B9_56 rfl rfl (any_of HT_.out (by kernel_rfl)) (fun _ _ _ h => h) (Or.inl ⟨by rfl, ?_⟩) ?_ ?_; rotate_left; (·intro w'; go_simp; with_reducible rfl); rotate_left; (·simp only [Act.put, q1_9, q2_9, q3_9, i64_w, i32_w]; rfl)
               refine done_ (done_of HT_.out (by kernel_rfl)) ?_
               try go_wp2
               have n0_ := am9_ (blk_drew BK158.out)
               have n1_ := am9_ (below_drew1 HB.out)
               clear BK158
               clear HB
               have BK158 := n0_
               have HB := n1_
               clear n0_ n1_
               refine start_ (n := 22) (S := fun w' => w'.cell? ⟨gb158, 0, none⟩ = some (.slice (some ad173) l0_0.length c0_0)) (ds := []) B9_1 (by kernel_rfl) rfl rfl ((blk_cell BK158.out 0).trans rfl) (fun hHeld => ?_); refine with_tabW foliatelaw06_SchemaParts.tab16 foliatelaw06_SchemaParts.bits16 (fun HT_ HW_ => ?_)
               generalize w75.drew = w76 at BK158 HB hHeld ⊢
               refine pure_ (i := 0) (N := some 86) (v := ?_) (a' := ?_) B9_3 rfl rfl (any_of HT_.out (by kernel_rfl)) (fun _ _ _ h => h) (Or.inl ⟨by rfl, ?_⟩) ?_ ?_; rotate_left; (·intro w'; go_simp; with_reducible rfl); rotate_left; (·simp only [Act.put, q1_9, q2_9, q3_9, i64_w, i32_w]; rfl)
               refine pure_ (i := 1) (N := some 87) (v := ?_) (a' := ?_) B9_5 rfl rfl (any_of HT_.out (by kernel_rfl)) (fun _ _ _ h => h) (Or.inl ⟨by rfl, ?_⟩) ?_ ?_; rotate_left; (·intro w'; go_simp; with_reducible rfl); rotate_left; (·simp only [Act.put, q1_9, q2_9, q3_9, i64_w, i32_w]; rfl)
               refine pure_ (i := 2) (N := some 88) (v := ?_) (a' := ?_) B9_7 rfl rfl (any_of HT_.out (by kernel_rfl)) (fun _ _ _ h => h) (Or.inl ⟨by rfl, ?_⟩) ?_ ?_; rotate_left; (·intro w'; go_simp; with_reducible rfl); rotate_left; (·simp only [Act.put, q1_9, q2_9, q3_9, i64_w, i32_w]; rfl)
               refine pure_ (i := 3) (N := some 89) (v := ?_) (a' := ?_) B9_9 rfl rfl (any_of HT_.out (by kernel_rfl)) (fun _ _ _ h => h) (Or.inl ⟨by rfl, ?_⟩) ?_ ?_; rotate_left; (·intro w'; go_simp; with_reducible rfl); rotate_left; (·simp only [Act.put, q1_9, q2_9, q3_9, i64_w, i32_w]; rfl)
               refine pure_ (i := 4) (N := some 90) (v := ?_) (a' := ?_) B9_11 rfl rfl (any_of HT_.out (by kernel_rfl)) (fun _ _ _ h => h) (Or.inl ⟨by rfl, ?_⟩) ?_ ?_; rotate_left; (·intro w'; go_simp; with_reducible rfl); rotate_left; (·simp only [Act.put, q1_9, q2_9, q3_9, i64_w, i32_w]; rfl)
               refine take_ (i := 5) (N := some 91) (v := ?_) (a' := ?_) B9_13 rfl rfl (take_ofW HT_.out HW_.out (by kernel_rfl)) (fun _ _ _ h => h) (Or.inl ⟨by rfl, ?_⟩) hHeld ?_ ?_
               rotate_left
               ·intro w' s0
                go_simp
                with_reducible rfl
               rotate_left
               ·simp only [Act.put, q1_9, q2_9, q3_9, i64_w, i32_w]
                rfl
               refine pure_ (i := 6) (N := some 92) (v := ?_) (a' := ?_) B9_15 rfl rfl (any_of HT_.out (by kernel_rfl)) (fun _ _ _ h => h) (Or.inl ⟨by rfl, ?_⟩) ?_ ?_; rotate_left; (·intro w'; go_simp; with_reducible rfl); rotate_left; (·simp only [Act.put, q1_9, q2_9, q3_9, i64_w, i32_w]; rfl)
               refine pure_ (i := 7) (N := some 93) (v := ?_) (a' := ?_) B9_17 rfl rfl (any_of HT_.out (by kernel_rfl)) (fun _ _ _ h => h) (Or.inl ⟨by rfl, ?_⟩) ?_ ?_; rotate_left; (·intro w'; go_simp; with_reducible rfl); rotate_left; (·simp only [Act.put, q1_9, q2_9, q3_9, i64_w, i32_w]; rfl)
               refine pure_ (i := 8) (N := some 94) (v := ?_) (a' := ?_) B9_19 rfl rfl (any_of HT_.out (by kernel_rfl)) (fun _ _ _ h => h) (Or.inl ⟨by rfl, ?_⟩) ?_ ?_; rotate_left; (·intro w'; go_simp; with_reducible rfl); rotate_left; (·simp only [Act.put, q1_9, q2_9, q3_9, i64_w, i32_w]; rfl)
               refine pure_ (i := 9) (N := some 95) (v := ?_) (a' := ?_) B9_21 rfl rfl (any_of HT_.out (by kernel_rfl)) (fun _ _ _ h => h) (Or.inl ⟨by rfl, ?_⟩) ?_ ?_; rotate_left; (·intro w'; go_simp; with_reducible rfl); rotate_left; (·simp only [Act.put, q1_9, q2_9, q3_9, i64_w, i32_w]; rfl)
               refine pure_ (i := 10) (N := some 96) (v := undef) (a' := ?_) B9_23 rfl rfl (any_of HT_.out (by kernel_rfl)) (fun _ _ _ h => h) (Or.inr ⟨by rfl, rfl⟩) ?_ ?_
               rotate_left
               ·simp only [Act.put, q1_9, q2_9, q3_9, i64_w, i32_w]
                rfl
               refine pure_ (i := 11) (N := some 97) (v := undef) (a' := ?_) B9_25 rfl rfl (any_of HT_.out (by kernel_rfl)) (fun _ _ _ h => h) (Or.inr ⟨by rfl, rfl⟩) ?_ ?_
               rotate_left
               ·simp only [Act.put, q1_9, q2_9, q3_9, i64_w, i32_w]
                rfl
               refine pure_ (i := 12) (N := some 98) (v := undef) (a' := ?_) B9_27 rfl rfl (any_of HT_.out (by kernel_rfl)) (fun _ _ _ h => h) (Or.inr ⟨by rfl, rfl⟩) ?_ ?_
               rotate_left
               ·simp only [Act.put, q1_9, q2_9, q3_9, i64_w, i32_w]
                rfl
               refine pure_ (i := 13) (N := some 99) (v := undef) (a' := ?_) B9_29 rfl rfl (any_of HT_.out (by kernel_rfl)) (fun _ _ _ h => h) (Or.inr ⟨by rfl, rfl⟩) ?_ ?_
               rotate_left
               ·simp only [Act.put, q1_9, q2_9, q3_9, i64_w, i32_w]
                rfl
               refine pure_ (i := 14) (N := some 100) (v := undef) (a' := ?_) B9_31 rfl rfl (any_of HT_.out (by kernel_rfl)) (fun _ _ _ h => h) (Or.inr ⟨by rfl, rfl⟩) ?_ ?_
               rotate_left
               ·simp only [Act.put, q1_9, q2_9, q3_9, i64_w, i32_w]
                rfl
               refine pure_ (i := 15) (N := some 101) (v := undef) (a' := ?_) B9_33 rfl rfl (any_of HT_.out (by kernel_rfl)) (fun _ _ _ h => h) (Or.inr ⟨by rfl, rfl⟩) ?_ ?_
               rotate_left
               ·simp only [Act.put, q1_9, q2_9, q3_9, i64_w, i32_w]
                rfl
               refine pure_ (i := 16) (N := some 102) (v := undef) (a' := ?_) B9_35 rfl rfl (any_of HT_.out (by kernel_rfl)) (fun _ _ _ h => h) (Or.inr ⟨by rfl, rfl⟩) ?_ ?_
               rotate_left
               ·simp only [Act.put, q1_9, q2_9, q3_9, i64_w, i32_w]
                rfl
               refine pure_ (i := 17) (N := some 103) (v := undef) (a' := ?_) B9_37 rfl rfl (any_of HT_.out (by kernel_rfl)) (fun _ _ _ h => h) (Or.inr ⟨by rfl, rfl⟩) ?_ ?_
               rotate_left
               ·simp only [Act.put, q1_9, q2_9, q3_9, i64_w, i32_w]
                rfl
               refine pure_ (i := 18) (N := some 104) (v := undef) (a' := ?_) B9_39 rfl rfl (any_of HT_.out (by kernel_rfl)) (fun _ _ _ h => h) (Or.inr ⟨by rfl, rfl⟩) ?_ ?_
               rotate_left
               ·simp only [Act.put, q1_9, q2_9, q3_9, i64_w, i32_w]
                rfl
               refine pure_ (i := 19) (N := some 105) (v := undef) (a' := ?_) B9_41 rfl rfl (any_of HT_.out (by kernel_rfl)) (fun _ _ _ h => h) (Or.inr ⟨by rfl, rfl⟩) ?_ ?_
               rotate_left
               ·simp only [Act.put, q1_9, q2_9, q3_9, i64_w, i32_w]
                rfl
               refine pure_ (i := 20) (N := some 106) (v := ?_) (a' := ?_) B9_44 rfl rfl (any_of HT_.out (by kernel_rfl)) (fun _ _ _ h => h) (Or.inl ⟨by rfl, ?_⟩) ?_ ?_; rotate_left; (·intro w'; go_simp; with_reducible rfl); rotate_left; (·simp only [Act.put, q1_9, q2_9, q3_9, i64_w, i32_w]; rfl)
               refine pure_ (i := 21) (N := some 4) (v := ?_) (a' := ?_) B9_57 rfl rfl (any_of HT_.out (by kernel_rfl)) (fun _ _ _ h => h) (Or.inl ⟨by rfl, ?_⟩) ?_ ?_; rotate_left; (·intro w'; go_simp; with_reducible rfl); rotate_left; (·simp only [Act.put, q1_9, q2_9, q3_9, i64_w, i32_w]; rfl)
               refine done_ (done_of HT_.out (by kernel_rfl)) ?_
               try go_wp2
               go_ret
               exact ⟨by first | rfl | (simp [errW_none, errW_some] <;> rfl) | (simp [*, errW_none, errW_some] <;> rfl), by repeat (first | (with_reducible first | exact HB.out | apply below_alloc | apply pw_below_drewN | apply below_drew1 | refine below_set ?_ GE158.out) | exact HB.out)⟩
              ·rw [if_neg c72] at H
               have c72b0 : decide ((l0_0.length : Int) ≤ a1) = false := decide_eq_false c72
               clear c72
               by_cases c77 : 0 ≤ a1
               ·rw [if_pos c77] at H
                have c77b0 : decide (0 ≤ a1) = true := decide_eq_true c77
                clear c77
                by_cases c78 : a1 < (l0_0.length : Int)
                ·rw [if_pos c78] at H
                 have c78b0 : decide (a1 < (l0_0.length : Int)) = true := decide_eq_true c78
                 clear c78
                 replace H := Option.bind_eq_some_iff.mp H
                 obtain ⟨t177, A790, H⟩ := H
                 replace H : (some (t177 == a1)) = some r := H
                 have A79 := Aside0.mk A790
                 clear A790
                 obtain rfl := Option.some.inj H
                 have hcz80_0 : wr.cell? ⟨gb158, 0, none⟩ = some (.slice A0_0 l0_0.length c0_0) := (blk_cell BK158.out 0).trans rfl
                 have hfz80_0 := blk_frozen BK158.out 0
                 try go_wp2_with (first | ((with_reducible refine gate_callee (f := 19) rfl ?_); refine goesL_ (some 51) rfl rfl Try.func19 (by kernel_rfl) rfl #[.agg #[.slice A0_0 l0_0.length c0_0]] rfl (by (try simp only [List.map_toArray, List.map_cons, List.map_nil]); first | done | rfl | (simp only [List.length_drop, List.length_take]; rfl)) ?_; (with_reducible refine (schema_Text.calls k2 _ _ l0_0 t167 _ ?side1 ?side2 A36.out).mono ?_); (case side1 => repeat (first | exact (Kd.C_below HR0_0.out HB.out) | (with_reducible first | refine ca9_ ?_ _ | refine cn9_ ?_ _ | refine cd9_ ?_))); (case side2 => exact HC0_0.out); rintro e w81 ⟨rfl, hb⟩; refine ⟨_, rfl, ?_⟩; have n0_ := am9_ (blk_below (g := gb158) (o := .cells #[.slice A0_0 l0_0.length c0_0] 24 (0, 0)) (by (with_reducible repeat (first | refine blk_drewN ?_ _ | refine blk_drew ?_ | refine blk_alloc ?_ _)); exact BK158.out) hb); have n1_ := am9_ (below_step (by repeat (first | (with_reducible first | exact HB.out | apply below_alloc | apply pw_below_drewN | apply below_drew1 | refine below_set ?_ GE158.out) | exact HB.out)) hb); clear BK158; clear HB; have BK158 := n0_; have HB := n1_; clear n0_ n1_; (try clear hb); (try clear hb2); (try clear hk); (try clear hi)))
                 have n0_ := am9_ (blk_drew BK158.out)
                 have n1_ := am9_ (below_drew1 HB.out)
                 clear BK158
                 clear HB
                 have BK158 := n0_
                 have HB := n1_
                 clear n0_ n1_
                 have p173 : 0 ≤ (0 : Int) := (by omega)
                 have q173 : 0 < (l0_0.length : Int) := of_decide_eq_true (by first | (with_reducible assumption) | assumption)
                 obtain ⟨ad173, A173_1, c173_1, e173, hx173_0, hx173_1, hl173_1, hi173_1⟩ := at_T34 HR0_0.out 0 p173 q173
                 have hw173_1 := hx173_1
                 (try rw [show ((0 : Int)).toNat = 0 from rfl] at hw173_1)
                 (try rw [show 0 * 2 = 0 from rfl] at hw173_1)
                 (try rw [Addr.add_zero'] at hw173_1)
                 have hw173_0 := hx173_0
                 (try rw [show ((0 : Int)).toNat = 0 from rfl] at hw173_0)
                 (try rw [show 0 * 2 = 0 from rfl] at hw173_0)
                 (try rw [Addr.add_zero'] at hw173_0)
                 cases e173
                 have qi173 : (0 < l0_0.length) = True := eq_true (by omega)
                 (try rw [show ((0 : Int)).toNat = 0 from rfl] at hx173_0)
                 (try rw [show 0 * 2 = 0 from rfl] at hx173_0)
                 (try rw [Addr.add_zero'] at hx173_0)
                 (try rw [show ((0 : Int)).toNat = 0 from rfl] at hx173_1)
                 (try rw [show 0 * 2 = 0 from rfl] at hx173_1)
                 (try rw [Addr.add_zero'] at hx173_1)
                 replace hx173_0 := (HB.out.cell (World.block_lt_of_cell? w _ hx173_0)).trans hx173_0
                 replace hx173_1 := (HB.out.cell (World.block_lt_of_cell? w _ hx173_1)).trans hx173_1
                 have HR173_1 := Aside0.mk hi173_1
                 have HC173_1 := Aside0.mk hl173_1
                 clear hi173_1 hl173_1
                 replace p173 := eq_true p173
                 replace q173 := eq_true q173
                 have p174 : 0 ≤ (0 : Int) := (by omega)
                 have q174 : 0 < (l0_0.length : Int) := of_decide_eq_true (by first | (with_reducible assumption) | assumption)
                 obtain ⟨ad174, A174_1, c174_1, e174, hx174_0, hx174_1, hl174_1, hi174_1⟩ := at_T34 HR0_0.out 0 p174 q174
                 have hw174_1 := hx174_1
                 (try rw [show ((0 : Int)).toNat = 0 from rfl] at hw174_1)
                 (try rw [show 0 * 2 = 0 from rfl] at hw174_1)
                 (try rw [Addr.add_zero'] at hw174_1)
                 have hw174_0 := hx174_0
                 (try rw [show ((0 : Int)).toNat = 0 from rfl] at hw174_0)
                 (try rw [show 0 * 2 = 0 from rfl] at hw174_0)
                 (try rw [Addr.add_zero'] at hw174_0)
                 obtain rfl : ad173 = ad174 := (by injection e174)
                 have qi174 : (0 < l0_0.length) = True := eq_true (by omega)
                 (try rw [show ((0 : Int)).toNat = 0 from rfl] at hx174_0)
                 (try rw [show 0 * 2 = 0 from rfl] at hx174_0)
                 (try rw [Addr.add_zero'] at hx174_0)
                 (try rw [show ((0 : Int)).toNat = 0 from rfl] at hx174_1)
                 (try rw [show 0 * 2 = 0 from rfl] at hx174_1)
                 (try rw [Addr.add_zero'] at hx174_1)
                 replace hx174_0 := (HB.out.cell (World.block_lt_of_cell? w _ hx174_0)).trans hx174_0
                 replace hx174_1 := (HB.out.cell (World.block_lt_of_cell? w _ hx174_1)).trans hx174_1
                 have HR174_1 := Aside0.mk hi174_1
                 have HC174_1 := Aside0.mk hl174_1
                 clear hi174_1 hl174_1
                 replace p174 := eq_true p174
                 replace q174 := eq_true q174
                 have ea_ := Option.some.inj (hx173_1.symm.trans hx174_1)
                 injection ea_ with ea_ en_ ec_
                 subst ea_
                 subst ec_
                 clear en_
                 have p175 : 0 ≤ (0 : Int) := (by omega)
                 have q175 : 0 < (l0_0.length : Int) := of_decide_eq_true (by first | (with_reducible assumption) | assumption)
                 obtain ⟨ad175, A175_1, c175_1, e175, hx175_0, hx175_1, hl175_1, hi175_1⟩ := at_T34 HR0_0.out 0 p175 q175
                 have hw175_1 := hx175_1
                 (try rw [show ((0 : Int)).toNat = 0 from rfl] at hw175_1)
                 (try rw [show 0 * 2 = 0 from rfl] at hw175_1)
                 (try rw [Addr.add_zero'] at hw175_1)
                 have hw175_0 := hx175_0
                 (try rw [show ((0 : Int)).toNat = 0 from rfl] at hw175_0)
                 (try rw [show 0 * 2 = 0 from rfl] at hw175_0)
                 (try rw [Addr.add_zero'] at hw175_0)
                 obtain rfl : ad173 = ad175 := (by injection e175)
                 have qi175 : (0 < l0_0.length) = True := eq_true (by omega)
                 (try rw [show ((0 : Int)).toNat = 0 from rfl] at hx175_0)
                 (try rw [show 0 * 2 = 0 from rfl] at hx175_0)
                 (try rw [Addr.add_zero'] at hx175_0)
                 (try rw [show ((0 : Int)).toNat = 0 from rfl] at hx175_1)
                 (try rw [show 0 * 2 = 0 from rfl] at hx175_1)
                 (try rw [Addr.add_zero'] at hx175_1)
                 replace hx175_0 := (HB.out.cell (World.block_lt_of_cell? w _ hx175_0)).trans hx175_0
                 replace hx175_1 := (HB.out.cell (World.block_lt_of_cell? w _ hx175_1)).trans hx175_1
                 have HR175_1 := Aside0.mk hi175_1
                 have HC175_1 := Aside0.mk hl175_1
                 clear hi175_1 hl175_1
                 replace p175 := eq_true p175
                 replace q175 := eq_true q175
                 have ea_ := Option.some.inj (hx173_1.symm.trans hx175_1)
                 injection ea_ with ea_ en_ ec_
                 subst ea_
                 subst ec_
                 clear en_
                 refine start_ (n := 34) (S := fun w' => w'.cell? ⟨gb158, 0, none⟩ = some (.slice (some ad173) l0_0.length c0_0) ∧ w'.cell? ad173 = some (.string ((rd_T34 l0_0 0).f0)) ∧ w'.cell? ⟨ad173.block, ad173.off + 1, none⟩ = some (.slice A173_1 ((rd_T34 l0_0 0).f1).length c173_1) ∧ w'.cell? ad173 = some (.string ((rd_T34 l0_0 0).f0)) ∧ w'.cell? ⟨ad173.block, ad173.off + 1, none⟩ = some (.slice A173_1 ((rd_T34 l0_0 0).f1).length c173_1) ∧ w'.cell? ad173 = some (.string ((rd_T34 l0_0 0).f0)) ∧ w'.cell? ⟨ad173.block, ad173.off + 1, none⟩ = some (.slice A173_1 ((rd_T34 l0_0 0).f1).length c173_1)) (ds := []) B9_0 (by kernel_rfl) rfl rfl ⟨(blk_cell BK158.out 0).trans rfl, ((HB.out.cell (World.block_lt_of_cell? w _ hw173_0)).trans hw173_0), ((HB.out.cell (World.block_lt_of_cell? w _ hw173_1)).trans hw173_1), ((HB.out.cell (World.block_lt_of_cell? w _ hw174_0)).trans hw174_0), ((HB.out.cell (World.block_lt_of_cell? w _ hw174_1)).trans hw174_1), ((HB.out.cell (World.block_lt_of_cell? w _ hw175_0)).trans hw175_0), ((HB.out.cell (World.block_lt_of_cell? w _ hw175_1)).trans hw175_1)⟩ (fun hHeld => ?_); refine with_tabW foliatelaw06_SchemaParts.tab14 foliatelaw06_SchemaParts.bits14 (fun HT_ HW_ => ?_)
                 generalize w81.drew = w82 at BK158 HB HR173_1 HR174_1 HR175_1 hx173_0 hx173_1 hx174_0 hx174_1 hx175_0 hx175_1 hHeld ⊢
                 refine pure_ (i := 0) (N := some 52) (v := ?_) (a' := ?_) B9_2 rfl rfl (any_of HT_.out (by kernel_rfl)) (fun _ _ _ h => h) (Or.inl ⟨by rfl, ?_⟩) ?_ ?_; rotate_left; (·intro w'; go_simp; with_reducible rfl); rotate_left; (·simp only [Act.put, q1_9, q2_9, q3_9, i64_w, i32_w]; rfl)
                 refine pure_ (i := 1) (N := some 53) (v := ?_) (a' := ?_) B9_4 rfl rfl (any_of HT_.out (by kernel_rfl)) (fun _ _ _ h => h) (Or.inl ⟨by rfl, ?_⟩) ?_ ?_; rotate_left; (·intro w'; go_simp; with_reducible rfl); rotate_left; (·simp only [Act.put, q1_9, q2_9, q3_9, i64_w, i32_w]; rfl)
                 refine pure_ (i := 2) (N := some 54) (v := undef) (a' := ?_) B9_6 rfl rfl (any_of HT_.out (by kernel_rfl)) (fun _ _ _ h => h) (Or.inr ⟨by rfl, rfl⟩) ?_ ?_
                 rotate_left
                 ·simp only [Act.put, q1_9, q2_9, q3_9, i64_w, i32_w]
                  rfl
                 refine pure_ (i := 3) (N := some 55) (v := undef) (a' := ?_) B9_8 rfl rfl (any_of HT_.out (by kernel_rfl)) (fun _ _ _ h => h) (Or.inr ⟨by rfl, rfl⟩) ?_ ?_
                 rotate_left
                 ·simp only [Act.put, q1_9, q2_9, q3_9, i64_w, i32_w]
                  rfl
                 refine pure_ (i := 4) (N := some 56) (v := undef) (a' := ?_) B9_10 rfl rfl (any_of HT_.out (by kernel_rfl)) (fun _ _ _ h => h) (Or.inr ⟨by rfl, rfl⟩) ?_ ?_
                 rotate_left
                 ·simp only [Act.put, q1_9, q2_9, q3_9, i64_w, i32_w]
                  rfl
                 refine pure_ (i := 5) (N := some 57) (v := ?_) (a' := ?_) B9_12 rfl rfl (any_of HT_.out (by kernel_rfl)) (fun _ _ _ h => h) (Or.inl ⟨by rfl, ?_⟩) ?_ ?_; rotate_left; (·intro w'; go_simp; with_reducible rfl); rotate_left; (·simp only [Act.put, q1_9, q2_9, q3_9, i64_w, i32_w]; rfl)
                 refine pure_ (i := 6) (N := some 58) (v := ?_) (a' := ?_) B9_14 rfl rfl (any_of HT_.out (by kernel_rfl)) (fun _ _ _ h => h) (Or.inl ⟨by rfl, ?_⟩) ?_ ?_; rotate_left; (·intro w'; go_simp; with_reducible rfl); rotate_left; (·simp only [Act.put, q1_9, q2_9, q3_9, i64_w, i32_w]; rfl)
                 refine pure_ (i := 7) (N := some 59) (v := ?_) (a' := ?_) B9_16 rfl rfl (any_of HT_.out (by kernel_rfl)) (fun _ _ _ h => h) (Or.inl ⟨by rfl, ?_⟩) ?_ ?_; rotate_left; (·intro w'; go_simp; with_reducible rfl); rotate_left; (·simp only [Act.put, q1_9, q2_9, q3_9, i64_w, i32_w]; rfl)
                 refine pure_ (i := 8) (N := some 60) (v := ?_) (a' := ?_) B9_18 rfl rfl (any_of HT_.out (by kernel_rfl)) (fun _ _ _ h => h) (Or.inl ⟨by rfl, ?_⟩) ?_ ?_; rotate_left; (·intro w'; go_simp; with_reducible rfl); rotate_left; (·simp only [Act.put, q1_9, q2_9, q3_9, i64_w, i32_w]; rfl)
                 refine pure_ (i := 9) (N := some 61) (v := ?_) (a' := ?_) B9_20 rfl rfl (any_of HT_.out (by kernel_rfl)) (fun _ _ _ h => h) (Or.inl ⟨by rfl, ?_⟩) ?_ ?_; rotate_left; (·intro w'; go_simp; with_reducible rfl); rotate_left; (·simp only [Act.put, q1_9, q2_9, q3_9, i64_w, i32_w]; rfl)
                 refine take_ (i := 10) (N := some 62) (v := ?_) (a' := ?_) B9_22 rfl rfl (take_ofW HT_.out HW_.out (by kernel_rfl)) (fun _ _ _ h => h) (Or.inl ⟨by rfl, ?_⟩) hHeld ?_ ?_
                 rotate_left
                 ·rintro w' ⟨s0, s1, s2, s3, s4, s5, s6⟩
                  go_simp
                  with_reducible rfl
                 rotate_left
                 ·simp only [Act.put, q1_9, q2_9, q3_9, i64_w, i32_w]
                  rfl
                 refine pure_ (i := 11) (N := some 63) (v := ?_) (a' := ?_) B9_24 rfl rfl (any_of HT_.out (by kernel_rfl)) (fun _ _ _ h => h) (Or.inl ⟨by rfl, ?_⟩) ?_ ?_; rotate_left; (·intro w'; go_simp; with_reducible rfl); rotate_left; (·simp only [Act.put, q1_9, q2_9, q3_9, i64_w, i32_w]; rfl)
                 refine pure_ (i := 12) (N := some 64) (v := ?_) (a' := ?_) B9_26 rfl rfl (any_of HT_.out (by kernel_rfl)) (fun _ _ _ h => h) (Or.inl ⟨by rfl, ?_⟩) ?_ ?_; rotate_left; (·intro w'; go_simp; with_reducible rfl); rotate_left; (·simp only [Act.put, q1_9, q2_9, q3_9, i64_w, i32_w]; rfl)
                 refine take_ (i := 13) (N := some 65) (v := ?_) (a' := ?_) B9_28 rfl rfl (take_ofW HT_.out HW_.out (by kernel_rfl)) (fun _ _ _ h => h) (Or.inl ⟨by rfl, ?_⟩) hHeld ?_ ?_
                 rotate_left
                 ·rintro w' ⟨s0, s1, s2, s3, s4, s5, s6⟩
                  go_simp
                  with_reducible rfl
                 rotate_left
                 ·simp only [Act.put, q1_9, q2_9, q3_9, i64_w, i32_w]
                  rfl
                 refine pure_ (i := 14) (N := some 66) (v := ?_) (a' := ?_) B9_30 rfl rfl (any_of HT_.out (by kernel_rfl)) (fun _ _ _ h => h) (Or.inl ⟨by rfl, ?_⟩) ?_ ?_; rotate_left; (·intro w'; go_simp; with_reducible rfl); rotate_left; (·simp only [Act.put, q1_9, q2_9, q3_9, i64_w, i32_w]; rfl)
                 refine pure_ (i := 15) (N := some 67) (v := ?_) (a' := ?_) B9_32 rfl rfl (any_of HT_.out (by kernel_rfl)) (fun _ _ _ h => h) (Or.inl ⟨by rfl, ?_⟩) ?_ ?_; rotate_left; (·intro w'; go_simp; with_reducible rfl); rotate_left; (·simp only [Act.put, q1_9, q2_9, q3_9, i64_w, i32_w]; rfl)
                 refine pure_ (i := 16) (N := some 68) (v := ?_) (a' := ?_) B9_34 rfl rfl (any_of HT_.out (by kernel_rfl)) (fun _ _ _ h => h) (Or.inl ⟨by rfl, ?_⟩) ?_ ?_; rotate_left; (·intro w'; go_simp; with_reducible rfl); rotate_left; (·simp only [Act.put, q1_9, q2_9, q3_9, i64_w, i32_w]; rfl)
                 refine pure_ (i := 17) (N := some 69) (v := ?_) (a' := ?_) B9_36 rfl rfl (any_of HT_.out (by kernel_rfl)) (fun _ _ _ h => h) (Or.inl ⟨by rfl, ?_⟩) ?_ ?_; rotate_left; (·intro w'; go_simp; with_reducible rfl); rotate_left; (·simp only [Act.put, q1_9, q2_9, q3_9, i64_w, i32_w]; rfl)
                 refine pure_ (i := 18) (N := some 70) (v := ?_) (a' := ?_) B9_38 rfl rfl (any_of HT_.out (by kernel_rfl)) (fun _ _ _ h => h) (Or.inl ⟨by rfl, ?_⟩) ?_ ?_; rotate_left; (·intro w'; go_simp; with_reducible rfl); rotate_left; (·simp only [Act.put, q1_9, q2_9, q3_9, i64_w, i32_w]; rfl)
                 refine pure_ (i := 19) (N := some 71) (v := ?_) (a' := ?_) B9_40 rfl rfl (any_of HT_.out (by kernel_rfl)) (fun _ _ _ h => h) (Or.inl ⟨by rfl, ?_⟩) ?_ ?_; rotate_left; (·intro w'; go_simp; with_reducible rfl); rotate_left; (·simp only [Act.put, q1_9, q2_9, q3_9, i64_w, i32_w]; rfl)
                 refine pure_ (i := 20) (N := some 72) (v := ?_) (a' := ?_) B9_42 rfl rfl (any_of HT_.out (by kernel_rfl)) (fun _ _ _ h => h) (Or.inl ⟨by rfl, ?_⟩) ?_ ?_; rotate_left; (·intro w'; go_simp; with_reducible rfl); rotate_left; (·simp only [Act.put, q1_9, q2_9, q3_9, i64_w, i32_w]; rfl)
                 refine pure_ (i := 27) (N := some 79) (v := ?_) (a' := ?_) B9_43 rfl rfl (any_of HT_.out (by kernel_rfl)) (fun _ _ _ h => h) (Or.inl ⟨by rfl, ?_⟩) ?_ ?_; rotate_left; (·intro w'; go_simp; with_reducible rfl); rotate_left; (·simp only [Act.put, q1_9, q2_9, q3_9, i64_w, i32_w]; rfl)
                 refine take_ (i := 21) (N := some 73) (v := ?_) (a' := ?_) B9_45 rfl rfl (take_ofW HT_.out HW_.out (by kernel_rfl)) (fun _ _ _ h => h) (Or.inl ⟨by rfl, ?_⟩) hHeld ?_ ?_
                 rotate_left
                 ·rintro w' ⟨s0, s1, s2, s3, s4, s5, s6⟩
                  go_simp
                  with_reducible rfl
                 rotate_left
                 ·simp only [Act.put, q1_9, q2_9, q3_9, i64_w, i32_w]
                  rfl
                 refine pure_ (i := 22) (N := some 74) (v := ?_) (a' := ?_) B9_46 rfl rfl (any_of HT_.out (by kernel_rfl)) (fun _ _ _ h => h) (Or.inl ⟨by rfl, ?_⟩) ?_ ?_; rotate_left; (·intro w'; go_simp; with_reducible rfl); rotate_left; (·simp only [Act.put, q1_9, q2_9, q3_9, i64_w, i32_w]; rfl)
                 refine pure_ (i := 23) (N := some 75) (v := ?_) (a' := ?_) B9_47 rfl rfl (any_of HT_.out (by kernel_rfl)) (fun _ _ _ h => h) (Or.inl ⟨by rfl, ?_⟩) ?_ ?_; rotate_left; (·intro w'; go_simp; with_reducible rfl); rotate_left; (·simp only [Act.put, q1_9, q2_9, q3_9, i64_w, i32_w]; rfl)
                 refine take_ (i := 24) (N := some 76) (v := ?_) (a' := ?_) B9_48 rfl rfl (take_ofW HT_.out HW_.out (by kernel_rfl)) (fun _ _ _ h => h) (Or.inl ⟨by rfl, ?_⟩) hHeld ?_ ?_
                 rotate_left
                 ·rintro w' ⟨s0, s1, s2, s3, s4, s5, s6⟩
                  go_simp
                  with_reducible rfl
                 rotate_left
                 ·simp only [Act.put, q1_9, q2_9, q3_9, i64_w, i32_w]
                  rfl
                 refine pure_ (i := 25) (N := some 77) (v := ?_) (a' := ?_) B9_49 rfl rfl (any_of HT_.out (by kernel_rfl)) (fun _ _ _ h => h) (Or.inl ⟨by rfl, ?_⟩) ?_ ?_; rotate_left; (·intro w'; go_simp; with_reducible rfl); rotate_left; (·simp only [Act.put, q1_9, q2_9, q3_9, i64_w, i32_w]; rfl)
                 refine pure_ (i := 26) (N := some 78) (v := ?_) (a' := ?_) B9_50 rfl rfl (any_of HT_.out (by kernel_rfl)) (fun _ _ _ h => h) (Or.inl ⟨by rfl, ?_⟩) ?_ ?_; rotate_left; (·intro w'; go_simp; with_reducible rfl); rotate_left; (·simp only [Act.put, q1_9, q2_9, q3_9, i64_w, i32_w]; rfl)
                 refine take_ (i := 28) (N := some 80) (v := ?_) (a' := ?_) B9_51 rfl rfl (take_ofW HT_.out HW_.out (by kernel_rfl)) (fun _ _ _ h => h) (Or.inl ⟨by rfl, ?_⟩) hHeld ?_ ?_
                 rotate_left
                 ·rintro w' ⟨s0, s1, s2, s3, s4, s5, s6⟩
                  go_simp
                  with_reducible rfl
                 rotate_left
                 ·simp only [Act.put, q1_9, q2_9, q3_9, i64_w, i32_w]
                  rfl
                 refine pure_ (i := 29) (N := some 81) (v := ?_) (a' := ?_) B9_52 rfl rfl (any_of HT_.out (by kernel_rfl)) (fun _ _ _ h => h) (Or.inl ⟨by rfl, ?_⟩) ?_ ?_; rotate_left; (·intro w'; go_simp; with_reducible rfl); rotate_left; (·simp only [Act.put, q1_9, q2_9, q3_9, i64_w, i32_w]; rfl)
                 refine pure_ (i := 30) (N := some 82) (v := ?_) (a' := ?_) B9_53 rfl rfl (any_of HT_.out (by kernel_rfl)) (fun _ _ _ h => h) (Or.inl ⟨by rfl, ?_⟩) ?_ ?_; rotate_left; (·intro w'; go_simp; with_reducible rfl); rotate_left; (·simp only [Act.put, q1_9, q2_9, q3_9, i64_w, i32_w]; rfl)
                 refine take_ (i := 31) (N := some 83) (v := ?_) (a' := ?_) B9_54 rfl rfl (take_ofW HT_.out HW_.out (by kernel_rfl)) (fun _ _ _ h => h) (Or.inl ⟨by rfl, ?_⟩) hHeld ?_ ?_
                 rotate_left
                 ·rintro w' ⟨s0, s1, s2, s3, s4, s5, s6⟩
                  go_simp
                  with_reducible rfl
                 rotate_left
                 ·simp only [Act.put, q1_9, q2_9, q3_9, i64_w, i32_w]
                  rfl
                 refine pure_ (i := 32) (N := some 84) (v := ?_) (a' := ?_) B9_55 rfl rfl (any_of HT_.out (by kernel_rfl)) (fun _ _ _ h => h) (Or.inl ⟨by rfl, ?_⟩) ?_ ?_; rotate_left; (·intro w'; go_simp; with_reducible rfl); rotate_left; (·simp only [Act.put, q1_9, q2_9, q3_9, i64_w, i32_w]; rfl)
                 refine pure_ (i := 33) (N := some 85) (v := ?_) (a' := ?_) B9_56 rfl rfl (any_of HT_.out (by kernel_rfl)) (fun _ _ _ h => h) (Or.inl ⟨by rfl, ?_⟩) ?_ ?_; rotate_left; (·intro w'; go_simp; with_reducible rfl); rotate_left; (·simp only [Act.put, q1_9, q2_9, q3_9, i64_w, i32_w]; rfl)
                 refine done_ (done_of HT_.out (by kernel_rfl)) ?_
                 try go_wp2
                 have n0_ := am9_ (blk_drew BK158.out)
                 have n1_ := am9_ (below_drew1 HB.out)
                 clear BK158
                 clear HB
                 have BK158 := n0_
                 have HB := n1_
                 clear n0_ n1_
                 have p176 : 0 ≤ (a1 : Int) := of_decide_eq_true (by first | (with_reducible assumption) | assumption)
                 have q176 : a1 < (l0_0.length : Int) := of_decide_eq_true (by first | (with_reducible assumption) | assumption)
                 obtain ⟨ad176, A176_1, c176_1, e176, hx176_0, hx176_1, hl176_1, hi176_1⟩ := at_T34 HR0_0.out a1 p176 q176
                 have hw176_1 := hx176_1
                 have hw176_0 := hx176_0
                 obtain rfl : ad173 = ad176 := (by injection e176)
                 replace hx176_0 := (HB.out.cell (World.block_lt_of_cell? w _ hx176_0)).trans hx176_0
                 replace hx176_1 := (HB.out.cell (World.block_lt_of_cell? w _ hx176_1)).trans hx176_1
                 have HR176_1 := Aside0.mk hi176_1
                 have HC176_1 := Aside0.mk hl176_1
                 clear hi176_1 hl176_1
                 replace p176 := eq_true p176
                 replace q176 := eq_true q176
                 refine start_ (n := 22) (S := fun w' => w'.cell? ⟨gb158, 0, none⟩ = some (.slice (some ad173) l0_0.length c0_0) ∧ w'.cell? (ad173.add ((a1).toNat * 2)) = some (.string ((rd_T34 l0_0 a1).f0)) ∧ w'.cell? ⟨(ad173.add ((a1).toNat * 2)).block, (ad173.add ((a1).toNat * 2)).off + 1, none⟩ = some (.slice A176_1 ((rd_T34 l0_0 a1).f1).length c176_1)) (ds := []) B9_1 (by kernel_rfl) rfl rfl ⟨(blk_cell BK158.out 0).trans rfl, ((HB.out.cell (World.block_lt_of_cell? w _ hw176_0)).trans hw176_0), ((HB.out.cell (World.block_lt_of_cell? w _ hw176_1)).trans hw176_1)⟩ (fun hHeld => ?_); refine with_tabW foliatelaw06_SchemaParts.tab16 foliatelaw06_SchemaParts.bits16 (fun HT_ HW_ => ?_)
                 generalize w82.drew = w83 at BK158 HB HR176_1 hx176_0 hx176_1 hHeld ⊢
                 refine pure_ (i := 0) (N := some 86) (v := ?_) (a' := ?_) B9_3 rfl rfl (any_of HT_.out (by kernel_rfl)) (fun _ _ _ h => h) (Or.inl ⟨by rfl, ?_⟩) ?_ ?_; rotate_left; (·intro w'; go_simp; with_reducible rfl); rotate_left; (·simp only [Act.put, q1_9, q2_9, q3_9, i64_w, i32_w]; rfl)
                 refine pure_ (i := 1) (N := some 87) (v := ?_) (a' := ?_) B9_5 rfl rfl (any_of HT_.out (by kernel_rfl)) (fun _ _ _ h => h) (Or.inl ⟨by rfl, ?_⟩) ?_ ?_; rotate_left; (·intro w'; go_simp; with_reducible rfl); rotate_left; (·simp only [Act.put, q1_9, q2_9, q3_9, i64_w, i32_w]; rfl)
                 refine pure_ (i := 2) (N := some 88) (v := ?_) (a' := ?_) B9_7 rfl rfl (any_of HT_.out (by kernel_rfl)) (fun _ _ _ h => h) (Or.inl ⟨by rfl, ?_⟩) ?_ ?_; rotate_left; (·intro w'; go_simp; with_reducible rfl); rotate_left; (·simp only [Act.put, q1_9, q2_9, q3_9, i64_w, i32_w]; rfl)
                 refine pure_ (i := 3) (N := some 89) (v := ?_) (a' := ?_) B9_9 rfl rfl (any_of HT_.out (by kernel_rfl)) (fun _ _ _ h => h) (Or.inl ⟨by rfl, ?_⟩) ?_ ?_; rotate_left; (·intro w'; go_simp; with_reducible rfl); rotate_left; (·simp only [Act.put, q1_9, q2_9, q3_9, i64_w, i32_w]; rfl)
                 refine pure_ (i := 4) (N := some 90) (v := ?_) (a' := ?_) B9_11 rfl rfl (any_of HT_.out (by kernel_rfl)) (fun _ _ _ h => h) (Or.inl ⟨by rfl, ?_⟩) ?_ ?_; rotate_left; (·intro w'; go_simp; with_reducible rfl); rotate_left; (·simp only [Act.put, q1_9, q2_9, q3_9, i64_w, i32_w]; rfl)
                 refine take_ (i := 5) (N := some 91) (v := ?_) (a' := ?_) B9_13 rfl rfl (take_ofW HT_.out HW_.out (by kernel_rfl)) (fun _ _ _ h => h) (Or.inl ⟨by rfl, ?_⟩) hHeld ?_ ?_
                 rotate_left
                 ·rintro w' ⟨s0, s1, s2⟩
                  go_simp
                  with_reducible rfl
                 rotate_left
                 ·simp only [Act.put, q1_9, q2_9, q3_9, i64_w, i32_w]
                  rfl
                 refine pure_ (i := 6) (N := some 92) (v := ?_) (a' := ?_) B9_15 rfl rfl (any_of HT_.out (by kernel_rfl)) (fun _ _ _ h => h) (Or.inl ⟨by rfl, ?_⟩) ?_ ?_; rotate_left; (·intro w'; go_simp; with_reducible rfl); rotate_left; (·simp only [Act.put, q1_9, q2_9, q3_9, i64_w, i32_w]; rfl)
                 refine pure_ (i := 7) (N := some 93) (v := ?_) (a' := ?_) B9_17 rfl rfl (any_of HT_.out (by kernel_rfl)) (fun _ _ _ h => h) (Or.inl ⟨by rfl, ?_⟩) ?_ ?_; rotate_left; (·intro w'; go_simp; with_reducible rfl); rotate_left; (·simp only [Act.put, q1_9, q2_9, q3_9, i64_w, i32_w]; rfl)
                 refine pure_ (i := 8) (N := some 94) (v := ?_) (a' := ?_) B9_19 rfl rfl (any_of HT_.out (by kernel_rfl)) (fun _ _ _ h => h) (Or.inl ⟨by rfl, ?_⟩) ?_ ?_; rotate_left; (·intro w'; go_simp; with_reducible rfl); rotate_left; (·simp only [Act.put, q1_9, q2_9, q3_9, i64_w, i32_w]; rfl)
                 refine pure_ (i := 9) (N := some 95) (v := ?_) (a' := ?_) B9_21 rfl rfl (any_of HT_.out (by kernel_rfl)) (fun _ _ _ h => h) (Or.inl ⟨by rfl, ?_⟩) ?_ ?_; rotate_left; (·intro w'; go_simp; with_reducible rfl); rotate_left; (·simp only [Act.put, q1_9, q2_9, q3_9, i64_w, i32_w]; rfl)
                 refine pure_ (i := 11) (N := some 97) (v := ?_) (a' := ?_) #[t_9,t_9,t_9,t_9,t_9,t_9,t_9,t_9,t_9,t_9,f_9,t_9,f_9,f_9,f_9,f_9,f_9,f_9,f_9,f_9,f_9,f_9] rfl rfl (any_of HT_.out (by kernel_rfl)) (fun _ _ _ h => h) (Or.inl ⟨by rfl, ?_⟩) ?_ ?_; rotate_left; (·intro w'; go_simp; with_reducible rfl); rotate_left; (·simp only [Act.put, q1_9, q2_9, q3_9, i64_w, i32_w]; rfl)
                 refine pure_ (i := 13) (N := some 99) (v := ?_) (a' := ?_) #[t_9,t_9,t_9,t_9,t_9,t_9,t_9,t_9,t_9,t_9,f_9,t_9,f_9,t_9,f_9,f_9,f_9,f_9,f_9,f_9,f_9,f_9] rfl rfl (any_of HT_.out (by kernel_rfl)) (fun _ _ _ h => h) (Or.inl ⟨by rfl, ?_⟩) ?_ ?_; rotate_left; (·intro w'; go_simp; with_reducible rfl); rotate_left; (·simp only [Act.put, q1_9, q2_9, q3_9, i64_w, i32_w]; rfl)
                 refine pure_ (i := 18) (N := some 104) (v := ?_) (a' := ?_) #[t_9,t_9,t_9,t_9,t_9,t_9,t_9,t_9,t_9,t_9,f_9,t_9,f_9,t_9,f_9,f_9,f_9,f_9,t_9,f_9,f_9,f_9] rfl rfl (any_of HT_.out (by kernel_rfl)) (fun _ _ _ h => h) (Or.inl ⟨by rfl, ?_⟩) ?_ ?_; rotate_left; (·intro w'; go_simp; with_reducible rfl); rotate_left; (·simp only [Act.put, q1_9, q2_9, q3_9, i64_w, i32_w]; rfl)
                 refine take_ (i := 10) (N := some 96) (v := ?_) (a' := ?_) #[t_9,t_9,t_9,t_9,t_9,t_9,t_9,t_9,t_9,t_9,t_9,t_9,f_9,t_9,f_9,f_9,f_9,f_9,t_9,f_9,f_9,f_9] rfl rfl (take_ofW HT_.out HW_.out (by kernel_rfl)) (fun _ _ _ h => h) (Or.inl ⟨by rfl, ?_⟩) hHeld ?_ ?_
                 rotate_left
                 ·rintro w' ⟨s0, s1, s2⟩
                  go_simp
                  with_reducible rfl
                 rotate_left
                 ·simp only [Act.put, q1_9, q2_9, q3_9, i64_w, i32_w]
                  rfl
                 refine take_ (i := 12) (N := some 98) (v := ?_) (a' := ?_) #[t_9,t_9,t_9,t_9,t_9,t_9,t_9,t_9,t_9,t_9,t_9,t_9,t_9,t_9,f_9,f_9,f_9,f_9,t_9,f_9,f_9,f_9] rfl rfl (take_ofW HT_.out HW_.out (by kernel_rfl)) (fun _ _ _ h => h) (Or.inl ⟨by rfl, ?_⟩) hHeld ?_ ?_
                 rotate_left
                 ·rintro w' ⟨s0, s1, s2⟩
                  go_simp
                  with_reducible rfl
                 rotate_left
                 ·simp only [Act.put, q1_9, q2_9, q3_9, i64_w, i32_w]
                  rfl
                 refine pure_ (i := 14) (N := some 100) (v := ?_) (a' := ?_) #[t_9,t_9,t_9,t_9,t_9,t_9,t_9,t_9,t_9,t_9,t_9,t_9,t_9,t_9,t_9,f_9,f_9,f_9,t_9,f_9,f_9,f_9] rfl rfl (any_of HT_.out (by kernel_rfl)) (fun _ _ _ h => h) (Or.inl ⟨by rfl, ?_⟩) ?_ ?_; rotate_left; (·intro w'; go_simp; with_reducible rfl); rotate_left; (·simp only [Act.put, q1_9, q2_9, q3_9, i64_w, i32_w]; rfl)
                 refine pure_ (i := 15) (N := some 101) (v := ?_) (a' := ?_) #[t_9,t_9,t_9,t_9,t_9,t_9,t_9,t_9,t_9,t_9,t_9,t_9,t_9,t_9,t_9,t_9,f_9,f_9,t_9,f_9,f_9,f_9] rfl rfl (any_of HT_.out (by kernel_rfl)) (fun _ _ _ h => h) (Or.inl ⟨by rfl, ?_⟩) ?_ ?_; rotate_left; (·intro w'; go_simp; with_reducible rfl); rotate_left; (·simp only [Act.put, q1_9, q2_9, q3_9, i64_w, i32_w]; rfl)
                 refine take_ (i := 16) (N := some 102) (v := ?_) (a' := ?_) #[t_9,t_9,t_9,t_9,t_9,t_9,t_9,t_9,t_9,t_9,t_9,t_9,t_9,t_9,t_9,t_9,t_9,f_9,t_9,f_9,f_9,f_9] rfl rfl (take_ofW HT_.out HW_.out (by kernel_rfl)) (fun _ _ _ h => h) (Or.inl ⟨by rfl, ?_⟩) hHeld ?_ ?_
                 rotate_left
                 ·rintro w' ⟨s0, s1, s2⟩
                  go_simp
                  with_reducible rfl
                 rotate_left
                 ·simp only [Act.put, q1_9, q2_9, q3_9, i64_w, i32_w]
                  rfl
                 refine one_ (i := 17) (N := some 103) B9_39 rfl rfl (one_of HT_.out (by kernel_rfl)) (by decide) (fun K hK => ?_)
                 refine goes_ Try.func21 (by kernel_rfl) rfl #[.agg #[.slice (some ad173) l0_0.length c0_0], .string ((rd_T34 l0_0 a1).f0)] (by rfl) rfl rfl (by (try simp only [List.map_toArray, List.map_cons, List.map_nil]); first | done | rfl | (simp only [List.length_drop, List.length_take]; rfl)) ?_
                 with_reducible refine (schema_Find.calls _ _ l0_0 ((rd_T34 l0_0 a1).f0) t177 _ ?side1 ?side2 A79.out).mono ?_
                 (case side1 => repeat (first | exact (Kd.C_below HR0_0.out HB.out) | (with_reducible first | refine ca9_ ?_ _ | refine cn9_ ?_ _ | refine cd9_ ?_)))
                 (case side2 => exact HC0_0.out)
                 rintro e w84 ⟨rfl, hb⟩
                 refine ⟨_, rfl, ?_⟩
                 have n0_ := am9_ (blk_below (g := gb158) (o := .cells #[.slice (some ad173) l0_0.length c0_0] 24 (0, 0)) (by (with_reducible repeat (first | refine blk_drewN ?_ _ | refine blk_drew ?_ | refine blk_alloc ?_ _)); exact BK158.out) hb)
                 have n1_ := am9_ (below_step (by repeat (first | (with_reducible first | exact HB.out | apply below_alloc | apply pw_below_drewN | apply below_drew1 | refine below_set ?_ GE158.out) | exact HB.out)) hb)
                 clear BK158
                 clear HB
                 have BK158 := n0_
                 have HB := n1_
                 clear n0_ n1_
                 (try clear hb)
                 (try clear hb2)
                 (try clear hk)
                 (try clear hi)
                 refine hK.out _ _ ⟨(blk_cell BK158.out 0).trans rfl, ((HB.out.cell (World.block_lt_of_cell? w _ hw176_0)).trans hw176_0), ((HB.out.cell (World.block_lt_of_cell? w _ hw176_1)).trans hw176_1)⟩ (fun hHeld => ?_)
                 clear hK K
                 refine norm_ (a' := ?_) ?_ ?_
                 rotate_left
                 ·show Act.put _ (some 103) _ = _
                  simp only [Act.put, q1_9, q2_9, q3_9, i64_w, i32_w]
                  rfl
                 refine pure_ (i := 19) (N := some 105) (v := ?_) (a' := ?_) B9_41 rfl rfl (any_of HT_.out (by kernel_rfl)) (fun _ _ _ h => h) (Or.inl ⟨by rfl, ?_⟩) ?_ ?_; rotate_left; (·intro w'; go_simp; with_reducible rfl); rotate_left; (·simp only [Act.put, q1_9, q2_9, q3_9, i64_w, i32_w]; rfl)
                 refine pure_ (i := 20) (N := some 106) (v := ?_) (a' := ?_) B9_44 rfl rfl (any_of HT_.out (by kernel_rfl)) (fun _ _ _ h => h) (Or.inl ⟨by rfl, ?_⟩) ?_ ?_; rotate_left; (·intro w'; go_simp; with_reducible rfl); rotate_left; (·simp only [Act.put, q1_9, q2_9, q3_9, i64_w, i32_w]; rfl)
                 refine pure_ (i := 21) (N := some 4) (v := ?_) (a' := ?_) B9_57 rfl rfl (any_of HT_.out (by kernel_rfl)) (fun _ _ _ h => h) (Or.inl ⟨by rfl, ?_⟩) ?_ ?_; rotate_left; (·intro w'; go_simp; with_reducible rfl); rotate_left; (·simp only [Act.put, q1_9, q2_9, q3_9, i64_w, i32_w]; rfl)
                 refine done_ (done_of HT_.out (by kernel_rfl)) ?_
                 try go_wp2
                 go_ret
                 exact ⟨by first | rfl | (simp [errW_none, errW_some] <;> rfl) | (simp [*, errW_none, errW_some] <;> rfl), by repeat (first | (with_reducible first | exact HB.out | apply below_alloc | apply pw_below_drewN | apply below_drew1 | refine below_set ?_ GE158.out) | exact HB.out)⟩
                ·rw [if_neg c78] at H
                 exact absurd H (by simp)
               ·rw [if_neg c77] at H
                exact absurd H (by simp)
            ·rw [if_neg c66] at H
             exact absurd H (by simp)
           ·rw [if_neg c65] at H
            exact absurd H (by simp)
          ·rw [if_neg c64] at H
           exact absurd H (by simp)
        ·rw [if_neg c62] at H
         exact absurd H (by simp)

end Go.Proofs.Ytlcanmndeempfaa.PPt
