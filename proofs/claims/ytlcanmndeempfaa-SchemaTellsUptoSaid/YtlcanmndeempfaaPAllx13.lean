-- Written by wip/tools/myprint.py, a program of the prover's own, over the kit's print; the contracts named 'HAND' there are typed by hand.
import Derived.Test.YtlcanmndeempfaaPAllx0
import Derived.Test.YtlcanmndeempfaaPAllx12
namespace Go.Proofs.Ytlcanmndeempfaa.PAll
open Go.RowKit Go.Proofs.YtlcanmndeempfaaW.PrintWords Go.Proofs.YtlcanmndeempfaaW.PrintLast Go.Proofs.YtlcanmndeempfaaW.PrintMore
attribute [local go_sem] max2_int min2_int max_two min_two max_three min_three max_four min_four   -- for this text's walks alone
set_option linter.unusedVariables false
set_option linter.unusedSimpArgs false

/-! ### foliateref06_Text: function 20 -/
mutual
def foliateref06_Text.l0 : Nat → List ByteArray → ByteArray → Int → List (S34) → Option (ByteArray)
  | 0, _, _, _, _ => none
  | k + 1, x4, x5, x6, x185000 => if x6 < (x185000.length : Int) then (if 0 ≤ x6 then (if x5.size + ((rd_T34 x185000 x6).f0).size ≤ 9223372036854775807 then (if (x5 ++ ((rd_T34 x185000 x6).f0)).size + 1 ≤ 9223372036854775807 then (foliateref06_Text.l1 k x4 ((x5 ++ ((rd_T34 x185000 x6).f0)) ++ (⟨#[123]⟩ : ByteArray)) x6 0 x185000) else (none)) else (none)) else (none)) else (some x5)
def foliateref06_Text.l1 : Nat → List ByteArray → ByteArray → Int → Int → List (S34) → Option (ByteArray)
  | 0, _, _, _, _, _ => none
  | k + 1, x4, x5, x6, x7, x185000 => if 0 ≤ x6 then (if x6 < (x185000.length : Int) then (if x7 < (((rd_T34 x185000 x6).f1).length : Int) then (if 0 ≤ x7 then (if x7 > 0 then (if x5.size + 1 ≤ 9223372036854775807 then (if (x5 ++ (⟨#[44]⟩ : ByteArray)).size + ((rd_T40 ((rd_T34 x185000 x6).f1) x7).f0).size ≤ 9223372036854775807 then (if ((x5 ++ (⟨#[44]⟩ : ByteArray)) ++ ((rd_T40 ((rd_T34 x185000 x6).f1) x7).f0)).size + 1 ≤ 9223372036854775807 then (if 0 ≤ ((rd_T40 ((rd_T34 x185000 x6).f1) x7).f1) then (if ((rd_T40 ((rd_T34 x185000 x6).f1) x7).f1) < (x4.length : Int) then (if (((x5 ++ (⟨#[44]⟩ : ByteArray)) ++ ((rd_T40 ((rd_T34 x185000 x6).f1) x7).f0)) ++ (⟨#[58]⟩ : ByteArray)).size + (rdOf ByteArray.empty x4 ((rd_T40 ((rd_T34 x185000 x6).f1) x7).f1)).size ≤ 9223372036854775807 then (if ((((x5 ++ (⟨#[44]⟩ : ByteArray)) ++ ((rd_T40 ((rd_T34 x185000 x6).f1) x7).f0)) ++ (⟨#[58]⟩ : ByteArray)) ++ (rdOf ByteArray.empty x4 ((rd_T40 ((rd_T34 x185000 x6).f1) x7).f1))).size + ((rd_T40 ((rd_T34 x185000 x6).f1) x7).f2).size ≤ 9223372036854775807 then (foliateref06_Text.l1 k x4 (((((x5 ++ (⟨#[44]⟩ : ByteArray)) ++ ((rd_T40 ((rd_T34 x185000 x6).f1) x7).f0)) ++ (⟨#[58]⟩ : ByteArray)) ++ (rdOf ByteArray.empty x4 ((rd_T40 ((rd_T34 x185000 x6).f1) x7).f1))) ++ ((rd_T40 ((rd_T34 x185000 x6).f1) x7).f2)) x6 (wrap64 (x7 + 1)) x185000) else (none)) else (none)) else (none)) else (none)) else (none)) else (none)) else (none)) else (if x5.size + ((rd_T40 ((rd_T34 x185000 x6).f1) x7).f0).size ≤ 9223372036854775807 then (if (x5 ++ ((rd_T40 ((rd_T34 x185000 x6).f1) x7).f0)).size + 1 ≤ 9223372036854775807 then (if 0 ≤ ((rd_T40 ((rd_T34 x185000 x6).f1) x7).f1) then (if ((rd_T40 ((rd_T34 x185000 x6).f1) x7).f1) < (x4.length : Int) then (if ((x5 ++ ((rd_T40 ((rd_T34 x185000 x6).f1) x7).f0)) ++ (⟨#[58]⟩ : ByteArray)).size + (rdOf ByteArray.empty x4 ((rd_T40 ((rd_T34 x185000 x6).f1) x7).f1)).size ≤ 9223372036854775807 then (if (((x5 ++ ((rd_T40 ((rd_T34 x185000 x6).f1) x7).f0)) ++ (⟨#[58]⟩ : ByteArray)) ++ (rdOf ByteArray.empty x4 ((rd_T40 ((rd_T34 x185000 x6).f1) x7).f1))).size + ((rd_T40 ((rd_T34 x185000 x6).f1) x7).f2).size ≤ 9223372036854775807 then (foliateref06_Text.l1 k x4 ((((x5 ++ ((rd_T40 ((rd_T34 x185000 x6).f1) x7).f0)) ++ (⟨#[58]⟩ : ByteArray)) ++ (rdOf ByteArray.empty x4 ((rd_T40 ((rd_T34 x185000 x6).f1) x7).f1))) ++ ((rd_T40 ((rd_T34 x185000 x6).f1) x7).f2)) x6 (wrap64 (x7 + 1)) x185000) else (none)) else (none)) else (none)) else (none)) else (none)) else (none))) else (none)) else (if x5.size + 1 ≤ 9223372036854775807 then (foliateref06_Text.l0 k x4 (x5 ++ (⟨#[125]⟩ : ByteArray)) (wrap64 (x6 + 1)) x185000) else (none))) else (none)) else (none)
end
def foliateref06_Text.f (k : Nat) (l0_0 : List (S34)) : Option (ByteArray) := (foliateref06_May.f k l0_0).bind fun t185 => (if t185 = true then (foliateref06_Text.l0 k (([(⟨#[105, 56]⟩ : ByteArray), (⟨#[105, 49, 54]⟩ : ByteArray), (⟨#[105, 51, 50]⟩ : ByteArray), (⟨#[105, 54, 52]⟩ : ByteArray), (⟨#[116]⟩ : ByteArray), (⟨#[42]⟩ : ByteArray)] : List ByteArray)) (⟨#[]⟩ : ByteArray) 0 l0_0) else (some (⟨#[]⟩ : ByteArray)))
set_option maxHeartbeats 8000000 in
set_option maxRecDepth 100000 in
theorem foliateref06_Text.calls (k : Nat) (A0_0 : Option Addr) (c0_0 : Nat) (l0_0 : List (S34)) (r : ByteArray) (w : World) (hr0_0 : Kd.C k34 w A0_0 l0_0.length l0_0) (hc0_0 : l0_0.length ≤ c0_0) (h : foliateref06_Text.f k l0_0 = some r) :
    Calls Try.prog 20 #[.agg #[.slice A0_0 l0_0.length c0_0]] w fun e w' => e = .returned (.string r) ∧ Below w.heap.size w w' := by
  have hu24 := Try.underlying24
  have hu40 := Try.underlying40
  have HR0_0 := Aside0.mk hr0_0
  have HC0_0 := Aside0.mk hc0_0
  clear hr0_0 hc0_0
  have HB := Aside0.mk (Below.refl w.heap.size w)
  have H : ((foliateref06_May.f k l0_0).bind fun t185 => (if t185 = true then (foliateref06_Text.l0 k (([(⟨#[105, 56]⟩ : ByteArray), (⟨#[105, 49, 54]⟩ : ByteArray), (⟨#[105, 51, 50]⟩ : ByteArray), (⟨#[105, 54, 52]⟩ : ByteArray), (⟨#[116]⟩ : ByteArray), (⟨#[42]⟩ : ByteArray)] : List ByteArray)) (⟨#[]⟩ : ByteArray) 0 l0_0) else (some (⟨#[]⟩ : ByteArray)))) = some r := h
  clear h
  replace H := Option.bind_eq_some_iff.mp H
  obtain ⟨t185, A20, H⟩ := H
  replace H : (if t185 = true then (foliateref06_Text.l0 k (([(⟨#[105, 56]⟩ : ByteArray), (⟨#[105, 49, 54]⟩ : ByteArray), (⟨#[105, 51, 50]⟩ : ByteArray), (⟨#[105, 54, 52]⟩ : ByteArray), (⟨#[116]⟩ : ByteArray), (⟨#[42]⟩ : ByteArray)] : List ByteArray)) (⟨#[]⟩ : ByteArray) 0 l0_0) else (some (⟨#[]⟩ : ByteArray))) = some r := H
  have A2 := Aside0.mk A20
  clear A20
  by_cases c3 : t185 = true
  · subst c3
    have H1 : (foliateref06_Text.l0 k (([(⟨#[105, 56]⟩ : ByteArray), (⟨#[105, 49, 54]⟩ : ByteArray), (⟨#[105, 51, 50]⟩ : ByteArray), (⟨#[105, 54, 52]⟩ : ByteArray), (⟨#[116]⟩ : ByteArray), (⟨#[42]⟩ : ByteArray)] : List ByteArray)) (⟨#[]⟩ : ByteArray) 0 l0_0) = some r := by rw [if_pos rfl] at H; exact H
    clear H
    have H := H1
    clear H1
    obtain ⟨y186, hy186⟩ : ∃ y_ : List ByteArray, y_ = (([(⟨#[105, 56]⟩ : ByteArray), (⟨#[105, 49, 54]⟩ : ByteArray), (⟨#[105, 51, 50]⟩ : ByteArray), (⟨#[105, 54, 52]⟩ : ByteArray), (⟨#[116]⟩ : ByteArray), (⟨#[42]⟩ : ByteArray)] : List ByteArray)) := ⟨_, rfl⟩
    replace H : (foliateref06_Text.l0 k y186 (⟨#[]⟩ : ByteArray) 0 l0_0) = some r := by first | (rw [hy186]; with_reducible exact H) | (have H2_ := (Option.bind_some _ _).symm.trans H; rw [hy186]; with_reducible exact H2_) | (have H2_ := (Option.bind_some _ _).symm.trans H; with_reducible exact H2_) | with_reducible exact H | (rw [hy186]; exact H) | exact H
    have Ny186 := Aside0.mk hy186
    clear hy186
    have H' := Aside0.mk H
    clear H
    go_enter Try.func20, Try.ntmps20
    go_wp2_with (first | ((with_reducible refine gate_dst (N := 1) rfl ?_); refine box_event ?hg (N := 1) ?hd (cs := #[.slice A0_0 l0_0.length c0_0]) (t := 24) ?hr ?_; (case hd => rfl); (case hg => rfl); (case hr => first | (go_simp; done) | (go_simp; rfl)); intro gb184 hg w4 hbox hb; have n0_ := Aside0.mk (below_step (by repeat (first | (with_reducible first | exact HB.out | apply below_alloc | apply pw_below_drewN | apply below_drew1) | exact HB.out)) hb); have n1_ := Aside0.mk (hbox); have n2_ := Aside0.mk ((by rw [hg]; exact (below_size (by repeat (first | (with_reducible first | exact HB.out | apply below_alloc | apply pw_below_drewN | apply below_drew1) | exact HB.out))) : w.heap.size ≤ gb184)); have n3_ := Aside0.mk ((by rw [hg]; exact (below_size (by repeat (first | (with_reducible first | exact HB.out | apply below_alloc | apply pw_below_drewN | apply below_drew1) | exact HB.out))) : w.heap.size ≤ gb184)); clear HB; have HB := n0_; have BK184 := n1_; have GW184 := n2_; have GE184 := n3_; clear n0_ n1_ n2_ n3_; clear hb hbox hg; have hcz5_0 : w4.cell? ⟨gb184, 0, none⟩ = some (.slice A0_0 l0_0.length c0_0) := (blk_cell BK184.out 0).trans rfl; have hfz5_0 := blk_frozen BK184.out 0) | (go_at_call 14; (with_reducible refine (foliateref06_May.calls k _ _ l0_0 true _ ?side1 ?side2 A2.out).mono ?_); (case side1 => repeat (first | exact (Kd.C_below HR0_0.out HB.out) | (with_reducible refine Kd.C_alloc ?_ _) | (with_reducible refine Kd.C_drewN ?_ _) | (with_reducible refine Kd.C_drew ?_))); (case side2 => exact HC0_0.out); rintro e w6 ⟨rfl, hb⟩; have n0_ := Aside0.mk (blk_below (g := gb184) (o := .cells #[.slice A0_0 l0_0.length c0_0] 24 (0, 0)) (by (with_reducible repeat (first | refine blk_drewN ?_ _ | refine blk_drew ?_ | refine blk_alloc ?_ _)); exact BK184.out) hb); have n1_ := Aside0.mk (below_step (by repeat (first | (with_reducible first | exact HB.out | apply below_alloc | apply pw_below_drewN | apply below_drew1 | refine below_set ?_ GE184.out) | exact HB.out)) hb); clear BK184; clear HB; have BK184 := n0_; have HB := n1_; clear n0_ n1_; (try clear hb); (try clear hb2); (try clear hk); (try clear hi)) | ((with_reducible refine gate_dst (N := 13) rfl ?_); refine Kd.R_lit Kd.string _ 9 ?hg (N := 13) ?hd (xs := ([(⟨#[105, 56]⟩ : ByteArray), (⟨#[105, 49, 54]⟩ : ByteArray), (⟨#[105, 51, 50]⟩ : ByteArray), (⟨#[105, 54, 52]⟩ : ByteArray), (⟨#[116]⟩ : ByteArray), (⟨#[42]⟩ : ByteArray)] : List ByteArray)) (inner := [.string (⟨#[105, 56]⟩ : ByteArray), .string (⟨#[105, 49, 54]⟩ : ByteArray), .string (⟨#[105, 51, 50]⟩ : ByteArray), .string (⟨#[105, 54, 52]⟩ : ByteArray), .string (⟨#[116]⟩ : ByteArray), .string (⟨#[42]⟩ : ByteArray)]) (ok := fun _ => True) (okp := fun _ => True) ?hr ?hp (fun _ hk => hk) trivial (Below.refl _ _) (Nat.le_refl _) (by simp) ?_; (case hd => rfl); (case hg => rfl); (case hr => first | (go_simp; done) | (go_simp; rfl)); (case hp => exact (Reps.one (show Kd.M Kd.string _ _ _ (⟨#[105, 56]⟩ : ByteArray) [.string (⟨#[105, 56]⟩ : ByteArray)] from rfl) (Reps.one (show Kd.M Kd.string _ _ _ (⟨#[105, 49, 54]⟩ : ByteArray) [.string (⟨#[105, 49, 54]⟩ : ByteArray)] from rfl) (Reps.one (show Kd.M Kd.string _ _ _ (⟨#[105, 51, 50]⟩ : ByteArray) [.string (⟨#[105, 51, 50]⟩ : ByteArray)] from rfl) (Reps.one (show Kd.M Kd.string _ _ _ (⟨#[105, 54, 52]⟩ : ByteArray) [.string (⟨#[105, 54, 52]⟩ : ByteArray)] from rfl) (Reps.one (show Kd.M Kd.string _ _ _ (⟨#[116]⟩ : ByteArray) [.string (⟨#[116]⟩ : ByteArray)] from rfl) (Reps.one (show Kd.M Kd.string _ _ _ (⟨#[42]⟩ : ByteArray) [.string (⟨#[42]⟩ : ByteArray)] from rfl) (Reps.none _ _)))))))); intro v187 w7 ho8 hb hg_ hnew_; clear hg_ hnew_; (first | rw [← Ny186.out] at ho8 | (simp only [Int.reduceToNat] at ho8; rw [← Ny186.out] at ho8)); have n0_ := Aside0.mk (Kd.R_lower ho8 (below_size (by repeat (first | (with_reducible first | exact HB.out | apply below_alloc | apply pw_below_drewN | apply below_drew1 | refine below_set ?_ GE184.out) | exact HB.out)))); have n1_ := Aside0.mk (blk_below (g := gb184) (o := .cells #[.slice A0_0 l0_0.length c0_0] 24 (0, 0)) (by (with_reducible repeat (first | refine blk_drewN ?_ _ | refine blk_drew ?_ | refine blk_alloc ?_ _)); exact BK184.out) hb); have n2_ := Aside0.mk (below_step (by repeat (first | (with_reducible first | exact HB.out | apply below_alloc | apply pw_below_drewN | apply below_drew1 | refine below_set ?_ GE184.out) | exact HB.out)) hb); clear BK184; clear HB; have HO188 := n0_; have BK184 := n1_; have HB := n2_; clear n0_ n1_ n2_; clear hb ho8))
    repeat (go_quiet (first | ((with_reducible refine gate_dst (N := 1) rfl ?_); refine box_event ?hg (N := 1) ?hd (cs := #[.slice A0_0 l0_0.length c0_0]) (t := 24) ?hr ?_; (case hd => rfl); (case hg => rfl); (case hr => first | (go_simp; done) | (go_simp; rfl)); intro gb184 hg w4 hbox hb; have n0_ := Aside0.mk (below_step (by repeat (first | (with_reducible first | exact HB.out | apply below_alloc | apply pw_below_drewN | apply below_drew1) | exact HB.out)) hb); have n1_ := Aside0.mk (hbox); have n2_ := Aside0.mk ((by rw [hg]; exact (below_size (by repeat (first | (with_reducible first | exact HB.out | apply below_alloc | apply pw_below_drewN | apply below_drew1) | exact HB.out))) : w.heap.size ≤ gb184)); have n3_ := Aside0.mk ((by rw [hg]; exact (below_size (by repeat (first | (with_reducible first | exact HB.out | apply below_alloc | apply pw_below_drewN | apply below_drew1) | exact HB.out))) : w.heap.size ≤ gb184)); clear HB; have HB := n0_; have BK184 := n1_; have GW184 := n2_; have GE184 := n3_; clear n0_ n1_ n2_ n3_; clear hb hbox hg; have hcz5_0 : w4.cell? ⟨gb184, 0, none⟩ = some (.slice A0_0 l0_0.length c0_0) := (blk_cell BK184.out 0).trans rfl; have hfz5_0 := blk_frozen BK184.out 0) | (go_at_call 14; (with_reducible refine (foliateref06_May.calls k _ _ l0_0 true _ ?side1 ?side2 A2.out).mono ?_); (case side1 => repeat (first | exact (Kd.C_below HR0_0.out HB.out) | (with_reducible refine Kd.C_alloc ?_ _) | (with_reducible refine Kd.C_drewN ?_ _) | (with_reducible refine Kd.C_drew ?_))); (case side2 => exact HC0_0.out); rintro e w6 ⟨rfl, hb⟩; have n0_ := Aside0.mk (blk_below (g := gb184) (o := .cells #[.slice A0_0 l0_0.length c0_0] 24 (0, 0)) (by (with_reducible repeat (first | refine blk_drewN ?_ _ | refine blk_drew ?_ | refine blk_alloc ?_ _)); exact BK184.out) hb); have n1_ := Aside0.mk (below_step (by repeat (first | (with_reducible first | exact HB.out | apply below_alloc | apply pw_below_drewN | apply below_drew1 | refine below_set ?_ GE184.out) | exact HB.out)) hb); clear BK184; clear HB; have BK184 := n0_; have HB := n1_; clear n0_ n1_; (try clear hb); (try clear hb2); (try clear hk); (try clear hi)) | ((with_reducible refine gate_dst (N := 13) rfl ?_); refine Kd.R_lit Kd.string _ 9 ?hg (N := 13) ?hd (xs := ([(⟨#[105, 56]⟩ : ByteArray), (⟨#[105, 49, 54]⟩ : ByteArray), (⟨#[105, 51, 50]⟩ : ByteArray), (⟨#[105, 54, 52]⟩ : ByteArray), (⟨#[116]⟩ : ByteArray), (⟨#[42]⟩ : ByteArray)] : List ByteArray)) (inner := [.string (⟨#[105, 56]⟩ : ByteArray), .string (⟨#[105, 49, 54]⟩ : ByteArray), .string (⟨#[105, 51, 50]⟩ : ByteArray), .string (⟨#[105, 54, 52]⟩ : ByteArray), .string (⟨#[116]⟩ : ByteArray), .string (⟨#[42]⟩ : ByteArray)]) (ok := fun _ => True) (okp := fun _ => True) ?hr ?hp (fun _ hk => hk) trivial (Below.refl _ _) (Nat.le_refl _) (by simp) ?_; (case hd => rfl); (case hg => rfl); (case hr => first | (go_simp; done) | (go_simp; rfl)); (case hp => exact (Reps.one (show Kd.M Kd.string _ _ _ (⟨#[105, 56]⟩ : ByteArray) [.string (⟨#[105, 56]⟩ : ByteArray)] from rfl) (Reps.one (show Kd.M Kd.string _ _ _ (⟨#[105, 49, 54]⟩ : ByteArray) [.string (⟨#[105, 49, 54]⟩ : ByteArray)] from rfl) (Reps.one (show Kd.M Kd.string _ _ _ (⟨#[105, 51, 50]⟩ : ByteArray) [.string (⟨#[105, 51, 50]⟩ : ByteArray)] from rfl) (Reps.one (show Kd.M Kd.string _ _ _ (⟨#[105, 54, 52]⟩ : ByteArray) [.string (⟨#[105, 54, 52]⟩ : ByteArray)] from rfl) (Reps.one (show Kd.M Kd.string _ _ _ (⟨#[116]⟩ : ByteArray) [.string (⟨#[116]⟩ : ByteArray)] from rfl) (Reps.one (show Kd.M Kd.string _ _ _ (⟨#[42]⟩ : ByteArray) [.string (⟨#[42]⟩ : ByteArray)] from rfl) (Reps.none _ _)))))))); intro v187 w7 ho8 hb hg_ hnew_; clear hg_ hnew_; (first | rw [← Ny186.out] at ho8 | (simp only [Int.reduceToNat] at ho8; rw [← Ny186.out] at ho8)); have n0_ := Aside0.mk (Kd.R_lower ho8 (below_size (by repeat (first | (with_reducible first | exact HB.out | apply below_alloc | apply pw_below_drewN | apply below_drew1 | refine below_set ?_ GE184.out) | exact HB.out)))); have n1_ := Aside0.mk (blk_below (g := gb184) (o := .cells #[.slice A0_0 l0_0.length c0_0] 24 (0, 0)) (by (with_reducible repeat (first | refine blk_drewN ?_ _ | refine blk_drew ?_ | refine blk_alloc ?_ _)); exact BK184.out) hb); have n2_ := Aside0.mk (below_step (by repeat (first | (with_reducible first | exact HB.out | apply below_alloc | apply pw_below_drewN | apply below_drew1 | refine below_set ?_ GE184.out) | exact HB.out)) hb); clear BK184; clear HB; have HO188 := n0_; have BK184 := n1_; have HB := n2_; clear n0_ n1_ n2_; clear hb ho8)); try go_wp2_with (first | ((with_reducible refine gate_dst (N := 1) rfl ?_); refine box_event ?hg (N := 1) ?hd (cs := #[.slice A0_0 l0_0.length c0_0]) (t := 24) ?hr ?_; (case hd => rfl); (case hg => rfl); (case hr => first | (go_simp; done) | (go_simp; rfl)); intro gb184 hg w4 hbox hb; have n0_ := Aside0.mk (below_step (by repeat (first | (with_reducible first | exact HB.out | apply below_alloc | apply pw_below_drewN | apply below_drew1) | exact HB.out)) hb); have n1_ := Aside0.mk (hbox); have n2_ := Aside0.mk ((by rw [hg]; exact (below_size (by repeat (first | (with_reducible first | exact HB.out | apply below_alloc | apply pw_below_drewN | apply below_drew1) | exact HB.out))) : w.heap.size ≤ gb184)); have n3_ := Aside0.mk ((by rw [hg]; exact (below_size (by repeat (first | (with_reducible first | exact HB.out | apply below_alloc | apply pw_below_drewN | apply below_drew1) | exact HB.out))) : w.heap.size ≤ gb184)); clear HB; have HB := n0_; have BK184 := n1_; have GW184 := n2_; have GE184 := n3_; clear n0_ n1_ n2_ n3_; clear hb hbox hg; have hcz5_0 : w4.cell? ⟨gb184, 0, none⟩ = some (.slice A0_0 l0_0.length c0_0) := (blk_cell BK184.out 0).trans rfl; have hfz5_0 := blk_frozen BK184.out 0) | (go_at_call 14; (with_reducible refine (foliateref06_May.calls k _ _ l0_0 true _ ?side1 ?side2 A2.out).mono ?_); (case side1 => repeat (first | exact (Kd.C_below HR0_0.out HB.out) | (with_reducible refine Kd.C_alloc ?_ _) | (with_reducible refine Kd.C_drewN ?_ _) | (with_reducible refine Kd.C_drew ?_))); (case side2 => exact HC0_0.out); rintro e w6 ⟨rfl, hb⟩; have n0_ := Aside0.mk (blk_below (g := gb184) (o := .cells #[.slice A0_0 l0_0.length c0_0] 24 (0, 0)) (by (with_reducible repeat (first | refine blk_drewN ?_ _ | refine blk_drew ?_ | refine blk_alloc ?_ _)); exact BK184.out) hb); have n1_ := Aside0.mk (below_step (by repeat (first | (with_reducible first | exact HB.out | apply below_alloc | apply pw_below_drewN | apply below_drew1 | refine below_set ?_ GE184.out) | exact HB.out)) hb); clear BK184; clear HB; have BK184 := n0_; have HB := n1_; clear n0_ n1_; (try clear hb); (try clear hb2); (try clear hk); (try clear hi)) | ((with_reducible refine gate_dst (N := 13) rfl ?_); refine Kd.R_lit Kd.string _ 9 ?hg (N := 13) ?hd (xs := ([(⟨#[105, 56]⟩ : ByteArray), (⟨#[105, 49, 54]⟩ : ByteArray), (⟨#[105, 51, 50]⟩ : ByteArray), (⟨#[105, 54, 52]⟩ : ByteArray), (⟨#[116]⟩ : ByteArray), (⟨#[42]⟩ : ByteArray)] : List ByteArray)) (inner := [.string (⟨#[105, 56]⟩ : ByteArray), .string (⟨#[105, 49, 54]⟩ : ByteArray), .string (⟨#[105, 51, 50]⟩ : ByteArray), .string (⟨#[105, 54, 52]⟩ : ByteArray), .string (⟨#[116]⟩ : ByteArray), .string (⟨#[42]⟩ : ByteArray)]) (ok := fun _ => True) (okp := fun _ => True) ?hr ?hp (fun _ hk => hk) trivial (Below.refl _ _) (Nat.le_refl _) (by simp) ?_; (case hd => rfl); (case hg => rfl); (case hr => first | (go_simp; done) | (go_simp; rfl)); (case hp => exact (Reps.one (show Kd.M Kd.string _ _ _ (⟨#[105, 56]⟩ : ByteArray) [.string (⟨#[105, 56]⟩ : ByteArray)] from rfl) (Reps.one (show Kd.M Kd.string _ _ _ (⟨#[105, 49, 54]⟩ : ByteArray) [.string (⟨#[105, 49, 54]⟩ : ByteArray)] from rfl) (Reps.one (show Kd.M Kd.string _ _ _ (⟨#[105, 51, 50]⟩ : ByteArray) [.string (⟨#[105, 51, 50]⟩ : ByteArray)] from rfl) (Reps.one (show Kd.M Kd.string _ _ _ (⟨#[105, 54, 52]⟩ : ByteArray) [.string (⟨#[105, 54, 52]⟩ : ByteArray)] from rfl) (Reps.one (show Kd.M Kd.string _ _ _ (⟨#[116]⟩ : ByteArray) [.string (⟨#[116]⟩ : ByteArray)] from rfl) (Reps.one (show Kd.M Kd.string _ _ _ (⟨#[42]⟩ : ByteArray) [.string (⟨#[42]⟩ : ByteArray)] from rfl) (Reps.none _ _)))))))); intro v187 w7 ho8 hb hg_ hnew_; clear hg_ hnew_; (first | rw [← Ny186.out] at ho8 | (simp only [Int.reduceToNat] at ho8; rw [← Ny186.out] at ho8)); have n0_ := Aside0.mk (Kd.R_lower ho8 (below_size (by repeat (first | (with_reducible first | exact HB.out | apply below_alloc | apply pw_below_drewN | apply below_drew1 | refine below_set ?_ GE184.out) | exact HB.out)))); have n1_ := Aside0.mk (blk_below (g := gb184) (o := .cells #[.slice A0_0 l0_0.length c0_0] 24 (0, 0)) (by (with_reducible repeat (first | refine blk_drewN ?_ _ | refine blk_drew ?_ | refine blk_alloc ?_ _)); exact BK184.out) hb); have n2_ := Aside0.mk (below_step (by repeat (first | (with_reducible first | exact HB.out | apply below_alloc | apply pw_below_drewN | apply below_drew1 | refine below_set ?_ GE184.out) | exact HB.out)) hb); clear BK184; clear HB; have HO188 := n0_; have BK184 := n1_; have HB := n2_; clear n0_ n1_ n2_; clear hb ho8)))
    go_loopg [5, 6] k (fun kq v5 v6 w' => ∃ (x5_1 : ByteArray) (x6_1 : Int), v5 = .string x5_1 ∧ v6 = .int .i64 x6_1 ∧ Aside0 (foliateref06_Text.l0 kq y186 x5_1 x6_1 l0_0 = some r) ∧ Aside0 (kq ≤ k) ∧ Aside0 (Kd.R Kd.string 9 w' w.heap.size (fun _ => True) v187 y186) ∧ Aside0 (w'.heap[gb184]? = some (.cells #[(.slice A0_0 l0_0.length c0_0)] 24 (0, 0))) ∧ Aside0 (Below w.heap.size w w'))
    case atStart => exact ⟨((⟨#[]⟩ : ByteArray)), (0), (by first | rfl | (simp; done) | (simp [*]; done)), (by first | rfl | (simp; done) | (simp [*]; done)), H', ⟨Nat.le_refl _⟩, ⟨by (with_reducible repeat (first | apply Kd.R_alloc | apply Kd.R_drewN | apply Kd.R_drew)); exact HO188.out⟩, ⟨by (with_reducible repeat (first | refine blk_drewN ?_ _ | refine blk_drew ?_ | refine blk_alloc ?_ _)); exact BK184.out⟩, ⟨by repeat (first | (with_reducible first | exact HB.out | apply below_alloc | apply pw_below_drewN | apply below_drew1 | refine below_set ?_ GE184.out) | exact HB.out)⟩⟩
    case round =>
      clear H'
      try clear c2
      try clear p2
      try clear c3
      try clear hcz5_0
      try clear hfz5_0
      obtain ⟨x5_1, x6_1, rfl, rfl, HA, HK1, HO_4, BK184, HB⟩ := hrel
      cases gk with
      | zero => exact absurd HA.out (by simp [foliateref06_Text.l0])
      | succ k1 =>
        have H := HA.out
        clear HA
        simp only [foliateref06_Text.l0] at H
        by_cases c9 : x6_1 < (l0_0.length : Int)
        · rw [if_pos c9] at H
          have c9b0 : decide (x6_1 < (l0_0.length : Int)) = true := decide_eq_true c9
          clear c9
          by_cases c10 : 0 ≤ x6_1
          · rw [if_pos c10] at H
            have c10b0 : decide (0 ≤ x6_1) = true := decide_eq_true c10
            clear c10
            by_cases c11 : x5_1.size + ((rd_T34 l0_0 x6_1).f0).size ≤ 9223372036854775807
            · rw [if_pos c11] at H
              have c11b0 := eq_true c11
              have c11b1 : decide (x5_1.size + ((rd_T34 l0_0 x6_1).f0).size ≤ 9223372036854775807) = true := decide_eq_true c11
              try have c11b2 : (9223372036854775807 < x5_1.size + ((rd_T34 l0_0 x6_1).f0).size) = False := eq_false (Nat.not_lt.2 c11)
              by_cases c12 : (x5_1 ++ ((rd_T34 l0_0 x6_1).f0)).size + 1 ≤ 9223372036854775807
              · rw [if_pos c12] at H
                have c12b0 := eq_true c12
                have c12b1 : decide ((x5_1 ++ ((rd_T34 l0_0 x6_1).f0)).size + 1 ≤ 9223372036854775807) = true := decide_eq_true c12
                try have c12b2 : (9223372036854775807 < (x5_1 ++ ((rd_T34 l0_0 x6_1).f0)).size + 1) = False := eq_false (Nat.not_lt.2 c12)
                try have c12b2' := c12b2
                try simp only [ByteArray.size_append, show (⟨#[44]⟩ : ByteArray).size = 1 from rfl, show (⟨#[58]⟩ : ByteArray).size = 1 from rfl, show (⟨#[123]⟩ : ByteArray).size = 1 from rfl] at c12b2'
                have H' := Aside0.mk H
                clear H
                have hcz13_0 : wr.cell? ⟨gb184, 0, none⟩ = some (.slice A0_0 l0_0.length c0_0) := (blk_cell BK184.out 0).trans rfl
                have hfz13_0 := blk_frozen BK184.out 0
                have p189 : 0 ≤ (x6_1 : Int) := of_decide_eq_true (by first | (with_reducible assumption) | assumption)
                have q189 : x6_1 < (l0_0.length : Int) := of_decide_eq_true (by first | (with_reducible assumption) | assumption)
                obtain ⟨ad189, A189_1, c189_1, e189, hx189_0, hx189_1, hl189_1, hi189_1⟩ := at_T34 HR0_0.out x6_1 p189 q189
                cases e189
                replace hx189_0 := (HB.out.cell (World.block_lt_of_cell? w _ hx189_0)).trans hx189_0
                replace hx189_1 := (HB.out.cell (World.block_lt_of_cell? w _ hx189_1)).trans hx189_1
                have HR189_1 := Aside0.mk hi189_1
                have HC189_1 := Aside0.mk hl189_1
                clear hi189_1 hl189_1
                replace p189 := eq_true p189
                replace q189 := eq_true q189
                go_wp2
                repeat (go_quiet (fail); try go_wp2)
                go_loopg [5, 7] k1 (fun kq v5 v7 w' => ∃ (x5_2 : ByteArray) (x7_2 : Int), v5 = .string x5_2 ∧ v7 = .int .i64 x7_2 ∧ Aside0 (foliateref06_Text.l1 kq y186 x5_2 x6_1 x7_2 l0_0 = some r) ∧ Aside0 (kq ≤ k1) ∧ Aside0 (Kd.R Kd.string 9 w' w.heap.size (fun _ => True) v187 y186) ∧ Aside0 (w'.heap[gb184]? = some (.cells #[(.slice (some ad189) l0_0.length c0_0)] 24 (0, 0))) ∧ Aside0 (Below w.heap.size w w'))
                case atStart => exact ⟨((x5_1 ++ ((rd_T34 l0_0 x6_1).f0)) ++ (⟨#[123]⟩ : ByteArray)), (0), (by first | rfl | (simp; done) | (simp [*]; done)), (by first | rfl | (simp; done) | (simp [*]; done)), H', ⟨Nat.le_refl _⟩, ⟨by (with_reducible repeat (first | apply Kd.R_alloc | apply Kd.R_drewN | apply Kd.R_drew)); exact HO_4.out⟩, ⟨by (with_reducible repeat (first | refine blk_drewN ?_ _ | refine blk_drew ?_ | refine blk_alloc ?_ _)); exact BK184.out⟩, ⟨by repeat (first | (with_reducible first | exact HB.out | apply below_alloc | apply pw_below_drewN | apply below_drew1 | refine below_set ?_ GE184.out) | exact HB.out)⟩⟩
                case round =>
                  clear H'
                  try clear c1
                  try clear p1
                  try clear q1
                  try clear hx1
                  try clear c2
                  try clear p2
                  try clear c3
                  try clear c9
                  try clear c9b0
                  try clear c10
                  try clear c10b0
                  try clear c11
                  try clear c11b0
                  try clear c11b1
                  try clear c11b2
                  try clear c12
                  try clear c12b0
                  try clear c12b1
                  try clear c12b2
                  try clear hcz13_0
                  try clear hcz5_0
                  try clear hfz13_0
                  try clear hfz5_0
                  try clear hx189_0
                  try clear hx189_1
                  try clear p189
                  try clear p2
                  try clear q189
                  obtain ⟨x5_2, x7_2, rfl, rfl, HA, HK2, HO_4, BK184, HB⟩ := hrel
                  cases gk with
                  | zero => exact absurd HA.out (by simp [foliateref06_Text.l1])
                  | succ k2 =>
                    have H := HA.out
                    clear HA
                    simp only [foliateref06_Text.l1] at H
                    by_cases c14 : 0 ≤ x6_1
                    · rw [if_pos c14] at H
                      have c14b0 : decide (0 ≤ x6_1) = true := decide_eq_true c14
                      clear c14
                      by_cases c15 : x6_1 < (l0_0.length : Int)
                      · rw [if_pos c15] at H
                        have c15b0 : decide (x6_1 < (l0_0.length : Int)) = true := decide_eq_true c15
                        clear c15
                        by_cases c16 : x7_2 < (((rd_T34 l0_0 x6_1).f1).length : Int)
                        · rw [if_pos c16] at H
                          have c16b0 : decide (x7_2 < (((rd_T34 l0_0 x6_1).f1).length : Int)) = true := decide_eq_true c16
                          clear c16
                          by_cases c17 : 0 ≤ x7_2
                          · rw [if_pos c17] at H
                            have c17b0 : decide (0 ≤ x7_2) = true := decide_eq_true c17
                            clear c17
                            by_cases c18 : x7_2 > 0
                            · rw [if_pos c18] at H
                              have c18b0 : decide (0 < x7_2) = true := decide_eq_true c18
                              clear c18
                              by_cases c19 : x5_2.size + 1 ≤ 9223372036854775807
                              · rw [if_pos c19] at H
                                have c19b0 := eq_true c19
                                have c19b1 : decide (x5_2.size + 1 ≤ 9223372036854775807) = true := decide_eq_true c19
                                try have c19b2 : (9223372036854775807 < x5_2.size + 1) = False := eq_false (Nat.not_lt.2 c19)
                                by_cases c20 : (x5_2 ++ (⟨#[44]⟩ : ByteArray)).size + ((rd_T40 ((rd_T34 l0_0 x6_1).f1) x7_2).f0).size ≤ 9223372036854775807
                                · rw [if_pos c20] at H
                                  have c20b0 := eq_true c20
                                  have c20b1 : decide ((x5_2 ++ (⟨#[44]⟩ : ByteArray)).size + ((rd_T40 ((rd_T34 l0_0 x6_1).f1) x7_2).f0).size ≤ 9223372036854775807) = true := decide_eq_true c20
                                  try have c20b2 : (9223372036854775807 < (x5_2 ++ (⟨#[44]⟩ : ByteArray)).size + ((rd_T40 ((rd_T34 l0_0 x6_1).f1) x7_2).f0).size) = False := eq_false (Nat.not_lt.2 c20)
                                  try have c20b2' := c20b2
                                  try simp only [ByteArray.size_append, show (⟨#[44]⟩ : ByteArray).size = 1 from rfl, show (⟨#[58]⟩ : ByteArray).size = 1 from rfl, show (⟨#[123]⟩ : ByteArray).size = 1 from rfl] at c20b2'
                                  by_cases c21 : ((x5_2 ++ (⟨#[44]⟩ : ByteArray)) ++ ((rd_T40 ((rd_T34 l0_0 x6_1).f1) x7_2).f0)).size + 1 ≤ 9223372036854775807
                                  · rw [if_pos c21] at H
                                    have c21b0 := eq_true c21
                                    have c21b1 : decide (((x5_2 ++ (⟨#[44]⟩ : ByteArray)) ++ ((rd_T40 ((rd_T34 l0_0 x6_1).f1) x7_2).f0)).size + 1 ≤ 9223372036854775807) = true := decide_eq_true c21
                                    try have c21b2 : (9223372036854775807 < ((x5_2 ++ (⟨#[44]⟩ : ByteArray)) ++ ((rd_T40 ((rd_T34 l0_0 x6_1).f1) x7_2).f0)).size + 1) = False := eq_false (Nat.not_lt.2 c21)
                                    try have c21b2' := c21b2
                                    try simp only [ByteArray.size_append, show (⟨#[44]⟩ : ByteArray).size = 1 from rfl, show (⟨#[58]⟩ : ByteArray).size = 1 from rfl, show (⟨#[123]⟩ : ByteArray).size = 1 from rfl] at c21b2'
                                    by_cases c22 : 0 ≤ ((rd_T40 ((rd_T34 l0_0 x6_1).f1) x7_2).f1)
                                    · rw [if_pos c22] at H
                                      have c22b0 : decide (0 ≤ ((rd_T40 ((rd_T34 l0_0 x6_1).f1) x7_2).f1)) = true := decide_eq_true c22
                                      clear c22
                                      by_cases c23 : ((rd_T40 ((rd_T34 l0_0 x6_1).f1) x7_2).f1) < (y186.length : Int)
                                      · rw [if_pos c23] at H
                                        have c23b0 : decide (((rd_T40 ((rd_T34 l0_0 x6_1).f1) x7_2).f1) < (y186.length : Int)) = true := decide_eq_true c23
                                        clear c23
                                        by_cases c24 : (((x5_2 ++ (⟨#[44]⟩ : ByteArray)) ++ ((rd_T40 ((rd_T34 l0_0 x6_1).f1) x7_2).f0)) ++ (⟨#[58]⟩ : ByteArray)).size + (rdOf ByteArray.empty y186 ((rd_T40 ((rd_T34 l0_0 x6_1).f1) x7_2).f1)).size ≤ 9223372036854775807
                                        · rw [if_pos c24] at H
                                          have c24b0 := eq_true c24
                                          have c24b1 : decide ((((x5_2 ++ (⟨#[44]⟩ : ByteArray)) ++ ((rd_T40 ((rd_T34 l0_0 x6_1).f1) x7_2).f0)) ++ (⟨#[58]⟩ : ByteArray)).size + (rdOf ByteArray.empty y186 ((rd_T40 ((rd_T34 l0_0 x6_1).f1) x7_2).f1)).size ≤ 9223372036854775807) = true := decide_eq_true c24
                                          try have c24b2 : (9223372036854775807 < (((x5_2 ++ (⟨#[44]⟩ : ByteArray)) ++ ((rd_T40 ((rd_T34 l0_0 x6_1).f1) x7_2).f0)) ++ (⟨#[58]⟩ : ByteArray)).size + (rdOf ByteArray.empty y186 ((rd_T40 ((rd_T34 l0_0 x6_1).f1) x7_2).f1)).size) = False := eq_false (Nat.not_lt.2 c24)
                                          try have c24b2' := c24b2
                                          try simp only [ByteArray.size_append, show (⟨#[44]⟩ : ByteArray).size = 1 from rfl, show (⟨#[58]⟩ : ByteArray).size = 1 from rfl, show (⟨#[123]⟩ : ByteArray).size = 1 from rfl] at c24b2'
                                          by_cases c25 : ((((x5_2 ++ (⟨#[44]⟩ : ByteArray)) ++ ((rd_T40 ((rd_T34 l0_0 x6_1).f1) x7_2).f0)) ++ (⟨#[58]⟩ : ByteArray)) ++ (rdOf ByteArray.empty y186 ((rd_T40 ((rd_T34 l0_0 x6_1).f1) x7_2).f1))).size + ((rd_T40 ((rd_T34 l0_0 x6_1).f1) x7_2).f2).size ≤ 9223372036854775807
                                          · rw [if_pos c25] at H
                                            have c25b0 := eq_true c25
                                            have c25b1 : decide (((((x5_2 ++ (⟨#[44]⟩ : ByteArray)) ++ ((rd_T40 ((rd_T34 l0_0 x6_1).f1) x7_2).f0)) ++ (⟨#[58]⟩ : ByteArray)) ++ (rdOf ByteArray.empty y186 ((rd_T40 ((rd_T34 l0_0 x6_1).f1) x7_2).f1))).size + ((rd_T40 ((rd_T34 l0_0 x6_1).f1) x7_2).f2).size ≤ 9223372036854775807) = true := decide_eq_true c25
                                            try have c25b2 : (9223372036854775807 < ((((x5_2 ++ (⟨#[44]⟩ : ByteArray)) ++ ((rd_T40 ((rd_T34 l0_0 x6_1).f1) x7_2).f0)) ++ (⟨#[58]⟩ : ByteArray)) ++ (rdOf ByteArray.empty y186 ((rd_T40 ((rd_T34 l0_0 x6_1).f1) x7_2).f1))).size + ((rd_T40 ((rd_T34 l0_0 x6_1).f1) x7_2).f2).size) = False := eq_false (Nat.not_lt.2 c25)
                                            try have c25b2' := c25b2
                                            try simp only [ByteArray.size_append, show (⟨#[44]⟩ : ByteArray).size = 1 from rfl, show (⟨#[58]⟩ : ByteArray).size = 1 from rfl, show (⟨#[123]⟩ : ByteArray).size = 1 from rfl] at c25b2'
                                            have H' := Aside0.mk H
                                            clear H
                                            have hcz26_0 : wr.cell? ⟨gb184, 0, none⟩ = some (.slice (some ad189) l0_0.length c0_0) := (blk_cell BK184.out 0).trans rfl
                                            have hfz26_0 := blk_frozen BK184.out 0
                                            have p190 : 0 ≤ (x6_1 : Int) := of_decide_eq_true (by first | (with_reducible assumption) | assumption)
                                            have q190 : x6_1 < (l0_0.length : Int) := of_decide_eq_true (by first | (with_reducible assumption) | assumption)
                                            obtain ⟨ad190, A190_1, c190_1, e190, hx190_0, hx190_1, hl190_1, hi190_1⟩ := at_T34 HR0_0.out x6_1 p190 q190
                                            obtain rfl : ad189 = ad190 := (by injection e190)
                                            replace hx190_0 := (HB.out.cell (World.block_lt_of_cell? w _ hx190_0)).trans hx190_0
                                            replace hx190_1 := (HB.out.cell (World.block_lt_of_cell? w _ hx190_1)).trans hx190_1
                                            have HR190_1 := Aside0.mk hi190_1
                                            have HC190_1 := Aside0.mk hl190_1
                                            clear hi190_1 hl190_1
                                            replace p190 := eq_true p190
                                            replace q190 := eq_true q190
                                            have p191 : 0 ≤ (x6_1 : Int) := of_decide_eq_true (by first | (with_reducible assumption) | assumption)
                                            have q191 : x6_1 < (l0_0.length : Int) := of_decide_eq_true (by first | (with_reducible assumption) | assumption)
                                            obtain ⟨ad191, A191_1, c191_1, e191, hx191_0, hx191_1, hl191_1, hi191_1⟩ := at_T34 HR0_0.out x6_1 p191 q191
                                            obtain rfl : ad189 = ad191 := (by injection e191)
                                            replace hx191_0 := (HB.out.cell (World.block_lt_of_cell? w _ hx191_0)).trans hx191_0
                                            replace hx191_1 := (HB.out.cell (World.block_lt_of_cell? w _ hx191_1)).trans hx191_1
                                            have HR191_1 := Aside0.mk hi191_1
                                            have HC191_1 := Aside0.mk hl191_1
                                            clear hi191_1 hl191_1
                                            replace p191 := eq_true p191
                                            replace q191 := eq_true q191
                                            have ea_ := Option.some.inj (hx190_1.symm.trans hx191_1)
                                            injection ea_ with ea_ en_ ec_
                                            subst ea_
                                            subst ec_
                                            clear en_
                                            have p192 : 0 ≤ (x7_2 : Int) := of_decide_eq_true (by first | (with_reducible assumption) | assumption)
                                            have q192 : x7_2 < (((rd_T34 l0_0 x6_1).f1).length : Int) := of_decide_eq_true (by first | (with_reducible assumption) | assumption)
                                            obtain ⟨ad192, e192, hx192_0, hx192_1, hx192_2⟩ := at_T40 HR191_1.out x7_2 p192 q192
                                            cases e192
                                            replace hx192_0 := (HB.out.cell (World.block_lt_of_cell? w _ hx192_0)).trans hx192_0
                                            replace hx192_1 := (HB.out.cell (World.block_lt_of_cell? w _ hx192_1)).trans hx192_1
                                            replace hx192_2 := (HB.out.cell (World.block_lt_of_cell? w _ hx192_2)).trans hx192_2
                                            replace p192 := eq_true p192
                                            replace q192 := eq_true q192
                                            obtain ⟨Ak_, ck_, ek_⟩ := Kd.R_slice HO_4.out
                                            subst ek_
                                            have pk_ : 0 ≤ (((rd_T40 ((rd_T34 l0_0 x6_1).f1) x7_2).f1) : Int) := of_decide_eq_true (by first | (with_reducible assumption) | assumption)
                                            have qk_ : ((rd_T40 ((rd_T34 l0_0 x6_1).f1) x7_2).f1) < (y186.length : Int) := of_decide_eq_true (by first | (with_reducible assumption) | assumption)
                                            obtain ⟨adk_, ek_, hxk_⟩ := Kd.at_string (Kd.R_reads' HO_4.out).2.2 (((rd_T40 ((rd_T34 l0_0 x6_1).f1) x7_2).f1)) pk_ qk_
                                            subst ek_
                                            have hxa_ : ∀ o : Obj, (wr.alloc o).cell? (adk_.add (((rd_T40 ((rd_T34 l0_0 x6_1).f1) x7_2).f1) : Int).toNat) = some (.string (rdOf ByteArray.empty y186 (((rd_T40 ((rd_T34 l0_0 x6_1).f1) x7_2).f1)))) := fun o => (World.cell?_alloc_lt _ _ _ (World.block_lt_of_cell? _ _ hxk_)).trans hxk_
                                            replace pk_ := eq_true pk_
                                            replace qk_ := eq_true qk_
                                            go_wp2_with (first | ((with_reducible refine gate_dst (N := 8) rfl ?_); refine box_event ?hg (N := 8) ?hd (cs := #[.string (⟨#[]⟩ : ByteArray), .int .i64 0, .string (⟨#[]⟩ : ByteArray)]) (t := 40) ?hr ?_; (case hd => rfl); (case hg => rfl); (case hr => first | (go_simp; done) | (go_simp; rfl)); intro gb193 hg w27 hbox hb; have n0_ := Aside0.mk (Kd.R_below (by (with_reducible repeat (first | apply Kd.R_alloc | apply Kd.R_drewN | apply Kd.R_drew)); exact HO_4.out) hb); have n1_ := Aside0.mk (blk_below (g := gb184) (o := .cells #[.slice (some ad189) l0_0.length c0_0] 24 (0, 0)) (by (with_reducible repeat (first | refine blk_drewN ?_ _ | refine blk_drew ?_ | refine blk_alloc ?_ _)); exact BK184.out) hb); have n2_ := Aside0.mk (below_step (by repeat (first | (with_reducible first | exact HB.out | apply below_alloc | apply pw_below_drewN | apply below_drew1 | refine below_set ?_ GE184.out) | exact HB.out)) hb); have n3_ := Aside0.mk (hbox); have n4_ := Aside0.mk ((by rw [hg]; exact (below_size (by repeat (first | (with_reducible first | exact HB.out | apply below_alloc | apply pw_below_drewN | apply below_drew1 | refine below_set ?_ GE184.out) | exact HB.out))) : w.heap.size ≤ gb193)); have n5_ := Aside0.mk ((by rw [hg]; exact (below_size (by repeat (first | (with_reducible first | exact HB.out | apply below_alloc | apply pw_below_drewN | apply below_drew1 | refine below_set ?_ GE184.out) | exact HB.out))) : w.heap.size ≤ gb193)); have n6_ := Aside0.mk ((by rw [hg]; exact Nat.ne_of_lt (blk_lt (g := gb184) (o := .cells #[.slice (some ad189) l0_0.length c0_0] 24 (0, 0)) (by (with_reducible repeat (first | refine blk_drewN ?_ _ | refine blk_drew ?_ | refine blk_alloc ?_ _)); exact BK184.out)) : gb184 ≠ gb193)); have n7_ := Aside0.mk ((by rw [hg]; exact Nat.ne_of_gt (blk_lt (g := gb184) (o := .cells #[.slice (some ad189) l0_0.length c0_0] 24 (0, 0)) (by (with_reducible repeat (first | refine blk_drewN ?_ _ | refine blk_drew ?_ | refine blk_alloc ?_ _)); exact BK184.out)) : gb193 ≠ gb184)); clear HO_4; clear BK184; clear HB; have HO_4 := n0_; have BK184 := n1_; have HB := n2_; have BK193 := n3_; have GW193 := n4_; have GE193 := n5_; have NB184_193 := n6_; have NB193_184 := n7_; clear n0_ n1_ n2_ n3_ n4_ n5_ n6_ n7_; clear hb hbox hg; have hnb28 := NB193_184.out; have hnc28 := NB184_193.out; have hcz29_0 : w27.cell? ⟨gb193, 0, none⟩ = some (.string (⟨#[]⟩ : ByteArray)) := (blk_cell BK193.out 0).trans rfl; have hcz29_1 : w27.cell? ⟨gb193, 1, none⟩ = some (.int .i64 0) := (blk_cell BK193.out 1).trans rfl; have hcz29_2 : w27.cell? ⟨gb193, 2, none⟩ = some (.string (⟨#[]⟩ : ByteArray)) := (blk_cell BK193.out 2).trans rfl; have hfz29_0 := blk_frozen BK193.out 0; have hfz29_1 := blk_frozen BK193.out 1; have hfz29_2 := blk_frozen BK193.out 2; obtain ⟨Ao30, co30, eo30⟩ := Kd.R_slice HO_4.out; subst eo30; have p194 : 0 ≤ (((rd_T40 ((rd_T34 l0_0 x6_1).f1) x7_2).f1) : Int) := of_decide_eq_true (by first | (with_reducible assumption) | assumption); have q194 : ((rd_T40 ((rd_T34 l0_0 x6_1).f1) x7_2).f1) < (y186.length : Int) := of_decide_eq_true (by first | (with_reducible assumption) | assumption); obtain ⟨ad194, e194, hx194_0⟩ := Kd.at_string (Kd.R_reads' HO_4.out).2.2 ((rd_T40 ((rd_T34 l0_0 x6_1).f1) x7_2).f1) p194 q194; cases e194; have hn194_0 : ad194.block ≠ gb193 := Kd.own_blk (Kd.R_ne HO_4.out BK193.out (by decide)); have hn194_1 : ad194.block ≠ gb193 := Kd.own_blk (Kd.R_ne HO_4.out BK193.out (by decide)); have hn194_2 : ad194.block ≠ gb193 := Kd.own_blk (Kd.R_ne HO_4.out BK193.out (by decide)); replace hx194_0 := (cell_far (p := ⟨gb193, 0, none⟩) (by first | (rw [add_block]; exact hn194_0) | (show (Addr.add _ _).block ≠ _; rw [add_block]; exact hn194_0) | exact hn194_0) (.string ((rd_T40 ((rd_T34 l0_0 x6_1).f1) x7_2).f0))).trans hx194_0; replace hx194_0 := (cell_far (p := ⟨gb193, 1, none⟩) (by first | (rw [add_block]; exact hn194_1) | (show (Addr.add _ _).block ≠ _; rw [add_block]; exact hn194_1) | exact hn194_1) (.int .i64 ((rd_T40 ((rd_T34 l0_0 x6_1).f1) x7_2).f1))).trans hx194_0; replace hx194_0 := (cell_far (p := ⟨gb193, 2, none⟩) (by first | (rw [add_block]; exact hn194_2) | (show (Addr.add _ _).block ≠ _; rw [add_block]; exact hn194_2) | exact hn194_2) (.string ((rd_T40 ((rd_T34 l0_0 x6_1).f1) x7_2).f2))).trans hx194_0; (try have hy194_0 := fun (n_ : Nat) => (show (((((w27.drewN n_).setCell ⟨gb193, 0, none⟩ (.string ((rd_T40 ((rd_T34 l0_0 x6_1).f1) x7_2).f0))).setCell ⟨gb193, 1, none⟩ (.int .i64 ((rd_T40 ((rd_T34 l0_0 x6_1).f1) x7_2).f1))).setCell ⟨gb193, 2, none⟩ (.string ((rd_T40 ((rd_T34 l0_0 x6_1).f1) x7_2).f2)))).cell? _ = some _ from hx194_0)); clear hn194_0; clear hn194_1; clear hn194_2; replace p194 := eq_true p194; replace q194 := eq_true q194))
                                            repeat (go_quiet (first | ((with_reducible refine gate_dst (N := 8) rfl ?_); refine box_event ?hg (N := 8) ?hd (cs := #[.string (⟨#[]⟩ : ByteArray), .int .i64 0, .string (⟨#[]⟩ : ByteArray)]) (t := 40) ?hr ?_; (case hd => rfl); (case hg => rfl); (case hr => first | (go_simp; done) | (go_simp; rfl)); intro gb193 hg w27 hbox hb; have n0_ := Aside0.mk (Kd.R_below (by (with_reducible repeat (first | apply Kd.R_alloc | apply Kd.R_drewN | apply Kd.R_drew)); exact HO_4.out) hb); have n1_ := Aside0.mk (blk_below (g := gb184) (o := .cells #[.slice (some ad189) l0_0.length c0_0] 24 (0, 0)) (by (with_reducible repeat (first | refine blk_drewN ?_ _ | refine blk_drew ?_ | refine blk_alloc ?_ _)); exact BK184.out) hb); have n2_ := Aside0.mk (below_step (by repeat (first | (with_reducible first | exact HB.out | apply below_alloc | apply pw_below_drewN | apply below_drew1 | refine below_set ?_ GE184.out) | exact HB.out)) hb); have n3_ := Aside0.mk (hbox); have n4_ := Aside0.mk ((by rw [hg]; exact (below_size (by repeat (first | (with_reducible first | exact HB.out | apply below_alloc | apply pw_below_drewN | apply below_drew1 | refine below_set ?_ GE184.out) | exact HB.out))) : w.heap.size ≤ gb193)); have n5_ := Aside0.mk ((by rw [hg]; exact (below_size (by repeat (first | (with_reducible first | exact HB.out | apply below_alloc | apply pw_below_drewN | apply below_drew1 | refine below_set ?_ GE184.out) | exact HB.out))) : w.heap.size ≤ gb193)); have n6_ := Aside0.mk ((by rw [hg]; exact Nat.ne_of_lt (blk_lt (g := gb184) (o := .cells #[.slice (some ad189) l0_0.length c0_0] 24 (0, 0)) (by (with_reducible repeat (first | refine blk_drewN ?_ _ | refine blk_drew ?_ | refine blk_alloc ?_ _)); exact BK184.out)) : gb184 ≠ gb193)); have n7_ := Aside0.mk ((by rw [hg]; exact Nat.ne_of_gt (blk_lt (g := gb184) (o := .cells #[.slice (some ad189) l0_0.length c0_0] 24 (0, 0)) (by (with_reducible repeat (first | refine blk_drewN ?_ _ | refine blk_drew ?_ | refine blk_alloc ?_ _)); exact BK184.out)) : gb193 ≠ gb184)); clear HO_4; clear BK184; clear HB; have HO_4 := n0_; have BK184 := n1_; have HB := n2_; have BK193 := n3_; have GW193 := n4_; have GE193 := n5_; have NB184_193 := n6_; have NB193_184 := n7_; clear n0_ n1_ n2_ n3_ n4_ n5_ n6_ n7_; clear hb hbox hg; have hnb28 := NB193_184.out; have hnc28 := NB184_193.out; have hcz29_0 : w27.cell? ⟨gb193, 0, none⟩ = some (.string (⟨#[]⟩ : ByteArray)) := (blk_cell BK193.out 0).trans rfl; have hcz29_1 : w27.cell? ⟨gb193, 1, none⟩ = some (.int .i64 0) := (blk_cell BK193.out 1).trans rfl; have hcz29_2 : w27.cell? ⟨gb193, 2, none⟩ = some (.string (⟨#[]⟩ : ByteArray)) := (blk_cell BK193.out 2).trans rfl; have hfz29_0 := blk_frozen BK193.out 0; have hfz29_1 := blk_frozen BK193.out 1; have hfz29_2 := blk_frozen BK193.out 2; obtain ⟨Ao30, co30, eo30⟩ := Kd.R_slice HO_4.out; subst eo30; have p194 : 0 ≤ (((rd_T40 ((rd_T34 l0_0 x6_1).f1) x7_2).f1) : Int) := of_decide_eq_true (by first | (with_reducible assumption) | assumption); have q194 : ((rd_T40 ((rd_T34 l0_0 x6_1).f1) x7_2).f1) < (y186.length : Int) := of_decide_eq_true (by first | (with_reducible assumption) | assumption); obtain ⟨ad194, e194, hx194_0⟩ := Kd.at_string (Kd.R_reads' HO_4.out).2.2 ((rd_T40 ((rd_T34 l0_0 x6_1).f1) x7_2).f1) p194 q194; cases e194; have hn194_0 : ad194.block ≠ gb193 := Kd.own_blk (Kd.R_ne HO_4.out BK193.out (by decide)); have hn194_1 : ad194.block ≠ gb193 := Kd.own_blk (Kd.R_ne HO_4.out BK193.out (by decide)); have hn194_2 : ad194.block ≠ gb193 := Kd.own_blk (Kd.R_ne HO_4.out BK193.out (by decide)); replace hx194_0 := (cell_far (p := ⟨gb193, 0, none⟩) (by first | (rw [add_block]; exact hn194_0) | (show (Addr.add _ _).block ≠ _; rw [add_block]; exact hn194_0) | exact hn194_0) (.string ((rd_T40 ((rd_T34 l0_0 x6_1).f1) x7_2).f0))).trans hx194_0; replace hx194_0 := (cell_far (p := ⟨gb193, 1, none⟩) (by first | (rw [add_block]; exact hn194_1) | (show (Addr.add _ _).block ≠ _; rw [add_block]; exact hn194_1) | exact hn194_1) (.int .i64 ((rd_T40 ((rd_T34 l0_0 x6_1).f1) x7_2).f1))).trans hx194_0; replace hx194_0 := (cell_far (p := ⟨gb193, 2, none⟩) (by first | (rw [add_block]; exact hn194_2) | (show (Addr.add _ _).block ≠ _; rw [add_block]; exact hn194_2) | exact hn194_2) (.string ((rd_T40 ((rd_T34 l0_0 x6_1).f1) x7_2).f2))).trans hx194_0; (try have hy194_0 := fun (n_ : Nat) => (show (((((w27.drewN n_).setCell ⟨gb193, 0, none⟩ (.string ((rd_T40 ((rd_T34 l0_0 x6_1).f1) x7_2).f0))).setCell ⟨gb193, 1, none⟩ (.int .i64 ((rd_T40 ((rd_T34 l0_0 x6_1).f1) x7_2).f1))).setCell ⟨gb193, 2, none⟩ (.string ((rd_T40 ((rd_T34 l0_0 x6_1).f1) x7_2).f2)))).cell? _ = some _ from hx194_0)); clear hn194_0; clear hn194_1; clear hn194_2; replace p194 := eq_true p194; replace q194 := eq_true q194)); try go_wp2_with (first | ((with_reducible refine gate_dst (N := 8) rfl ?_); refine box_event ?hg (N := 8) ?hd (cs := #[.string (⟨#[]⟩ : ByteArray), .int .i64 0, .string (⟨#[]⟩ : ByteArray)]) (t := 40) ?hr ?_; (case hd => rfl); (case hg => rfl); (case hr => first | (go_simp; done) | (go_simp; rfl)); intro gb193 hg w27 hbox hb; have n0_ := Aside0.mk (Kd.R_below (by (with_reducible repeat (first | apply Kd.R_alloc | apply Kd.R_drewN | apply Kd.R_drew)); exact HO_4.out) hb); have n1_ := Aside0.mk (blk_below (g := gb184) (o := .cells #[.slice (some ad189) l0_0.length c0_0] 24 (0, 0)) (by (with_reducible repeat (first | refine blk_drewN ?_ _ | refine blk_drew ?_ | refine blk_alloc ?_ _)); exact BK184.out) hb); have n2_ := Aside0.mk (below_step (by repeat (first | (with_reducible first | exact HB.out | apply below_alloc | apply pw_below_drewN | apply below_drew1 | refine below_set ?_ GE184.out) | exact HB.out)) hb); have n3_ := Aside0.mk (hbox); have n4_ := Aside0.mk ((by rw [hg]; exact (below_size (by repeat (first | (with_reducible first | exact HB.out | apply below_alloc | apply pw_below_drewN | apply below_drew1 | refine below_set ?_ GE184.out) | exact HB.out))) : w.heap.size ≤ gb193)); have n5_ := Aside0.mk ((by rw [hg]; exact (below_size (by repeat (first | (with_reducible first | exact HB.out | apply below_alloc | apply pw_below_drewN | apply below_drew1 | refine below_set ?_ GE184.out) | exact HB.out))) : w.heap.size ≤ gb193)); have n6_ := Aside0.mk ((by rw [hg]; exact Nat.ne_of_lt (blk_lt (g := gb184) (o := .cells #[.slice (some ad189) l0_0.length c0_0] 24 (0, 0)) (by (with_reducible repeat (first | refine blk_drewN ?_ _ | refine blk_drew ?_ | refine blk_alloc ?_ _)); exact BK184.out)) : gb184 ≠ gb193)); have n7_ := Aside0.mk ((by rw [hg]; exact Nat.ne_of_gt (blk_lt (g := gb184) (o := .cells #[.slice (some ad189) l0_0.length c0_0] 24 (0, 0)) (by (with_reducible repeat (first | refine blk_drewN ?_ _ | refine blk_drew ?_ | refine blk_alloc ?_ _)); exact BK184.out)) : gb193 ≠ gb184)); clear HO_4; clear BK184; clear HB; have HO_4 := n0_; have BK184 := n1_; have HB := n2_; have BK193 := n3_; have GW193 := n4_; have GE193 := n5_; have NB184_193 := n6_; have NB193_184 := n7_; clear n0_ n1_ n2_ n3_ n4_ n5_ n6_ n7_; clear hb hbox hg; have hnb28 := NB193_184.out; have hnc28 := NB184_193.out; have hcz29_0 : w27.cell? ⟨gb193, 0, none⟩ = some (.string (⟨#[]⟩ : ByteArray)) := (blk_cell BK193.out 0).trans rfl; have hcz29_1 : w27.cell? ⟨gb193, 1, none⟩ = some (.int .i64 0) := (blk_cell BK193.out 1).trans rfl; have hcz29_2 : w27.cell? ⟨gb193, 2, none⟩ = some (.string (⟨#[]⟩ : ByteArray)) := (blk_cell BK193.out 2).trans rfl; have hfz29_0 := blk_frozen BK193.out 0; have hfz29_1 := blk_frozen BK193.out 1; have hfz29_2 := blk_frozen BK193.out 2; obtain ⟨Ao30, co30, eo30⟩ := Kd.R_slice HO_4.out; subst eo30; have p194 : 0 ≤ (((rd_T40 ((rd_T34 l0_0 x6_1).f1) x7_2).f1) : Int) := of_decide_eq_true (by first | (with_reducible assumption) | assumption); have q194 : ((rd_T40 ((rd_T34 l0_0 x6_1).f1) x7_2).f1) < (y186.length : Int) := of_decide_eq_true (by first | (with_reducible assumption) | assumption); obtain ⟨ad194, e194, hx194_0⟩ := Kd.at_string (Kd.R_reads' HO_4.out).2.2 ((rd_T40 ((rd_T34 l0_0 x6_1).f1) x7_2).f1) p194 q194; cases e194; have hn194_0 : ad194.block ≠ gb193 := Kd.own_blk (Kd.R_ne HO_4.out BK193.out (by decide)); have hn194_1 : ad194.block ≠ gb193 := Kd.own_blk (Kd.R_ne HO_4.out BK193.out (by decide)); have hn194_2 : ad194.block ≠ gb193 := Kd.own_blk (Kd.R_ne HO_4.out BK193.out (by decide)); replace hx194_0 := (cell_far (p := ⟨gb193, 0, none⟩) (by first | (rw [add_block]; exact hn194_0) | (show (Addr.add _ _).block ≠ _; rw [add_block]; exact hn194_0) | exact hn194_0) (.string ((rd_T40 ((rd_T34 l0_0 x6_1).f1) x7_2).f0))).trans hx194_0; replace hx194_0 := (cell_far (p := ⟨gb193, 1, none⟩) (by first | (rw [add_block]; exact hn194_1) | (show (Addr.add _ _).block ≠ _; rw [add_block]; exact hn194_1) | exact hn194_1) (.int .i64 ((rd_T40 ((rd_T34 l0_0 x6_1).f1) x7_2).f1))).trans hx194_0; replace hx194_0 := (cell_far (p := ⟨gb193, 2, none⟩) (by first | (rw [add_block]; exact hn194_2) | (show (Addr.add _ _).block ≠ _; rw [add_block]; exact hn194_2) | exact hn194_2) (.string ((rd_T40 ((rd_T34 l0_0 x6_1).f1) x7_2).f2))).trans hx194_0; (try have hy194_0 := fun (n_ : Nat) => (show (((((w27.drewN n_).setCell ⟨gb193, 0, none⟩ (.string ((rd_T40 ((rd_T34 l0_0 x6_1).f1) x7_2).f0))).setCell ⟨gb193, 1, none⟩ (.int .i64 ((rd_T40 ((rd_T34 l0_0 x6_1).f1) x7_2).f1))).setCell ⟨gb193, 2, none⟩ (.string ((rd_T40 ((rd_T34 l0_0 x6_1).f1) x7_2).f2)))).cell? _ = some _ from hx194_0)); clear hn194_0; clear hn194_1; clear hn194_2; replace p194 := eq_true p194; replace q194 := eq_true q194)))
                                            go_roundg k2
                                            case measure => have := HK1.out; have := HK2.out; omega
                                            case rel => exact ⟨(((((x5_2 ++ (⟨#[44]⟩ : ByteArray)) ++ ((rd_T40 ((rd_T34 l0_0 x6_1).f1) x7_2).f0)) ++ (⟨#[58]⟩ : ByteArray)) ++ (rdOf ByteArray.empty y186 ((rd_T40 ((rd_T34 l0_0 x6_1).f1) x7_2).f1))) ++ ((rd_T40 ((rd_T34 l0_0 x6_1).f1) x7_2).f2)), (wrap64 (x7_2 + 1)), (by first | rfl | (simp; done) | (simp [*]; done)), (by first | rfl | (simp; done) | (simp [*]; done)), H', ⟨by have := HK1.out; have := HK2.out; omega⟩, ⟨by (with_reducible repeat (first | apply Kd.R_alloc | apply Kd.R_drewN | apply Kd.R_drew)); exact HO_4.out⟩, ⟨by (with_reducible repeat (first | refine blk_drewN ?_ _ | refine blk_drew ?_ | refine blk_alloc ?_ _)); exact BK184.out⟩, ⟨by repeat (first | (with_reducible first | exact HB.out | apply below_alloc | apply pw_below_drewN | apply below_drew1 | refine below_set ?_ GE184.out) | exact HB.out)⟩⟩
                                          · rw [if_neg c25] at H
                                            exact absurd H (by simp)
                                        · rw [if_neg c24] at H
                                          exact absurd H (by simp)
                                      · rw [if_neg c23] at H
                                        exact absurd H (by simp)
                                    · rw [if_neg c22] at H
                                      exact absurd H (by simp)
                                  · rw [if_neg c21] at H
                                    exact absurd H (by simp)
                                · rw [if_neg c20] at H
                                  exact absurd H (by simp)
                              · rw [if_neg c19] at H
                                exact absurd H (by simp)
                            · rw [if_neg c18] at H
                              have c18b0 : decide (0 < x7_2) = false := decide_eq_false c18
                              clear c18
                              by_cases c31 : x5_2.size + ((rd_T40 ((rd_T34 l0_0 x6_1).f1) x7_2).f0).size ≤ 9223372036854775807
                              · rw [if_pos c31] at H
                                have c31b0 := eq_true c31
                                have c31b1 : decide (x5_2.size + ((rd_T40 ((rd_T34 l0_0 x6_1).f1) x7_2).f0).size ≤ 9223372036854775807) = true := decide_eq_true c31
                                try have c31b2 : (9223372036854775807 < x5_2.size + ((rd_T40 ((rd_T34 l0_0 x6_1).f1) x7_2).f0).size) = False := eq_false (Nat.not_lt.2 c31)
                                by_cases c32 : (x5_2 ++ ((rd_T40 ((rd_T34 l0_0 x6_1).f1) x7_2).f0)).size + 1 ≤ 9223372036854775807
                                · rw [if_pos c32] at H
                                  have c32b0 := eq_true c32
                                  have c32b1 : decide ((x5_2 ++ ((rd_T40 ((rd_T34 l0_0 x6_1).f1) x7_2).f0)).size + 1 ≤ 9223372036854775807) = true := decide_eq_true c32
                                  try have c32b2 : (9223372036854775807 < (x5_2 ++ ((rd_T40 ((rd_T34 l0_0 x6_1).f1) x7_2).f0)).size + 1) = False := eq_false (Nat.not_lt.2 c32)
                                  try have c32b2' := c32b2
                                  try simp only [ByteArray.size_append, show (⟨#[44]⟩ : ByteArray).size = 1 from rfl, show (⟨#[58]⟩ : ByteArray).size = 1 from rfl, show (⟨#[123]⟩ : ByteArray).size = 1 from rfl] at c32b2'
                                  by_cases c33 : 0 ≤ ((rd_T40 ((rd_T34 l0_0 x6_1).f1) x7_2).f1)
                                  · rw [if_pos c33] at H
                                    have c33b0 : decide (0 ≤ ((rd_T40 ((rd_T34 l0_0 x6_1).f1) x7_2).f1)) = true := decide_eq_true c33
                                    clear c33
                                    by_cases c34 : ((rd_T40 ((rd_T34 l0_0 x6_1).f1) x7_2).f1) < (y186.length : Int)
                                    · rw [if_pos c34] at H
                                      have c34b0 : decide (((rd_T40 ((rd_T34 l0_0 x6_1).f1) x7_2).f1) < (y186.length : Int)) = true := decide_eq_true c34
                                      clear c34
                                      by_cases c35 : ((x5_2 ++ ((rd_T40 ((rd_T34 l0_0 x6_1).f1) x7_2).f0)) ++ (⟨#[58]⟩ : ByteArray)).size + (rdOf ByteArray.empty y186 ((rd_T40 ((rd_T34 l0_0 x6_1).f1) x7_2).f1)).size ≤ 9223372036854775807
                                      · rw [if_pos c35] at H
                                        have c35b0 := eq_true c35
                                        have c35b1 : decide (((x5_2 ++ ((rd_T40 ((rd_T34 l0_0 x6_1).f1) x7_2).f0)) ++ (⟨#[58]⟩ : ByteArray)).size + (rdOf ByteArray.empty y186 ((rd_T40 ((rd_T34 l0_0 x6_1).f1) x7_2).f1)).size ≤ 9223372036854775807) = true := decide_eq_true c35
                                        try have c35b2 : (9223372036854775807 < ((x5_2 ++ ((rd_T40 ((rd_T34 l0_0 x6_1).f1) x7_2).f0)) ++ (⟨#[58]⟩ : ByteArray)).size + (rdOf ByteArray.empty y186 ((rd_T40 ((rd_T34 l0_0 x6_1).f1) x7_2).f1)).size) = False := eq_false (Nat.not_lt.2 c35)
                                        try have c35b2' := c35b2
                                        try simp only [ByteArray.size_append, show (⟨#[44]⟩ : ByteArray).size = 1 from rfl, show (⟨#[58]⟩ : ByteArray).size = 1 from rfl, show (⟨#[123]⟩ : ByteArray).size = 1 from rfl] at c35b2'
                                        by_cases c36 : (((x5_2 ++ ((rd_T40 ((rd_T34 l0_0 x6_1).f1) x7_2).f0)) ++ (⟨#[58]⟩ : ByteArray)) ++ (rdOf ByteArray.empty y186 ((rd_T40 ((rd_T34 l0_0 x6_1).f1) x7_2).f1))).size + ((rd_T40 ((rd_T34 l0_0 x6_1).f1) x7_2).f2).size ≤ 9223372036854775807
                                        · rw [if_pos c36] at H
                                          have c36b0 := eq_true c36
                                          have c36b1 : decide ((((x5_2 ++ ((rd_T40 ((rd_T34 l0_0 x6_1).f1) x7_2).f0)) ++ (⟨#[58]⟩ : ByteArray)) ++ (rdOf ByteArray.empty y186 ((rd_T40 ((rd_T34 l0_0 x6_1).f1) x7_2).f1))).size + ((rd_T40 ((rd_T34 l0_0 x6_1).f1) x7_2).f2).size ≤ 9223372036854775807) = true := decide_eq_true c36
                                          try have c36b2 : (9223372036854775807 < (((x5_2 ++ ((rd_T40 ((rd_T34 l0_0 x6_1).f1) x7_2).f0)) ++ (⟨#[58]⟩ : ByteArray)) ++ (rdOf ByteArray.empty y186 ((rd_T40 ((rd_T34 l0_0 x6_1).f1) x7_2).f1))).size + ((rd_T40 ((rd_T34 l0_0 x6_1).f1) x7_2).f2).size) = False := eq_false (Nat.not_lt.2 c36)
                                          try have c36b2' := c36b2
                                          try simp only [ByteArray.size_append, show (⟨#[44]⟩ : ByteArray).size = 1 from rfl, show (⟨#[58]⟩ : ByteArray).size = 1 from rfl, show (⟨#[123]⟩ : ByteArray).size = 1 from rfl] at c36b2'
                                          have H' := Aside0.mk H
                                          clear H
                                          have hcz37_0 : wr.cell? ⟨gb184, 0, none⟩ = some (.slice (some ad189) l0_0.length c0_0) := (blk_cell BK184.out 0).trans rfl
                                          have hfz37_0 := blk_frozen BK184.out 0
                                          have p190 : 0 ≤ (x6_1 : Int) := of_decide_eq_true (by first | (with_reducible assumption) | assumption)
                                          have q190 : x6_1 < (l0_0.length : Int) := of_decide_eq_true (by first | (with_reducible assumption) | assumption)
                                          obtain ⟨ad190, A190_1, c190_1, e190, hx190_0, hx190_1, hl190_1, hi190_1⟩ := at_T34 HR0_0.out x6_1 p190 q190
                                          obtain rfl : ad189 = ad190 := (by injection e190)
                                          replace hx190_0 := (HB.out.cell (World.block_lt_of_cell? w _ hx190_0)).trans hx190_0
                                          replace hx190_1 := (HB.out.cell (World.block_lt_of_cell? w _ hx190_1)).trans hx190_1
                                          have HR190_1 := Aside0.mk hi190_1
                                          have HC190_1 := Aside0.mk hl190_1
                                          clear hi190_1 hl190_1
                                          replace p190 := eq_true p190
                                          replace q190 := eq_true q190
                                          have p191 : 0 ≤ (x6_1 : Int) := of_decide_eq_true (by first | (with_reducible assumption) | assumption)
                                          have q191 : x6_1 < (l0_0.length : Int) := of_decide_eq_true (by first | (with_reducible assumption) | assumption)
                                          obtain ⟨ad191, A191_1, c191_1, e191, hx191_0, hx191_1, hl191_1, hi191_1⟩ := at_T34 HR0_0.out x6_1 p191 q191
                                          obtain rfl : ad189 = ad191 := (by injection e191)
                                          replace hx191_0 := (HB.out.cell (World.block_lt_of_cell? w _ hx191_0)).trans hx191_0
                                          replace hx191_1 := (HB.out.cell (World.block_lt_of_cell? w _ hx191_1)).trans hx191_1
                                          have HR191_1 := Aside0.mk hi191_1
                                          have HC191_1 := Aside0.mk hl191_1
                                          clear hi191_1 hl191_1
                                          replace p191 := eq_true p191
                                          replace q191 := eq_true q191
                                          have ea_ := Option.some.inj (hx190_1.symm.trans hx191_1)
                                          injection ea_ with ea_ en_ ec_
                                          subst ea_
                                          subst ec_
                                          clear en_
                                          have p192 : 0 ≤ (x7_2 : Int) := of_decide_eq_true (by first | (with_reducible assumption) | assumption)
                                          have q192 : x7_2 < (((rd_T34 l0_0 x6_1).f1).length : Int) := of_decide_eq_true (by first | (with_reducible assumption) | assumption)
                                          obtain ⟨ad192, e192, hx192_0, hx192_1, hx192_2⟩ := at_T40 HR191_1.out x7_2 p192 q192
                                          cases e192
                                          replace hx192_0 := (HB.out.cell (World.block_lt_of_cell? w _ hx192_0)).trans hx192_0
                                          replace hx192_1 := (HB.out.cell (World.block_lt_of_cell? w _ hx192_1)).trans hx192_1
                                          replace hx192_2 := (HB.out.cell (World.block_lt_of_cell? w _ hx192_2)).trans hx192_2
                                          replace p192 := eq_true p192
                                          replace q192 := eq_true q192
                                          obtain ⟨Ak_, ck_, ek_⟩ := Kd.R_slice HO_4.out
                                          subst ek_
                                          have pk_ : 0 ≤ (((rd_T40 ((rd_T34 l0_0 x6_1).f1) x7_2).f1) : Int) := of_decide_eq_true (by first | (with_reducible assumption) | assumption)
                                          have qk_ : ((rd_T40 ((rd_T34 l0_0 x6_1).f1) x7_2).f1) < (y186.length : Int) := of_decide_eq_true (by first | (with_reducible assumption) | assumption)
                                          obtain ⟨adk_, ek_, hxk_⟩ := Kd.at_string (Kd.R_reads' HO_4.out).2.2 (((rd_T40 ((rd_T34 l0_0 x6_1).f1) x7_2).f1)) pk_ qk_
                                          subst ek_
                                          have hxa_ : ∀ o : Obj, (wr.alloc o).cell? (adk_.add (((rd_T40 ((rd_T34 l0_0 x6_1).f1) x7_2).f1) : Int).toNat) = some (.string (rdOf ByteArray.empty y186 (((rd_T40 ((rd_T34 l0_0 x6_1).f1) x7_2).f1)))) := fun o => (World.cell?_alloc_lt _ _ _ (World.block_lt_of_cell? _ _ hxk_)).trans hxk_
                                          replace pk_ := eq_true pk_
                                          replace qk_ := eq_true qk_
                                          go_wp2_with (first | ((with_reducible refine gate_dst (N := 8) rfl ?_); refine box_event ?hg (N := 8) ?hd (cs := #[.string (⟨#[]⟩ : ByteArray), .int .i64 0, .string (⟨#[]⟩ : ByteArray)]) (t := 40) ?hr ?_; (case hd => rfl); (case hg => rfl); (case hr => first | (go_simp; done) | (go_simp; rfl)); intro gb193 hg w38 hbox hb; have n0_ := Aside0.mk (Kd.R_below (by (with_reducible repeat (first | apply Kd.R_alloc | apply Kd.R_drewN | apply Kd.R_drew)); exact HO_4.out) hb); have n1_ := Aside0.mk (blk_below (g := gb184) (o := .cells #[.slice (some ad189) l0_0.length c0_0] 24 (0, 0)) (by (with_reducible repeat (first | refine blk_drewN ?_ _ | refine blk_drew ?_ | refine blk_alloc ?_ _)); exact BK184.out) hb); have n2_ := Aside0.mk (below_step (by repeat (first | (with_reducible first | exact HB.out | apply below_alloc | apply pw_below_drewN | apply below_drew1 | refine below_set ?_ GE184.out) | exact HB.out)) hb); have n3_ := Aside0.mk (hbox); have n4_ := Aside0.mk ((by rw [hg]; exact (below_size (by repeat (first | (with_reducible first | exact HB.out | apply below_alloc | apply pw_below_drewN | apply below_drew1 | refine below_set ?_ GE184.out) | exact HB.out))) : w.heap.size ≤ gb193)); have n5_ := Aside0.mk ((by rw [hg]; exact (below_size (by repeat (first | (with_reducible first | exact HB.out | apply below_alloc | apply pw_below_drewN | apply below_drew1 | refine below_set ?_ GE184.out) | exact HB.out))) : w.heap.size ≤ gb193)); have n6_ := Aside0.mk ((by rw [hg]; exact Nat.ne_of_lt (blk_lt (g := gb184) (o := .cells #[.slice (some ad189) l0_0.length c0_0] 24 (0, 0)) (by (with_reducible repeat (first | refine blk_drewN ?_ _ | refine blk_drew ?_ | refine blk_alloc ?_ _)); exact BK184.out)) : gb184 ≠ gb193)); have n7_ := Aside0.mk ((by rw [hg]; exact Nat.ne_of_gt (blk_lt (g := gb184) (o := .cells #[.slice (some ad189) l0_0.length c0_0] 24 (0, 0)) (by (with_reducible repeat (first | refine blk_drewN ?_ _ | refine blk_drew ?_ | refine blk_alloc ?_ _)); exact BK184.out)) : gb193 ≠ gb184)); clear HO_4; clear BK184; clear HB; have HO_4 := n0_; have BK184 := n1_; have HB := n2_; have BK193 := n3_; have GW193 := n4_; have GE193 := n5_; have NB184_193 := n6_; have NB193_184 := n7_; clear n0_ n1_ n2_ n3_ n4_ n5_ n6_ n7_; clear hb hbox hg; have hnb39 := NB193_184.out; have hnc39 := NB184_193.out; have hcz40_0 : w38.cell? ⟨gb193, 0, none⟩ = some (.string (⟨#[]⟩ : ByteArray)) := (blk_cell BK193.out 0).trans rfl; have hcz40_1 : w38.cell? ⟨gb193, 1, none⟩ = some (.int .i64 0) := (blk_cell BK193.out 1).trans rfl; have hcz40_2 : w38.cell? ⟨gb193, 2, none⟩ = some (.string (⟨#[]⟩ : ByteArray)) := (blk_cell BK193.out 2).trans rfl; have hfz40_0 := blk_frozen BK193.out 0; have hfz40_1 := blk_frozen BK193.out 1; have hfz40_2 := blk_frozen BK193.out 2; obtain ⟨Ao41, co41, eo41⟩ := Kd.R_slice HO_4.out; subst eo41; have p195 : 0 ≤ (((rd_T40 ((rd_T34 l0_0 x6_1).f1) x7_2).f1) : Int) := of_decide_eq_true (by first | (with_reducible assumption) | assumption); have q195 : ((rd_T40 ((rd_T34 l0_0 x6_1).f1) x7_2).f1) < (y186.length : Int) := of_decide_eq_true (by first | (with_reducible assumption) | assumption); obtain ⟨ad195, e195, hx195_0⟩ := Kd.at_string (Kd.R_reads' HO_4.out).2.2 ((rd_T40 ((rd_T34 l0_0 x6_1).f1) x7_2).f1) p195 q195; cases e195; have hn195_0 : ad195.block ≠ gb193 := Kd.own_blk (Kd.R_ne HO_4.out BK193.out (by decide)); have hn195_1 : ad195.block ≠ gb193 := Kd.own_blk (Kd.R_ne HO_4.out BK193.out (by decide)); have hn195_2 : ad195.block ≠ gb193 := Kd.own_blk (Kd.R_ne HO_4.out BK193.out (by decide)); replace hx195_0 := (cell_far (p := ⟨gb193, 0, none⟩) (by first | (rw [add_block]; exact hn195_0) | (show (Addr.add _ _).block ≠ _; rw [add_block]; exact hn195_0) | exact hn195_0) (.string ((rd_T40 ((rd_T34 l0_0 x6_1).f1) x7_2).f0))).trans hx195_0; replace hx195_0 := (cell_far (p := ⟨gb193, 1, none⟩) (by first | (rw [add_block]; exact hn195_1) | (show (Addr.add _ _).block ≠ _; rw [add_block]; exact hn195_1) | exact hn195_1) (.int .i64 ((rd_T40 ((rd_T34 l0_0 x6_1).f1) x7_2).f1))).trans hx195_0; replace hx195_0 := (cell_far (p := ⟨gb193, 2, none⟩) (by first | (rw [add_block]; exact hn195_2) | (show (Addr.add _ _).block ≠ _; rw [add_block]; exact hn195_2) | exact hn195_2) (.string ((rd_T40 ((rd_T34 l0_0 x6_1).f1) x7_2).f2))).trans hx195_0; (try have hy195_0 := fun (n_ : Nat) => (show (((((w38.drewN n_).setCell ⟨gb193, 0, none⟩ (.string ((rd_T40 ((rd_T34 l0_0 x6_1).f1) x7_2).f0))).setCell ⟨gb193, 1, none⟩ (.int .i64 ((rd_T40 ((rd_T34 l0_0 x6_1).f1) x7_2).f1))).setCell ⟨gb193, 2, none⟩ (.string ((rd_T40 ((rd_T34 l0_0 x6_1).f1) x7_2).f2)))).cell? _ = some _ from hx195_0)); clear hn195_0; clear hn195_1; clear hn195_2; replace p195 := eq_true p195; replace q195 := eq_true q195))
                                          repeat (go_quiet (first | ((with_reducible refine gate_dst (N := 8) rfl ?_); refine box_event ?hg (N := 8) ?hd (cs := #[.string (⟨#[]⟩ : ByteArray), .int .i64 0, .string (⟨#[]⟩ : ByteArray)]) (t := 40) ?hr ?_; (case hd => rfl); (case hg => rfl); (case hr => first | (go_simp; done) | (go_simp; rfl)); intro gb193 hg w38 hbox hb; have n0_ := Aside0.mk (Kd.R_below (by (with_reducible repeat (first | apply Kd.R_alloc | apply Kd.R_drewN | apply Kd.R_drew)); exact HO_4.out) hb); have n1_ := Aside0.mk (blk_below (g := gb184) (o := .cells #[.slice (some ad189) l0_0.length c0_0] 24 (0, 0)) (by (with_reducible repeat (first | refine blk_drewN ?_ _ | refine blk_drew ?_ | refine blk_alloc ?_ _)); exact BK184.out) hb); have n2_ := Aside0.mk (below_step (by repeat (first | (with_reducible first | exact HB.out | apply below_alloc | apply pw_below_drewN | apply below_drew1 | refine below_set ?_ GE184.out) | exact HB.out)) hb); have n3_ := Aside0.mk (hbox); have n4_ := Aside0.mk ((by rw [hg]; exact (below_size (by repeat (first | (with_reducible first | exact HB.out | apply below_alloc | apply pw_below_drewN | apply below_drew1 | refine below_set ?_ GE184.out) | exact HB.out))) : w.heap.size ≤ gb193)); have n5_ := Aside0.mk ((by rw [hg]; exact (below_size (by repeat (first | (with_reducible first | exact HB.out | apply below_alloc | apply pw_below_drewN | apply below_drew1 | refine below_set ?_ GE184.out) | exact HB.out))) : w.heap.size ≤ gb193)); have n6_ := Aside0.mk ((by rw [hg]; exact Nat.ne_of_lt (blk_lt (g := gb184) (o := .cells #[.slice (some ad189) l0_0.length c0_0] 24 (0, 0)) (by (with_reducible repeat (first | refine blk_drewN ?_ _ | refine blk_drew ?_ | refine blk_alloc ?_ _)); exact BK184.out)) : gb184 ≠ gb193)); have n7_ := Aside0.mk ((by rw [hg]; exact Nat.ne_of_gt (blk_lt (g := gb184) (o := .cells #[.slice (some ad189) l0_0.length c0_0] 24 (0, 0)) (by (with_reducible repeat (first | refine blk_drewN ?_ _ | refine blk_drew ?_ | refine blk_alloc ?_ _)); exact BK184.out)) : gb193 ≠ gb184)); clear HO_4; clear BK184; clear HB; have HO_4 := n0_; have BK184 := n1_; have HB := n2_; have BK193 := n3_; have GW193 := n4_; have GE193 := n5_; have NB184_193 := n6_; have NB193_184 := n7_; clear n0_ n1_ n2_ n3_ n4_ n5_ n6_ n7_; clear hb hbox hg; have hnb39 := NB193_184.out; have hnc39 := NB184_193.out; have hcz40_0 : w38.cell? ⟨gb193, 0, none⟩ = some (.string (⟨#[]⟩ : ByteArray)) := (blk_cell BK193.out 0).trans rfl; have hcz40_1 : w38.cell? ⟨gb193, 1, none⟩ = some (.int .i64 0) := (blk_cell BK193.out 1).trans rfl; have hcz40_2 : w38.cell? ⟨gb193, 2, none⟩ = some (.string (⟨#[]⟩ : ByteArray)) := (blk_cell BK193.out 2).trans rfl; have hfz40_0 := blk_frozen BK193.out 0; have hfz40_1 := blk_frozen BK193.out 1; have hfz40_2 := blk_frozen BK193.out 2; obtain ⟨Ao41, co41, eo41⟩ := Kd.R_slice HO_4.out; subst eo41; have p195 : 0 ≤ (((rd_T40 ((rd_T34 l0_0 x6_1).f1) x7_2).f1) : Int) := of_decide_eq_true (by first | (with_reducible assumption) | assumption); have q195 : ((rd_T40 ((rd_T34 l0_0 x6_1).f1) x7_2).f1) < (y186.length : Int) := of_decide_eq_true (by first | (with_reducible assumption) | assumption); obtain ⟨ad195, e195, hx195_0⟩ := Kd.at_string (Kd.R_reads' HO_4.out).2.2 ((rd_T40 ((rd_T34 l0_0 x6_1).f1) x7_2).f1) p195 q195; cases e195; have hn195_0 : ad195.block ≠ gb193 := Kd.own_blk (Kd.R_ne HO_4.out BK193.out (by decide)); have hn195_1 : ad195.block ≠ gb193 := Kd.own_blk (Kd.R_ne HO_4.out BK193.out (by decide)); have hn195_2 : ad195.block ≠ gb193 := Kd.own_blk (Kd.R_ne HO_4.out BK193.out (by decide)); replace hx195_0 := (cell_far (p := ⟨gb193, 0, none⟩) (by first | (rw [add_block]; exact hn195_0) | (show (Addr.add _ _).block ≠ _; rw [add_block]; exact hn195_0) | exact hn195_0) (.string ((rd_T40 ((rd_T34 l0_0 x6_1).f1) x7_2).f0))).trans hx195_0; replace hx195_0 := (cell_far (p := ⟨gb193, 1, none⟩) (by first | (rw [add_block]; exact hn195_1) | (show (Addr.add _ _).block ≠ _; rw [add_block]; exact hn195_1) | exact hn195_1) (.int .i64 ((rd_T40 ((rd_T34 l0_0 x6_1).f1) x7_2).f1))).trans hx195_0; replace hx195_0 := (cell_far (p := ⟨gb193, 2, none⟩) (by first | (rw [add_block]; exact hn195_2) | (show (Addr.add _ _).block ≠ _; rw [add_block]; exact hn195_2) | exact hn195_2) (.string ((rd_T40 ((rd_T34 l0_0 x6_1).f1) x7_2).f2))).trans hx195_0; (try have hy195_0 := fun (n_ : Nat) => (show (((((w38.drewN n_).setCell ⟨gb193, 0, none⟩ (.string ((rd_T40 ((rd_T34 l0_0 x6_1).f1) x7_2).f0))).setCell ⟨gb193, 1, none⟩ (.int .i64 ((rd_T40 ((rd_T34 l0_0 x6_1).f1) x7_2).f1))).setCell ⟨gb193, 2, none⟩ (.string ((rd_T40 ((rd_T34 l0_0 x6_1).f1) x7_2).f2)))).cell? _ = some _ from hx195_0)); clear hn195_0; clear hn195_1; clear hn195_2; replace p195 := eq_true p195; replace q195 := eq_true q195)); try go_wp2_with (first | ((with_reducible refine gate_dst (N := 8) rfl ?_); refine box_event ?hg (N := 8) ?hd (cs := #[.string (⟨#[]⟩ : ByteArray), .int .i64 0, .string (⟨#[]⟩ : ByteArray)]) (t := 40) ?hr ?_; (case hd => rfl); (case hg => rfl); (case hr => first | (go_simp; done) | (go_simp; rfl)); intro gb193 hg w38 hbox hb; have n0_ := Aside0.mk (Kd.R_below (by (with_reducible repeat (first | apply Kd.R_alloc | apply Kd.R_drewN | apply Kd.R_drew)); exact HO_4.out) hb); have n1_ := Aside0.mk (blk_below (g := gb184) (o := .cells #[.slice (some ad189) l0_0.length c0_0] 24 (0, 0)) (by (with_reducible repeat (first | refine blk_drewN ?_ _ | refine blk_drew ?_ | refine blk_alloc ?_ _)); exact BK184.out) hb); have n2_ := Aside0.mk (below_step (by repeat (first | (with_reducible first | exact HB.out | apply below_alloc | apply pw_below_drewN | apply below_drew1 | refine below_set ?_ GE184.out) | exact HB.out)) hb); have n3_ := Aside0.mk (hbox); have n4_ := Aside0.mk ((by rw [hg]; exact (below_size (by repeat (first | (with_reducible first | exact HB.out | apply below_alloc | apply pw_below_drewN | apply below_drew1 | refine below_set ?_ GE184.out) | exact HB.out))) : w.heap.size ≤ gb193)); have n5_ := Aside0.mk ((by rw [hg]; exact (below_size (by repeat (first | (with_reducible first | exact HB.out | apply below_alloc | apply pw_below_drewN | apply below_drew1 | refine below_set ?_ GE184.out) | exact HB.out))) : w.heap.size ≤ gb193)); have n6_ := Aside0.mk ((by rw [hg]; exact Nat.ne_of_lt (blk_lt (g := gb184) (o := .cells #[.slice (some ad189) l0_0.length c0_0] 24 (0, 0)) (by (with_reducible repeat (first | refine blk_drewN ?_ _ | refine blk_drew ?_ | refine blk_alloc ?_ _)); exact BK184.out)) : gb184 ≠ gb193)); have n7_ := Aside0.mk ((by rw [hg]; exact Nat.ne_of_gt (blk_lt (g := gb184) (o := .cells #[.slice (some ad189) l0_0.length c0_0] 24 (0, 0)) (by (with_reducible repeat (first | refine blk_drewN ?_ _ | refine blk_drew ?_ | refine blk_alloc ?_ _)); exact BK184.out)) : gb193 ≠ gb184)); clear HO_4; clear BK184; clear HB; have HO_4 := n0_; have BK184 := n1_; have HB := n2_; have BK193 := n3_; have GW193 := n4_; have GE193 := n5_; have NB184_193 := n6_; have NB193_184 := n7_; clear n0_ n1_ n2_ n3_ n4_ n5_ n6_ n7_; clear hb hbox hg; have hnb39 := NB193_184.out; have hnc39 := NB184_193.out; have hcz40_0 : w38.cell? ⟨gb193, 0, none⟩ = some (.string (⟨#[]⟩ : ByteArray)) := (blk_cell BK193.out 0).trans rfl; have hcz40_1 : w38.cell? ⟨gb193, 1, none⟩ = some (.int .i64 0) := (blk_cell BK193.out 1).trans rfl; have hcz40_2 : w38.cell? ⟨gb193, 2, none⟩ = some (.string (⟨#[]⟩ : ByteArray)) := (blk_cell BK193.out 2).trans rfl; have hfz40_0 := blk_frozen BK193.out 0; have hfz40_1 := blk_frozen BK193.out 1; have hfz40_2 := blk_frozen BK193.out 2; obtain ⟨Ao41, co41, eo41⟩ := Kd.R_slice HO_4.out; subst eo41; have p195 : 0 ≤ (((rd_T40 ((rd_T34 l0_0 x6_1).f1) x7_2).f1) : Int) := of_decide_eq_true (by first | (with_reducible assumption) | assumption); have q195 : ((rd_T40 ((rd_T34 l0_0 x6_1).f1) x7_2).f1) < (y186.length : Int) := of_decide_eq_true (by first | (with_reducible assumption) | assumption); obtain ⟨ad195, e195, hx195_0⟩ := Kd.at_string (Kd.R_reads' HO_4.out).2.2 ((rd_T40 ((rd_T34 l0_0 x6_1).f1) x7_2).f1) p195 q195; cases e195; have hn195_0 : ad195.block ≠ gb193 := Kd.own_blk (Kd.R_ne HO_4.out BK193.out (by decide)); have hn195_1 : ad195.block ≠ gb193 := Kd.own_blk (Kd.R_ne HO_4.out BK193.out (by decide)); have hn195_2 : ad195.block ≠ gb193 := Kd.own_blk (Kd.R_ne HO_4.out BK193.out (by decide)); replace hx195_0 := (cell_far (p := ⟨gb193, 0, none⟩) (by first | (rw [add_block]; exact hn195_0) | (show (Addr.add _ _).block ≠ _; rw [add_block]; exact hn195_0) | exact hn195_0) (.string ((rd_T40 ((rd_T34 l0_0 x6_1).f1) x7_2).f0))).trans hx195_0; replace hx195_0 := (cell_far (p := ⟨gb193, 1, none⟩) (by first | (rw [add_block]; exact hn195_1) | (show (Addr.add _ _).block ≠ _; rw [add_block]; exact hn195_1) | exact hn195_1) (.int .i64 ((rd_T40 ((rd_T34 l0_0 x6_1).f1) x7_2).f1))).trans hx195_0; replace hx195_0 := (cell_far (p := ⟨gb193, 2, none⟩) (by first | (rw [add_block]; exact hn195_2) | (show (Addr.add _ _).block ≠ _; rw [add_block]; exact hn195_2) | exact hn195_2) (.string ((rd_T40 ((rd_T34 l0_0 x6_1).f1) x7_2).f2))).trans hx195_0; (try have hy195_0 := fun (n_ : Nat) => (show (((((w38.drewN n_).setCell ⟨gb193, 0, none⟩ (.string ((rd_T40 ((rd_T34 l0_0 x6_1).f1) x7_2).f0))).setCell ⟨gb193, 1, none⟩ (.int .i64 ((rd_T40 ((rd_T34 l0_0 x6_1).f1) x7_2).f1))).setCell ⟨gb193, 2, none⟩ (.string ((rd_T40 ((rd_T34 l0_0 x6_1).f1) x7_2).f2)))).cell? _ = some _ from hx195_0)); clear hn195_0; clear hn195_1; clear hn195_2; replace p195 := eq_true p195; replace q195 := eq_true q195)))
                                          go_roundg k2
                                          case measure => have := HK1.out; have := HK2.out; omega
                                          case rel => exact ⟨((((x5_2 ++ ((rd_T40 ((rd_T34 l0_0 x6_1).f1) x7_2).f0)) ++ (⟨#[58]⟩ : ByteArray)) ++ (rdOf ByteArray.empty y186 ((rd_T40 ((rd_T34 l0_0 x6_1).f1) x7_2).f1))) ++ ((rd_T40 ((rd_T34 l0_0 x6_1).f1) x7_2).f2)), (wrap64 (x7_2 + 1)), (by first | rfl | (simp; done) | (simp [*]; done)), (by first | rfl | (simp; done) | (simp [*]; done)), H', ⟨by have := HK1.out; have := HK2.out; omega⟩, ⟨by (with_reducible repeat (first | apply Kd.R_alloc | apply Kd.R_drewN | apply Kd.R_drew)); exact HO_4.out⟩, ⟨by (with_reducible repeat (first | refine blk_drewN ?_ _ | refine blk_drew ?_ | refine blk_alloc ?_ _)); exact BK184.out⟩, ⟨by repeat (first | (with_reducible first | exact HB.out | apply below_alloc | apply pw_below_drewN | apply below_drew1 | refine below_set ?_ GE184.out) | exact HB.out)⟩⟩
                                        · rw [if_neg c36] at H
                                          exact absurd H (by simp)
                                      · rw [if_neg c35] at H
                                        exact absurd H (by simp)
                                    · rw [if_neg c34] at H
                                      exact absurd H (by simp)
                                  · rw [if_neg c33] at H
                                    exact absurd H (by simp)
                                · rw [if_neg c32] at H
                                  exact absurd H (by simp)
                              · rw [if_neg c31] at H
                                exact absurd H (by simp)
                          · rw [if_neg c17] at H
                            exact absurd H (by simp)
                        · rw [if_neg c16] at H
                          have c16b0 : decide (x7_2 < (((rd_T34 l0_0 x6_1).f1).length : Int)) = false := decide_eq_false c16
                          clear c16
                          by_cases c42 : x5_2.size + 1 ≤ 9223372036854775807
                          · rw [if_pos c42] at H
                            have c42b0 := eq_true c42
                            have c42b1 : decide (x5_2.size + 1 ≤ 9223372036854775807) = true := decide_eq_true c42
                            try have c42b2 : (9223372036854775807 < x5_2.size + 1) = False := eq_false (Nat.not_lt.2 c42)
                            have H' := Aside0.mk H
                            clear H
                            have hcz43_0 : wr.cell? ⟨gb184, 0, none⟩ = some (.slice (some ad189) l0_0.length c0_0) := (blk_cell BK184.out 0).trans rfl
                            have hfz43_0 := blk_frozen BK184.out 0
                            have p190 : 0 ≤ (x6_1 : Int) := of_decide_eq_true (by first | (with_reducible assumption) | assumption)
                            have q190 : x6_1 < (l0_0.length : Int) := of_decide_eq_true (by first | (with_reducible assumption) | assumption)
                            obtain ⟨ad190, A190_1, c190_1, e190, hx190_0, hx190_1, hl190_1, hi190_1⟩ := at_T34 HR0_0.out x6_1 p190 q190
                            obtain rfl : ad189 = ad190 := (by injection e190)
                            replace hx190_0 := (HB.out.cell (World.block_lt_of_cell? w _ hx190_0)).trans hx190_0
                            replace hx190_1 := (HB.out.cell (World.block_lt_of_cell? w _ hx190_1)).trans hx190_1
                            have HR190_1 := Aside0.mk hi190_1
                            have HC190_1 := Aside0.mk hl190_1
                            clear hi190_1 hl190_1
                            replace p190 := eq_true p190
                            replace q190 := eq_true q190
                            go_wp2
                            repeat (go_quiet (fail); try go_wp2)
                            go_roundg k2
                            case measure => have := HK1.out; have := HK2.out; omega
                            case rel => exact ⟨(x5_2 ++ (⟨#[125]⟩ : ByteArray)), (wrap64 (x6_1 + 1)), (by first | rfl | (simp; done) | (simp [*]; done)), (by first | rfl | (simp; done) | (simp [*]; done)), H', ⟨by have := HK1.out; have := HK2.out; omega⟩, ⟨by (with_reducible repeat (first | apply Kd.R_alloc | apply Kd.R_drewN | apply Kd.R_drew)); exact HO_4.out⟩, ⟨by (with_reducible repeat (first | refine blk_drewN ?_ _ | refine blk_drew ?_ | refine blk_alloc ?_ _)); exact BK184.out⟩, ⟨by repeat (first | (with_reducible first | exact HB.out | apply below_alloc | apply pw_below_drewN | apply below_drew1 | refine below_set ?_ GE184.out) | exact HB.out)⟩⟩
                          · rw [if_neg c42] at H
                            exact absurd H (by simp)
                      · rw [if_neg c15] at H
                        exact absurd H (by simp)
                    · rw [if_neg c14] at H
                      exact absurd H (by simp)
              · rw [if_neg c12] at H
                exact absurd H (by simp)
            · rw [if_neg c11] at H
              exact absurd H (by simp)
          · rw [if_neg c10] at H
            exact absurd H (by simp)
        · rw [if_neg c9] at H
          have c9b0 : decide (x6_1 < (l0_0.length : Int)) = false := decide_eq_false c9
          clear c9
          obtain rfl := Option.some.inj H
          have hcz44_0 : wr.cell? ⟨gb184, 0, none⟩ = some (.slice A0_0 l0_0.length c0_0) := (blk_cell BK184.out 0).trans rfl
          have hfz44_0 := blk_frozen BK184.out 0
          go_wp2
          repeat (go_quiet (fail); try go_wp2)
          go_ret
          exact ⟨by first | rfl | (simp [errW_none, errW_some] <;> rfl) | (simp [*, errW_none, errW_some] <;> rfl), by repeat (first | (with_reducible first | exact HB.out | apply below_alloc | apply pw_below_drewN | apply below_drew1 | refine below_set ?_ GE184.out) | exact HB.out)⟩
  · replace c3 := Bool.eq_false_iff.mpr c3
    subst c3
    have H1 : (some (⟨#[]⟩ : ByteArray)) = some r := by rw [if_neg (show ¬ (false = true) by decide)] at H; exact H
    clear H
    have H := H1
    clear H1
    obtain rfl := Option.some.inj H
    go_enter Try.func20, Try.ntmps20
    go_wp2_with (first | ((with_reducible refine gate_dst (N := 1) rfl ?_); refine box_event ?hg (N := 1) ?hd (cs := #[.slice A0_0 l0_0.length c0_0]) (t := 24) ?hr ?_; (case hd => rfl); (case hg => rfl); (case hr => first | (go_simp; done) | (go_simp; rfl)); intro gb184 hg w45 hbox hb; have n0_ := Aside0.mk (below_step (by repeat (first | (with_reducible first | exact HB.out | apply below_alloc | apply pw_below_drewN | apply below_drew1) | exact HB.out)) hb); have n1_ := Aside0.mk (hbox); have n2_ := Aside0.mk ((by rw [hg]; exact (below_size (by repeat (first | (with_reducible first | exact HB.out | apply below_alloc | apply pw_below_drewN | apply below_drew1) | exact HB.out))) : w.heap.size ≤ gb184)); have n3_ := Aside0.mk ((by rw [hg]; exact (below_size (by repeat (first | (with_reducible first | exact HB.out | apply below_alloc | apply pw_below_drewN | apply below_drew1) | exact HB.out))) : w.heap.size ≤ gb184)); clear HB; have HB := n0_; have BK184 := n1_; have GW184 := n2_; have GE184 := n3_; clear n0_ n1_ n2_ n3_; clear hb hbox hg; have hcz46_0 : w45.cell? ⟨gb184, 0, none⟩ = some (.slice A0_0 l0_0.length c0_0) := (blk_cell BK184.out 0).trans rfl; have hfz46_0 := blk_frozen BK184.out 0) | (go_at_call 14; (with_reducible refine (foliateref06_May.calls k _ _ l0_0 false _ ?side1 ?side2 A2.out).mono ?_); (case side1 => repeat (first | exact (Kd.C_below HR0_0.out HB.out) | (with_reducible refine Kd.C_alloc ?_ _) | (with_reducible refine Kd.C_drewN ?_ _) | (with_reducible refine Kd.C_drew ?_))); (case side2 => exact HC0_0.out); rintro e w47 ⟨rfl, hb⟩; have n0_ := Aside0.mk (blk_below (g := gb184) (o := .cells #[.slice A0_0 l0_0.length c0_0] 24 (0, 0)) (by (with_reducible repeat (first | refine blk_drewN ?_ _ | refine blk_drew ?_ | refine blk_alloc ?_ _)); exact BK184.out) hb); have n1_ := Aside0.mk (below_step (by repeat (first | (with_reducible first | exact HB.out | apply below_alloc | apply pw_below_drewN | apply below_drew1 | refine below_set ?_ GE184.out) | exact HB.out)) hb); clear BK184; clear HB; have BK184 := n0_; have HB := n1_; clear n0_ n1_; (try clear hb); (try clear hb2); (try clear hk); (try clear hi)))
    repeat (go_quiet (first | ((with_reducible refine gate_dst (N := 1) rfl ?_); refine box_event ?hg (N := 1) ?hd (cs := #[.slice A0_0 l0_0.length c0_0]) (t := 24) ?hr ?_; (case hd => rfl); (case hg => rfl); (case hr => first | (go_simp; done) | (go_simp; rfl)); intro gb184 hg w45 hbox hb; have n0_ := Aside0.mk (below_step (by repeat (first | (with_reducible first | exact HB.out | apply below_alloc | apply pw_below_drewN | apply below_drew1) | exact HB.out)) hb); have n1_ := Aside0.mk (hbox); have n2_ := Aside0.mk ((by rw [hg]; exact (below_size (by repeat (first | (with_reducible first | exact HB.out | apply below_alloc | apply pw_below_drewN | apply below_drew1) | exact HB.out))) : w.heap.size ≤ gb184)); have n3_ := Aside0.mk ((by rw [hg]; exact (below_size (by repeat (first | (with_reducible first | exact HB.out | apply below_alloc | apply pw_below_drewN | apply below_drew1) | exact HB.out))) : w.heap.size ≤ gb184)); clear HB; have HB := n0_; have BK184 := n1_; have GW184 := n2_; have GE184 := n3_; clear n0_ n1_ n2_ n3_; clear hb hbox hg; have hcz46_0 : w45.cell? ⟨gb184, 0, none⟩ = some (.slice A0_0 l0_0.length c0_0) := (blk_cell BK184.out 0).trans rfl; have hfz46_0 := blk_frozen BK184.out 0) | (go_at_call 14; (with_reducible refine (foliateref06_May.calls k _ _ l0_0 false _ ?side1 ?side2 A2.out).mono ?_); (case side1 => repeat (first | exact (Kd.C_below HR0_0.out HB.out) | (with_reducible refine Kd.C_alloc ?_ _) | (with_reducible refine Kd.C_drewN ?_ _) | (with_reducible refine Kd.C_drew ?_))); (case side2 => exact HC0_0.out); rintro e w47 ⟨rfl, hb⟩; have n0_ := Aside0.mk (blk_below (g := gb184) (o := .cells #[.slice A0_0 l0_0.length c0_0] 24 (0, 0)) (by (with_reducible repeat (first | refine blk_drewN ?_ _ | refine blk_drew ?_ | refine blk_alloc ?_ _)); exact BK184.out) hb); have n1_ := Aside0.mk (below_step (by repeat (first | (with_reducible first | exact HB.out | apply below_alloc | apply pw_below_drewN | apply below_drew1 | refine below_set ?_ GE184.out) | exact HB.out)) hb); clear BK184; clear HB; have BK184 := n0_; have HB := n1_; clear n0_ n1_; (try clear hb); (try clear hb2); (try clear hk); (try clear hi))); try go_wp2_with (first | ((with_reducible refine gate_dst (N := 1) rfl ?_); refine box_event ?hg (N := 1) ?hd (cs := #[.slice A0_0 l0_0.length c0_0]) (t := 24) ?hr ?_; (case hd => rfl); (case hg => rfl); (case hr => first | (go_simp; done) | (go_simp; rfl)); intro gb184 hg w45 hbox hb; have n0_ := Aside0.mk (below_step (by repeat (first | (with_reducible first | exact HB.out | apply below_alloc | apply pw_below_drewN | apply below_drew1) | exact HB.out)) hb); have n1_ := Aside0.mk (hbox); have n2_ := Aside0.mk ((by rw [hg]; exact (below_size (by repeat (first | (with_reducible first | exact HB.out | apply below_alloc | apply pw_below_drewN | apply below_drew1) | exact HB.out))) : w.heap.size ≤ gb184)); have n3_ := Aside0.mk ((by rw [hg]; exact (below_size (by repeat (first | (with_reducible first | exact HB.out | apply below_alloc | apply pw_below_drewN | apply below_drew1) | exact HB.out))) : w.heap.size ≤ gb184)); clear HB; have HB := n0_; have BK184 := n1_; have GW184 := n2_; have GE184 := n3_; clear n0_ n1_ n2_ n3_; clear hb hbox hg; have hcz46_0 : w45.cell? ⟨gb184, 0, none⟩ = some (.slice A0_0 l0_0.length c0_0) := (blk_cell BK184.out 0).trans rfl; have hfz46_0 := blk_frozen BK184.out 0) | (go_at_call 14; (with_reducible refine (foliateref06_May.calls k _ _ l0_0 false _ ?side1 ?side2 A2.out).mono ?_); (case side1 => repeat (first | exact (Kd.C_below HR0_0.out HB.out) | (with_reducible refine Kd.C_alloc ?_ _) | (with_reducible refine Kd.C_drewN ?_ _) | (with_reducible refine Kd.C_drew ?_))); (case side2 => exact HC0_0.out); rintro e w47 ⟨rfl, hb⟩; have n0_ := Aside0.mk (blk_below (g := gb184) (o := .cells #[.slice A0_0 l0_0.length c0_0] 24 (0, 0)) (by (with_reducible repeat (first | refine blk_drewN ?_ _ | refine blk_drew ?_ | refine blk_alloc ?_ _)); exact BK184.out) hb); have n1_ := Aside0.mk (below_step (by repeat (first | (with_reducible first | exact HB.out | apply below_alloc | apply pw_below_drewN | apply below_drew1 | refine below_set ?_ GE184.out) | exact HB.out)) hb); clear BK184; clear HB; have BK184 := n0_; have HB := n1_; clear n0_ n1_; (try clear hb); (try clear hb2); (try clear hk); (try clear hi))))
    go_ret
    exact ⟨by first | rfl | (simp [errW_none, errW_some] <;> rfl) | (simp [*, errW_none, errW_some] <;> rfl), by repeat (first | (with_reducible first | exact HB.out | apply below_alloc | apply pw_below_drewN | apply below_drew1 | refine below_set ?_ GE184.out) | exact HB.out)⟩

/-! ### foliateref06_upto: function 25 -/
mutual
def foliateref06_upto.l0 : Nat → ByteArray → ByteArray → Int → Option (ByteArray × ByteArray)
  | 0, _, _, _ => none
  | k + 1, x0, x1, x6 => if x6 < (x0.size : Int) then (foliateref06_upto.l1 k x0 x1 x6 0) else (some (x0, (⟨#[]⟩ : ByteArray)))
def foliateref06_upto.l1 : Nat → ByteArray → ByteArray → Int → Int → Option (ByteArray × ByteArray)
  | 0, _, _, _, _ => none
  | k + 1, x0, x1, x6, x7 => if x7 < (x1.size : Int) then (if 0 ≤ x6 then (if x6 < (x0.size : Int) then (if 0 ≤ x7 then (if (bt x0 x6) = (bt x1 x7) then (if x6 ≤ (x0.size : Int) then (some (x0.extract 0 (x6 : Int).toNat, x0.extract (x6 : Int).toNat x0.size)) else (none)) else (foliateref06_upto.l1 k x0 x1 x6 (wrap64 (x7 + 1)))) else (none)) else (none)) else (none)) else (foliateref06_upto.l0 k x0 x1 (wrap64 (x6 + 1)))
end
def foliateref06_upto.f (k : Nat) (a0 : ByteArray) (a1 : ByteArray) : Option (ByteArray × ByteArray) := foliateref06_upto.l0 k a0 a1 0
set_option maxHeartbeats 8000000 in
set_option maxRecDepth 100000 in
theorem foliateref06_upto.calls (k : Nat) (a0 : ByteArray) (a1 : ByteArray) (r1 : ByteArray) (r2 : ByteArray) (w : World) (h : foliateref06_upto.f k a0 a1 = some (r1, r2)) :
    Calls Try.prog 25 #[.string a0, .string a1] w fun e w' => e = .returned (.tuple #[.string r1, .string r2]) ∧ Drawn0 w w' := by
  have H : (foliateref06_upto.l0 k a0 a1 0) = some (r1, r2) := h
  clear h
  have H' := Aside0.mk H
  clear H
  go_enter Try.func25, Try.ntmps25
  go_wp2
  repeat (go_quiet (fail); try go_wp2)
  go_loopg [6] k (fun kq v6 w' => ∃ (x6_1 : Int), v6 = .int .i64 x6_1 ∧ Aside0 (foliateref06_upto.l0 kq a0 a1 x6_1 = some (r1, r2)) ∧ Aside0 (kq ≤ k) ∧ Drawn0 w w')
  case atStart => exact ⟨(0), (by first | rfl | (simp; done) | (simp [*]; done)), H', ⟨Nat.le_refl _⟩, by repeat (first | exact Drawn0.refl _ | apply Drawn0.step)⟩
  case round =>
    clear H'
    try clear c2
    try clear p2
    obtain ⟨x6_1, rfl, HA, HK1, ⟨m1, rfl⟩⟩ := hrel
    cases gk with
    | zero => exact absurd HA.out (by simp [foliateref06_upto.l0])
    | succ k1 =>
      have H := HA.out
      clear HA
      simp only [foliateref06_upto.l0] at H
      by_cases c3 : x6_1 < (a0.size : Int)
      · rw [if_pos c3] at H
        have c3b0 : decide (x6_1 < (a0.size : Int)) = true := decide_eq_true c3
        clear c3
        have H' := Aside0.mk H
        clear H
        go_wp2
        repeat (go_quiet (fail); try go_wp2)
        go_loopg [7] k1 (fun kq v7 w' => ∃ (x7_2 : Int), v7 = .int .i64 x7_2 ∧ Aside0 (foliateref06_upto.l1 kq a0 a1 x6_1 x7_2 = some (r1, r2)) ∧ Aside0 (kq ≤ k1) ∧ Drawn0 w w')
        case atStart => exact ⟨(0), (by first | rfl | (simp; done) | (simp [*]; done)), H', ⟨Nat.le_refl _⟩, by repeat (first | exact Drawn0.refl _ | apply Drawn0.step)⟩
        case round =>
          clear H'
          try clear c2
          try clear p2
          try clear c3
          try clear c3b0
          try clear p2
          obtain ⟨x7_2, rfl, HA, HK2, ⟨m2, rfl⟩⟩ := hrel
          cases gk with
          | zero => exact absurd HA.out (by simp [foliateref06_upto.l1])
          | succ k2 =>
            have H := HA.out
            clear HA
            simp only [foliateref06_upto.l1] at H
            by_cases c4 : x7_2 < (a1.size : Int)
            · rw [if_pos c4] at H
              have c4b0 : decide (x7_2 < (a1.size : Int)) = true := decide_eq_true c4
              clear c4
              by_cases c5 : 0 ≤ x6_1
              · rw [if_pos c5] at H
                have c5b0 : decide (0 ≤ x6_1) = true := decide_eq_true c5
                clear c5
                by_cases c6 : x6_1 < (a0.size : Int)
                · rw [if_pos c6] at H
                  have c6b0 : decide (x6_1 < (a0.size : Int)) = true := decide_eq_true c6
                  clear c6
                  by_cases c8 : 0 ≤ x7_2
                  · rw [if_pos c8] at H
                    have c8b0 : decide (0 ≤ x7_2) = true := decide_eq_true c8
                    clear c8
                    by_cases c10 : (bt a0 x6_1) = (bt a1 x7_2)
                    · rw [if_pos c10] at H
                      have c10b0 : ((bt a0 x6_1) == (bt a1 x7_2)) = true := beq_iff_eq.mpr c10
                      have c10b1 : ((bt a0 x6_1) != (bt a1 x7_2)) = false := bne_eq_false_iff_eq.mpr c10
                      clear c10
                      have c11b0 := eq_true (of_decide_eq_true (by first | (with_reducible assumption) | assumption) : 0 ≤ x6_1)
                      by_cases c12 : x6_1 ≤ (a0.size : Int)
                      · rw [if_pos c12] at H
                        have c12b0 := eq_true c12
                        have c12b1 : decide (x6_1 ≤ (a0.size : Int)) = true := decide_eq_true c12
                        clear c12
                        have c13b0 := eq_true (of_decide_eq_true (by first | (with_reducible assumption) | assumption) : 0 ≤ x6_1)
                        have c14b0 := eq_true (of_decide_eq_true (by first | (with_reducible assumption) | assumption) : x6_1 ≤ (a0.size : Int))
                        simp only [Option.some.injEq, Prod.mk.injEq] at H
                        obtain ⟨rfl, rfl⟩ := H
                        have p7 : 0 ≤ (x6_1 : Int) := of_decide_eq_true (by first | (with_reducible assumption) | assumption)
                        have q7 : x6_1 < (a0.size : Int) := of_decide_eq_true (by first | (with_reducible assumption) | assumption)
                        have hx7 := bt_at a0 x6_1
                        replace p7 := eq_true p7
                        replace q7 := eq_true q7
                        have p9 : 0 ≤ (x7_2 : Int) := of_decide_eq_true (by first | (with_reducible assumption) | assumption)
                        have q9 : x7_2 < (a1.size : Int) := of_decide_eq_true (by first | (with_reducible assumption) | assumption)
                        have hx9 := bt_at a1 x7_2
                        replace p9 := eq_true p9
                        replace q9 := eq_true q9
                        go_wp2
                        repeat (go_quiet (fail); try go_wp2)
                        go_ret2
                        exact ⟨by first | rfl | (simp; done) | (simp [*]; done), by repeat (first | exact Drawn0.refl _ | apply Drawn0.step)⟩
                      · rw [if_neg c12] at H
                        exact absurd H (by simp)
                    · rw [if_neg c10] at H
                      have c10b0 : ((bt a0 x6_1) == (bt a1 x7_2)) = false := beq_eq_false_iff_ne.mpr c10
                      have c10b1 : ((bt a0 x6_1) != (bt a1 x7_2)) = true := bne_iff_ne.mpr c10
                      have H' := Aside0.mk H
                      clear H
                      have p7 : 0 ≤ (x6_1 : Int) := of_decide_eq_true (by first | (with_reducible assumption) | assumption)
                      have q7 : x6_1 < (a0.size : Int) := of_decide_eq_true (by first | (with_reducible assumption) | assumption)
                      have hx7 := bt_at a0 x6_1
                      replace p7 := eq_true p7
                      replace q7 := eq_true q7
                      have p9 : 0 ≤ (x7_2 : Int) := of_decide_eq_true (by first | (with_reducible assumption) | assumption)
                      have q9 : x7_2 < (a1.size : Int) := of_decide_eq_true (by first | (with_reducible assumption) | assumption)
                      have hx9 := bt_at a1 x7_2
                      replace p9 := eq_true p9
                      replace q9 := eq_true q9
                      go_wp2
                      repeat (go_quiet (fail); try go_wp2)
                      go_roundg k2
                      case measure => have := HK1.out; have := HK2.out; omega
                      case rel => exact ⟨(wrap64 (x7_2 + 1)), (by first | rfl | (simp; done) | (simp [*]; done)), H', ⟨by have := HK1.out; have := HK2.out; omega⟩, by repeat (first | exact Drawn0.refl _ | apply Drawn0.step)⟩
                  · rw [if_neg c8] at H
                    exact absurd H (by simp)
                · rw [if_neg c6] at H
                  exact absurd H (by simp)
              · rw [if_neg c5] at H
                exact absurd H (by simp)
            · rw [if_neg c4] at H
              have c4b0 : decide (x7_2 < (a1.size : Int)) = false := decide_eq_false c4
              clear c4
              have H' := Aside0.mk H
              clear H
              go_wp2
              repeat (go_quiet (fail); try go_wp2)
              go_roundg k2
              case measure => have := HK1.out; have := HK2.out; omega
              case rel => exact ⟨(wrap64 (x6_1 + 1)), (by first | rfl | (simp; done) | (simp [*]; done)), H', ⟨by have := HK1.out; have := HK2.out; omega⟩, by repeat (first | exact Drawn0.refl _ | apply Drawn0.step)⟩
      · rw [if_neg c3] at H
        have c3b0 : decide (x6_1 < (a0.size : Int)) = false := decide_eq_false c3
        clear c3
        simp only [Option.some.injEq, Prod.mk.injEq] at H
        obtain ⟨rfl, rfl⟩ := H
        go_wp2
        repeat (go_quiet (fail); try go_wp2)
        go_ret2
        exact ⟨by first | rfl | (simp; done) | (simp [*]; done), by repeat (first | exact Drawn0.refl _ | apply Drawn0.step)⟩

/-! ### foliateref06_field: function 26 -/
def foliateref06_field.l0 : Nat → ByteArray → ByteArray → List ByteArray → Int → Option (ByteArray × Int × ByteArray)
  | 0, _, _, _, _ => none
  | k + 1, x0, x1, x5, x6 => if x6 < (x5.length : Int) then (if 0 ≤ x6 then (if (rdOf ByteArray.empty x5 x6).toList = x1.toList then (some (x0, x6, (⟨#[]⟩ : ByteArray))) else (foliateref06_field.l0 k x0 x1 x5 (wrap64 (x6 + 1)))) else (none)) else (if (x1.size : Int) > 0 then (if 0 < (x1.size : Int) then (if (bt x1 0) = 42 then (if 1 ≤ (x1.size : Int) then (some (x0, 5, x1.extract 1 x1.size)) else (none)) else (some (x0, (-1), (⟨#[]⟩ : ByteArray)))) else (none)) else (some (x0, (-1), (⟨#[]⟩ : ByteArray))))
def foliateref06_field.f (k : Nat) (a0 : ByteArray) (a1 : ByteArray) : Option (ByteArray × Int × ByteArray) := foliateref06_field.l0 k a0 a1 (([(⟨#[105, 56]⟩ : ByteArray), (⟨#[105, 49, 54]⟩ : ByteArray), (⟨#[105, 51, 50]⟩ : ByteArray), (⟨#[105, 54, 52]⟩ : ByteArray), (⟨#[116]⟩ : ByteArray)] : List ByteArray)) 0
set_option maxHeartbeats 8000000 in
set_option maxRecDepth 100000 in
theorem foliateref06_field.calls (k : Nat) (a0 : ByteArray) (a1 : ByteArray) (r1 : ByteArray) (r2 : Int) (r3 : ByteArray) (w : World) (h : foliateref06_field.f k a0 a1 = some (r1, r2, r3)) :
    Calls Try.prog 26 #[.string a0, .string a1] w fun e w' => e = .returned (.agg #[.string r1, .int .i64 r2, .string r3]) ∧ Below w.heap.size w w' := by
  have hu40 := Try.underlying40
  have HB := Aside0.mk (Below.refl w.heap.size w)
  have H : (foliateref06_field.l0 k a0 a1 (([(⟨#[105, 56]⟩ : ByteArray), (⟨#[105, 49, 54]⟩ : ByteArray), (⟨#[105, 51, 50]⟩ : ByteArray), (⟨#[105, 54, 52]⟩ : ByteArray), (⟨#[116]⟩ : ByteArray)] : List ByteArray)) 0) = some (r1, r2, r3) := h
  clear h
  obtain ⟨y197, hy197⟩ : ∃ y_ : List ByteArray, y_ = (([(⟨#[105, 56]⟩ : ByteArray), (⟨#[105, 49, 54]⟩ : ByteArray), (⟨#[105, 51, 50]⟩ : ByteArray), (⟨#[105, 54, 52]⟩ : ByteArray), (⟨#[116]⟩ : ByteArray)] : List ByteArray)) := ⟨_, rfl⟩
  replace H : (foliateref06_field.l0 k a0 a1 y197 0) = some (r1, r2, r3) := by first | (rw [hy197]; with_reducible exact H) | (have H2_ := (Option.bind_some _ _).symm.trans H; rw [hy197]; with_reducible exact H2_) | (have H2_ := (Option.bind_some _ _).symm.trans H; with_reducible exact H2_) | with_reducible exact H | (rw [hy197]; exact H) | exact H
  have Ny197 := Aside0.mk hy197
  clear hy197
  have H' := Aside0.mk H
  clear H
  go_enter Try.func26, Try.ntmps26
  go_wp2_with (first | ((with_reducible refine gate_dst (N := 4) rfl ?_); refine box_event ?hg (N := 4) ?hd (cs := #[.string (⟨#[]⟩ : ByteArray), .int .i64 0, .string (⟨#[]⟩ : ByteArray)]) (t := 40) ?hr ?_; (case hd => rfl); (case hg => rfl); (case hr => first | (go_simp; done) | (go_simp; rfl)); intro gb196 hg w3 hbox hb; have n0_ := Aside0.mk (below_step (by repeat (first | (with_reducible first | exact HB.out | apply below_alloc | apply pw_below_drewN | apply below_drew1) | exact HB.out)) hb); have n1_ := Aside0.mk (hbox); have n2_ := Aside0.mk ((by rw [hg]; exact (below_size (by repeat (first | (with_reducible first | exact HB.out | apply below_alloc | apply pw_below_drewN | apply below_drew1) | exact HB.out))) : w.heap.size ≤ gb196)); have n3_ := Aside0.mk ((by rw [hg]; exact (below_size (by repeat (first | (with_reducible first | exact HB.out | apply below_alloc | apply pw_below_drewN | apply below_drew1) | exact HB.out))) : w.heap.size ≤ gb196)); clear HB; have HB := n0_; have BK196 := n1_; have GW196 := n2_; have GE196 := n3_; clear n0_ n1_ n2_ n3_; clear hb hbox hg) | ((with_reducible refine gate_dst (N := 7) rfl ?_); refine Kd.R_lit Kd.string _ 9 ?hg (N := 7) ?hd (xs := ([(⟨#[105, 56]⟩ : ByteArray), (⟨#[105, 49, 54]⟩ : ByteArray), (⟨#[105, 51, 50]⟩ : ByteArray), (⟨#[105, 54, 52]⟩ : ByteArray), (⟨#[116]⟩ : ByteArray)] : List ByteArray)) (inner := [.string (⟨#[105, 56]⟩ : ByteArray), .string (⟨#[105, 49, 54]⟩ : ByteArray), .string (⟨#[105, 51, 50]⟩ : ByteArray), .string (⟨#[105, 54, 52]⟩ : ByteArray), .string (⟨#[116]⟩ : ByteArray)]) (ok := fun _ => True) (okp := fun _ => True) ?hr ?hp (fun _ hk => hk) trivial (Below.refl _ _) (Nat.le_refl _) (by simp) ?_; (case hd => rfl); (case hg => rfl); (case hr => first | (go_simp; done) | (go_simp; rfl)); (case hp => exact (Reps.one (show Kd.M Kd.string _ _ _ (⟨#[105, 56]⟩ : ByteArray) [.string (⟨#[105, 56]⟩ : ByteArray)] from rfl) (Reps.one (show Kd.M Kd.string _ _ _ (⟨#[105, 49, 54]⟩ : ByteArray) [.string (⟨#[105, 49, 54]⟩ : ByteArray)] from rfl) (Reps.one (show Kd.M Kd.string _ _ _ (⟨#[105, 51, 50]⟩ : ByteArray) [.string (⟨#[105, 51, 50]⟩ : ByteArray)] from rfl) (Reps.one (show Kd.M Kd.string _ _ _ (⟨#[105, 54, 52]⟩ : ByteArray) [.string (⟨#[105, 54, 52]⟩ : ByteArray)] from rfl) (Reps.one (show Kd.M Kd.string _ _ _ (⟨#[116]⟩ : ByteArray) [.string (⟨#[116]⟩ : ByteArray)] from rfl) (Reps.none _ _))))))); intro v198 w4 ho5 hb hg_ hnew_; clear hg_ hnew_; (first | rw [← Ny197.out] at ho5 | (simp only [Int.reduceToNat] at ho5; rw [← Ny197.out] at ho5)); have n0_ := Aside0.mk (Kd.R_lower ho5 (below_size (by repeat (first | (with_reducible first | exact HB.out | apply below_alloc | apply pw_below_drewN | apply below_drew1 | refine below_set ?_ GE196.out) | exact HB.out)))); have n1_ := Aside0.mk (blk_below (g := gb196) (o := .cells #[.string (⟨#[]⟩ : ByteArray), .int .i64 0, .string (⟨#[]⟩ : ByteArray)] 40 (0, 0)) (by (with_reducible repeat (first | refine blk_drewN ?_ _ | refine blk_drew ?_ | refine blk_alloc ?_ _)); exact BK196.out) hb); have n2_ := Aside0.mk (below_step (by repeat (first | (with_reducible first | exact HB.out | apply below_alloc | apply pw_below_drewN | apply below_drew1 | refine below_set ?_ GE196.out) | exact HB.out)) hb); clear BK196; clear HB; have HO199 := n0_; have BK196 := n1_; have HB := n2_; clear n0_ n1_ n2_; clear hb ho5))
  go_loopg [6] k (fun kq v6 w' => ∃ (x6_1 : Int) (x197000_1 : ByteArray) (x197001_1 : Int) (x197002_1 : ByteArray), v6 = .int .i64 x6_1 ∧ Aside0 (foliateref06_field.l0 kq a0 a1 y197 x6_1 = some (r1, r2, r3)) ∧ Aside0 (kq ≤ k) ∧ Aside0 (Kd.R Kd.string 9 w' w.heap.size (fun _ => True) v198 y197) ∧ Aside0 (w'.heap[gb196]? = some (.cells #[.string x197000_1, .int .i64 x197001_1, .string x197002_1] 40 (0, 0))) ∧ Aside0 (Below w.heap.size w w'))
  case atStart => exact ⟨(0), ((⟨#[]⟩ : ByteArray)), (0), ((⟨#[]⟩ : ByteArray)), (by first | rfl | (simp; done) | (simp [*]; done)), H', ⟨Nat.le_refl _⟩, ⟨by (with_reducible repeat (first | apply Kd.R_alloc | apply Kd.R_drewN | apply Kd.R_drew)); exact HO199.out⟩, ⟨by (with_reducible repeat (first | refine blk_drewN ?_ _ | refine blk_drew ?_ | refine blk_alloc ?_ _)); exact BK196.out⟩, ⟨by repeat (first | (with_reducible first | exact HB.out | apply below_alloc | apply pw_below_drewN | apply below_drew1 | refine below_set ?_ GE196.out) | exact HB.out)⟩⟩
  case round =>
    clear H'
    try clear c2
    try clear p2
    obtain ⟨x6_1, x197000_1, x197001_1, x197002_1, rfl, HA, HK1, HO_5, BK196, HB⟩ := hrel
    cases gk with
    | zero => exact absurd HA.out (by simp [foliateref06_field.l0])
    | succ k1 =>
      have H := HA.out
      clear HA
      simp only [foliateref06_field.l0] at H
      by_cases c6 : x6_1 < (y197.length : Int)
      · rw [if_pos c6] at H
        have c6b0 : decide (x6_1 < (y197.length : Int)) = true := decide_eq_true c6
        clear c6
        by_cases c7 : 0 ≤ x6_1
        · rw [if_pos c7] at H
          have c7b0 : decide (0 ≤ x6_1) = true := decide_eq_true c7
          clear c7
          by_cases c8 : (rdOf ByteArray.empty y197 x6_1).toList = a1.toList
          · rw [if_pos c8] at H
            have c8b0 : ((rdOf ByteArray.empty y197 x6_1).toList == a1.toList) = true := beq_iff_eq.mpr c8
            have c8b1 : ((rdOf ByteArray.empty y197 x6_1).toList != a1.toList) = false := bne_eq_false_iff_eq.mpr c8
            clear c8
            simp only [Option.some.injEq, Prod.mk.injEq] at H
            obtain ⟨rfl, rfl, rfl⟩ := H
            obtain ⟨Ao9, co9, eo9⟩ := Kd.R_slice HO_5.out
            subst eo9
            have p200 : 0 ≤ (x6_1 : Int) := of_decide_eq_true (by first | (with_reducible assumption) | assumption)
            have q200 : x6_1 < (y197.length : Int) := of_decide_eq_true (by first | (with_reducible assumption) | assumption)
            obtain ⟨ad200, e200, hx200_0⟩ := Kd.at_string (Kd.R_reads' HO_5.out).2.2 x6_1 p200 q200
            cases e200
            replace p200 := eq_true p200
            replace q200 := eq_true q200
            have hcz10_0 : wr.cell? ⟨gb196, 0, none⟩ = some (.string x197000_1) := (blk_cell BK196.out 0).trans rfl
            have hcz10_1 : wr.cell? ⟨gb196, 1, none⟩ = some (.int .i64 x197001_1) := (blk_cell BK196.out 1).trans rfl
            have hcz10_2 : wr.cell? ⟨gb196, 2, none⟩ = some (.string x197002_1) := (blk_cell BK196.out 2).trans rfl
            have hfz10_0 := blk_frozen BK196.out 0
            have hfz10_1 := blk_frozen BK196.out 1
            have hfz10_2 := blk_frozen BK196.out 2
            go_wp2
            refine bodyPost_ret (results_cell_row rfl _ _ gb196 40 #[.string a0, .int .i64 x6_1, .string (⟨#[]⟩ : ByteArray)] (0, 0) _ rfl (by (with_reducible repeat (first | refine blk_drewN ?_ _ | refine blk_drew ?_ | refine blk_alloc ?_ _)); refine blk_put (cs := #[.string a0, .int .i64 x6_1, .string x197002_1]) ?_ 2 _ rfl; (with_reducible repeat (first | refine blk_drewN ?_ _ | refine blk_drew ?_ | refine blk_alloc ?_ _)); refine blk_put (cs := #[.string a0, .int .i64 x197001_1, .string x197002_1]) ?_ 1 _ rfl; (with_reducible repeat (first | refine blk_drewN ?_ _ | refine blk_drew ?_ | refine blk_alloc ?_ _)); refine blk_put (cs := #[.string x197000_1, .int .i64 x197001_1, .string x197002_1]) ?_ 0 _ rfl; (with_reducible repeat (first | refine blk_drewN ?_ _ | refine blk_drew ?_ | refine blk_alloc ?_ _)); exact BK196.out) Try.underlying40 rfl (by kernel_rfl)) rfl ?_
            exact ⟨by first | rfl | (simp [errW_none, errW_some] <;> rfl) | (simp [*, errW_none, errW_some] <;> rfl), by repeat (first | (with_reducible first | exact HB.out | apply below_alloc | apply pw_below_drewN | apply below_drew1 | refine below_set ?_ GE196.out) | exact HB.out)⟩
          · rw [if_neg c8] at H
            have c8b0 : ((rdOf ByteArray.empty y197 x6_1).toList == a1.toList) = false := beq_eq_false_iff_ne.mpr c8
            have c8b1 : ((rdOf ByteArray.empty y197 x6_1).toList != a1.toList) = true := bne_iff_ne.mpr c8
            have H' := Aside0.mk H
            clear H
            obtain ⟨Ao11, co11, eo11⟩ := Kd.R_slice HO_5.out
            subst eo11
            have p200 : 0 ≤ (x6_1 : Int) := of_decide_eq_true (by first | (with_reducible assumption) | assumption)
            have q200 : x6_1 < (y197.length : Int) := of_decide_eq_true (by first | (with_reducible assumption) | assumption)
            obtain ⟨ad200, e200, hx200_0⟩ := Kd.at_string (Kd.R_reads' HO_5.out).2.2 x6_1 p200 q200
            cases e200
            replace p200 := eq_true p200
            replace q200 := eq_true q200
            go_wp2
            go_roundg k1
            case measure => have := HK1.out; omega
            case rel => exact ⟨(wrap64 (x6_1 + 1)), (x197000_1), (x197001_1), (x197002_1), (by first | rfl | (simp; done) | (simp [*]; done)), H', ⟨by have := HK1.out; omega⟩, ⟨by (with_reducible repeat (first | apply Kd.R_alloc | apply Kd.R_drewN | apply Kd.R_drew)); exact HO_5.out⟩, ⟨by (with_reducible repeat (first | refine blk_drewN ?_ _ | refine blk_drew ?_ | refine blk_alloc ?_ _)); exact BK196.out⟩, ⟨by repeat (first | (with_reducible first | exact HB.out | apply below_alloc | apply pw_below_drewN | apply below_drew1 | refine below_set ?_ GE196.out) | exact HB.out)⟩⟩
        · rw [if_neg c7] at H
          exact absurd H (by simp)
      · rw [if_neg c6] at H
        have c6b0 : decide (x6_1 < (y197.length : Int)) = false := decide_eq_false c6
        clear c6
        by_cases c12 : (a1.size : Int) > 0
        · rw [if_pos c12] at H
          have c12b0 : decide (0 < (a1.size : Int)) = true := decide_eq_true c12
          have c12b1 : decide (0 < a1.size) = true := decide_eq_true (by omega)
          clear c12
          by_cases c13 : 0 < (a1.size : Int)
          · rw [if_pos c13] at H
            have c13b0 : decide (0 < (a1.size : Int)) = true := decide_eq_true c13
            have c13b1 : decide (0 < a1.size) = true := decide_eq_true (by omega)
            clear c13
            by_cases c15 : (bt a1 0) = 42
            · rw [if_pos c15] at H
              have c15b0 : ((bt a1 0) == 42) = true := beq_iff_eq.mpr c15
              have c15b1 : ((bt a1 0) != 42) = false := bne_eq_false_iff_eq.mpr c15
              clear c15
              by_cases c16 : 1 ≤ (a1.size : Int)
              · rw [if_pos c16] at H
                have c16b0 := eq_true c16
                have c16b1 : decide (1 ≤ (a1.size : Int)) = true := decide_eq_true c16
                clear c16
                simp only [Option.some.injEq, Prod.mk.injEq] at H
                obtain ⟨rfl, rfl, rfl⟩ := H
                obtain ⟨Ao17, co17, eo17⟩ := Kd.R_slice HO_5.out
                subst eo17
                have p14 : 0 ≤ (0 : Int) := (by omega)
                have q14 : 0 < a1.size := (by have : (0 : Int) < (a1.size : Int) := of_decide_eq_true (by first | (with_reducible assumption) | assumption); omega)
                have hx14 : ∀ h : 0 < a1.size, ((a1[0]'h).toNat : Int) = bt a1 0 := bt_at a1 0
                clear p14
                have qi14 : (0 < (a1.size : Int)) = True := eq_true (of_decide_eq_true (by first | (with_reducible assumption) | assumption))
                replace q14 := eq_true q14
                have hcz18_0 : wr.cell? ⟨gb196, 0, none⟩ = some (.string x197000_1) := (blk_cell BK196.out 0).trans rfl
                have hcz18_1 : wr.cell? ⟨gb196, 1, none⟩ = some (.int .i64 x197001_1) := (blk_cell BK196.out 1).trans rfl
                have hcz18_2 : wr.cell? ⟨gb196, 2, none⟩ = some (.string x197002_1) := (blk_cell BK196.out 2).trans rfl
                have hfz18_0 := blk_frozen BK196.out 0
                have hfz18_1 := blk_frozen BK196.out 1
                have hfz18_2 := blk_frozen BK196.out 2
                go_wp2
                refine bodyPost_ret (results_cell_row rfl _ _ gb196 40 #[.string a0, .int .i64 5, .string (a1.extract 1 a1.size)] (0, 0) _ rfl (by (with_reducible repeat (first | refine blk_drewN ?_ _ | refine blk_drew ?_ | refine blk_alloc ?_ _)); refine blk_put (cs := #[.string a0, .int .i64 5, .string x197002_1]) ?_ 2 _ rfl; (with_reducible repeat (first | refine blk_drewN ?_ _ | refine blk_drew ?_ | refine blk_alloc ?_ _)); refine blk_put (cs := #[.string a0, .int .i64 x197001_1, .string x197002_1]) ?_ 1 _ rfl; (with_reducible repeat (first | refine blk_drewN ?_ _ | refine blk_drew ?_ | refine blk_alloc ?_ _)); refine blk_put (cs := #[.string x197000_1, .int .i64 x197001_1, .string x197002_1]) ?_ 0 _ rfl; (with_reducible repeat (first | refine blk_drewN ?_ _ | refine blk_drew ?_ | refine blk_alloc ?_ _)); exact BK196.out) Try.underlying40 rfl (by kernel_rfl)) rfl ?_
                exact ⟨by first | rfl | (simp [errW_none, errW_some] <;> rfl) | (simp [*, errW_none, errW_some] <;> rfl), by repeat (first | (with_reducible first | exact HB.out | apply below_alloc | apply pw_below_drewN | apply below_drew1 | refine below_set ?_ GE196.out) | exact HB.out)⟩
              · rw [if_neg c16] at H
                exact absurd H (by simp)
            · rw [if_neg c15] at H
              have c15b0 : ((bt a1 0) == 42) = false := beq_eq_false_iff_ne.mpr c15
              have c15b1 : ((bt a1 0) != 42) = true := bne_iff_ne.mpr c15
              simp only [Option.some.injEq, Prod.mk.injEq] at H
              obtain ⟨rfl, rfl, rfl⟩ := H
              obtain ⟨Ao19, co19, eo19⟩ := Kd.R_slice HO_5.out
              subst eo19
              have p14 : 0 ≤ (0 : Int) := (by omega)
              have q14 : 0 < a1.size := (by have : (0 : Int) < (a1.size : Int) := of_decide_eq_true (by first | (with_reducible assumption) | assumption); omega)
              have hx14 : ∀ h : 0 < a1.size, ((a1[0]'h).toNat : Int) = bt a1 0 := bt_at a1 0
              clear p14
              have qi14 : (0 < (a1.size : Int)) = True := eq_true (of_decide_eq_true (by first | (with_reducible assumption) | assumption))
              replace q14 := eq_true q14
              have hcz20_0 : wr.cell? ⟨gb196, 0, none⟩ = some (.string x197000_1) := (blk_cell BK196.out 0).trans rfl
              have hcz20_1 : wr.cell? ⟨gb196, 1, none⟩ = some (.int .i64 x197001_1) := (blk_cell BK196.out 1).trans rfl
              have hcz20_2 : wr.cell? ⟨gb196, 2, none⟩ = some (.string x197002_1) := (blk_cell BK196.out 2).trans rfl
              have hfz20_0 := blk_frozen BK196.out 0
              have hfz20_1 := blk_frozen BK196.out 1
              have hfz20_2 := blk_frozen BK196.out 2
              go_wp2
              refine bodyPost_ret (results_cell_row rfl _ _ gb196 40 #[.string a0, .int .i64 (-1), .string (⟨#[]⟩ : ByteArray)] (0, 0) _ rfl (by (with_reducible repeat (first | refine blk_drewN ?_ _ | refine blk_drew ?_ | refine blk_alloc ?_ _)); refine blk_put (cs := #[.string a0, .int .i64 (-1), .string x197002_1]) ?_ 2 _ rfl; (with_reducible repeat (first | refine blk_drewN ?_ _ | refine blk_drew ?_ | refine blk_alloc ?_ _)); refine blk_put (cs := #[.string a0, .int .i64 x197001_1, .string x197002_1]) ?_ 1 _ rfl; (with_reducible repeat (first | refine blk_drewN ?_ _ | refine blk_drew ?_ | refine blk_alloc ?_ _)); refine blk_put (cs := #[.string x197000_1, .int .i64 x197001_1, .string x197002_1]) ?_ 0 _ rfl; (with_reducible repeat (first | refine blk_drewN ?_ _ | refine blk_drew ?_ | refine blk_alloc ?_ _)); exact BK196.out) Try.underlying40 rfl (by kernel_rfl)) rfl ?_
              exact ⟨by first | rfl | (simp [errW_none, errW_some] <;> rfl) | (simp [*, errW_none, errW_some] <;> rfl), by repeat (first | (with_reducible first | exact HB.out | apply below_alloc | apply pw_below_drewN | apply below_drew1 | refine below_set ?_ GE196.out) | exact HB.out)⟩
          · rw [if_neg c13] at H
            exact absurd H (by simp)
        · rw [if_neg c12] at H
          have c12b0 : decide (0 < (a1.size : Int)) = false := decide_eq_false c12
          have c12b1 : decide (0 < a1.size) = false := decide_eq_false (by omega)
          clear c12
          simp only [Option.some.injEq, Prod.mk.injEq] at H
          obtain ⟨rfl, rfl, rfl⟩ := H
          obtain ⟨Ao21, co21, eo21⟩ := Kd.R_slice HO_5.out
          subst eo21
          have hcz22_0 : wr.cell? ⟨gb196, 0, none⟩ = some (.string x197000_1) := (blk_cell BK196.out 0).trans rfl
          have hcz22_1 : wr.cell? ⟨gb196, 1, none⟩ = some (.int .i64 x197001_1) := (blk_cell BK196.out 1).trans rfl
          have hcz22_2 : wr.cell? ⟨gb196, 2, none⟩ = some (.string x197002_1) := (blk_cell BK196.out 2).trans rfl
          have hfz22_0 := blk_frozen BK196.out 0
          have hfz22_1 := blk_frozen BK196.out 1
          have hfz22_2 := blk_frozen BK196.out 2
          go_wp2
          refine bodyPost_ret (results_cell_row rfl _ _ gb196 40 #[.string a0, .int .i64 (-1), .string (⟨#[]⟩ : ByteArray)] (0, 0) _ rfl (by (with_reducible repeat (first | refine blk_drewN ?_ _ | refine blk_drew ?_ | refine blk_alloc ?_ _)); refine blk_put (cs := #[.string a0, .int .i64 (-1), .string x197002_1]) ?_ 2 _ rfl; (with_reducible repeat (first | refine blk_drewN ?_ _ | refine blk_drew ?_ | refine blk_alloc ?_ _)); refine blk_put (cs := #[.string a0, .int .i64 x197001_1, .string x197002_1]) ?_ 1 _ rfl; (with_reducible repeat (first | refine blk_drewN ?_ _ | refine blk_drew ?_ | refine blk_alloc ?_ _)); refine blk_put (cs := #[.string x197000_1, .int .i64 x197001_1, .string x197002_1]) ?_ 0 _ rfl; (with_reducible repeat (first | refine blk_drewN ?_ _ | refine blk_drew ?_ | refine blk_alloc ?_ _)); exact BK196.out) Try.underlying40 rfl (by kernel_rfl)) rfl ?_
          exact ⟨by first | rfl | (simp [errW_none, errW_some] <;> rfl) | (simp [*, errW_none, errW_some] <;> rfl), by repeat (first | (with_reducible first | exact HB.out | apply below_alloc | apply pw_below_drewN | apply below_drew1 | refine below_set ?_ GE196.out) | exact HB.out)⟩

end Go.Proofs.Ytlcanmndeempfaa.PAll
