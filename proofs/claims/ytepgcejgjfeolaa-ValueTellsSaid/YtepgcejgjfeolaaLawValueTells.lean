-- Written by wip/tools/lawst.py, a program of the prover's own, after the kit's printed rows.
import Derived.Test.YtepgcejgjfeolaaRows
import Derived.Test.YtepgcejgjfeolaaPTlx14
import Derived.Test.YtepgcejgjfeolaaPureValueTells
import Derived.Test.YtepgcejgjfeolaaTlBytesRow
import Derived.WalkKit
import Derived.ProofKit
import Derived.OpenShut
import Derived.ShutString
import Derived.ChangeOld
import Derived.Below
import Derived.SizedLaws
import Derived.Lib.SmallJoins
import Derived.ChangeArms
namespace Go.Proofs.Ytepgcejgjfeolaa.valueTells
open Go.ChangeShapes Go.WideShapes Go.ChangeAt Go.RowKit Go.Joins
open Go.ChangeMaps (open_string shut_string)
set_option linter.unusedVariables false
theorem own : ownKnob Try.prog.godebug = none := by kernel_rfl
theorem laidOut : laidOutB Try.prog = true := by kernel_rfl
theorem cells23 : Try.prog.cellsOf 23 = 3 := by kernel_rfl
theorem cells25 : Try.prog.cellsOf 25 = 3 := by kernel_rfl
set_option maxRecDepth 100000 in
theorem lifted (os : Os) (started : os.Started) (H : Type) (enc : TypeId × Value → H) :
    ReturnsInHanded {} Try.checked os 3 .any (Rows.valueTellsSpec.pre6 enc Try.prog Try.f3 Rows.valueTellsRow.domain false) (Rows.valueTellsSpec.post enc Try.prog Try.f3 false true false false) := by
  refine returnsInHanded_of_change_sized (C := Try.checked) own started (by kernel_rfl) Try.func3
    (ChangeSpec.witness6 (enc := enc) (C := Try.checked) false ⟨#[], #[.agg #[.string ByteArray.empty, .int .i64 0, .string ByteArray.empty], .agg #[.int .i64 0, .string ByteArray.empty, .int .i64 0], .slice none 0 0], []⟩ 8 (by kernel_rfl) (by kernel_rfl) (by kernel_rfl) (by kernel_rfl)) ?_
  intro W base args ds gs before hval0 hW hcnd hsz0 _
  have hval : ∀ (j : Nat) t v, Try.f3.params[j]? = some t → args[j]? = some v → Value.okWide Try.prog W .any base t v := hval0
  have hW' := hW
  obtain ⟨p, q, hA0, hV, rfl, hfz, hnd⟩ := hW
  have hA : DataW.TrodAll enc Try.prog W 0 (fun _ => true) true Try.f3.params.toList args.toList ds p := hA0
  rw [Try.params3] at hA hval
  obtain ⟨v0, vs0, d0, ds0, p0, q0, hargs, rfl, rfl, h0, r0⟩ := trodAll_cons hA
  obtain ⟨v1, vs1, d1, ds1, p1, q1, rfl, rfl, rfl, h1, r1⟩ := trodAll_cons r0
  obtain ⟨v2, vs2, d2, ds2, p2, q2, rfl, rfl, rfl, h2, r2⟩ := trodAll_cons r1
  obtain ⟨rfl, rfl, rfl⟩ := trodAll_nil r2
  obtain rfl : args = #[v0, v1, v2] := by cases args; simp_all
  obtain ⟨rfl, rfl⟩ := trodVars_none hV
  obtain ⟨c0_0, c0_1, c0_2, z0_0, z0_1, z0_2, m0, rfl, rfl, rfl, x0_0, x0_1, x0_2⟩ := open_agg3 Try.underlying23 (by kernel_rfl) cells23 (hval 0 23 v0 rfl rfl) h0
  obtain ⟨a0_0, e0_0, rfl, w0_0⟩ := DataW.trod_string Try.underlying9 x0_0
  obtain rfl : c0_0 = .string a0_0 := by simpa using e0_0
  obtain ⟨a0_1, e0_1, rfl, w0_1⟩ := DataW.trod_int Try.underlying3 x0_1
  obtain rfl : c0_1 = .int .i64 a0_1 := by simpa using e0_1
  obtain ⟨a0_2, e0_2, rfl, w0_2⟩ := DataW.trod_string Try.underlying9 x0_2
  obtain rfl : c0_2 = .string a0_2 := by simpa using e0_2
  obtain ⟨c1_0, c1_1, c1_2, z1_0, z1_1, z1_2, m1, rfl, rfl, rfl, x1_0, x1_1, x1_2⟩ := open_agg3 Try.underlying25 (by kernel_rfl) cells25 (hval 1 25 v1 rfl rfl) h1
  obtain ⟨a1_0, e1_0, rfl, w1_0⟩ := DataW.trod_int Try.underlying3 x1_0
  obtain rfl : c1_0 = .int .i64 a1_0 := by simpa using e1_0
  obtain ⟨a1_1, e1_1, rfl, w1_1⟩ := DataW.trod_string Try.underlying9 x1_1
  obtain rfl : c1_1 = .string a1_1 := by simpa using e1_1
  obtain ⟨a1_2, e1_2, rfl, w1_2⟩ := DataW.trod_int Try.underlying3 x1_2
  obtain rfl : c1_2 = .int .i64 a1_2 := by simpa using e1_2
  have k2 := h2
  have lt2 : ∀ x ∈ p2, x.block < W.heap.size := by obtain ⟨m, hm⟩ := k2; exact DataW.trod_lt m _ _ _ hm
  obtain ⟨A2, l2, c2, rfl, hc2, hr2, hw2⟩ := TlBytesRow.bytes_arg (hval 2 26 v2 rfl rfl) h2
  clear hA0 hval0 hsz0
  obtain ⟨k, hk⟩ := Pure.ValueTells a0_0 a0_1 a0_2 w0_1 a1_0 a1_1 a1_2 w1_0 w1_2 l2 hw2
  refine (PTl.foliatelaw07_ValueTells.calls k a0_0 a0_1 a0_2 a1_0 a1_1 a1_2 A2 c2 l2 true W hr2 hc2 hk).mono fun e W' ⟨he, bel⟩ => ?_
  subst he
  exact ⟨_, rfl, _, _, _, [], _, [], hW', trodAll_mk1 (shut_bool Try.underlying4 _), (trodAll_cons_mk (shut_agg3 Try.underlying23 (by kernel_rfl) cells23 (shut_string Try.underlying9 w0_0) (shut_int Try.underlying3 w0_1) (shut_string Try.underlying9 w0_2)) (trodAll_cons_mk (shut_agg3 Try.underlying25 (by kernel_rfl) cells25 (shut_int Try.underlying3 w1_0) (shut_string Try.underlying9 w1_1) (shut_int Try.underlying3 w1_2)) (trodAll_cons_mk (Below.trod laidOut (by kernel_rfl) (of_decide_eq_true (by kernel_rfl)) k2 bel lt2) trodAll_mk0))), rfl, bel.frame _, fun h => by cases h⟩
theorem over : Rows.valueTellsRow.holds Try.pinned (OpenSpec.ofChange Rows.valueTellsSpec) :=
  OpenClaim.holds_of_wide 3 Try.f3 rfl rfl rfl rfl rfl rfl rfl ⟨rfl, rfl, rfl, rfl, rfl⟩ rfl rfl rfl rfl rfl (by kernel_rfl) Try.func3 (by kernel_rfl)
    (of_decide_eq_true (by kernel_rfl)) (by unfold Func.isWrapper; first | (rw [if_pos (by decide +kernel)]; kernel_rfl) | (rw [if_neg (by decide +kernel)]; exact ⟨rfl, rfl⟩))
    (fun os started H enc _ => lifted os started H enc)
theorem proved : Rows.ValueTellsSaid := over
#print axioms proved
end Go.Proofs.Ytepgcejgjfeolaa.valueTells
namespace Go.Proofs.Ytepgcejgjfeolaa
/-- The row, under a short name, for the claim. -/
theorem valueTells_holds : Rows.ValueTellsSaid := valueTells.proved
end Go.Proofs.Ytepgcejgjfeolaa
