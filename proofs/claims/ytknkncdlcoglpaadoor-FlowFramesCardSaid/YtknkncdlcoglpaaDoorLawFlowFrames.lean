-- Written by wip/tools/lawfl.py, a program of the prover's own, after the kit's printed rows and its example of a laid row.
import Derived.Test.YtknkncdlcoglpaaDoorRows
import Derived.Test.YtknkncdlcoglpaaDoorPFrx8
import Derived.Test.YtknkncdlcoglpaaDoorPureFlowFrames
import Derived.Test.YtknkncdlcoglpaaDoorFrFlowRow
import Derived.Test.YtknkncdlcoglpaaDoorCards
import Derived.Test.YtknkncdlcoglpaaDoorTie
import Derived.SevenTiedAt
import Derived.WalkKit
import Derived.ProofKit
import Derived.OpenShut
import Derived.ShutString
import Derived.ChangeOld
import Derived.Below
import Derived.SizedLaws
import Derived.ChangeArms
import Derived.ChangeSame
import Derived.ChangeVars
import Derived.JoinedOf
import Derived.RowKit
import Derived.RowKitTokens
import Derived.LaidLaws
import Derived.LaidHandle
import Derived.Stop.Joined
namespace Go.Proofs.YtknkncdlcoglpaaDoor.flowFrames
open Go.ChangeShapes Go.WideShapes Go.ChangeAt Go.RowKit
open Go.ChangeMaps (open_string shut_string)
set_option linter.unusedVariables false
theorem own : ownKnob Tryd.prog.godebug = none := by kernel_rfl
theorem laidOut : laidOutB Tryd.prog = true := by kernel_rfl
set_option maxRecDepth 100000 in
theorem lifted (os : Os) (started : os.Started) (H : Type) (enc : TypeId × Value → H) :
    ReturnsInHanded {} Tryd.checked os 6 .any (fun w args => (Rows.flowFramesSpec.pre enc Tryd.prog Tryd.f6 [] false w args ∧ laidMetH Tryd.prog Rows.flowFramesRow.laid w) ∧ sizedMet enc Tryd.prog Tryd.f6 (OpenSpec.ofChange Rows.flowFramesSpec) false w args) (Rows.flowFramesSpec.post enc Tryd.prog Tryd.f6 false true false false) := by
  refine returnsInHanded_of_change_and (C := Tryd.checked) (X := fun w _ => laidMetH Tryd.prog Rows.flowFramesRow.laid w) (fun _ _ _ hh h => h.of_heap hh) own started (by kernel_rfl) Tryd.func6
    (ChangeSpec.witness_at (enc := enc) (C := Tryd.checked) (os := os) (X := fun w _ => laidMetH Tryd.prog Rows.flowFramesRow.laid w) false (FrFlowRow.laidWorld os) #[.agg #[.int .u32 0, .slice none 0 0], .int .i64 0, .int .i64 0] 8 rfl (by kernel_rfl) (by kernel_rfl) (by kernel_rfl) (by kernel_rfl) (by kernel_rfl) (FrFlowRow.laidWorld_met os _)) ?_
  intro W base args ds gs before hval0 hW hcnd hsz0 hL _
  have hval : ∀ (j : Nat) t v, Tryd.f6.params[j]? = some t → args[j]? = some v → Value.okWide Tryd.prog W .any base t v := hval0
  have hW' := hW
  obtain ⟨p, q, hA0, hV, rfl, hfz, hnd⟩ := hW
  have hA : DataW.TrodAll enc Tryd.prog W 0 (fun _ => true) true Tryd.f6.params.toList args.toList ds p := hA0
  rw [Tryd.params6] at hA hval
  obtain ⟨v0, vs0, d0, ds0, p0, q0, hargs, rfl, rfl, h0, r0⟩ := trodAll_cons hA
  obtain ⟨v1, vs1, d1, ds1, p1, q1, rfl, rfl, rfl, h1, r1⟩ := trodAll_cons r0
  obtain ⟨v2, vs2, d2, ds2, p2, q2, rfl, rfl, rfl, h2, r2⟩ := trodAll_cons r1
  obtain ⟨rfl, rfl, rfl⟩ := trodAll_nil r2
  obtain rfl : args = #[v0, v1, v2] := by cases args; simp_all
  obtain ⟨rfl, rfl⟩ := trodVars_none hV
  have k0 := h0
  have lt0 : ∀ x ∈ p0, x.block < W.heap.size := by obtain ⟨m, hm⟩ := k0; exact DataW.trod_lt m _ _ _ hm
  obtain ⟨a0, A0, l0, c0, rfl, hc0, hr0, wa0, hw0⟩ := FrFlowRow.flow_arg (hval 0 25 v0 rfl rfl) h0
  obtain ⟨a1, rfl, rfl, rfl, w1⟩ := open_int Tryd.underlying3 (hval 1 3 v1 rfl rfl) h1
  obtain ⟨a2, rfl, rfl, rfl, w2⟩ := open_int Tryd.underlying3 (hval 2 3 v2 rfl rfl) h2
  clear hA0 hval0 hsz0
  obtain ⟨k, hk⟩ := Pure.FlowFrames a0 l0 wa0 hw0 a1 a2
  refine (PFr.foliatelaw04_FlowFrames.calls k a0 A0 c0 l0 a1 a2 true W hr0 hc0 hk (FrFlowRow.errT_of hL)).mono fun e W' ⟨he, bel⟩ => ?_
  subst he
  exact ⟨_, rfl, _, _, _, [], _, [], hW', trodAll_mk1 (shut_bool Tryd.underlying4 _), (trodAll_cons_mk (Below.trod laidOut (by kernel_rfl) (of_decide_eq_true (by kernel_rfl)) k0 bel lt0) (trodAll_cons_mk (shut_int Tryd.underlying3 w1) (trodAll_cons_mk (shut_int Tryd.underlying3 w2) trodAll_mk0))), rfl, bel.frame _, fun h => by cases h⟩
theorem over : Rows.flowFramesRow.holds Tryd.pinned (OpenSpec.ofChange Rows.flowFramesSpec) :=
  OpenClaim.holds_of_wide 6 Tryd.f6 rfl rfl rfl rfl rfl rfl rfl ⟨rfl, rfl, rfl, rfl, rfl⟩ rfl rfl rfl rfl rfl (by kernel_rfl) Tryd.func6 (by kernel_rfl)
    (of_decide_eq_true (by kernel_rfl)) (by unfold Func.isWrapper; first | (rw [if_pos (by decide +kernel)]; kernel_rfl) | (rw [if_neg (by decide +kernel)]; exact ⟨rfl, rfl⟩))
    (fun os started H enc _ => lifted os started H enc)
theorem proved : Rows.flowFramesRow.holds Tryd.pinned (OpenSpec.ofChange Rows.flowFramesSpec) := over
theorem params_plain : ∀ (j : Nat) (t : Nat), Tryd.f6.params[j]? = some t → Tryd.prog.wantsStandIn t = false := by
  intro j t ht
  rw [Tryd.params6] at ht
  rcases j with _ | j
  · obtain rfl : t = 25 := by simpa using ht.symm
    kernel_rfl
  rcases j with _ | j
  · obtain rfl : t = 3 := by simpa using ht.symm
    kernel_rfl
  rcases j with _ | j
  · obtain rfl : t = 3 := by simpa using ht.symm
    kernel_rfl
  · simp at ht
set_option maxRecDepth 100000 in
theorem card : Rows.FlowFramesCardSaid :=
  Claim7.holds_tied_plain_at .later [] [.handle] true (true, "3ea8961730056377d0facc4d15f885ccac1e93b0cfdde8d53a4fb8baaed2d1db") true
    proved (fun _ h => by cases h) (by kernel_rfl) (fun _ h => by cases h) flowFrames_row_tie rfl ⟨rfl, rfl⟩ (by kernel_rfl) rfl
    (fun f fn hf hfn => by
      obtain rfl : f = 6 := Option.some.inj ((show Tryd.prog.funcNamed "foliate/foliatelaw04.FlowFrames" = some 6 by kernel_rfl).symm.trans hf) |>.symm
      obtain rfl : fn = Tryd.f6 := (Option.some.inj (Tryd.func6.symm.trans hfn)).symm
      exact ⟨by kernel_rfl, params_plain⟩)
    (by kernel_rfl)
#print axioms card
end Go.Proofs.YtknkncdlcoglpaaDoor.flowFrames
namespace Go.Proofs.YtknkncdlcoglpaaDoor
/-- The tied card, under a short name, for the claim. -/
theorem flowFrames_holds : Rows.FlowFramesCardSaid := flowFrames.card
end Go.Proofs.YtknkncdlcoglpaaDoor
