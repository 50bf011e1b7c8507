/-
  NARROWER THAN 'FOR EVERY INPUT', by the rows' own cells (each row's printed sentence says how): FlowTells: laid · FlowBack: laid · FlowCut: laid · FlowFrames: laid · FlowBurst: laid · FlowParts: laid · FlowOther: laid.
  DERIVED. THE GIVEN ROWS OF THIS SEAT. 7 by the template 'for every input the law returns true; each argument reads behind the call as it read before'; 0 by the template 'total and deterministic' (their statements: YtknkncdlcoglpaaDoorTotals.lean).
  GIVEN WITH THE SEED: the statements are not yours to turn. If you find one false, say at which input.
  Laid BY PROGRAM, IN A SANDBOX (cutbox-rows.mjs): the forced cells as the released guide's own fill.sh prints them over the translation 39ed71f0c5ea373b… (all of the seat's roots in one cut). By AI agents, Wed Nov 11 2026. No macro, syntax, notation, axiom, sorry.
-/
import Derived.Test.YtknkncdlcoglpaaDoorChecked
import GoSem.Claim
import GoSem.ClaimJoined
import GoSem.ClaimMapViews
import Derived.JoinedTies
import Derived.KernelRfl
namespace Go.Proofs.YtknkncdlcoglpaaDoor
/- THE CELL 'sum', in the pinned program and in every row, IS THE sha256 OF THE DUMP (.gsa) THAT YtknkncdlcoglpaaDoorProg.lean LOADS. Nothing in Lean hashes anything: it is a label: what it is worth is what the hold of that sum in a sandbox is worth. -/
noncomputable def Tryd.pinned : Pinned := { name := "ytknkncdlcoglpaadoor", sum := "39ed71f0c5ea373bd9821c038a9ed929f350f3b67d5a017953ee7a3401bd0190", checked := Tryd.checked }
namespace Rows
def none {H : Type} : Left H := { results := [], args := [] }

/- WHAT THE LISTED PACKAGE-LEVEL VARIABLES READ AS WHEN THE CALL BEGINS. Each datum BY PROGRAM (the guide's laid-datum.mjs) off the statement by which the dump's own 'gosem.cut.vars' lays the variable. In a bare row this is a premise. The card (YtknkncdlcoglpaaDoorCards.lean) ties it to the program's text. -/
def laid_errors_errorType {H : Type} : DataW H := .iface "internal/reflectlite.rtype" (.agg [.ptr (.lit (.string [101, 114, 114, 111, 114]))])

/-- 'foliatelaw04.FlowTells': WHATEVER THE INPUT: true; the input reads as it did. -/
def flowTellsSpec : ChangeSpec := { name := "flowTells", fn := fun _ => fun
  | [d1, d2, d3] => { results := [.lit (.bool true)], args := [d1, d2, d3] }
  | _ => none }
def flowTellsRow : OpenClaim := { program := "ytknkncdlcoglpaadoor", sum := "39ed71f0c5ea373bd9821c038a9ed929f350f3b67d5a017953ee7a3401bd0190", func := "foliate/foliatelaw04.FlowTells", spec := "flowTells", inPlace := ["internal/reflectlite.ValueOf", "(internal/reflectlite.Value).Type", "(internal/reflectlite.Value).IsNil", "internal/reflectlite.TypeOf", "(internal/reflectlite.Value).Elem", "(internal/reflectlite.Value).Set"], unfollowed := true, recurses := true, named := ["errors.errorType"], apart := false, laid := [("errors.errorType", laid_errors_errorType)] }
def FlowTellsSaid : Prop := flowTellsRow.holds Tryd.pinned (OpenSpec.ofChange flowTellsSpec)

/-- ITS FALSE NEIGHBOUR: 'it returns false'. Refute it at one input. -/
def flowTellsWrong : ChangeSpec := { name := "flowTells", fn := fun _ => fun
  | [d1, d2, d3] => { results := [.lit (.bool false)], args := [d1, d2, d3] }
  | _ => none }
def FlowTellsWrongFalsely : Prop := flowTellsRow.holds Tryd.pinned (OpenSpec.ofChange flowTellsWrong)

/-- 'foliatelaw04.FlowBack': WHATEVER THE INPUT: true; the input reads as it did. -/
def flowBackSpec : ChangeSpec := { name := "flowBack", fn := fun _ => fun
  | [d1, d2] => { results := [.lit (.bool true)], args := [d1, d2] }
  | _ => none }
def flowBackRow : OpenClaim := { program := "ytknkncdlcoglpaadoor", sum := "39ed71f0c5ea373bd9821c038a9ed929f350f3b67d5a017953ee7a3401bd0190", func := "foliate/foliatelaw04.FlowBack", spec := "flowBack", inPlace := ["internal/reflectlite.ValueOf", "(internal/reflectlite.Value).Type", "(internal/reflectlite.Value).IsNil", "internal/reflectlite.TypeOf", "(internal/reflectlite.Value).Elem", "(internal/reflectlite.Value).Set"], unfollowed := true, recurses := true, named := ["errors.errorType"], apart := false, laid := [("errors.errorType", laid_errors_errorType)] }
def FlowBackSaid : Prop := flowBackRow.holds Tryd.pinned (OpenSpec.ofChange flowBackSpec)

/-- ITS FALSE NEIGHBOUR: 'it returns false'. Refute it at one input. -/
def flowBackWrong : ChangeSpec := { name := "flowBack", fn := fun _ => fun
  | [d1, d2] => { results := [.lit (.bool false)], args := [d1, d2] }
  | _ => none }
def FlowBackWrongFalsely : Prop := flowBackRow.holds Tryd.pinned (OpenSpec.ofChange flowBackWrong)

/-- 'foliatelaw04.FlowCut': WHATEVER THE INPUT: true; the input reads as it did. -/
def flowCutSpec : ChangeSpec := { name := "flowCut", fn := fun _ => fun
  | [d1, d2, d3] => { results := [.lit (.bool true)], args := [d1, d2, d3] }
  | _ => none }
def flowCutRow : OpenClaim := { program := "ytknkncdlcoglpaadoor", sum := "39ed71f0c5ea373bd9821c038a9ed929f350f3b67d5a017953ee7a3401bd0190", func := "foliate/foliatelaw04.FlowCut", spec := "flowCut", inPlace := ["internal/reflectlite.ValueOf", "(internal/reflectlite.Value).Type", "(internal/reflectlite.Value).IsNil", "internal/reflectlite.TypeOf", "(internal/reflectlite.Value).Elem", "(internal/reflectlite.Value).Set"], unfollowed := true, recurses := true, named := ["errors.errorType"], apart := false, laid := [("errors.errorType", laid_errors_errorType)] }
def FlowCutSaid : Prop := flowCutRow.holds Tryd.pinned (OpenSpec.ofChange flowCutSpec)

/-- ITS FALSE NEIGHBOUR: 'it returns false'. Refute it at one input. -/
def flowCutWrong : ChangeSpec := { name := "flowCut", fn := fun _ => fun
  | [d1, d2, d3] => { results := [.lit (.bool false)], args := [d1, d2, d3] }
  | _ => none }
def FlowCutWrongFalsely : Prop := flowCutRow.holds Tryd.pinned (OpenSpec.ofChange flowCutWrong)

/-- 'foliatelaw04.FlowFrames': WHATEVER THE INPUT: true; the input reads as it did. -/
def flowFramesSpec : ChangeSpec := { name := "flowFrames", fn := fun _ => fun
  | [d1, d2, d3] => { results := [.lit (.bool true)], args := [d1, d2, d3] }
  | _ => none }
def flowFramesRow : OpenClaim := { program := "ytknkncdlcoglpaadoor", sum := "39ed71f0c5ea373bd9821c038a9ed929f350f3b67d5a017953ee7a3401bd0190", func := "foliate/foliatelaw04.FlowFrames", spec := "flowFrames", inPlace := ["internal/reflectlite.ValueOf", "(internal/reflectlite.Value).Type", "(internal/reflectlite.Value).IsNil", "internal/reflectlite.TypeOf", "(internal/reflectlite.Value).Elem", "(internal/reflectlite.Value).Set"], unfollowed := true, recurses := true, named := ["errors.errorType"], apart := false, laid := [("errors.errorType", laid_errors_errorType)] }
def FlowFramesSaid : Prop := flowFramesRow.holds Tryd.pinned (OpenSpec.ofChange flowFramesSpec)

/-- ITS FALSE NEIGHBOUR: 'it returns false'. Refute it at one input. -/
def flowFramesWrong : ChangeSpec := { name := "flowFrames", fn := fun _ => fun
  | [d1, d2, d3] => { results := [.lit (.bool false)], args := [d1, d2, d3] }
  | _ => none }
def FlowFramesWrongFalsely : Prop := flowFramesRow.holds Tryd.pinned (OpenSpec.ofChange flowFramesWrong)

/-- 'foliatelaw04.FlowBurst': WHATEVER THE INPUT: true; the input reads as it did. -/
def flowBurstSpec : ChangeSpec := { name := "flowBurst", fn := fun _ => fun
  | [d1, d2, d3, d4] => { results := [.lit (.bool true)], args := [d1, d2, d3, d4] }
  | _ => none }
def flowBurstRow : OpenClaim := { program := "ytknkncdlcoglpaadoor", sum := "39ed71f0c5ea373bd9821c038a9ed929f350f3b67d5a017953ee7a3401bd0190", func := "foliate/foliatelaw04.FlowBurst", spec := "flowBurst", inPlace := ["internal/reflectlite.ValueOf", "(internal/reflectlite.Value).Type", "(internal/reflectlite.Value).IsNil", "internal/reflectlite.TypeOf", "(internal/reflectlite.Value).Elem", "(internal/reflectlite.Value).Set"], unfollowed := true, recurses := true, named := ["errors.errorType"], apart := false, laid := [("errors.errorType", laid_errors_errorType)] }
def FlowBurstSaid : Prop := flowBurstRow.holds Tryd.pinned (OpenSpec.ofChange flowBurstSpec)

/-- ITS FALSE NEIGHBOUR: 'it returns false'. Refute it at one input. -/
def flowBurstWrong : ChangeSpec := { name := "flowBurst", fn := fun _ => fun
  | [d1, d2, d3, d4] => { results := [.lit (.bool false)], args := [d1, d2, d3, d4] }
  | _ => none }
def FlowBurstWrongFalsely : Prop := flowBurstRow.holds Tryd.pinned (OpenSpec.ofChange flowBurstWrong)

/-- 'foliatelaw04.FlowParts': WHATEVER THE INPUT: true; the input reads as it did. -/
def flowPartsSpec : ChangeSpec := { name := "flowParts", fn := fun _ => fun
  | [d1, d2] => { results := [.lit (.bool true)], args := [d1, d2] }
  | _ => none }
def flowPartsRow : OpenClaim := { program := "ytknkncdlcoglpaadoor", sum := "39ed71f0c5ea373bd9821c038a9ed929f350f3b67d5a017953ee7a3401bd0190", func := "foliate/foliatelaw04.FlowParts", spec := "flowParts", inPlace := ["internal/reflectlite.ValueOf", "(internal/reflectlite.Value).Type", "(internal/reflectlite.Value).IsNil", "internal/reflectlite.TypeOf", "(internal/reflectlite.Value).Elem", "(internal/reflectlite.Value).Set"], unfollowed := true, recurses := true, named := ["errors.errorType"], apart := false, laid := [("errors.errorType", laid_errors_errorType)] }
def FlowPartsSaid : Prop := flowPartsRow.holds Tryd.pinned (OpenSpec.ofChange flowPartsSpec)

/-- ITS FALSE NEIGHBOUR: 'it returns false'. Refute it at one input. -/
def flowPartsWrong : ChangeSpec := { name := "flowParts", fn := fun _ => fun
  | [d1, d2] => { results := [.lit (.bool false)], args := [d1, d2] }
  | _ => none }
def FlowPartsWrongFalsely : Prop := flowPartsRow.holds Tryd.pinned (OpenSpec.ofChange flowPartsWrong)

/-- 'foliatelaw04.FlowOther': WHATEVER THE INPUT: true; the input reads as it did. -/
def flowOtherSpec : ChangeSpec := { name := "flowOther", fn := fun _ => fun
  | [d1, d2, d3] => { results := [.lit (.bool true)], args := [d1, d2, d3] }
  | _ => none }
def flowOtherRow : OpenClaim := { program := "ytknkncdlcoglpaadoor", sum := "39ed71f0c5ea373bd9821c038a9ed929f350f3b67d5a017953ee7a3401bd0190", func := "foliate/foliatelaw04.FlowOther", spec := "flowOther", inPlace := ["internal/reflectlite.ValueOf", "(internal/reflectlite.Value).Type", "(internal/reflectlite.Value).IsNil", "internal/reflectlite.TypeOf", "(internal/reflectlite.Value).Elem", "(internal/reflectlite.Value).Set"], unfollowed := true, recurses := true, named := ["errors.errorType"], apart := false, laid := [("errors.errorType", laid_errors_errorType)] }
def FlowOtherSaid : Prop := flowOtherRow.holds Tryd.pinned (OpenSpec.ofChange flowOtherSpec)

/-- ITS FALSE NEIGHBOUR: 'it returns false'. Refute it at one input. -/
def flowOtherWrong : ChangeSpec := { name := "flowOther", fn := fun _ => fun
  | [d1, d2, d3] => { results := [.lit (.bool false)], args := [d1, d2, d3] }
  | _ => none }
def FlowOtherWrongFalsely : Prop := flowOtherRow.holds Tryd.pinned (OpenSpec.ofChange flowOtherWrong)

/- THE SECOND FORM. 'bulk': how many values and letters a reading holds, each counted each time it is reached (what is shared counts as often as it is met; a slice's spare places count too). A statement '..UptoSaid' is the law's where the arguments, and the package variables that the reading takes, are together of bulk at most 1048576: NARROWER than '..Said'. Prove '..Said' where nothing that the law and all that it calls make is longer than what came in: it says more and counts as full. Else prove '..UptoSaid'. A law counts once. -/
mutual
def uptoBulk {H : Type} : DataW H → Nat
  | .lit (.string bytes) => bytes.length + 1
  | .lit _ => 1
  | .nil => 1
  | .ptr d => uptoBulk d + 1
  | .slice elems spare => uptoBulkAll elems + uptoBulkAll spare + 1
  | .agg parts => uptoBulkAll parts + 1
  | .iface _ d => uptoBulk d + 1
  | .map entries => uptoBulkEntries entries + 1
  | .held _ => 1
def uptoBulkAll {H : Type} : List (DataW H) → Nat
  | [] => 0
  | d :: r => uptoBulk d + uptoBulkAll r
def uptoBulkEntries {H : Type} : List (Lit × DataW H) → Nat
  | [] => 0
  | x :: r => uptoBulkEntry x + uptoBulkEntries r
def uptoBulkEntry {H : Type} : Lit × DataW H → Nat
  | (.string bytes, d) => bytes.length + uptoBulk d + 1
  | (_, d) => uptoBulk d + 1
 end
def uptoSmall : (H : Type) → List (DataW H) → Bool := fun _ ds => decide (uptoBulkAll ds ≤ 1048576)
def OpenSpec.upto (s : _root_.Go.ChangeSpec) : _root_.Go.OpenSpec := { _root_.Go.OpenSpec.ofChange s with cond := some uptoSmall }

/-- 'foliatelaw04.FlowTells', WHERE WHAT IT READS IS OF BULK AT MOST 1048576: true; the input reads as it did. -/
def flowTellsUptoRow : OpenClaim := { program := "ytknkncdlcoglpaadoor", sum := "39ed71f0c5ea373bd9821c038a9ed929f350f3b67d5a017953ee7a3401bd0190", func := "foliate/foliatelaw04.FlowTells", spec := "flowTells", inPlace := ["internal/reflectlite.ValueOf", "(internal/reflectlite.Value).Type", "(internal/reflectlite.Value).IsNil", "internal/reflectlite.TypeOf", "(internal/reflectlite.Value).Elem", "(internal/reflectlite.Value).Set"], unfollowed := true, recurses := true, named := ["errors.errorType"], apart := false, laid := [("errors.errorType", laid_errors_errorType)], narrowed := true }
def FlowTellsUptoSaid : Prop := flowTellsUptoRow.holds Tryd.pinned (OpenSpec.upto flowTellsSpec)

/-- 'foliatelaw04.FlowBack', WHERE WHAT IT READS IS OF BULK AT MOST 1048576: true; the input reads as it did. -/
def flowBackUptoRow : OpenClaim := { program := "ytknkncdlcoglpaadoor", sum := "39ed71f0c5ea373bd9821c038a9ed929f350f3b67d5a017953ee7a3401bd0190", func := "foliate/foliatelaw04.FlowBack", spec := "flowBack", inPlace := ["internal/reflectlite.ValueOf", "(internal/reflectlite.Value).Type", "(internal/reflectlite.Value).IsNil", "internal/reflectlite.TypeOf", "(internal/reflectlite.Value).Elem", "(internal/reflectlite.Value).Set"], unfollowed := true, recurses := true, named := ["errors.errorType"], apart := false, laid := [("errors.errorType", laid_errors_errorType)], narrowed := true }
def FlowBackUptoSaid : Prop := flowBackUptoRow.holds Tryd.pinned (OpenSpec.upto flowBackSpec)

/-- 'foliatelaw04.FlowCut', WHERE WHAT IT READS IS OF BULK AT MOST 1048576: true; the input reads as it did. -/
def flowCutUptoRow : OpenClaim := { program := "ytknkncdlcoglpaadoor", sum := "39ed71f0c5ea373bd9821c038a9ed929f350f3b67d5a017953ee7a3401bd0190", func := "foliate/foliatelaw04.FlowCut", spec := "flowCut", inPlace := ["internal/reflectlite.ValueOf", "(internal/reflectlite.Value).Type", "(internal/reflectlite.Value).IsNil", "internal/reflectlite.TypeOf", "(internal/reflectlite.Value).Elem", "(internal/reflectlite.Value).Set"], unfollowed := true, recurses := true, named := ["errors.errorType"], apart := false, laid := [("errors.errorType", laid_errors_errorType)], narrowed := true }
def FlowCutUptoSaid : Prop := flowCutUptoRow.holds Tryd.pinned (OpenSpec.upto flowCutSpec)

/-- 'foliatelaw04.FlowFrames', WHERE WHAT IT READS IS OF BULK AT MOST 1048576: true; the input reads as it did. -/
def flowFramesUptoRow : OpenClaim := { program := "ytknkncdlcoglpaadoor", sum := "39ed71f0c5ea373bd9821c038a9ed929f350f3b67d5a017953ee7a3401bd0190", func := "foliate/foliatelaw04.FlowFrames", spec := "flowFrames", inPlace := ["internal/reflectlite.ValueOf", "(internal/reflectlite.Value).Type", "(internal/reflectlite.Value).IsNil", "internal/reflectlite.TypeOf", "(internal/reflectlite.Value).Elem", "(internal/reflectlite.Value).Set"], unfollowed := true, recurses := true, named := ["errors.errorType"], apart := false, laid := [("errors.errorType", laid_errors_errorType)], narrowed := true }
def FlowFramesUptoSaid : Prop := flowFramesUptoRow.holds Tryd.pinned (OpenSpec.upto flowFramesSpec)

/-- 'foliatelaw04.FlowBurst', WHERE WHAT IT READS IS OF BULK AT MOST 1048576: true; the input reads as it did. -/
def flowBurstUptoRow : OpenClaim := { program := "ytknkncdlcoglpaadoor", sum := "39ed71f0c5ea373bd9821c038a9ed929f350f3b67d5a017953ee7a3401bd0190", func := "foliate/foliatelaw04.FlowBurst", spec := "flowBurst", inPlace := ["internal/reflectlite.ValueOf", "(internal/reflectlite.Value).Type", "(internal/reflectlite.Value).IsNil", "internal/reflectlite.TypeOf", "(internal/reflectlite.Value).Elem", "(internal/reflectlite.Value).Set"], unfollowed := true, recurses := true, named := ["errors.errorType"], apart := false, laid := [("errors.errorType", laid_errors_errorType)], narrowed := true }
def FlowBurstUptoSaid : Prop := flowBurstUptoRow.holds Tryd.pinned (OpenSpec.upto flowBurstSpec)

/-- 'foliatelaw04.FlowParts', WHERE WHAT IT READS IS OF BULK AT MOST 1048576: true; the input reads as it did. -/
def flowPartsUptoRow : OpenClaim := { program := "ytknkncdlcoglpaadoor", sum := "39ed71f0c5ea373bd9821c038a9ed929f350f3b67d5a017953ee7a3401bd0190", func := "foliate/foliatelaw04.FlowParts", spec := "flowParts", inPlace := ["internal/reflectlite.ValueOf", "(internal/reflectlite.Value).Type", "(internal/reflectlite.Value).IsNil", "internal/reflectlite.TypeOf", "(internal/reflectlite.Value).Elem", "(internal/reflectlite.Value).Set"], unfollowed := true, recurses := true, named := ["errors.errorType"], apart := false, laid := [("errors.errorType", laid_errors_errorType)], narrowed := true }
def FlowPartsUptoSaid : Prop := flowPartsUptoRow.holds Tryd.pinned (OpenSpec.upto flowPartsSpec)

/-- 'foliatelaw04.FlowOther', WHERE WHAT IT READS IS OF BULK AT MOST 1048576: true; the input reads as it did. -/
def flowOtherUptoRow : OpenClaim := { program := "ytknkncdlcoglpaadoor", sum := "39ed71f0c5ea373bd9821c038a9ed929f350f3b67d5a017953ee7a3401bd0190", func := "foliate/foliatelaw04.FlowOther", spec := "flowOther", inPlace := ["internal/reflectlite.ValueOf", "(internal/reflectlite.Value).Type", "(internal/reflectlite.Value).IsNil", "internal/reflectlite.TypeOf", "(internal/reflectlite.Value).Elem", "(internal/reflectlite.Value).Set"], unfollowed := true, recurses := true, named := ["errors.errorType"], apart := false, laid := [("errors.errorType", laid_errors_errorType)], narrowed := true }
def FlowOtherUptoSaid : Prop := flowOtherUptoRow.holds Tryd.pinned (OpenSpec.upto flowOtherSpec)

end Rows
end Go.Proofs.YtknkncdlcoglpaaDoor
