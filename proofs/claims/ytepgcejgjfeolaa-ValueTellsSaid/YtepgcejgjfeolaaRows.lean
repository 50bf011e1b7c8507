/-
  No cell of these rows narrows 'for every input' (looked for: loops, veiled, ifaces, maps, wideKeys, modest, calm, conditions, laid).
  DERIVED. THE GIVEN ROWS OF THIS SEAT. 7 by the template 'for every input the law returns true; each argument reads behind the call as it read before'; 0 by the template 'total and deterministic' (their statements: YtepgcejgjfeolaaTotals.lean).
  GIVEN WITH THE SEED: the statements are not yours to turn. If you find one false, say at which input.
  Laid BY PROGRAM, IN A SANDBOX (cutbox-rows.mjs): the forced cells as the released guide's own fill.sh prints them over the translation e2ae0beadcb43b4d… (all of the seat's roots in one cut). By AI agents, Wed Nov 11 2026. No macro, syntax, notation, axiom, sorry.
-/
import Derived.Test.YtepgcejgjfeolaaChecked
import GoSem.Claim
import GoSem.ClaimJoined
import GoSem.ClaimMapViews
import Derived.JoinedTies
import Derived.KernelRfl
namespace Go.Proofs.Ytepgcejgjfeolaa
/- THE CELL 'sum', in the pinned program and in every row, IS THE sha256 OF THE DUMP (.gsa) THAT YtepgcejgjfeolaaProg.lean LOADS. Nothing in Lean hashes anything: it is a label: what it is worth is what the hold of that sum in a sandbox is worth. -/
noncomputable def Try.pinned : Pinned := { name := "ytepgcejgjfeolaa", sum := "e2ae0beadcb43b4d88e9905bda160c003774ea89d920f70e09447d5c527e34b2", checked := Try.checked }
namespace Rows
def none {H : Type} : Left H := { results := [], args := [] }

/-- 'foliatelaw07.ValueTells': WHATEVER THE INPUT: true; the input reads as it did. -/
def valueTellsSpec : ChangeSpec := { name := "valueTells", fn := fun _ => fun
  | [d1, d2, d3] => { results := [.lit (.bool true)], args := [d1, d2, d3] }
  | _ => none }
def valueTellsRow : OpenClaim := { program := "ytepgcejgjfeolaa", sum := "e2ae0beadcb43b4d88e9905bda160c003774ea89d920f70e09447d5c527e34b2", func := "foliate/foliatelaw07.ValueTells", spec := "valueTells", apart := false }
def ValueTellsSaid : Prop := valueTellsRow.holds Try.pinned (OpenSpec.ofChange valueTellsSpec)

/-- ITS FALSE NEIGHBOUR: 'it returns false'. Refute it at one input. -/
def valueTellsWrong : ChangeSpec := { name := "valueTells", fn := fun _ => fun
  | [d1, d2, d3] => { results := [.lit (.bool false)], args := [d1, d2, d3] }
  | _ => none }
def ValueTellsWrongFalsely : Prop := valueTellsRow.holds Try.pinned (OpenSpec.ofChange valueTellsWrong)

/-- 'foliatelaw07.ValueBack': WHATEVER THE INPUT: true; the input reads as it did. -/
def valueBackSpec : ChangeSpec := { name := "valueBack", fn := fun _ => fun
  | [d1, d2, d3] => { results := [.lit (.bool true)], args := [d1, d2, d3] }
  | _ => none }
def valueBackRow : OpenClaim := { program := "ytepgcejgjfeolaa", sum := "e2ae0beadcb43b4d88e9905bda160c003774ea89d920f70e09447d5c527e34b2", func := "foliate/foliatelaw07.ValueBack", spec := "valueBack", apart := false }
def ValueBackSaid : Prop := valueBackRow.holds Try.pinned (OpenSpec.ofChange valueBackSpec)

/-- ITS FALSE NEIGHBOUR: 'it returns false'. Refute it at one input. -/
def valueBackWrong : ChangeSpec := { name := "valueBack", fn := fun _ => fun
  | [d1, d2, d3] => { results := [.lit (.bool false)], args := [d1, d2, d3] }
  | _ => none }
def ValueBackWrongFalsely : Prop := valueBackRow.holds Try.pinned (OpenSpec.ofChange valueBackWrong)

/-- 'foliatelaw07.ValueWide': WHATEVER THE INPUT: true; the input reads as it did. -/
def valueWideSpec : ChangeSpec := { name := "valueWide", fn := fun _ => fun
  | [d1, d2, d3] => { results := [.lit (.bool true)], args := [d1, d2, d3] }
  | _ => none }
def valueWideRow : OpenClaim := { program := "ytepgcejgjfeolaa", sum := "e2ae0beadcb43b4d88e9905bda160c003774ea89d920f70e09447d5c527e34b2", func := "foliate/foliatelaw07.ValueWide", spec := "valueWide", apart := false }
def ValueWideSaid : Prop := valueWideRow.holds Try.pinned (OpenSpec.ofChange valueWideSpec)

/-- ITS FALSE NEIGHBOUR: 'it returns false'. Refute it at one input. -/
def valueWideWrong : ChangeSpec := { name := "valueWide", fn := fun _ => fun
  | [d1, d2, d3] => { results := [.lit (.bool false)], args := [d1, d2, d3] }
  | _ => none }
def ValueWideWrongFalsely : Prop := valueWideRow.holds Try.pinned (OpenSpec.ofChange valueWideWrong)

/-- 'foliatelaw07.ValueZero': WHATEVER THE INPUT: true; the input reads as it did. -/
def valueZeroSpec : ChangeSpec := { name := "valueZero", fn := fun _ => fun
  | [d1, d2, d3, d4] => { results := [.lit (.bool true)], args := [d1, d2, d3, d4] }
  | _ => none }
def valueZeroRow : OpenClaim := { program := "ytepgcejgjfeolaa", sum := "e2ae0beadcb43b4d88e9905bda160c003774ea89d920f70e09447d5c527e34b2", func := "foliate/foliatelaw07.ValueZero", spec := "valueZero", apart := false }
def ValueZeroSaid : Prop := valueZeroRow.holds Try.pinned (OpenSpec.ofChange valueZeroSpec)

/-- ITS FALSE NEIGHBOUR: 'it returns false'. Refute it at one input. -/
def valueZeroWrong : ChangeSpec := { name := "valueZero", fn := fun _ => fun
  | [d1, d2, d3, d4] => { results := [.lit (.bool false)], args := [d1, d2, d3, d4] }
  | _ => none }
def ValueZeroWrongFalsely : Prop := valueZeroRow.holds Try.pinned (OpenSpec.ofChange valueZeroWrong)

/-- 'foliatelaw07.ValueCut': WHATEVER THE INPUT: true; the input reads as it did. -/
def valueCutSpec : ChangeSpec := { name := "valueCut", fn := fun _ => fun
  | [d1, d2, d3] => { results := [.lit (.bool true)], args := [d1, d2, d3] }
  | _ => none }
def valueCutRow : OpenClaim := { program := "ytepgcejgjfeolaa", sum := "e2ae0beadcb43b4d88e9905bda160c003774ea89d920f70e09447d5c527e34b2", func := "foliate/foliatelaw07.ValueCut", spec := "valueCut", apart := false }
def ValueCutSaid : Prop := valueCutRow.holds Try.pinned (OpenSpec.ofChange valueCutSpec)

/-- ITS FALSE NEIGHBOUR: 'it returns false'. Refute it at one input. -/
def valueCutWrong : ChangeSpec := { name := "valueCut", fn := fun _ => fun
  | [d1, d2, d3] => { results := [.lit (.bool false)], args := [d1, d2, d3] }
  | _ => none }
def ValueCutWrongFalsely : Prop := valueCutRow.holds Try.pinned (OpenSpec.ofChange valueCutWrong)

/-- 'foliatelaw07.ValueApart': WHATEVER THE INPUT: true; the input reads as it did. -/
def valueApartSpec : ChangeSpec := { name := "valueApart", fn := fun _ => fun
  | [d1, d2, d3] => { results := [.lit (.bool true)], args := [d1, d2, d3] }
  | _ => none }
def valueApartRow : OpenClaim := { program := "ytepgcejgjfeolaa", sum := "e2ae0beadcb43b4d88e9905bda160c003774ea89d920f70e09447d5c527e34b2", func := "foliate/foliatelaw07.ValueApart", spec := "valueApart", apart := false }
def ValueApartSaid : Prop := valueApartRow.holds Try.pinned (OpenSpec.ofChange valueApartSpec)

/-- ITS FALSE NEIGHBOUR: 'it returns false'. Refute it at one input. -/
def valueApartWrong : ChangeSpec := { name := "valueApart", fn := fun _ => fun
  | [d1, d2, d3] => { results := [.lit (.bool false)], args := [d1, d2, d3] }
  | _ => none }
def ValueApartWrongFalsely : Prop := valueApartRow.holds Try.pinned (OpenSpec.ofChange valueApartWrong)

/-- 'foliatelaw07.ValueEnds': WHATEVER THE INPUT: true; the input reads as it did. -/
def valueEndsSpec : ChangeSpec := { name := "valueEnds", fn := fun _ => fun
  | [d1, d2] => { results := [.lit (.bool true)], args := [d1, d2] }
  | _ => none }
def valueEndsRow : OpenClaim := { program := "ytepgcejgjfeolaa", sum := "e2ae0beadcb43b4d88e9905bda160c003774ea89d920f70e09447d5c527e34b2", func := "foliate/foliatelaw07.ValueEnds", spec := "valueEnds", apart := false }
def ValueEndsSaid : Prop := valueEndsRow.holds Try.pinned (OpenSpec.ofChange valueEndsSpec)

/-- ITS FALSE NEIGHBOUR: 'it returns false'. Refute it at one input. -/
def valueEndsWrong : ChangeSpec := { name := "valueEnds", fn := fun _ => fun
  | [d1, d2] => { results := [.lit (.bool false)], args := [d1, d2] }
  | _ => none }
def ValueEndsWrongFalsely : Prop := valueEndsRow.holds Try.pinned (OpenSpec.ofChange valueEndsWrong)

/- THE SECOND FORM. 'bulk': how many values and letters a reading holds, each counted each time it is reached (what is shared counts as often as it is met; a slice's spare places count too). A statement '..UptoSaid' is the law's where the arguments, and the package variables that the reading takes, are together of bulk at most 1048576: NARROWER than '..Said'. Prove '..Said' where nothing that the law and all that it calls make is longer than what came in: it says more and counts as full. Else prove '..UptoSaid'. A law counts once. -/
mutual
def uptoBulk {H : Type} : DataW H → Nat
  | .lit (.string bytes) => bytes.length + 1
  | .lit _ => 1
  | .nil => 1
  | .ptr d => uptoBulk d + 1
  | .slice elems spare => uptoBulkAll elems + uptoBulkAll spare + 1
  | .agg parts => uptoBulkAll parts + 1
  | .iface _ d => uptoBulk d + 1
  | .map entries => uptoBulkEntries entries + 1
  | .held _ => 1
def uptoBulkAll {H : Type} : List (DataW H) → Nat
  | [] => 0
  | d :: r => uptoBulk d + uptoBulkAll r
def uptoBulkEntries {H : Type} : List (Lit × DataW H) → Nat
  | [] => 0
  | x :: r => uptoBulkEntry x + uptoBulkEntries r
def uptoBulkEntry {H : Type} : Lit × DataW H → Nat
  | (.string bytes, d) => bytes.length + uptoBulk d + 1
  | (_, d) => uptoBulk d + 1
 end
def uptoSmall : (H : Type) → List (DataW H) → Bool := fun _ ds => decide (uptoBulkAll ds ≤ 1048576)
def OpenSpec.upto (s : _root_.Go.ChangeSpec) : _root_.Go.OpenSpec := { _root_.Go.OpenSpec.ofChange s with cond := some uptoSmall }

/-- 'foliatelaw07.ValueTells', WHERE WHAT IT READS IS OF BULK AT MOST 1048576: true; the input reads as it did. -/
def valueTellsUptoRow : OpenClaim := { program := "ytepgcejgjfeolaa", sum := "e2ae0beadcb43b4d88e9905bda160c003774ea89d920f70e09447d5c527e34b2", func := "foliate/foliatelaw07.ValueTells", spec := "valueTells", apart := false, narrowed := true }
def ValueTellsUptoSaid : Prop := valueTellsUptoRow.holds Try.pinned (OpenSpec.upto valueTellsSpec)

/-- 'foliatelaw07.ValueBack', WHERE WHAT IT READS IS OF BULK AT MOST 1048576: true; the input reads as it did. -/
def valueBackUptoRow : OpenClaim := { program := "ytepgcejgjfeolaa", sum := "e2ae0beadcb43b4d88e9905bda160c003774ea89d920f70e09447d5c527e34b2", func := "foliate/foliatelaw07.ValueBack", spec := "valueBack", apart := false, narrowed := true }
def ValueBackUptoSaid : Prop := valueBackUptoRow.holds Try.pinned (OpenSpec.upto valueBackSpec)

/-- 'foliatelaw07.ValueWide', WHERE WHAT IT READS IS OF BULK AT MOST 1048576: true; the input reads as it did. -/
def valueWideUptoRow : OpenClaim := { program := "ytepgcejgjfeolaa", sum := "e2ae0beadcb43b4d88e9905bda160c003774ea89d920f70e09447d5c527e34b2", func := "foliate/foliatelaw07.ValueWide", spec := "valueWide", apart := false, narrowed := true }
def ValueWideUptoSaid : Prop := valueWideUptoRow.holds Try.pinned (OpenSpec.upto valueWideSpec)

/-- 'foliatelaw07.ValueZero', WHERE WHAT IT READS IS OF BULK AT MOST 1048576: true; the input reads as it did. -/
def valueZeroUptoRow : OpenClaim := { program := "ytepgcejgjfeolaa", sum := "e2ae0beadcb43b4d88e9905bda160c003774ea89d920f70e09447d5c527e34b2", func := "foliate/foliatelaw07.ValueZero", spec := "valueZero", apart := false, narrowed := true }
def ValueZeroUptoSaid : Prop := valueZeroUptoRow.holds Try.pinned (OpenSpec.upto valueZeroSpec)

/-- 'foliatelaw07.ValueCut', WHERE WHAT IT READS IS OF BULK AT MOST 1048576: true; the input reads as it did. -/
def valueCutUptoRow : OpenClaim := { program := "ytepgcejgjfeolaa", sum := "e2ae0beadcb43b4d88e9905bda160c003774ea89d920f70e09447d5c527e34b2", func := "foliate/foliatelaw07.ValueCut", spec := "valueCut", apart := false, narrowed := true }
def ValueCutUptoSaid : Prop := valueCutUptoRow.holds Try.pinned (OpenSpec.upto valueCutSpec)

/-- 'foliatelaw07.ValueApart', WHERE WHAT IT READS IS OF BULK AT MOST 1048576: true; the input reads as it did. -/
def valueApartUptoRow : OpenClaim := { program := "ytepgcejgjfeolaa", sum := "e2ae0beadcb43b4d88e9905bda160c003774ea89d920f70e09447d5c527e34b2", func := "foliate/foliatelaw07.ValueApart", spec := "valueApart", apart := false, narrowed := true }
def ValueApartUptoSaid : Prop := valueApartUptoRow.holds Try.pinned (OpenSpec.upto valueApartSpec)

/-- 'foliatelaw07.ValueEnds', WHERE WHAT IT READS IS OF BULK AT MOST 1048576: true; the input reads as it did. -/
def valueEndsUptoRow : OpenClaim := { program := "ytepgcejgjfeolaa", sum := "e2ae0beadcb43b4d88e9905bda160c003774ea89d920f70e09447d5c527e34b2", func := "foliate/foliatelaw07.ValueEnds", spec := "valueEnds", apart := false, narrowed := true }
def ValueEndsUptoSaid : Prop := valueEndsUptoRow.holds Try.pinned (OpenSpec.upto valueEndsSpec)

end Rows
end Go.Proofs.Ytepgcejgjfeolaa
