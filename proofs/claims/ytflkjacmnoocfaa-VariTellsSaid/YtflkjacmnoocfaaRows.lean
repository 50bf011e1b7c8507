/-
  No cell of these rows narrows 'for every input' (looked for: loops, veiled, ifaces, maps, wideKeys, modest, calm, conditions, laid).
  DERIVED. THE GIVEN ROWS OF THIS SEAT. 7 by the template 'for every input the law returns true; each argument reads behind the call as it read before'; 0 by the template 'total and deterministic' (their statements: YtflkjacmnoocfaaTotals.lean).
  GIVEN WITH THE SEED: the statements are not yours to turn. If you find one false, say at which input.
  Laid BY PROGRAM, IN A SANDBOX (cutbox-rows.mjs): the forced cells as the released guide's own fill.sh prints them over the translation 7e29a44e4ade0454… (all of the seat's roots in one cut). By AI agents, Wed Nov 11 2026. No macro, syntax, notation, axiom, sorry.
-/
import Derived.Test.YtflkjacmnoocfaaChecked
import GoSem.Claim
import GoSem.ClaimJoined
import GoSem.ClaimMapViews
import Derived.JoinedTies
import Derived.KernelRfl
namespace Go.Proofs.Ytflkjacmnoocfaa
/- THE CELL 'sum', in the pinned program and in every row, IS THE sha256 OF THE DUMP (.gsa) THAT YtflkjacmnoocfaaProg.lean LOADS. Nothing in Lean hashes anything: it is a label: what it is worth is what the hold of that sum in a sandbox is worth. -/
noncomputable def Try.pinned : Pinned := { name := "ytflkjacmnoocfaa", sum := "7e29a44e4ade04540aa5d47458176cb3e6098d22ca470cebbacd7b8891ab40c3", checked := Try.checked }
namespace Rows
def none {H : Type} : Left H := { results := [], args := [] }

/-- 'foliatelaw01.VariTells': WHATEVER THE INPUT: true; the input reads as it did. -/
def variTellsSpec : ChangeSpec := { name := "variTells", fn := fun _ => fun
  | [d1, d2, d3] => { results := [.lit (.bool true)], args := [d1, d2, d3] }
  | _ => none }
def variTellsRow : OpenClaim := { program := "ytflkjacmnoocfaa", sum := "7e29a44e4ade04540aa5d47458176cb3e6098d22ca470cebbacd7b8891ab40c3", func := "foliate/foliatelaw01.VariTells", spec := "variTells", unfollowed := true, recurses := true, apart := false }
def VariTellsSaid : Prop := variTellsRow.holds Try.pinned (OpenSpec.ofChange variTellsSpec)

/-- ITS FALSE NEIGHBOUR: 'it returns false'. Refute it at one input. -/
def variTellsWrong : ChangeSpec := { name := "variTells", fn := fun _ => fun
  | [d1, d2, d3] => { results := [.lit (.bool false)], args := [d1, d2, d3] }
  | _ => none }
def VariTellsWrongFalsely : Prop := variTellsRow.holds Try.pinned (OpenSpec.ofChange variTellsWrong)

/-- 'foliatelaw01.VariBack': WHATEVER THE INPUT: true; the input reads as it did. -/
def variBackSpec : ChangeSpec := { name := "variBack", fn := fun _ => fun
  | [d1, d2] => { results := [.lit (.bool true)], args := [d1, d2] }
  | _ => none }
def variBackRow : OpenClaim := { program := "ytflkjacmnoocfaa", sum := "7e29a44e4ade04540aa5d47458176cb3e6098d22ca470cebbacd7b8891ab40c3", func := "foliate/foliatelaw01.VariBack", spec := "variBack", unfollowed := true, recurses := true, apart := false }
def VariBackSaid : Prop := variBackRow.holds Try.pinned (OpenSpec.ofChange variBackSpec)

/-- ITS FALSE NEIGHBOUR: 'it returns false'. Refute it at one input. -/
def variBackWrong : ChangeSpec := { name := "variBack", fn := fun _ => fun
  | [d1, d2] => { results := [.lit (.bool false)], args := [d1, d2] }
  | _ => none }
def VariBackWrongFalsely : Prop := variBackRow.holds Try.pinned (OpenSpec.ofChange variBackWrong)

/-- 'foliatelaw01.VariCut': WHATEVER THE INPUT: true; the input reads as it did. -/
def variCutSpec : ChangeSpec := { name := "variCut", fn := fun _ => fun
  | [d1, d2, d3] => { results := [.lit (.bool true)], args := [d1, d2, d3] }
  | _ => none }
def variCutRow : OpenClaim := { program := "ytflkjacmnoocfaa", sum := "7e29a44e4ade04540aa5d47458176cb3e6098d22ca470cebbacd7b8891ab40c3", func := "foliate/foliatelaw01.VariCut", spec := "variCut", unfollowed := true, recurses := true, apart := false }
def VariCutSaid : Prop := variCutRow.holds Try.pinned (OpenSpec.ofChange variCutSpec)

/-- ITS FALSE NEIGHBOUR: 'it returns false'. Refute it at one input. -/
def variCutWrong : ChangeSpec := { name := "variCut", fn := fun _ => fun
  | [d1, d2, d3] => { results := [.lit (.bool false)], args := [d1, d2, d3] }
  | _ => none }
def VariCutWrongFalsely : Prop := variCutRow.holds Try.pinned (OpenSpec.ofChange variCutWrong)

/-- 'foliatelaw01.VariZig': WHATEVER THE INPUT: true; the input reads as it did. -/
def variZigSpec : ChangeSpec := { name := "variZig", fn := fun _ => fun
  | [d1, d2] => { results := [.lit (.bool true)], args := [d1, d2] }
  | _ => none }
def variZigRow : OpenClaim := { program := "ytflkjacmnoocfaa", sum := "7e29a44e4ade04540aa5d47458176cb3e6098d22ca470cebbacd7b8891ab40c3", func := "foliate/foliatelaw01.VariZig", spec := "variZig", unfollowed := true, recurses := true, apart := false }
def VariZigSaid : Prop := variZigRow.holds Try.pinned (OpenSpec.ofChange variZigSpec)

/-- ITS FALSE NEIGHBOUR: 'it returns false'. Refute it at one input. -/
def variZigWrong : ChangeSpec := { name := "variZig", fn := fun _ => fun
  | [d1, d2] => { results := [.lit (.bool false)], args := [d1, d2] }
  | _ => none }
def VariZigWrongFalsely : Prop := variZigRow.holds Try.pinned (OpenSpec.ofChange variZigWrong)

/-- 'foliatelaw01.VariList': WHATEVER THE INPUT: true; the input reads as it did. -/
def variListSpec : ChangeSpec := { name := "variList", fn := fun _ => fun
  | [d1, d2] => { results := [.lit (.bool true)], args := [d1, d2] }
  | _ => none }
def variListRow : OpenClaim := { program := "ytflkjacmnoocfaa", sum := "7e29a44e4ade04540aa5d47458176cb3e6098d22ca470cebbacd7b8891ab40c3", func := "foliate/foliatelaw01.VariList", spec := "variList", unfollowed := true, recurses := true, apart := false }
def VariListSaid : Prop := variListRow.holds Try.pinned (OpenSpec.ofChange variListSpec)

/-- ITS FALSE NEIGHBOUR: 'it returns false'. Refute it at one input. -/
def variListWrong : ChangeSpec := { name := "variList", fn := fun _ => fun
  | [d1, d2] => { results := [.lit (.bool false)], args := [d1, d2] }
  | _ => none }
def VariListWrongFalsely : Prop := variListRow.holds Try.pinned (OpenSpec.ofChange variListWrong)

/-- 'foliatelaw01.VariOrder': WHATEVER THE INPUT: true; the input reads as it did. -/
def variOrderSpec : ChangeSpec := { name := "variOrder", fn := fun _ => fun
  | [d1, d2] => { results := [.lit (.bool true)], args := [d1, d2] }
  | _ => none }
def variOrderRow : OpenClaim := { program := "ytflkjacmnoocfaa", sum := "7e29a44e4ade04540aa5d47458176cb3e6098d22ca470cebbacd7b8891ab40c3", func := "foliate/foliatelaw01.VariOrder", spec := "variOrder", unfollowed := true, recurses := true, apart := false }
def VariOrderSaid : Prop := variOrderRow.holds Try.pinned (OpenSpec.ofChange variOrderSpec)

/-- ITS FALSE NEIGHBOUR: 'it returns false'. Refute it at one input. -/
def variOrderWrong : ChangeSpec := { name := "variOrder", fn := fun _ => fun
  | [d1, d2] => { results := [.lit (.bool false)], args := [d1, d2] }
  | _ => none }
def VariOrderWrongFalsely : Prop := variOrderRow.holds Try.pinned (OpenSpec.ofChange variOrderWrong)

/-- 'foliatelaw01.VariFirst': WHATEVER THE INPUT: true; the input reads as it did. -/
def variFirstSpec : ChangeSpec := { name := "variFirst", fn := fun _ => fun
  | [d] => { results := [.lit (.bool true)], args := [d] }
  | _ => none }
def variFirstRow : OpenClaim := { program := "ytflkjacmnoocfaa", sum := "7e29a44e4ade04540aa5d47458176cb3e6098d22ca470cebbacd7b8891ab40c3", func := "foliate/foliatelaw01.VariFirst", spec := "variFirst", unfollowed := true, recurses := true, apart := false }
def VariFirstSaid : Prop := variFirstRow.holds Try.pinned (OpenSpec.ofChange variFirstSpec)

/-- ITS FALSE NEIGHBOUR: 'it returns false'. Refute it at one input. -/
def variFirstWrong : ChangeSpec := { name := "variFirst", fn := fun _ => fun
  | [d] => { results := [.lit (.bool false)], args := [d] }
  | _ => none }
def VariFirstWrongFalsely : Prop := variFirstRow.holds Try.pinned (OpenSpec.ofChange variFirstWrong)

/- THE SECOND FORM. 'bulk': how many values and letters a reading holds, each counted each time it is reached (what is shared counts as often as it is met; a slice's spare places count too). A statement '..UptoSaid' is the law's where the arguments, and the package variables that the reading takes, are together of bulk at most 1048576: NARROWER than '..Said'. Prove '..Said' where nothing that the law and all that it calls make is longer than what came in: it says more and counts as full. Else prove '..UptoSaid'. A law counts once. -/
mutual
def uptoBulk {H : Type} : DataW H → Nat
  | .lit (.string bytes) => bytes.length + 1
  | .lit _ => 1
  | .nil => 1
  | .ptr d => uptoBulk d + 1
  | .slice elems spare => uptoBulkAll elems + uptoBulkAll spare + 1
  | .agg parts => uptoBulkAll parts + 1
  | .iface _ d => uptoBulk d + 1
  | .map entries => uptoBulkEntries entries + 1
  | .held _ => 1
def uptoBulkAll {H : Type} : List (DataW H) → Nat
  | [] => 0
  | d :: r => uptoBulk d + uptoBulkAll r
def uptoBulkEntries {H : Type} : List (Lit × DataW H) → Nat
  | [] => 0
  | x :: r => uptoBulkEntry x + uptoBulkEntries r
def uptoBulkEntry {H : Type} : Lit × DataW H → Nat
  | (.string bytes, d) => bytes.length + uptoBulk d + 1
  | (_, d) => uptoBulk d + 1
 end
def uptoSmall : (H : Type) → List (DataW H) → Bool := fun _ ds => decide (uptoBulkAll ds ≤ 1048576)
def OpenSpec.upto (s : _root_.Go.ChangeSpec) : _root_.Go.OpenSpec := { _root_.Go.OpenSpec.ofChange s with cond := some uptoSmall }

/-- 'foliatelaw01.VariTells', WHERE WHAT IT READS IS OF BULK AT MOST 1048576: true; the input reads as it did. -/
def variTellsUptoRow : OpenClaim := { program := "ytflkjacmnoocfaa", sum := "7e29a44e4ade04540aa5d47458176cb3e6098d22ca470cebbacd7b8891ab40c3", func := "foliate/foliatelaw01.VariTells", spec := "variTells", unfollowed := true, recurses := true, apart := false, narrowed := true }
def VariTellsUptoSaid : Prop := variTellsUptoRow.holds Try.pinned (OpenSpec.upto variTellsSpec)

/-- 'foliatelaw01.VariBack', WHERE WHAT IT READS IS OF BULK AT MOST 1048576: true; the input reads as it did. -/
def variBackUptoRow : OpenClaim := { program := "ytflkjacmnoocfaa", sum := "7e29a44e4ade04540aa5d47458176cb3e6098d22ca470cebbacd7b8891ab40c3", func := "foliate/foliatelaw01.VariBack", spec := "variBack", unfollowed := true, recurses := true, apart := false, narrowed := true }
def VariBackUptoSaid : Prop := variBackUptoRow.holds Try.pinned (OpenSpec.upto variBackSpec)

/-- 'foliatelaw01.VariCut', WHERE WHAT IT READS IS OF BULK AT MOST 1048576: true; the input reads as it did. -/
def variCutUptoRow : OpenClaim := { program := "ytflkjacmnoocfaa", sum := "7e29a44e4ade04540aa5d47458176cb3e6098d22ca470cebbacd7b8891ab40c3", func := "foliate/foliatelaw01.VariCut", spec := "variCut", unfollowed := true, recurses := true, apart := false, narrowed := true }
def VariCutUptoSaid : Prop := variCutUptoRow.holds Try.pinned (OpenSpec.upto variCutSpec)

/-- 'foliatelaw01.VariZig', WHERE WHAT IT READS IS OF BULK AT MOST 1048576: true; the input reads as it did. -/
def variZigUptoRow : OpenClaim := { program := "ytflkjacmnoocfaa", sum := "7e29a44e4ade04540aa5d47458176cb3e6098d22ca470cebbacd7b8891ab40c3", func := "foliate/foliatelaw01.VariZig", spec := "variZig", unfollowed := true, recurses := true, apart := false, narrowed := true }
def VariZigUptoSaid : Prop := variZigUptoRow.holds Try.pinned (OpenSpec.upto variZigSpec)

/-- 'foliatelaw01.VariList', WHERE WHAT IT READS IS OF BULK AT MOST 1048576: true; the input reads as it did. -/
def variListUptoRow : OpenClaim := { program := "ytflkjacmnoocfaa", sum := "7e29a44e4ade04540aa5d47458176cb3e6098d22ca470cebbacd7b8891ab40c3", func := "foliate/foliatelaw01.VariList", spec := "variList", unfollowed := true, recurses := true, apart := false, narrowed := true }
def VariListUptoSaid : Prop := variListUptoRow.holds Try.pinned (OpenSpec.upto variListSpec)

/-- 'foliatelaw01.VariOrder', WHERE WHAT IT READS IS OF BULK AT MOST 1048576: true; the input reads as it did. -/
def variOrderUptoRow : OpenClaim := { program := "ytflkjacmnoocfaa", sum := "7e29a44e4ade04540aa5d47458176cb3e6098d22ca470cebbacd7b8891ab40c3", func := "foliate/foliatelaw01.VariOrder", spec := "variOrder", unfollowed := true, recurses := true, apart := false, narrowed := true }
def VariOrderUptoSaid : Prop := variOrderUptoRow.holds Try.pinned (OpenSpec.upto variOrderSpec)

/-- 'foliatelaw01.VariFirst', WHERE WHAT IT READS IS OF BULK AT MOST 1048576: true; the input reads as it did. -/
def variFirstUptoRow : OpenClaim := { program := "ytflkjacmnoocfaa", sum := "7e29a44e4ade04540aa5d47458176cb3e6098d22ca470cebbacd7b8891ab40c3", func := "foliate/foliatelaw01.VariFirst", spec := "variFirst", unfollowed := true, recurses := true, apart := false, narrowed := true }
def VariFirstUptoSaid : Prop := variFirstUptoRow.holds Try.pinned (OpenSpec.upto variFirstSpec)

end Rows
end Go.Proofs.Ytflkjacmnoocfaa
