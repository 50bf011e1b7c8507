/-
  No cell of these rows narrows 'for every input' (looked for: loops, veiled, ifaces, maps, wideKeys, modest, calm, conditions, laid).
  DERIVED. THE GIVEN ROWS OF THIS SEAT. 6 by the template 'for every input the law returns true; each argument reads behind the call as it read before'; 0 by the template 'total and deterministic' (their statements: YtlcanmndeempfaaTotals.lean).
  GIVEN WITH THE SEED: the statements are not yours to turn. If you find one false, say at which input.
  Laid BY PROGRAM, IN A SANDBOX (cutbox-rows.mjs): the forced cells as the released guide's own fill.sh prints them over the translation 0e670781cf69e304… (all of the seat's roots in one cut). By AI agents, Wed Nov 11 2026. No macro, syntax, notation, axiom, sorry.
-/
import Derived.Test.YtlcanmndeempfaaChecked
import GoSem.Claim
import GoSem.ClaimJoined
import GoSem.ClaimMapViews
import Derived.JoinedTies
import Derived.KernelRfl
namespace Go.Proofs.Ytlcanmndeempfaa
/- THE CELL 'sum', in the pinned program and in every row, IS THE sha256 OF THE DUMP (.gsa) THAT YtlcanmndeempfaaProg.lean LOADS. Nothing in Lean hashes anything: it is a label: what it is worth is what the hold of that sum in a sandbox is worth. -/
noncomputable def Try.pinned : Pinned := { name := "ytlcanmndeempfaa", sum := "0e670781cf69e304685031092506f0f80ed3a010e53a2804649c4112b0aa4c79", checked := Try.checked }
namespace Rows
def none {H : Type} : Left H := { results := [], args := [] }

/-- 'foliatelaw06.SchemaTells': WHATEVER THE INPUT: true; the input reads as it did. -/
def schemaTellsSpec : ChangeSpec := { name := "schemaTells", fn := fun _ => fun
  | [d1, d2, d3, d4] => { results := [.lit (.bool true)], args := [d1, d2, d3, d4] }
  | _ => none }
def schemaTellsRow : OpenClaim := { program := "ytlcanmndeempfaa", sum := "0e670781cf69e304685031092506f0f80ed3a010e53a2804649c4112b0aa4c79", func := "foliate/foliatelaw06.SchemaTells", spec := "schemaTells", inPlace := ["internal/abi.NoEscape", "internal/bytealg.MakeNoZero"], unfollowed := true, recurses := true, apart := false }
def SchemaTellsSaid : Prop := schemaTellsRow.holds Try.pinned (OpenSpec.ofChange schemaTellsSpec)

/-- ITS FALSE NEIGHBOUR: 'it returns false'. Refute it at one input. -/
def schemaTellsWrong : ChangeSpec := { name := "schemaTells", fn := fun _ => fun
  | [d1, d2, d3, d4] => { results := [.lit (.bool false)], args := [d1, d2, d3, d4] }
  | _ => none }
def SchemaTellsWrongFalsely : Prop := schemaTellsRow.holds Try.pinned (OpenSpec.ofChange schemaTellsWrong)

/-- 'foliatelaw06.SchemaBack': WHATEVER THE INPUT: true; the input reads as it did. -/
def schemaBackSpec : ChangeSpec := { name := "schemaBack", fn := fun _ => fun
  | [d1, d2, d3] => { results := [.lit (.bool true)], args := [d1, d2, d3] }
  | _ => none }
def schemaBackRow : OpenClaim := { program := "ytlcanmndeempfaa", sum := "0e670781cf69e304685031092506f0f80ed3a010e53a2804649c4112b0aa4c79", func := "foliate/foliatelaw06.SchemaBack", spec := "schemaBack", inPlace := ["internal/abi.NoEscape", "internal/bytealg.MakeNoZero"], unfollowed := true, recurses := true, apart := false }
def SchemaBackSaid : Prop := schemaBackRow.holds Try.pinned (OpenSpec.ofChange schemaBackSpec)

/-- ITS FALSE NEIGHBOUR: 'it returns false'. Refute it at one input. -/
def schemaBackWrong : ChangeSpec := { name := "schemaBack", fn := fun _ => fun
  | [d1, d2, d3] => { results := [.lit (.bool false)], args := [d1, d2, d3] }
  | _ => none }
def SchemaBackWrongFalsely : Prop := schemaBackRow.holds Try.pinned (OpenSpec.ofChange schemaBackWrong)

/-- 'foliatelaw06.SchemaNames': WHATEVER THE INPUT: true; the input reads as it did. -/
def schemaNamesSpec : ChangeSpec := { name := "schemaNames", fn := fun _ => fun
  | [d1, d2, d3, d4] => { results := [.lit (.bool true)], args := [d1, d2, d3, d4] }
  | _ => none }
def schemaNamesRow : OpenClaim := { program := "ytlcanmndeempfaa", sum := "0e670781cf69e304685031092506f0f80ed3a010e53a2804649c4112b0aa4c79", func := "foliate/foliatelaw06.SchemaNames", spec := "schemaNames", inPlace := ["internal/abi.NoEscape", "internal/bytealg.MakeNoZero"], unfollowed := true, recurses := true, apart := false }
def SchemaNamesSaid : Prop := schemaNamesRow.holds Try.pinned (OpenSpec.ofChange schemaNamesSpec)

/-- ITS FALSE NEIGHBOUR: 'it returns false'. Refute it at one input. -/
def schemaNamesWrong : ChangeSpec := { name := "schemaNames", fn := fun _ => fun
  | [d1, d2, d3, d4] => { results := [.lit (.bool false)], args := [d1, d2, d3, d4] }
  | _ => none }
def SchemaNamesWrongFalsely : Prop := schemaNamesRow.holds Try.pinned (OpenSpec.ofChange schemaNamesWrong)

/-- 'foliatelaw06.SchemaMore': WHATEVER THE INPUT: true; the input reads as it did. -/
def schemaMoreSpec : ChangeSpec := { name := "schemaMore", fn := fun _ => fun
  | [d1, d2] => { results := [.lit (.bool true)], args := [d1, d2] }
  | _ => none }
def schemaMoreRow : OpenClaim := { program := "ytlcanmndeempfaa", sum := "0e670781cf69e304685031092506f0f80ed3a010e53a2804649c4112b0aa4c79", func := "foliate/foliatelaw06.SchemaMore", spec := "schemaMore", inPlace := ["internal/abi.NoEscape", "internal/bytealg.MakeNoZero"], unfollowed := true, recurses := true, apart := false }
def SchemaMoreSaid : Prop := schemaMoreRow.holds Try.pinned (OpenSpec.ofChange schemaMoreSpec)

/-- ITS FALSE NEIGHBOUR: 'it returns false'. Refute it at one input. -/
def schemaMoreWrong : ChangeSpec := { name := "schemaMore", fn := fun _ => fun
  | [d1, d2] => { results := [.lit (.bool false)], args := [d1, d2] }
  | _ => none }
def SchemaMoreWrongFalsely : Prop := schemaMoreRow.holds Try.pinned (OpenSpec.ofChange schemaMoreWrong)

/-- 'foliatelaw06.SchemaParts': WHATEVER THE INPUT: true; the input reads as it did. -/
def schemaPartsSpec : ChangeSpec := { name := "schemaParts", fn := fun _ => fun
  | [d1, d2] => { results := [.lit (.bool true)], args := [d1, d2] }
  | _ => none }
def schemaPartsRow : OpenClaim := { program := "ytlcanmndeempfaa", sum := "0e670781cf69e304685031092506f0f80ed3a010e53a2804649c4112b0aa4c79", func := "foliate/foliatelaw06.SchemaParts", spec := "schemaParts", inPlace := ["internal/abi.NoEscape", "internal/bytealg.MakeNoZero"], unfollowed := true, recurses := true, apart := false }
def SchemaPartsSaid : Prop := schemaPartsRow.holds Try.pinned (OpenSpec.ofChange schemaPartsSpec)

/-- ITS FALSE NEIGHBOUR: 'it returns false'. Refute it at one input. -/
def schemaPartsWrong : ChangeSpec := { name := "schemaParts", fn := fun _ => fun
  | [d1, d2] => { results := [.lit (.bool false)], args := [d1, d2] }
  | _ => none }
def SchemaPartsWrongFalsely : Prop := schemaPartsRow.holds Try.pinned (OpenSpec.ofChange schemaPartsWrong)

/-- 'foliatelaw06.SchemaTwice': WHATEVER THE INPUT: true; the input reads as it did. -/
def schemaTwiceSpec : ChangeSpec := { name := "schemaTwice", fn := fun _ => fun
  | [d1, d2] => { results := [.lit (.bool true)], args := [d1, d2] }
  | _ => none }
def schemaTwiceRow : OpenClaim := { program := "ytlcanmndeempfaa", sum := "0e670781cf69e304685031092506f0f80ed3a010e53a2804649c4112b0aa4c79", func := "foliate/foliatelaw06.SchemaTwice", spec := "schemaTwice", inPlace := ["internal/abi.NoEscape", "internal/bytealg.MakeNoZero"], unfollowed := true, recurses := true, apart := false }
def SchemaTwiceSaid : Prop := schemaTwiceRow.holds Try.pinned (OpenSpec.ofChange schemaTwiceSpec)

/-- ITS FALSE NEIGHBOUR: 'it returns false'. Refute it at one input. -/
def schemaTwiceWrong : ChangeSpec := { name := "schemaTwice", fn := fun _ => fun
  | [d1, d2] => { results := [.lit (.bool false)], args := [d1, d2] }
  | _ => none }
def SchemaTwiceWrongFalsely : Prop := schemaTwiceRow.holds Try.pinned (OpenSpec.ofChange schemaTwiceWrong)

/- THE SECOND FORM. 'bulk': how many values and letters a reading holds, each counted each time it is reached (what is shared counts as often as it is met; a slice's spare places count too). A statement '..UptoSaid' is the law's where the arguments, and the package variables that the reading takes, are together of bulk at most 1048576: NARROWER than '..Said'. Prove '..Said' where nothing that the law and all that it calls make is longer than what came in: it says more and counts as full. Else prove '..UptoSaid'. A law counts once. -/
mutual
def uptoBulk {H : Type} : DataW H → Nat
  | .lit (.string bytes) => bytes.length + 1
  | .lit _ => 1
  | .nil => 1
  | .ptr d => uptoBulk d + 1
  | .slice elems spare => uptoBulkAll elems + uptoBulkAll spare + 1
  | .agg parts => uptoBulkAll parts + 1
  | .iface _ d => uptoBulk d + 1
  | .map entries => uptoBulkEntries entries + 1
  | .held _ => 1
def uptoBulkAll {H : Type} : List (DataW H) → Nat
  | [] => 0
  | d :: r => uptoBulk d + uptoBulkAll r
def uptoBulkEntries {H : Type} : List (Lit × DataW H) → Nat
  | [] => 0
  | x :: r => uptoBulkEntry x + uptoBulkEntries r
def uptoBulkEntry {H : Type} : Lit × DataW H → Nat
  | (.string bytes, d) => bytes.length + uptoBulk d + 1
  | (_, d) => uptoBulk d + 1
 end
def uptoSmall : (H : Type) → List (DataW H) → Bool := fun _ ds => decide (uptoBulkAll ds ≤ 1048576)
def OpenSpec.upto (s : _root_.Go.ChangeSpec) : _root_.Go.OpenSpec := { _root_.Go.OpenSpec.ofChange s with cond := some uptoSmall }

/-- 'foliatelaw06.SchemaTells', WHERE WHAT IT READS IS OF BULK AT MOST 1048576: true; the input reads as it did. -/
def schemaTellsUptoRow : OpenClaim := { program := "ytlcanmndeempfaa", sum := "0e670781cf69e304685031092506f0f80ed3a010e53a2804649c4112b0aa4c79", func := "foliate/foliatelaw06.SchemaTells", spec := "schemaTells", inPlace := ["internal/abi.NoEscape", "internal/bytealg.MakeNoZero"], unfollowed := true, recurses := true, apart := false, narrowed := true }
def SchemaTellsUptoSaid : Prop := schemaTellsUptoRow.holds Try.pinned (OpenSpec.upto schemaTellsSpec)

/-- 'foliatelaw06.SchemaBack', WHERE WHAT IT READS IS OF BULK AT MOST 1048576: true; the input reads as it did. -/
def schemaBackUptoRow : OpenClaim := { program := "ytlcanmndeempfaa", sum := "0e670781cf69e304685031092506f0f80ed3a010e53a2804649c4112b0aa4c79", func := "foliate/foliatelaw06.SchemaBack", spec := "schemaBack", inPlace := ["internal/abi.NoEscape", "internal/bytealg.MakeNoZero"], unfollowed := true, recurses := true, apart := false, narrowed := true }
def SchemaBackUptoSaid : Prop := schemaBackUptoRow.holds Try.pinned (OpenSpec.upto schemaBackSpec)

/-- 'foliatelaw06.SchemaNames', WHERE WHAT IT READS IS OF BULK AT MOST 1048576: true; the input reads as it did. -/
def schemaNamesUptoRow : OpenClaim := { program := "ytlcanmndeempfaa", sum := "0e670781cf69e304685031092506f0f80ed3a010e53a2804649c4112b0aa4c79", func := "foliate/foliatelaw06.SchemaNames", spec := "schemaNames", inPlace := ["internal/abi.NoEscape", "internal/bytealg.MakeNoZero"], unfollowed := true, recurses := true, apart := false, narrowed := true }
def SchemaNamesUptoSaid : Prop := schemaNamesUptoRow.holds Try.pinned (OpenSpec.upto schemaNamesSpec)

/-- 'foliatelaw06.SchemaMore', WHERE WHAT IT READS IS OF BULK AT MOST 1048576: true; the input reads as it did. -/
def schemaMoreUptoRow : OpenClaim := { program := "ytlcanmndeempfaa", sum := "0e670781cf69e304685031092506f0f80ed3a010e53a2804649c4112b0aa4c79", func := "foliate/foliatelaw06.SchemaMore", spec := "schemaMore", inPlace := ["internal/abi.NoEscape", "internal/bytealg.MakeNoZero"], unfollowed := true, recurses := true, apart := false, narrowed := true }
def SchemaMoreUptoSaid : Prop := schemaMoreUptoRow.holds Try.pinned (OpenSpec.upto schemaMoreSpec)

/-- 'foliatelaw06.SchemaParts', WHERE WHAT IT READS IS OF BULK AT MOST 1048576: true; the input reads as it did. -/
def schemaPartsUptoRow : OpenClaim := { program := "ytlcanmndeempfaa", sum := "0e670781cf69e304685031092506f0f80ed3a010e53a2804649c4112b0aa4c79", func := "foliate/foliatelaw06.SchemaParts", spec := "schemaParts", inPlace := ["internal/abi.NoEscape", "internal/bytealg.MakeNoZero"], unfollowed := true, recurses := true, apart := false, narrowed := true }
def SchemaPartsUptoSaid : Prop := schemaPartsUptoRow.holds Try.pinned (OpenSpec.upto schemaPartsSpec)

/-- 'foliatelaw06.SchemaTwice', WHERE WHAT IT READS IS OF BULK AT MOST 1048576: true; the input reads as it did. -/
def schemaTwiceUptoRow : OpenClaim := { program := "ytlcanmndeempfaa", sum := "0e670781cf69e304685031092506f0f80ed3a010e53a2804649c4112b0aa4c79", func := "foliate/foliatelaw06.SchemaTwice", spec := "schemaTwice", inPlace := ["internal/abi.NoEscape", "internal/bytealg.MakeNoZero"], unfollowed := true, recurses := true, apart := false, narrowed := true }
def SchemaTwiceUptoSaid : Prop := schemaTwiceUptoRow.holds Try.pinned (OpenSpec.upto schemaTwiceSpec)

end Rows
end Go.Proofs.Ytlcanmndeempfaa
