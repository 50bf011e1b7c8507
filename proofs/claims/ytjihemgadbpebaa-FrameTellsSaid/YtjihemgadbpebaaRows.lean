/-
  No cell of these rows narrows 'for every input' (looked for: loops, veiled, ifaces, maps, wideKeys, modest, calm, conditions, laid).
  DERIVED. THE GIVEN ROWS OF THIS SEAT. 7 by the template 'for every input the law returns true; each argument reads behind the call as it read before'; 0 by the template 'total and deterministic' (their statements: YtjihemgadbpebaaTotals.lean).
  GIVEN WITH THE SEED: the statements are not yours to turn. If you find one false, say at which input.
  Laid BY PROGRAM, IN A SANDBOX (cutbox-rows.mjs): the forced cells as the released guide's own fill.sh prints them over the translation 5f684c6156c34928… (all of the seat's roots in one cut). By AI agents, Wed Nov 11 2026. No macro, syntax, notation, axiom, sorry.
-/
import Derived.Test.YtjihemgadbpebaaChecked
import GoSem.Claim
import GoSem.ClaimJoined
import GoSem.ClaimMapViews
import Derived.JoinedTies
import Derived.KernelRfl
namespace Go.Proofs.Ytjihemgadbpebaa
/- THE CELL 'sum', in the pinned program and in every row, IS THE sha256 OF THE DUMP (.gsa) THAT YtjihemgadbpebaaProg.lean LOADS. Nothing in Lean hashes anything: it is a label: what it is worth is what the hold of that sum in a sandbox is worth. -/
noncomputable def Try.pinned : Pinned := { name := "ytjihemgadbpebaa", sum := "5f684c6156c349284f21d0e16af7c741e1ca7cd72aa088051e334b5324e7c106", checked := Try.checked }
namespace Rows
def none {H : Type} : Left H := { results := [], args := [] }

/-- 'foliatelaw03.FrameTells': WHATEVER THE INPUT: true; the input reads as it did. -/
def frameTellsSpec : ChangeSpec := { name := "frameTells", fn := fun _ => fun
  | [d1, d2, d3] => { results := [.lit (.bool true)], args := [d1, d2, d3] }
  | _ => none }
def frameTellsRow : OpenClaim := { program := "ytjihemgadbpebaa", sum := "5f684c6156c349284f21d0e16af7c741e1ca7cd72aa088051e334b5324e7c106", func := "foliate/foliatelaw03.FrameTells", spec := "frameTells", unfollowed := true, recurses := true, apart := false }
def FrameTellsSaid : Prop := frameTellsRow.holds Try.pinned (OpenSpec.ofChange frameTellsSpec)

/-- ITS FALSE NEIGHBOUR: 'it returns false'. Refute it at one input. -/
def frameTellsWrong : ChangeSpec := { name := "frameTells", fn := fun _ => fun
  | [d1, d2, d3] => { results := [.lit (.bool false)], args := [d1, d2, d3] }
  | _ => none }
def FrameTellsWrongFalsely : Prop := frameTellsRow.holds Try.pinned (OpenSpec.ofChange frameTellsWrong)

/-- 'foliatelaw03.FrameBack': WHATEVER THE INPUT: true; the input reads as it did. -/
def frameBackSpec : ChangeSpec := { name := "frameBack", fn := fun _ => fun
  | [d1, d2] => { results := [.lit (.bool true)], args := [d1, d2] }
  | _ => none }
def frameBackRow : OpenClaim := { program := "ytjihemgadbpebaa", sum := "5f684c6156c349284f21d0e16af7c741e1ca7cd72aa088051e334b5324e7c106", func := "foliate/foliatelaw03.FrameBack", spec := "frameBack", unfollowed := true, recurses := true, apart := false }
def FrameBackSaid : Prop := frameBackRow.holds Try.pinned (OpenSpec.ofChange frameBackSpec)

/-- ITS FALSE NEIGHBOUR: 'it returns false'. Refute it at one input. -/
def frameBackWrong : ChangeSpec := { name := "frameBack", fn := fun _ => fun
  | [d1, d2] => { results := [.lit (.bool false)], args := [d1, d2] }
  | _ => none }
def FrameBackWrongFalsely : Prop := frameBackRow.holds Try.pinned (OpenSpec.ofChange frameBackWrong)

/-- 'foliatelaw03.FrameBurst': WHATEVER THE INPUT: true; the input reads as it did. -/
def frameBurstSpec : ChangeSpec := { name := "frameBurst", fn := fun _ => fun
  | [d1, d2, d3, d4] => { results := [.lit (.bool true)], args := [d1, d2, d3, d4] }
  | _ => none }
def frameBurstRow : OpenClaim := { program := "ytjihemgadbpebaa", sum := "5f684c6156c349284f21d0e16af7c741e1ca7cd72aa088051e334b5324e7c106", func := "foliate/foliatelaw03.FrameBurst", spec := "frameBurst", unfollowed := true, recurses := true, apart := false }
def FrameBurstSaid : Prop := frameBurstRow.holds Try.pinned (OpenSpec.ofChange frameBurstSpec)

/-- ITS FALSE NEIGHBOUR: 'it returns false'. Refute it at one input. -/
def frameBurstWrong : ChangeSpec := { name := "frameBurst", fn := fun _ => fun
  | [d1, d2, d3, d4] => { results := [.lit (.bool false)], args := [d1, d2, d3, d4] }
  | _ => none }
def FrameBurstWrongFalsely : Prop := frameBurstRow.holds Try.pinned (OpenSpec.ofChange frameBurstWrong)

/-- 'foliatelaw03.FrameCut': WHATEVER THE INPUT: true; the input reads as it did. -/
def frameCutSpec : ChangeSpec := { name := "frameCut", fn := fun _ => fun
  | [d1, d2, d3] => { results := [.lit (.bool true)], args := [d1, d2, d3] }
  | _ => none }
def frameCutRow : OpenClaim := { program := "ytjihemgadbpebaa", sum := "5f684c6156c349284f21d0e16af7c741e1ca7cd72aa088051e334b5324e7c106", func := "foliate/foliatelaw03.FrameCut", spec := "frameCut", unfollowed := true, recurses := true, apart := false }
def FrameCutSaid : Prop := frameCutRow.holds Try.pinned (OpenSpec.ofChange frameCutSpec)

/-- ITS FALSE NEIGHBOUR: 'it returns false'. Refute it at one input. -/
def frameCutWrong : ChangeSpec := { name := "frameCut", fn := fun _ => fun
  | [d1, d2, d3] => { results := [.lit (.bool false)], args := [d1, d2, d3] }
  | _ => none }
def FrameCutWrongFalsely : Prop := frameCutRow.holds Try.pinned (OpenSpec.ofChange frameCutWrong)

/-- 'foliatelaw03.FrameList': WHATEVER THE INPUT: true; the input reads as it did. -/
def frameListSpec : ChangeSpec := { name := "frameList", fn := fun _ => fun
  | [d] => { results := [.lit (.bool true)], args := [d] }
  | _ => none }
def frameListRow : OpenClaim := { program := "ytjihemgadbpebaa", sum := "5f684c6156c349284f21d0e16af7c741e1ca7cd72aa088051e334b5324e7c106", func := "foliate/foliatelaw03.FrameList", spec := "frameList", unfollowed := true, recurses := true, apart := false }
def FrameListSaid : Prop := frameListRow.holds Try.pinned (OpenSpec.ofChange frameListSpec)

/-- ITS FALSE NEIGHBOUR: 'it returns false'. Refute it at one input. -/
def frameListWrong : ChangeSpec := { name := "frameList", fn := fun _ => fun
  | [d] => { results := [.lit (.bool false)], args := [d] }
  | _ => none }
def FrameListWrongFalsely : Prop := frameListRow.holds Try.pinned (OpenSpec.ofChange frameListWrong)

/-- 'foliatelaw03.FrameHead': WHATEVER THE INPUT: true; the input reads as it did. -/
def frameHeadSpec : ChangeSpec := { name := "frameHead", fn := fun _ => fun
  | [d1, d2] => { results := [.lit (.bool true)], args := [d1, d2] }
  | _ => none }
def frameHeadRow : OpenClaim := { program := "ytjihemgadbpebaa", sum := "5f684c6156c349284f21d0e16af7c741e1ca7cd72aa088051e334b5324e7c106", func := "foliate/foliatelaw03.FrameHead", spec := "frameHead", unfollowed := true, recurses := true, apart := false }
def FrameHeadSaid : Prop := frameHeadRow.holds Try.pinned (OpenSpec.ofChange frameHeadSpec)

/-- ITS FALSE NEIGHBOUR: 'it returns false'. Refute it at one input. -/
def frameHeadWrong : ChangeSpec := { name := "frameHead", fn := fun _ => fun
  | [d1, d2] => { results := [.lit (.bool false)], args := [d1, d2] }
  | _ => none }
def FrameHeadWrongFalsely : Prop := frameHeadRow.holds Try.pinned (OpenSpec.ofChange frameHeadWrong)

/-- 'foliatelaw03.FrameFirst': WHATEVER THE INPUT: true; the input reads as it did. -/
def frameFirstSpec : ChangeSpec := { name := "frameFirst", fn := fun _ => fun
  | [d] => { results := [.lit (.bool true)], args := [d] }
  | _ => none }
def frameFirstRow : OpenClaim := { program := "ytjihemgadbpebaa", sum := "5f684c6156c349284f21d0e16af7c741e1ca7cd72aa088051e334b5324e7c106", func := "foliate/foliatelaw03.FrameFirst", spec := "frameFirst", unfollowed := true, recurses := true, apart := false }
def FrameFirstSaid : Prop := frameFirstRow.holds Try.pinned (OpenSpec.ofChange frameFirstSpec)

/-- ITS FALSE NEIGHBOUR: 'it returns false'. Refute it at one input. -/
def frameFirstWrong : ChangeSpec := { name := "frameFirst", fn := fun _ => fun
  | [d] => { results := [.lit (.bool false)], args := [d] }
  | _ => none }
def FrameFirstWrongFalsely : Prop := frameFirstRow.holds Try.pinned (OpenSpec.ofChange frameFirstWrong)

/- THE SECOND FORM. 'bulk': how many values and letters a reading holds, each counted each time it is reached (what is shared counts as often as it is met; a slice's spare places count too). A statement '..UptoSaid' is the law's where the arguments, and the package variables that the reading takes, are together of bulk at most 1048576: NARROWER than '..Said'. Prove '..Said' where nothing that the law and all that it calls make is longer than what came in: it says more and counts as full. Else prove '..UptoSaid'. A law counts once. -/
mutual
def uptoBulk {H : Type} : DataW H → Nat
  | .lit (.string bytes) => bytes.length + 1
  | .lit _ => 1
  | .nil => 1
  | .ptr d => uptoBulk d + 1
  | .slice elems spare => uptoBulkAll elems + uptoBulkAll spare + 1
  | .agg parts => uptoBulkAll parts + 1
  | .iface _ d => uptoBulk d + 1
  | .map entries => uptoBulkEntries entries + 1
  | .held _ => 1
def uptoBulkAll {H : Type} : List (DataW H) → Nat
  | [] => 0
  | d :: r => uptoBulk d + uptoBulkAll r
def uptoBulkEntries {H : Type} : List (Lit × DataW H) → Nat
  | [] => 0
  | x :: r => uptoBulkEntry x + uptoBulkEntries r
def uptoBulkEntry {H : Type} : Lit × DataW H → Nat
  | (.string bytes, d) => bytes.length + uptoBulk d + 1
  | (_, d) => uptoBulk d + 1
 end
def uptoSmall : (H : Type) → List (DataW H) → Bool := fun _ ds => decide (uptoBulkAll ds ≤ 1048576)
def OpenSpec.upto (s : _root_.Go.ChangeSpec) : _root_.Go.OpenSpec := { _root_.Go.OpenSpec.ofChange s with cond := some uptoSmall }

/-- 'foliatelaw03.FrameTells', WHERE WHAT IT READS IS OF BULK AT MOST 1048576: true; the input reads as it did. -/
def frameTellsUptoRow : OpenClaim := { program := "ytjihemgadbpebaa", sum := "5f684c6156c349284f21d0e16af7c741e1ca7cd72aa088051e334b5324e7c106", func := "foliate/foliatelaw03.FrameTells", spec := "frameTells", unfollowed := true, recurses := true, apart := false, narrowed := true }
def FrameTellsUptoSaid : Prop := frameTellsUptoRow.holds Try.pinned (OpenSpec.upto frameTellsSpec)

/-- 'foliatelaw03.FrameBack', WHERE WHAT IT READS IS OF BULK AT MOST 1048576: true; the input reads as it did. -/
def frameBackUptoRow : OpenClaim := { program := "ytjihemgadbpebaa", sum := "5f684c6156c349284f21d0e16af7c741e1ca7cd72aa088051e334b5324e7c106", func := "foliate/foliatelaw03.FrameBack", spec := "frameBack", unfollowed := true, recurses := true, apart := false, narrowed := true }
def FrameBackUptoSaid : Prop := frameBackUptoRow.holds Try.pinned (OpenSpec.upto frameBackSpec)

/-- 'foliatelaw03.FrameBurst', WHERE WHAT IT READS IS OF BULK AT MOST 1048576: true; the input reads as it did. -/
def frameBurstUptoRow : OpenClaim := { program := "ytjihemgadbpebaa", sum := "5f684c6156c349284f21d0e16af7c741e1ca7cd72aa088051e334b5324e7c106", func := "foliate/foliatelaw03.FrameBurst", spec := "frameBurst", unfollowed := true, recurses := true, apart := false, narrowed := true }
def FrameBurstUptoSaid : Prop := frameBurstUptoRow.holds Try.pinned (OpenSpec.upto frameBurstSpec)

/-- 'foliatelaw03.FrameCut', WHERE WHAT IT READS IS OF BULK AT MOST 1048576: true; the input reads as it did. -/
def frameCutUptoRow : OpenClaim := { program := "ytjihemgadbpebaa", sum := "5f684c6156c349284f21d0e16af7c741e1ca7cd72aa088051e334b5324e7c106", func := "foliate/foliatelaw03.FrameCut", spec := "frameCut", unfollowed := true, recurses := true, apart := false, narrowed := true }
def FrameCutUptoSaid : Prop := frameCutUptoRow.holds Try.pinned (OpenSpec.upto frameCutSpec)

/-- 'foliatelaw03.FrameList', WHERE WHAT IT READS IS OF BULK AT MOST 1048576: true; the input reads as it did. -/
def frameListUptoRow : OpenClaim := { program := "ytjihemgadbpebaa", sum := "5f684c6156c349284f21d0e16af7c741e1ca7cd72aa088051e334b5324e7c106", func := "foliate/foliatelaw03.FrameList", spec := "frameList", unfollowed := true, recurses := true, apart := false, narrowed := true }
def FrameListUptoSaid : Prop := frameListUptoRow.holds Try.pinned (OpenSpec.upto frameListSpec)

/-- 'foliatelaw03.FrameHead', WHERE WHAT IT READS IS OF BULK AT MOST 1048576: true; the input reads as it did. -/
def frameHeadUptoRow : OpenClaim := { program := "ytjihemgadbpebaa", sum := "5f684c6156c349284f21d0e16af7c741e1ca7cd72aa088051e334b5324e7c106", func := "foliate/foliatelaw03.FrameHead", spec := "frameHead", unfollowed := true, recurses := true, apart := false, narrowed := true }
def FrameHeadUptoSaid : Prop := frameHeadUptoRow.holds Try.pinned (OpenSpec.upto frameHeadSpec)

/-- 'foliatelaw03.FrameFirst', WHERE WHAT IT READS IS OF BULK AT MOST 1048576: true; the input reads as it did. -/
def frameFirstUptoRow : OpenClaim := { program := "ytjihemgadbpebaa", sum := "5f684c6156c349284f21d0e16af7c741e1ca7cd72aa088051e334b5324e7c106", func := "foliate/foliatelaw03.FrameFirst", spec := "frameFirst", unfollowed := true, recurses := true, apart := false, narrowed := true }
def FrameFirstUptoSaid : Prop := frameFirstUptoRow.holds Try.pinned (OpenSpec.upto frameFirstSpec)

end Rows
end Go.Proofs.Ytjihemgadbpebaa
