-- Written by wip/tools/myprint.py, a program of the prover's own, over the kit's print; the contracts named 'HAND' there are typed by hand.
import Derived.Test.YtepgcejgjfeolaaProg
import Derived.Below
import Derived.Deep.Draws
import Derived.Deep.AppendLies
import Derived.Maps.AppendAt
import Derived.OwnWalk
import Derived.Laws.BytesArg
import Derived.Laws.MakeOwn
import Derived.Laws.OwnMore
import Derived.Deep.OwnRows
import Derived.Tactics
import Derived.Lib.ConvBytes
import Derived.Laws.Slices
import Derived.WalkKit
import Derived.KernelRfl
import Derived.RowKit3
import Derived.Deep.LoopGhost
import Derived.Deep.QuietTactic
import Derived.BigQuiet
import Derived.WideLaws
import Derived.Deep.DeepCutAuto
import Derived.Deep.CutBlock
import Derived.Deep.RegionHeld3
import Derived.Laws.Rows
import Derived.Lib.AppendStr
import Derived.ArgAppend
import Derived.Laws.IdiomCopy
import Derived.OrdersHeld
import Derived.Laws.BitsLemmas
import Derived.RowKit
import Derived.WalkSpells
import Derived.Test.YtepgcejgjfeolaaWWords
import Derived.Test.YtepgcejgjfeolaaWLast
import Derived.Test.YtepgcejgjfeolaaWTab
import Derived.Test.YtepgcejgjfeolaaWFour
import Derived.Test.YtepgcejgjfeolaaWQPut
import Derived.Test.YtepgcejgjfeolaaWApart
import Derived.Test.YtepgcejgjfeolaaWArr
import Derived.Test.YtepgcejgjfeolaaWZeros
import Derived.Test.YtepgcejgjfeolaaWFoot
import Derived.Test.YtepgcejgjfeolaaWKept
import Derived.Test.YtepgcejgjfeolaaWShare
import Derived.Test.YtepgcejgjfeolaaWN
import Derived.Test.YtepgcejgjfeolaaWFootNe
import Derived.Test.YtepgcejgjfeolaaWAt
import Derived.Test.YtepgcejgjfeolaaWEqStruct
import Derived.Test.YtepgcejgjfeolaaWRepsOne
import Derived.Test.YtepgcejgjfeolaaWInv
import Derived.Test.YtepgcejgjfeolaaWInvWords
import Derived.Test.YtepgcejgjfeolaaWGuard
import Derived.Test.YtepgcejgjfeolaaWNEv
import Derived.Test.YtepgcejgjfeolaaWMore
namespace Go.Proofs.Ytepgcejgjfeolaa.PTl
open Go.RowKit Go.Proofs.YtepgcejgjfeolaaW.PrintWords Go.Proofs.YtepgcejgjfeolaaW.PrintLast Go.Proofs.YtepgcejgjfeolaaW.PrintMore
attribute [local go_sem] max2_int min2_int max_two min_two max_three min_three max_four min_four   -- for this text's walks alone
set_option linter.unusedVariables false
set_option linter.unusedSimpArgs false



def errW : Option Int → Value
  | none => .nilIface
  | some c => .iface 0 (.int .i64 c)
theorem errW_none : errW none = .nilIface := rfl
theorem errW_some (c : Int) : errW (some c) = .iface 0 (.int .i64 c) := rfl

theorem info5 : (Try.prog.info? 5).map (fun i => (i.zero, i.size, i.bytes)) = some (some (.int .u8 0), 1, 1) := by kernel_rfl
-- the values' own types

end Go.Proofs.Ytepgcejgjfeolaa.PTl
