-- Written by wip/tools/myprint.py, a program of the prover's own, over the kit's print; the contracts named 'HAND' there are typed by hand.
import Derived.Test.YtflkjacmnoocfaaProg
import Derived.Below
import Derived.Deep.Draws
import Derived.Deep.AppendLies
import Derived.Maps.AppendAt
import Derived.OwnWalk
import Derived.Laws.BytesArg
import Derived.Laws.MakeOwn
import Derived.Laws.OwnMore
import Derived.Deep.OwnRows
import Derived.Tactics
import Derived.Lib.ConvBytes
import Derived.Laws.Slices
import Derived.WalkKit
import Derived.KernelRfl
import Derived.RowKit3
import Derived.Deep.LoopGhost
import Derived.Deep.QuietTactic
import Derived.BigQuiet
import Derived.WideLaws
import Derived.Deep.DeepCutAuto
import Derived.Deep.CutBlock
import Derived.Deep.RegionHeld3
import Derived.Laws.Rows
import Derived.Lib.AppendStr
import Derived.ArgAppend
import Derived.Laws.IdiomCopy
import Derived.OrdersHeld
import Derived.Laws.BitsLemmas
import Derived.RowKit
import Derived.RangeFuncNested
import Derived.RangeFuncBound
import Derived.RangeFuncCalls
import Derived.RangeFuncLeaves
import Derived.Shelf.Abstract
import Derived.OwnWalkIn
import Derived.TacticsInMore
import Derived.LoopNIn
import Derived.LoopIn
import Derived.Scope
import Derived.Test.YtflkjacmnoocfaaWWords
import Derived.Test.YtflkjacmnoocfaaWLast
import Derived.Test.YtflkjacmnoocfaaWTab
import Derived.Test.YtflkjacmnoocfaaWFour
import Derived.Test.YtflkjacmnoocfaaWQPut
import Derived.Test.YtflkjacmnoocfaaWApart
import Derived.Test.YtflkjacmnoocfaaWArr
import Derived.Test.YtflkjacmnoocfaaWZeros
import Derived.Test.YtflkjacmnoocfaaWFoot
import Derived.Test.YtflkjacmnoocfaaWKept
import Derived.Test.YtflkjacmnoocfaaWShare
import Derived.Test.YtflkjacmnoocfaaWN
import Derived.Test.YtflkjacmnoocfaaWFootNe
import Derived.Test.YtflkjacmnoocfaaWAt
import Derived.Test.YtflkjacmnoocfaaWEqStruct
import Derived.Test.YtflkjacmnoocfaaWRepsOne
import Derived.Test.YtflkjacmnoocfaaWInv
import Derived.Test.YtflkjacmnoocfaaWInvWords
import Derived.Test.YtflkjacmnoocfaaWGuard
import Derived.Test.YtflkjacmnoocfaaWNEv
import Derived.Test.YtflkjacmnoocfaaWMore
namespace Go.Proofs.Ytflkjacmnoocfaa.PTl
open Go.RowKit Go.Proofs.YtflkjacmnoocfaaW.PrintWords Go.Proofs.YtflkjacmnoocfaaW.PrintLast Go.Proofs.YtflkjacmnoocfaaW.PrintMore
attribute [local go_sem] max2_int min2_int max_two min_two max_three min_three max_four min_four   -- for this text's walks alone
set_option linter.unusedVariables false
set_option linter.unusedSimpArgs false



def errW : Option Int → Value
  | none => .nilIface
  | some c => .iface 0 (.int .i64 c)
theorem errW_none : errW none = .nilIface := rfl
theorem errW_some (c : Int) : errW (some c) = .iface 0 (.int .i64 c) := rfl

theorem info5 : (Try.prog.info? 5).map (fun i => (i.zero, i.size, i.bytes)) = some (some (.int .u8 0), 1, 1) := by kernel_rfl
theorem info22 : (Try.prog.info? 22).map (fun i => (i.zero, i.size, i.bytes)) = some (some (.int .u64 0), 1, 8) := by kernel_rfl
-- the values' own types

end Go.Proofs.Ytflkjacmnoocfaa.PTl
