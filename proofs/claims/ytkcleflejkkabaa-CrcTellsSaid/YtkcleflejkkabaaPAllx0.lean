-- Written by wip/tools/myprint.py, a program of the prover's own, over the kit's print; the contracts named 'HAND' there are typed by hand.
import Derived.Test.YtkcleflejkkabaaProg
import Derived.Below
import Derived.Deep.Draws
import Derived.Deep.AppendLies
import Derived.Maps.AppendAt
import Derived.OwnWalk
import Derived.Laws.BytesArg
import Derived.Laws.MakeOwn
import Derived.Laws.OwnMore
import Derived.Deep.OwnRows
import Derived.Tactics
import Derived.Lib.ConvBytes
import Derived.Laws.Slices
import Derived.WalkKit
import Derived.KernelRfl
import Derived.RowKit3
import Derived.Deep.LoopGhost
import Derived.Deep.QuietTactic
import Derived.BigQuiet
import Derived.WideLaws
import Derived.Deep.DeepCutAuto
import Derived.Deep.CutBlock
import Derived.Deep.RegionHeld3
import Derived.Laws.Rows
import Derived.Lib.AppendStr
import Derived.ArgAppend
import Derived.Laws.IdiomCopy
import Derived.OrdersHeld
import Derived.Laws.BitsLemmas
import Derived.RowKit
import Derived.Test.YtkcleflejkkabaaWWords
import Derived.Test.YtkcleflejkkabaaWLast
import Derived.Test.YtkcleflejkkabaaWTab
import Derived.Test.YtkcleflejkkabaaWFour
import Derived.Test.YtkcleflejkkabaaWQPut
import Derived.Test.YtkcleflejkkabaaWApart
import Derived.Test.YtkcleflejkkabaaWArr
import Derived.Test.YtkcleflejkkabaaWZeros
import Derived.Test.YtkcleflejkkabaaWFoot
import Derived.Test.YtkcleflejkkabaaWKept
import Derived.Test.YtkcleflejkkabaaWShare
import Derived.Test.YtkcleflejkkabaaWN
import Derived.Test.YtkcleflejkkabaaWFootNe
import Derived.Test.YtkcleflejkkabaaWAt
import Derived.Test.YtkcleflejkkabaaWEqStruct
import Derived.Test.YtkcleflejkkabaaWRepsOne
import Derived.Test.YtkcleflejkkabaaWInv
import Derived.Test.YtkcleflejkkabaaWInvWords
import Derived.Test.YtkcleflejkkabaaWGuard
import Derived.Test.YtkcleflejkkabaaWNEv
import Derived.Test.YtkcleflejkkabaaWMore
namespace Go.Proofs.Ytkcleflejkkabaa.PAll
open Go.RowKit Go.Proofs.YtkcleflejkkabaaW.PrintWords Go.Proofs.YtkcleflejkkabaaW.PrintLast Go.Proofs.YtkcleflejkkabaaW.PrintMore
attribute [local go_sem] max2_int min2_int max_two min_two max_three min_three max_four min_four   -- for this text's walks alone
set_option linter.unusedVariables false
set_option linter.unusedSimpArgs false



def errW : Option Int → Value
  | none => .nilIface
  | some c => .iface 0 (.int .i64 c)
theorem errW_none : errW none = .nilIface := rfl
theorem errW_some (c : Int) : errW (some c) = .iface 0 (.int .i64 c) := rfl

theorem info5 : (Try.prog.info? 5).map (fun i => (i.zero, i.size, i.bytes)) = some (some (.int .u8 0), 1, 1) := by kernel_rfl
-- the values' own types

end Go.Proofs.Ytkcleflejkkabaa.PAll
