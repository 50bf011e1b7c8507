import Derived.Test.YtkcleflejkkabaaCrc
import Derived.Test.YtkcleflejkkabaaPAllx2
namespace Go.Proofs.Ytkcleflejkkabaa.Crc
open Go.RowKit Go.Proofs.Ytkcleflejkkabaa.PAll Go.Proofs.YtkcleflejkkabaaW.PrintWords Go.Proofs.YtkcleflejkkabaaW.PrintLast Go.Proofs.Ytkcleflejkkabaa.Bits32
/-! The laws' own example. -/
theorem awake10 : foliatelaw02_awake.f 10 = some true := by kernel_rfl
theorem awake (k : Nat) (h : 10 ≤ k) : foliatelaw02_awake.f k = some true := at_rounds foliatelaw02_awake.mono h awake10
end Go.Proofs.Ytkcleflejkkabaa.Crc
