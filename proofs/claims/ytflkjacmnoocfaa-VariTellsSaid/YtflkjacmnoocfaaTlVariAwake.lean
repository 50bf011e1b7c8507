import Derived.Test.YtflkjacmnoocfaaTlVari
import Derived.Test.YtflkjacmnoocfaaPTlx5
namespace Go.Proofs.Ytflkjacmnoocfaa.TlVari
open Go.RowKit Go.Proofs.Ytflkjacmnoocfaa.PTl Go.Proofs.YtflkjacmnoocfaaW.PrintWords Go.Proofs.YtflkjacmnoocfaaW.PrintLast
/-! The laws' own example. -/
theorem awake20 : foliatelaw01_awake.f 20 = some true := by kernel_rfl
theorem awake (k : Nat) (h : 20 ≤ k) : foliatelaw01_awake.f k = some true := at_rounds foliatelaw01_awake.mono h awake20
end Go.Proofs.Ytflkjacmnoocfaa.TlVari
