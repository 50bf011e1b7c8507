import Derived.Test.YtlcanmndeempfaaSchMay
import Derived.WalkKit
import Derived.ProofKit
import Derived.OpenShut
import Derived.ShutString
import Derived.ChangeOld
import Derived.Below
import Derived.SizedLaws
import Derived.Lib.SmallJoins
import Derived.ChangeArms
import Derived.Deep.Slices
import Derived.Deep.Strs
import Derived.ChangeSame
import Derived.RowKit
import Derived.Test.YtlcanmndeempfaaRows
namespace Go.Proofs.Ytlcanmndeempfaa.SchRow
open Go.ChangeShapes Go.WideShapes Go.ChangeAt Go.RowKit Go.Joins Go.Deep Go.Proofs.Ytlcanmndeempfaa.PAll Go.Proofs.YtlcanmndeempfaaW.PrintWords Go.Proofs.YtlcanmndeempfaaW.PrintLast Go.Proofs.Ytlcanmndeempfaa.Sch
/-! What comes in, read: a row of elements of whatever kind; a field, a type, a schema. -/
section
variable {H : Type} {enc : TypeId × Value → H} {W : World}
noncomputable instance : Inhabited S40 := ⟨z40⟩
noncomputable instance : Inhabited S34 := ⟨z34⟩
end
end Go.Proofs.Ytlcanmndeempfaa.SchRow
