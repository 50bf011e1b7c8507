import Derived.Test.YtknkncdlcoglpaaDoorFlowAwake
namespace Go.Proofs.YtknkncdlcoglpaaDoor.Flow
open Go.RowKit Go.Proofs.YtknkncdlcoglpaaDoor.PAll Go.Proofs.YtknkncdlcoglpaaDoorW.PrintWords Go.Proofs.YtknkncdlcoglpaaDoorW.PrintLast Go.Proofs.YtknkncdlcoglpaaDoor.Vari
open Go.Proofs.YtknkncdlcoglpaaDoor.Frame (frameB frameB_length allL allf_eq allL_frame allL_nil frame_bytes put_ok next_nat getP get_inv get_err allL_cons allL_err equal_eq)
/-! Nothing else is a flow's bytes: what is longer or shorter, and frames that are not where they were. -/
/-! where frames begin -/
theorem cutsL_length (F : List Fr) : (cutsL F).length = F.length + 1 := by
  unfold cutsL
  rw [List.length_map, List.length_cons, cutsFrom_length]
end Go.Proofs.YtknkncdlcoglpaaDoor.Flow
