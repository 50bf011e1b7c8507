import Derived.Test.YtknkncdlcoglpaaDoorVari
import Derived.Lib.ConvBytes
namespace Go.Proofs.YtknkncdlcoglpaaDoor.Vari
open Go.RowKit Go.Proofs.YtknkncdlcoglpaaDoor.PAll Go.Proofs.YtknkncdlcoglpaaDoorW.PrintWords Go.Proofs.YtknkncdlcoglpaaDoorW.PrintLast Go.Proofs.YtknkncdlcoglpaaDoorW.PrintMore
theorem str_inj0 {l m : List Int} (hl : Bytes l) (hm : Bytes m) (h : (strOfNums l).toList = (strOfNums m).toList) : l = m := by
  rw [ByteArray.toList_eq, ByteArray.toList_eq] at h
  unfold strOfNums at h
  simp only at h
  induction l generalizing m with
  | nil =>
    cases m with
    | nil => rfl
    | cons _ _ => simp at h
  | cons x t ih =>
    cases m with
    | nil => simp at h
    | cons y u =>
      simp only [List.map_cons, List.cons.injEq] at h
      have h1 := hl x List.mem_cons_self
      have h2 := hm y List.mem_cons_self
      have h3 := congrArg UInt8.toNat h.1
      simp only [UInt8.toNat_ofNat'] at h3
      have h4 : x = y := by omega
      rw [h4, ih (fun z hz => hl z (List.mem_cons_of_mem _ hz)) (fun z hz => hm z (List.mem_cons_of_mem _ hz)) h.2]
end Go.Proofs.YtknkncdlcoglpaaDoor.Vari
