/-
  DERIVED. GIVEN WITH THE SEED: THE CARDS: each row of YtknkncdlcoglpaaDoorRows.lean that lists a variable, with what it lists TIED to the program's text (the seventh form; the later family's looks); each row that meets fmt, with fmt's text TOLD by the authors' own Lean function (tested against real Go, not proved from fmt's source: count such statements apart). THE CARD IS WHAT COUNTS. Prove the row's statement (the work); the ties are given (YtknkncdlcoglpaaDoorTie.lean); close each card by the builder's one call (the guide's Derived/Test/ToyasCard.lean, 'card_holds'). Laid BY PROGRAM, IN A SANDBOX (cutbox-door.mjs). By AI agents, Wed Nov 11 2026. No macro, syntax, notation, axiom, sorry.
-/
import Derived.Test.YtknkncdlcoglpaaDoorRows
import GoSem.ClaimSeven
namespace Go.Proofs.YtknkncdlcoglpaaDoor
namespace Rows

/-- THE TIED CARD OF 'foliatelaw04.FlowTells'. -/
def flowTellsCard : Claim7 := { stood := { row := flowTellsRow, standIns := [], harness := (true, "3ea8961730056377d0facc4d15f885ccac1e93b0cfdde8d53a4fb8baaed2d1db"), looks := true }, kinds := [], alts := [], laidByText := true, laidKinds := [.handle], laidTests := true, laidLooks := .later }
def FlowTellsCardSaid : Prop := Claim7.holds Tryd.pinned (.plain (OpenSpec.ofChange flowTellsSpec)) flowTellsCard

/-- THE TIED CARD OF 'foliatelaw04.FlowBack'. -/
def flowBackCard : Claim7 := { stood := { row := flowBackRow, standIns := [], harness := (true, "3ea8961730056377d0facc4d15f885ccac1e93b0cfdde8d53a4fb8baaed2d1db"), looks := true }, kinds := [], alts := [], laidByText := true, laidKinds := [.handle], laidTests := true, laidLooks := .later }
def FlowBackCardSaid : Prop := Claim7.holds Tryd.pinned (.plain (OpenSpec.ofChange flowBackSpec)) flowBackCard

/-- THE TIED CARD OF 'foliatelaw04.FlowCut'. -/
def flowCutCard : Claim7 := { stood := { row := flowCutRow, standIns := [], harness := (true, "3ea8961730056377d0facc4d15f885ccac1e93b0cfdde8d53a4fb8baaed2d1db"), looks := true }, kinds := [], alts := [], laidByText := true, laidKinds := [.handle], laidTests := true, laidLooks := .later }
def FlowCutCardSaid : Prop := Claim7.holds Tryd.pinned (.plain (OpenSpec.ofChange flowCutSpec)) flowCutCard

/-- THE TIED CARD OF 'foliatelaw04.FlowFrames'. -/
def flowFramesCard : Claim7 := { stood := { row := flowFramesRow, standIns := [], harness := (true, "3ea8961730056377d0facc4d15f885ccac1e93b0cfdde8d53a4fb8baaed2d1db"), looks := true }, kinds := [], alts := [], laidByText := true, laidKinds := [.handle], laidTests := true, laidLooks := .later }
def FlowFramesCardSaid : Prop := Claim7.holds Tryd.pinned (.plain (OpenSpec.ofChange flowFramesSpec)) flowFramesCard

/-- THE TIED CARD OF 'foliatelaw04.FlowBurst'. -/
def flowBurstCard : Claim7 := { stood := { row := flowBurstRow, standIns := [], harness := (true, "3ea8961730056377d0facc4d15f885ccac1e93b0cfdde8d53a4fb8baaed2d1db"), looks := true }, kinds := [], alts := [], laidByText := true, laidKinds := [.handle], laidTests := true, laidLooks := .later }
def FlowBurstCardSaid : Prop := Claim7.holds Tryd.pinned (.plain (OpenSpec.ofChange flowBurstSpec)) flowBurstCard

/-- THE TIED CARD OF 'foliatelaw04.FlowParts'. -/
def flowPartsCard : Claim7 := { stood := { row := flowPartsRow, standIns := [], harness := (true, "3ea8961730056377d0facc4d15f885ccac1e93b0cfdde8d53a4fb8baaed2d1db"), looks := true }, kinds := [], alts := [], laidByText := true, laidKinds := [.handle], laidTests := true, laidLooks := .later }
def FlowPartsCardSaid : Prop := Claim7.holds Tryd.pinned (.plain (OpenSpec.ofChange flowPartsSpec)) flowPartsCard

/-- THE TIED CARD OF 'foliatelaw04.FlowOther'. -/
def flowOtherCard : Claim7 := { stood := { row := flowOtherRow, standIns := [], harness := (true, "3ea8961730056377d0facc4d15f885ccac1e93b0cfdde8d53a4fb8baaed2d1db"), looks := true }, kinds := [], alts := [], laidByText := true, laidKinds := [.handle], laidTests := true, laidLooks := .later }
def FlowOtherCardSaid : Prop := Claim7.holds Tryd.pinned (.plain (OpenSpec.ofChange flowOtherSpec)) flowOtherCard

/-- THE SECOND FORM's CARD OF 'foliatelaw04.FlowTells'. -/
def flowTellsUptoCard : Claim7 := { stood := { row := flowTellsUptoRow, standIns := [], harness := (true, "3ea8961730056377d0facc4d15f885ccac1e93b0cfdde8d53a4fb8baaed2d1db"), looks := true }, kinds := [], alts := [], laidByText := true, laidKinds := [.handle], laidTests := true, laidLooks := .later }
def FlowTellsUptoCardSaid : Prop := Claim7.holds Tryd.pinned (.plain (OpenSpec.upto flowTellsSpec)) flowTellsUptoCard

/-- THE SECOND FORM's CARD OF 'foliatelaw04.FlowBack'. -/
def flowBackUptoCard : Claim7 := { stood := { row := flowBackUptoRow, standIns := [], harness := (true, "3ea8961730056377d0facc4d15f885ccac1e93b0cfdde8d53a4fb8baaed2d1db"), looks := true }, kinds := [], alts := [], laidByText := true, laidKinds := [.handle], laidTests := true, laidLooks := .later }
def FlowBackUptoCardSaid : Prop := Claim7.holds Tryd.pinned (.plain (OpenSpec.upto flowBackSpec)) flowBackUptoCard

/-- THE SECOND FORM's CARD OF 'foliatelaw04.FlowCut'. -/
def flowCutUptoCard : Claim7 := { stood := { row := flowCutUptoRow, standIns := [], harness := (true, "3ea8961730056377d0facc4d15f885ccac1e93b0cfdde8d53a4fb8baaed2d1db"), looks := true }, kinds := [], alts := [], laidByText := true, laidKinds := [.handle], laidTests := true, laidLooks := .later }
def FlowCutUptoCardSaid : Prop := Claim7.holds Tryd.pinned (.plain (OpenSpec.upto flowCutSpec)) flowCutUptoCard

/-- THE SECOND FORM's CARD OF 'foliatelaw04.FlowFrames'. -/
def flowFramesUptoCard : Claim7 := { stood := { row := flowFramesUptoRow, standIns := [], harness := (true, "3ea8961730056377d0facc4d15f885ccac1e93b0cfdde8d53a4fb8baaed2d1db"), looks := true }, kinds := [], alts := [], laidByText := true, laidKinds := [.handle], laidTests := true, laidLooks := .later }
def FlowFramesUptoCardSaid : Prop := Claim7.holds Tryd.pinned (.plain (OpenSpec.upto flowFramesSpec)) flowFramesUptoCard

/-- THE SECOND FORM's CARD OF 'foliatelaw04.FlowBurst'. -/
def flowBurstUptoCard : Claim7 := { stood := { row := flowBurstUptoRow, standIns := [], harness := (true, "3ea8961730056377d0facc4d15f885ccac1e93b0cfdde8d53a4fb8baaed2d1db"), looks := true }, kinds := [], alts := [], laidByText := true, laidKinds := [.handle], laidTests := true, laidLooks := .later }
def FlowBurstUptoCardSaid : Prop := Claim7.holds Tryd.pinned (.plain (OpenSpec.upto flowBurstSpec)) flowBurstUptoCard

/-- THE SECOND FORM's CARD OF 'foliatelaw04.FlowParts'. -/
def flowPartsUptoCard : Claim7 := { stood := { row := flowPartsUptoRow, standIns := [], harness := (true, "3ea8961730056377d0facc4d15f885ccac1e93b0cfdde8d53a4fb8baaed2d1db"), looks := true }, kinds := [], alts := [], laidByText := true, laidKinds := [.handle], laidTests := true, laidLooks := .later }
def FlowPartsUptoCardSaid : Prop := Claim7.holds Tryd.pinned (.plain (OpenSpec.upto flowPartsSpec)) flowPartsUptoCard

/-- THE SECOND FORM's CARD OF 'foliatelaw04.FlowOther'. -/
def flowOtherUptoCard : Claim7 := { stood := { row := flowOtherUptoRow, standIns := [], harness := (true, "3ea8961730056377d0facc4d15f885ccac1e93b0cfdde8d53a4fb8baaed2d1db"), looks := true }, kinds := [], alts := [], laidByText := true, laidKinds := [.handle], laidTests := true, laidLooks := .later }
def FlowOtherUptoCardSaid : Prop := Claim7.holds Tryd.pinned (.plain (OpenSpec.upto flowOtherSpec)) flowOtherUptoCard
end Rows
end Go.Proofs.YtknkncdlcoglpaaDoor
