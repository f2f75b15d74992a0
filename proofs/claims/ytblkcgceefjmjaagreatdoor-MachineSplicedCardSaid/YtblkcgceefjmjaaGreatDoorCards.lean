/-
  DERIVED. GIVEN WITH THE SEED: THE CARDS: each row of YtblkcgceefjmjaaGreatDoorRows.lean that lists a variable, with what it lists TIED to the program's text (the seventh form; the later family's looks); each row that meets fmt, with fmt's text TOLD by the authors' own Lean function (tested against real Go, not proved from fmt's source: count such statements apart). THE CARD IS WHAT COUNTS. Prove the row's statement (the work); the ties are given (YtblkcgceefjmjaaGreatDoorTie.lean); close each card by the builder's one call (the guide's Derived/Test/ToyasCard.lean, 'card_holds'). Laid BY PROGRAM, IN A SANDBOX (cutbox-door.mjs). By AI agents, Wed Nov 11 2026. No macro, syntax, notation, axiom, sorry.
-/
import Derived.Test.YtblkcgceefjmjaaGreatDoorRows
import GoSem.ClaimSeven
namespace Go.Proofs.YtblkcgceefjmjaaGreatDoor
namespace Rows

/-- THE TIED CARD OF 'pensionlaw10.CompileFolds'. -/
def compileFoldsCard : Claim7 := { stood := { row := compileFoldsRow, standIns := [], harness := (true, "20a3527a958b9b68cdbf06f6fa54777b64307c0cc3e86322b056ed6b01bbfd5f"), looks := false }, kinds := [], alts := [], laidByText := true, laidKinds := [.data, .data, .data], laidTests := true, laidLooks := .later }
def CompileFoldsCardSaid : Prop := Claim7.holds Tryz.pinned (.plain (OpenSpec.ofChange compileFoldsSpec)) compileFoldsCard

/-- THE TIED CARD OF 'pensionlaw10.CompileKeeps'. -/
def compileKeepsCard : Claim7 := { stood := { row := compileKeepsRow, standIns := [], harness := (true, "20a3527a958b9b68cdbf06f6fa54777b64307c0cc3e86322b056ed6b01bbfd5f"), looks := false }, kinds := [], alts := [], laidByText := true, laidKinds := [.data, .data, .data], laidTests := true, laidLooks := .later }
def CompileKeepsCardSaid : Prop := Claim7.holds Tryz.pinned (.plain (OpenSpec.ofChange compileKeepsSpec)) compileKeepsCard

/-- THE TIED CARD OF 'pensionlaw10.CompileExprs'. -/
def compileExprsCard : Claim7 := { stood := { row := compileExprsRow, standIns := [], harness := (true, "20a3527a958b9b68cdbf06f6fa54777b64307c0cc3e86322b056ed6b01bbfd5f"), looks := false }, kinds := [], alts := [], laidByText := true, laidKinds := [.data, .data, .data], laidTests := true, laidLooks := .later }
def CompileExprsCardSaid : Prop := Claim7.holds Tryz.pinned (.plain (OpenSpec.ofChange compileExprsSpec)) compileExprsCard

/-- THE TIED CARD OF 'pensionlaw10.CompileTyped'. -/
def compileTypedCard : Claim7 := { stood := { row := compileTypedRow, standIns := [], harness := (true, "20a3527a958b9b68cdbf06f6fa54777b64307c0cc3e86322b056ed6b01bbfd5f"), looks := false }, kinds := [], alts := [], laidByText := true, laidKinds := [.data, .data, .data], laidTests := true, laidLooks := .later }
def CompileTypedCardSaid : Prop := Claim7.holds Tryz.pinned (.plain (OpenSpec.ofChange compileTypedSpec)) compileTypedCard

/-- THE TIED CARD OF 'pensionlaw10.CompileGrants'. -/
def compileGrantsCard : Claim7 := { stood := { row := compileGrantsRow, standIns := [], harness := (true, "20a3527a958b9b68cdbf06f6fa54777b64307c0cc3e86322b056ed6b01bbfd5f"), looks := false }, kinds := [], alts := [], laidByText := true, laidKinds := [.data, .data, .data], laidTests := true, laidLooks := .later }
def CompileGrantsCardSaid : Prop := Claim7.holds Tryz.pinned (.plain (OpenSpec.ofChange compileGrantsSpec)) compileGrantsCard

/-- THE TIED CARD OF 'pensionlaw11.StatuteVerifies'. -/
def statuteVerifiesCard : Claim7 := { stood := { row := statuteVerifiesRow, standIns := [], harness := (true, "20a3527a958b9b68cdbf06f6fa54777b64307c0cc3e86322b056ed6b01bbfd5f"), looks := false }, kinds := [], alts := [], laidByText := true, laidKinds := [.data, .data, .data], laidTests := true, laidLooks := .later }
def StatuteVerifiesCardSaid : Prop := Claim7.holds Tryz.pinned (.plain (OpenSpec.ofChange statuteVerifiesSpec)) statuteVerifiesCard

/-- THE TIED CARD OF 'pensionlaw9.MachineRuns'. -/
def machineRunsCard : Claim7 := { stood := { row := machineRunsRow, standIns := [], harness := (true, "20a3527a958b9b68cdbf06f6fa54777b64307c0cc3e86322b056ed6b01bbfd5f"), looks := false }, kinds := [], alts := [], laidByText := true, laidKinds := [.data, .data, .data], laidTests := true, laidLooks := .later }
def MachineRunsCardSaid : Prop := Claim7.holds Tryz.pinned (.plain (OpenSpec.ofChange machineRunsSpec)) machineRunsCard

/-- THE TIED CARD OF 'pensionlaw9.MachineSafe'. -/
def machineSafeCard : Claim7 := { stood := { row := machineSafeRow, standIns := [], harness := (true, "20a3527a958b9b68cdbf06f6fa54777b64307c0cc3e86322b056ed6b01bbfd5f"), looks := false }, kinds := [], alts := [], laidByText := true, laidKinds := [.data, .data, .data], laidTests := true, laidLooks := .later }
def MachineSafeCardSaid : Prop := Claim7.holds Tryz.pinned (.plain (OpenSpec.ofChange machineSafeSpec)) machineSafeCard

/-- THE TIED CARD OF 'pensionlaw9.MachineSpliced'. -/
def machineSplicedCard : Claim7 := { stood := { row := machineSplicedRow, standIns := [], harness := (true, "20a3527a958b9b68cdbf06f6fa54777b64307c0cc3e86322b056ed6b01bbfd5f"), looks := false }, kinds := [], alts := [], laidByText := true, laidKinds := [.data, .data, .data], laidTests := true, laidLooks := .later }
def MachineSplicedCardSaid : Prop := Claim7.holds Tryz.pinned (.plain (OpenSpec.ofChange machineSplicedSpec)) machineSplicedCard

/-- THE TIED CARD OF 'pensionlaw10.CompileFinishes'. -/
def compileFinishesCard : Claim7 := { stood := { row := compileFinishesRow, standIns := [], harness := (true, "20a3527a958b9b68cdbf06f6fa54777b64307c0cc3e86322b056ed6b01bbfd5f"), looks := false }, kinds := [], alts := [], laidByText := true, laidKinds := [.data, .data, .data], laidTests := true, laidLooks := .later }
def CompileFinishesCardSaid : Prop := Claim7.holds Tryz.pinned (.plain (OpenSpec.ofChange compileFinishesSpec)) compileFinishesCard

/-- THE TIED CARD OF 'pensionlaw10.CompileCorrect'. -/
def compileCorrectCard : Claim7 := { stood := { row := compileCorrectRow, standIns := [], harness := (true, "20a3527a958b9b68cdbf06f6fa54777b64307c0cc3e86322b056ed6b01bbfd5f"), looks := false }, kinds := [], alts := [], laidByText := true, laidKinds := [.data, .data, .data], laidTests := true, laidLooks := .later }
def CompileCorrectCardSaid : Prop := Claim7.holds Tryz.pinned (.plain (OpenSpec.ofChange compileCorrectSpec)) compileCorrectCard

/-- THE TIED CARD OF 'pensionlaw10.CompileFolded'. -/
def compileFoldedCard : Claim7 := { stood := { row := compileFoldedRow, standIns := [], harness := (true, "20a3527a958b9b68cdbf06f6fa54777b64307c0cc3e86322b056ed6b01bbfd5f"), looks := false }, kinds := [], alts := [], laidByText := true, laidKinds := [.data, .data, .data], laidTests := true, laidLooks := .later }
def CompileFoldedCardSaid : Prop := Claim7.holds Tryz.pinned (.plain (OpenSpec.ofChange compileFoldedSpec)) compileFoldedCard

/-- THE SECOND FORM's CARD OF 'pensionlaw10.CompileFolds'. -/
def compileFoldsUptoCard : Claim7 := { stood := { row := compileFoldsUptoRow, standIns := [], harness := (true, "20a3527a958b9b68cdbf06f6fa54777b64307c0cc3e86322b056ed6b01bbfd5f"), looks := false }, kinds := [], alts := [], laidByText := true, laidKinds := [.data, .data, .data], laidTests := true, laidLooks := .later }
def CompileFoldsUptoCardSaid : Prop := Claim7.holds Tryz.pinned (.plain (OpenSpec.upto compileFoldsSpec)) compileFoldsUptoCard

/-- THE SECOND FORM's CARD OF 'pensionlaw10.CompileKeeps'. -/
def compileKeepsUptoCard : Claim7 := { stood := { row := compileKeepsUptoRow, standIns := [], harness := (true, "20a3527a958b9b68cdbf06f6fa54777b64307c0cc3e86322b056ed6b01bbfd5f"), looks := false }, kinds := [], alts := [], laidByText := true, laidKinds := [.data, .data, .data], laidTests := true, laidLooks := .later }
def CompileKeepsUptoCardSaid : Prop := Claim7.holds Tryz.pinned (.plain (OpenSpec.upto compileKeepsSpec)) compileKeepsUptoCard

/-- THE SECOND FORM's CARD OF 'pensionlaw10.CompileExprs'. -/
def compileExprsUptoCard : Claim7 := { stood := { row := compileExprsUptoRow, standIns := [], harness := (true, "20a3527a958b9b68cdbf06f6fa54777b64307c0cc3e86322b056ed6b01bbfd5f"), looks := false }, kinds := [], alts := [], laidByText := true, laidKinds := [.data, .data, .data], laidTests := true, laidLooks := .later }
def CompileExprsUptoCardSaid : Prop := Claim7.holds Tryz.pinned (.plain (OpenSpec.upto compileExprsSpec)) compileExprsUptoCard

/-- THE SECOND FORM's CARD OF 'pensionlaw10.CompileTyped'. -/
def compileTypedUptoCard : Claim7 := { stood := { row := compileTypedUptoRow, standIns := [], harness := (true, "20a3527a958b9b68cdbf06f6fa54777b64307c0cc3e86322b056ed6b01bbfd5f"), looks := false }, kinds := [], alts := [], laidByText := true, laidKinds := [.data, .data, .data], laidTests := true, laidLooks := .later }
def CompileTypedUptoCardSaid : Prop := Claim7.holds Tryz.pinned (.plain (OpenSpec.upto compileTypedSpec)) compileTypedUptoCard

/-- THE SECOND FORM's CARD OF 'pensionlaw10.CompileGrants'. -/
def compileGrantsUptoCard : Claim7 := { stood := { row := compileGrantsUptoRow, standIns := [], harness := (true, "20a3527a958b9b68cdbf06f6fa54777b64307c0cc3e86322b056ed6b01bbfd5f"), looks := false }, kinds := [], alts := [], laidByText := true, laidKinds := [.data, .data, .data], laidTests := true, laidLooks := .later }
def CompileGrantsUptoCardSaid : Prop := Claim7.holds Tryz.pinned (.plain (OpenSpec.upto compileGrantsSpec)) compileGrantsUptoCard

/-- THE SECOND FORM's CARD OF 'pensionlaw11.StatuteVerifies'. -/
def statuteVerifiesUptoCard : Claim7 := { stood := { row := statuteVerifiesUptoRow, standIns := [], harness := (true, "20a3527a958b9b68cdbf06f6fa54777b64307c0cc3e86322b056ed6b01bbfd5f"), looks := false }, kinds := [], alts := [], laidByText := true, laidKinds := [.data, .data, .data], laidTests := true, laidLooks := .later }
def StatuteVerifiesUptoCardSaid : Prop := Claim7.holds Tryz.pinned (.plain (OpenSpec.upto statuteVerifiesSpec)) statuteVerifiesUptoCard

/-- THE SECOND FORM's CARD OF 'pensionlaw9.MachineRuns'. -/
def machineRunsUptoCard : Claim7 := { stood := { row := machineRunsUptoRow, standIns := [], harness := (true, "20a3527a958b9b68cdbf06f6fa54777b64307c0cc3e86322b056ed6b01bbfd5f"), looks := false }, kinds := [], alts := [], laidByText := true, laidKinds := [.data, .data, .data], laidTests := true, laidLooks := .later }
def MachineRunsUptoCardSaid : Prop := Claim7.holds Tryz.pinned (.plain (OpenSpec.upto machineRunsSpec)) machineRunsUptoCard

/-- THE SECOND FORM's CARD OF 'pensionlaw9.MachineSafe'. -/
def machineSafeUptoCard : Claim7 := { stood := { row := machineSafeUptoRow, standIns := [], harness := (true, "20a3527a958b9b68cdbf06f6fa54777b64307c0cc3e86322b056ed6b01bbfd5f"), looks := false }, kinds := [], alts := [], laidByText := true, laidKinds := [.data, .data, .data], laidTests := true, laidLooks := .later }
def MachineSafeUptoCardSaid : Prop := Claim7.holds Tryz.pinned (.plain (OpenSpec.upto machineSafeSpec)) machineSafeUptoCard

/-- THE SECOND FORM's CARD OF 'pensionlaw9.MachineSpliced'. -/
def machineSplicedUptoCard : Claim7 := { stood := { row := machineSplicedUptoRow, standIns := [], harness := (true, "20a3527a958b9b68cdbf06f6fa54777b64307c0cc3e86322b056ed6b01bbfd5f"), looks := false }, kinds := [], alts := [], laidByText := true, laidKinds := [.data, .data, .data], laidTests := true, laidLooks := .later }
def MachineSplicedUptoCardSaid : Prop := Claim7.holds Tryz.pinned (.plain (OpenSpec.upto machineSplicedSpec)) machineSplicedUptoCard

/-- THE SECOND FORM's CARD OF 'pensionlaw10.CompileFinishes'. -/
def compileFinishesUptoCard : Claim7 := { stood := { row := compileFinishesUptoRow, standIns := [], harness := (true, "20a3527a958b9b68cdbf06f6fa54777b64307c0cc3e86322b056ed6b01bbfd5f"), looks := false }, kinds := [], alts := [], laidByText := true, laidKinds := [.data, .data, .data], laidTests := true, laidLooks := .later }
def CompileFinishesUptoCardSaid : Prop := Claim7.holds Tryz.pinned (.plain (OpenSpec.upto compileFinishesSpec)) compileFinishesUptoCard

/-- THE SECOND FORM's CARD OF 'pensionlaw10.CompileCorrect'. -/
def compileCorrectUptoCard : Claim7 := { stood := { row := compileCorrectUptoRow, standIns := [], harness := (true, "20a3527a958b9b68cdbf06f6fa54777b64307c0cc3e86322b056ed6b01bbfd5f"), looks := false }, kinds := [], alts := [], laidByText := true, laidKinds := [.data, .data, .data], laidTests := true, laidLooks := .later }
def CompileCorrectUptoCardSaid : Prop := Claim7.holds Tryz.pinned (.plain (OpenSpec.upto compileCorrectSpec)) compileCorrectUptoCard

/-- THE SECOND FORM's CARD OF 'pensionlaw10.CompileFolded'. -/
def compileFoldedUptoCard : Claim7 := { stood := { row := compileFoldedUptoRow, standIns := [], harness := (true, "20a3527a958b9b68cdbf06f6fa54777b64307c0cc3e86322b056ed6b01bbfd5f"), looks := false }, kinds := [], alts := [], laidByText := true, laidKinds := [.data, .data, .data], laidTests := true, laidLooks := .later }
def CompileFoldedUptoCardSaid : Prop := Claim7.holds Tryz.pinned (.plain (OpenSpec.upto compileFoldedSpec)) compileFoldedUptoCard
end Rows
end Go.Proofs.YtblkcgceefjmjaaGreatDoor
