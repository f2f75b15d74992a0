/-
  DERIVED. GIVEN WITH THE SEED: THE CARDS: each row of YteildlpchhlchaaGreatDoorRows.lean that lists a variable, with what it lists TIED to the program's text (the seventh form; the later family's looks); each row that meets fmt, with fmt's text TOLD by the authors' own Lean function (tested against real Go, not proved from fmt's source: count such statements apart). THE CARD IS WHAT COUNTS. Prove the row's statement (the work); the ties are given (YteildlpchhlchaaGreatDoorTie.lean); close each card by the builder's one call (the guide's Derived/Test/ToyasCard.lean, 'card_holds'). Laid BY PROGRAM, IN A SANDBOX (cutbox-door.mjs). By AI agents, Wed Nov 11 2026. No macro, syntax, notation, axiom, sorry.
-/
import Derived.Test.YteildlpchhlchaaGreatDoorRows
import GoSem.ClaimSeven
namespace Go.Proofs.YteildlpchhlchaaGreatDoor
namespace Rows

/-- THE TIED CARD OF 'pensionlaw10.CompileFolds'. -/
def compileFoldsCard : Claim7 := { stood := { row := compileFoldsRow, standIns := [], harness := (true, "d1d9ea74313e1769e99e7ebb29c4a5dfdffb601cf341dc7f4f5d8ed1408f24ad"), looks := false }, kinds := [], alts := [], laidByText := true, laidKinds := [.data, .data, .data], laidTests := true, laidLooks := .later }
def CompileFoldsCardSaid : Prop := Claim7.holds Tryz.pinned (.plain (OpenSpec.ofChange compileFoldsSpec)) compileFoldsCard

/-- THE TIED CARD OF 'pensionlaw10.CompileKeeps'. -/
def compileKeepsCard : Claim7 := { stood := { row := compileKeepsRow, standIns := [], harness := (true, "d1d9ea74313e1769e99e7ebb29c4a5dfdffb601cf341dc7f4f5d8ed1408f24ad"), looks := false }, kinds := [], alts := [], laidByText := true, laidKinds := [.data, .data, .data], laidTests := true, laidLooks := .later }
def CompileKeepsCardSaid : Prop := Claim7.holds Tryz.pinned (.plain (OpenSpec.ofChange compileKeepsSpec)) compileKeepsCard

/-- THE TIED CARD OF 'pensionlaw10.CompileExprs'. -/
def compileExprsCard : Claim7 := { stood := { row := compileExprsRow, standIns := [], harness := (true, "d1d9ea74313e1769e99e7ebb29c4a5dfdffb601cf341dc7f4f5d8ed1408f24ad"), looks := false }, kinds := [], alts := [], laidByText := true, laidKinds := [.data, .data, .data], laidTests := true, laidLooks := .later }
def CompileExprsCardSaid : Prop := Claim7.holds Tryz.pinned (.plain (OpenSpec.ofChange compileExprsSpec)) compileExprsCard

/-- THE TIED CARD OF 'pensionlaw10.CompileTyped'. -/
def compileTypedCard : Claim7 := { stood := { row := compileTypedRow, standIns := [], harness := (true, "d1d9ea74313e1769e99e7ebb29c4a5dfdffb601cf341dc7f4f5d8ed1408f24ad"), looks := false }, kinds := [], alts := [], laidByText := true, laidKinds := [.data, .data, .data], laidTests := true, laidLooks := .later }
def CompileTypedCardSaid : Prop := Claim7.holds Tryz.pinned (.plain (OpenSpec.ofChange compileTypedSpec)) compileTypedCard

/-- THE TIED CARD OF 'pensionlaw9.MachineRuns'. -/
def machineRunsCard : Claim7 := { stood := { row := machineRunsRow, standIns := [], harness := (true, "d1d9ea74313e1769e99e7ebb29c4a5dfdffb601cf341dc7f4f5d8ed1408f24ad"), looks := false }, kinds := [], alts := [], laidByText := true, laidKinds := [.data, .data, .data], laidTests := true, laidLooks := .later }
def MachineRunsCardSaid : Prop := Claim7.holds Tryz.pinned (.plain (OpenSpec.ofChange machineRunsSpec)) machineRunsCard

/-- THE SECOND FORM's CARD OF 'pensionlaw10.CompileFolds'. -/
def compileFoldsUptoCard : Claim7 := { stood := { row := compileFoldsUptoRow, standIns := [], harness := (true, "d1d9ea74313e1769e99e7ebb29c4a5dfdffb601cf341dc7f4f5d8ed1408f24ad"), looks := false }, kinds := [], alts := [], laidByText := true, laidKinds := [.data, .data, .data], laidTests := true, laidLooks := .later }
def CompileFoldsUptoCardSaid : Prop := Claim7.holds Tryz.pinned (.plain (OpenSpec.upto compileFoldsSpec)) compileFoldsUptoCard

/-- THE SECOND FORM's CARD OF 'pensionlaw10.CompileKeeps'. -/
def compileKeepsUptoCard : Claim7 := { stood := { row := compileKeepsUptoRow, standIns := [], harness := (true, "d1d9ea74313e1769e99e7ebb29c4a5dfdffb601cf341dc7f4f5d8ed1408f24ad"), looks := false }, kinds := [], alts := [], laidByText := true, laidKinds := [.data, .data, .data], laidTests := true, laidLooks := .later }
def CompileKeepsUptoCardSaid : Prop := Claim7.holds Tryz.pinned (.plain (OpenSpec.upto compileKeepsSpec)) compileKeepsUptoCard

/-- THE SECOND FORM's CARD OF 'pensionlaw10.CompileExprs'. -/
def compileExprsUptoCard : Claim7 := { stood := { row := compileExprsUptoRow, standIns := [], harness := (true, "d1d9ea74313e1769e99e7ebb29c4a5dfdffb601cf341dc7f4f5d8ed1408f24ad"), looks := false }, kinds := [], alts := [], laidByText := true, laidKinds := [.data, .data, .data], laidTests := true, laidLooks := .later }
def CompileExprsUptoCardSaid : Prop := Claim7.holds Tryz.pinned (.plain (OpenSpec.upto compileExprsSpec)) compileExprsUptoCard

/-- THE SECOND FORM's CARD OF 'pensionlaw10.CompileTyped'. -/
def compileTypedUptoCard : Claim7 := { stood := { row := compileTypedUptoRow, standIns := [], harness := (true, "d1d9ea74313e1769e99e7ebb29c4a5dfdffb601cf341dc7f4f5d8ed1408f24ad"), looks := false }, kinds := [], alts := [], laidByText := true, laidKinds := [.data, .data, .data], laidTests := true, laidLooks := .later }
def CompileTypedUptoCardSaid : Prop := Claim7.holds Tryz.pinned (.plain (OpenSpec.upto compileTypedSpec)) compileTypedUptoCard

/-- THE SECOND FORM's CARD OF 'pensionlaw9.MachineRuns'. -/
def machineRunsUptoCard : Claim7 := { stood := { row := machineRunsUptoRow, standIns := [], harness := (true, "d1d9ea74313e1769e99e7ebb29c4a5dfdffb601cf341dc7f4f5d8ed1408f24ad"), looks := false }, kinds := [], alts := [], laidByText := true, laidKinds := [.data, .data, .data], laidTests := true, laidLooks := .later }
def MachineRunsUptoCardSaid : Prop := Claim7.holds Tryz.pinned (.plain (OpenSpec.upto machineRunsSpec)) machineRunsUptoCard
end Rows
end Go.Proofs.YteildlpchhlchaaGreatDoor
