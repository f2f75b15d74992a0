/-
  DERIVED. GIVEN WITH THE SEED: THE CARDS: each row of YtfoefpoaomepbaaGreatDoorRows.lean that lists a variable, with what it lists TIED to the program's text (the seventh form; the later family's looks); each row that meets fmt, with fmt's text TOLD by the authors' own Lean function (tested against real Go, not proved from fmt's source: count such statements apart). THE CARD IS WHAT COUNTS. Prove the row's statement (the work); the ties are given (YtfoefpoaomepbaaGreatDoorTie.lean); close each card by the builder's one call (the guide's Derived/Test/ToyasCard.lean, 'card_holds'). Laid BY PROGRAM, IN A SANDBOX (cutbox-door.mjs). By AI agents, Wed Nov 11 2026. No macro, syntax, notation, axiom, sorry.
-/
import Derived.Test.YtfoefpoaomepbaaGreatDoorRows
import GoSem.ClaimSeven
namespace Go.Proofs.YtfoefpoaomepbaaGreatDoor
namespace Rows

/-- THE TIED CARD OF 'pensionlaw10.CompileFolds'. -/
def compileFoldsCard : Claim7 := { stood := { row := compileFoldsRow, standIns := [], harness := (true, "9b11dee53115b1d39055b61ca047ce365341c7a4e22940971b588069f3c26256"), looks := false }, kinds := [], alts := [], laidByText := true, laidKinds := [.data, .data, .data], laidTests := true, laidLooks := .later }
def CompileFoldsCardSaid : Prop := Claim7.holds Tryz.pinned (.plain (OpenSpec.ofChange compileFoldsSpec)) compileFoldsCard

/-- THE TIED CARD OF 'pensionlaw10.CompileKeeps'. -/
def compileKeepsCard : Claim7 := { stood := { row := compileKeepsRow, standIns := [], harness := (true, "9b11dee53115b1d39055b61ca047ce365341c7a4e22940971b588069f3c26256"), looks := false }, kinds := [], alts := [], laidByText := true, laidKinds := [.data, .data, .data], laidTests := true, laidLooks := .later }
def CompileKeepsCardSaid : Prop := Claim7.holds Tryz.pinned (.plain (OpenSpec.ofChange compileKeepsSpec)) compileKeepsCard

/-- THE TIED CARD OF 'pensionlaw10.CompileExprs'. -/
def compileExprsCard : Claim7 := { stood := { row := compileExprsRow, standIns := [], harness := (true, "9b11dee53115b1d39055b61ca047ce365341c7a4e22940971b588069f3c26256"), looks := false }, kinds := [], alts := [], laidByText := true, laidKinds := [.data, .data, .data], laidTests := true, laidLooks := .later }
def CompileExprsCardSaid : Prop := Claim7.holds Tryz.pinned (.plain (OpenSpec.ofChange compileExprsSpec)) compileExprsCard

/-- THE TIED CARD OF 'pensionlaw10.CompileTyped'. -/
def compileTypedCard : Claim7 := { stood := { row := compileTypedRow, standIns := [], harness := (true, "9b11dee53115b1d39055b61ca047ce365341c7a4e22940971b588069f3c26256"), looks := false }, kinds := [], alts := [], laidByText := true, laidKinds := [.data, .data, .data], laidTests := true, laidLooks := .later }
def CompileTypedCardSaid : Prop := Claim7.holds Tryz.pinned (.plain (OpenSpec.ofChange compileTypedSpec)) compileTypedCard

/-- THE TIED CARD OF 'pensionlaw10.CompileGrants'. -/
def compileGrantsCard : Claim7 := { stood := { row := compileGrantsRow, standIns := [], harness := (true, "9b11dee53115b1d39055b61ca047ce365341c7a4e22940971b588069f3c26256"), looks := false }, kinds := [], alts := [], laidByText := true, laidKinds := [.data, .data, .data], laidTests := true, laidLooks := .later }
def CompileGrantsCardSaid : Prop := Claim7.holds Tryz.pinned (.plain (OpenSpec.ofChange compileGrantsSpec)) compileGrantsCard

/-- THE SECOND FORM's CARD OF 'pensionlaw10.CompileFolds'. -/
def compileFoldsUptoCard : Claim7 := { stood := { row := compileFoldsUptoRow, standIns := [], harness := (true, "9b11dee53115b1d39055b61ca047ce365341c7a4e22940971b588069f3c26256"), looks := false }, kinds := [], alts := [], laidByText := true, laidKinds := [.data, .data, .data], laidTests := true, laidLooks := .later }
def CompileFoldsUptoCardSaid : Prop := Claim7.holds Tryz.pinned (.plain (OpenSpec.upto compileFoldsSpec)) compileFoldsUptoCard

/-- THE SECOND FORM's CARD OF 'pensionlaw10.CompileKeeps'. -/
def compileKeepsUptoCard : Claim7 := { stood := { row := compileKeepsUptoRow, standIns := [], harness := (true, "9b11dee53115b1d39055b61ca047ce365341c7a4e22940971b588069f3c26256"), looks := false }, kinds := [], alts := [], laidByText := true, laidKinds := [.data, .data, .data], laidTests := true, laidLooks := .later }
def CompileKeepsUptoCardSaid : Prop := Claim7.holds Tryz.pinned (.plain (OpenSpec.upto compileKeepsSpec)) compileKeepsUptoCard

/-- THE SECOND FORM's CARD OF 'pensionlaw10.CompileExprs'. -/
def compileExprsUptoCard : Claim7 := { stood := { row := compileExprsUptoRow, standIns := [], harness := (true, "9b11dee53115b1d39055b61ca047ce365341c7a4e22940971b588069f3c26256"), looks := false }, kinds := [], alts := [], laidByText := true, laidKinds := [.data, .data, .data], laidTests := true, laidLooks := .later }
def CompileExprsUptoCardSaid : Prop := Claim7.holds Tryz.pinned (.plain (OpenSpec.upto compileExprsSpec)) compileExprsUptoCard

/-- THE SECOND FORM's CARD OF 'pensionlaw10.CompileTyped'. -/
def compileTypedUptoCard : Claim7 := { stood := { row := compileTypedUptoRow, standIns := [], harness := (true, "9b11dee53115b1d39055b61ca047ce365341c7a4e22940971b588069f3c26256"), looks := false }, kinds := [], alts := [], laidByText := true, laidKinds := [.data, .data, .data], laidTests := true, laidLooks := .later }
def CompileTypedUptoCardSaid : Prop := Claim7.holds Tryz.pinned (.plain (OpenSpec.upto compileTypedSpec)) compileTypedUptoCard

/-- THE SECOND FORM's CARD OF 'pensionlaw10.CompileGrants'. -/
def compileGrantsUptoCard : Claim7 := { stood := { row := compileGrantsUptoRow, standIns := [], harness := (true, "9b11dee53115b1d39055b61ca047ce365341c7a4e22940971b588069f3c26256"), looks := false }, kinds := [], alts := [], laidByText := true, laidKinds := [.data, .data, .data], laidTests := true, laidLooks := .later }
def CompileGrantsUptoCardSaid : Prop := Claim7.holds Tryz.pinned (.plain (OpenSpec.upto compileGrantsSpec)) compileGrantsUptoCard
end Rows
end Go.Proofs.YtfoefpoaomepbaaGreatDoor
