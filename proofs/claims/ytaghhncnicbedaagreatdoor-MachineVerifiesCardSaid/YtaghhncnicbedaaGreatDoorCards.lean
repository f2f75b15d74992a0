/-
  DERIVED. GIVEN WITH THE SEED: THE CARDS: each row of YtaghhncnicbedaaGreatDoorRows.lean that lists a variable, with what it lists TIED to the program's text (the seventh form; the later family's looks); each row that meets fmt, with fmt's text TOLD by the authors' own Lean function (tested against real Go, not proved from fmt's source: count such statements apart). THE CARD IS WHAT COUNTS. Prove the row's statement (the work); the ties are given (YtaghhncnicbedaaGreatDoorTie.lean); close each card by the builder's one call (the guide's Derived/Test/ToyasCard.lean, 'card_holds'). Laid BY PROGRAM, IN A SANDBOX (cutbox-door.mjs). By AI agents, Wed Nov 11 2026. No macro, syntax, notation, axiom, sorry.
-/
import Derived.Test.YtaghhncnicbedaaGreatDoorRows
import GoSem.ClaimSeven
namespace Go.Proofs.YtaghhncnicbedaaGreatDoor
namespace Rows

/-- THE TIED CARD OF 'pensionlaw11.StatuteVerifies'. -/
def statuteVerifiesCard : Claim7 := { stood := { row := statuteVerifiesRow, standIns := [], harness := (true, "d7db39a3771e1964012d680e5925802c2c1deba6a742c874945c5b170f08a901"), looks := false }, kinds := [], alts := [], laidByText := true, laidKinds := [.data, .data, .data], laidTests := true, laidLooks := .later }
def StatuteVerifiesCardSaid : Prop := Claim7.holds Tryz.pinned (.plain (OpenSpec.ofChange statuteVerifiesSpec)) statuteVerifiesCard

/-- THE TIED CARD OF 'pensionlaw9.MachineVerifies'. -/
def machineVerifiesCard : Claim7 := { stood := { row := machineVerifiesRow, standIns := [], harness := (true, "d7db39a3771e1964012d680e5925802c2c1deba6a742c874945c5b170f08a901"), looks := false }, kinds := [], alts := [], laidByText := true, laidKinds := [.data, .data, .data], laidTests := true, laidLooks := .later }
def MachineVerifiesCardSaid : Prop := Claim7.holds Tryz.pinned (.plain (OpenSpec.ofChange machineVerifiesSpec)) machineVerifiesCard

/-- THE TIED CARD OF 'pensionlaw9.MachineRaw'. -/
def machineRawCard : Claim7 := { stood := { row := machineRawRow, standIns := [], harness := (true, "d7db39a3771e1964012d680e5925802c2c1deba6a742c874945c5b170f08a901"), looks := false }, kinds := [], alts := [], laidByText := true, laidKinds := [.data, .data, .data], laidTests := true, laidLooks := .later }
def MachineRawCardSaid : Prop := Claim7.holds Tryz.pinned (.plain (OpenSpec.ofChange machineRawSpec)) machineRawCard

/-- THE TIED CARD OF 'pensionlaw9.MachineMade'. -/
def machineMadeCard : Claim7 := { stood := { row := machineMadeRow, standIns := [], harness := (true, "d7db39a3771e1964012d680e5925802c2c1deba6a742c874945c5b170f08a901"), looks := false }, kinds := [], alts := [], laidByText := true, laidKinds := [.data, .data, .data], laidTests := true, laidLooks := .later }
def MachineMadeCardSaid : Prop := Claim7.holds Tryz.pinned (.plain (OpenSpec.ofChange machineMadeSpec)) machineMadeCard

/-- THE TIED CARD OF 'pensionlaw9.MachineRuns'. -/
def machineRunsCard : Claim7 := { stood := { row := machineRunsRow, standIns := [], harness := (true, "d7db39a3771e1964012d680e5925802c2c1deba6a742c874945c5b170f08a901"), looks := false }, kinds := [], alts := [], laidByText := true, laidKinds := [.data, .data, .data], laidTests := true, laidLooks := .later }
def MachineRunsCardSaid : Prop := Claim7.holds Tryz.pinned (.plain (OpenSpec.ofChange machineRunsSpec)) machineRunsCard

/-- THE TIED CARD OF 'pensionlaw9.MachineSafe'. -/
def machineSafeCard : Claim7 := { stood := { row := machineSafeRow, standIns := [], harness := (true, "d7db39a3771e1964012d680e5925802c2c1deba6a742c874945c5b170f08a901"), looks := false }, kinds := [], alts := [], laidByText := true, laidKinds := [.data, .data, .data], laidTests := true, laidLooks := .later }
def MachineSafeCardSaid : Prop := Claim7.holds Tryz.pinned (.plain (OpenSpec.ofChange machineSafeSpec)) machineSafeCard

/-- THE TIED CARD OF 'pensionlaw9.MachineSpliced'. -/
def machineSplicedCard : Claim7 := { stood := { row := machineSplicedRow, standIns := [], harness := (true, "d7db39a3771e1964012d680e5925802c2c1deba6a742c874945c5b170f08a901"), looks := false }, kinds := [], alts := [], laidByText := true, laidKinds := [.data, .data, .data], laidTests := true, laidLooks := .later }
def MachineSplicedCardSaid : Prop := Claim7.holds Tryz.pinned (.plain (OpenSpec.ofChange machineSplicedSpec)) machineSplicedCard

/-- THE TIED CARD OF 'pensionlaw9.MachineInputs'. -/
def machineInputsCard : Claim7 := { stood := { row := machineInputsRow, standIns := [], harness := (true, "d7db39a3771e1964012d680e5925802c2c1deba6a742c874945c5b170f08a901"), looks := false }, kinds := [], alts := [], laidByText := true, laidKinds := [.data, .data, .data], laidTests := true, laidLooks := .later }
def MachineInputsCardSaid : Prop := Claim7.holds Tryz.pinned (.plain (OpenSpec.ofChange machineInputsSpec)) machineInputsCard

/-- THE SECOND FORM's CARD OF 'pensionlaw11.StatuteVerifies'. -/
def statuteVerifiesUptoCard : Claim7 := { stood := { row := statuteVerifiesUptoRow, standIns := [], harness := (true, "d7db39a3771e1964012d680e5925802c2c1deba6a742c874945c5b170f08a901"), looks := false }, kinds := [], alts := [], laidByText := true, laidKinds := [.data, .data, .data], laidTests := true, laidLooks := .later }
def StatuteVerifiesUptoCardSaid : Prop := Claim7.holds Tryz.pinned (.plain (OpenSpec.upto statuteVerifiesSpec)) statuteVerifiesUptoCard

/-- THE SECOND FORM's CARD OF 'pensionlaw9.MachineVerifies'. -/
def machineVerifiesUptoCard : Claim7 := { stood := { row := machineVerifiesUptoRow, standIns := [], harness := (true, "d7db39a3771e1964012d680e5925802c2c1deba6a742c874945c5b170f08a901"), looks := false }, kinds := [], alts := [], laidByText := true, laidKinds := [.data, .data, .data], laidTests := true, laidLooks := .later }
def MachineVerifiesUptoCardSaid : Prop := Claim7.holds Tryz.pinned (.plain (OpenSpec.upto machineVerifiesSpec)) machineVerifiesUptoCard

/-- THE SECOND FORM's CARD OF 'pensionlaw9.MachineRaw'. -/
def machineRawUptoCard : Claim7 := { stood := { row := machineRawUptoRow, standIns := [], harness := (true, "d7db39a3771e1964012d680e5925802c2c1deba6a742c874945c5b170f08a901"), looks := false }, kinds := [], alts := [], laidByText := true, laidKinds := [.data, .data, .data], laidTests := true, laidLooks := .later }
def MachineRawUptoCardSaid : Prop := Claim7.holds Tryz.pinned (.plain (OpenSpec.upto machineRawSpec)) machineRawUptoCard

/-- THE SECOND FORM's CARD OF 'pensionlaw9.MachineMade'. -/
def machineMadeUptoCard : Claim7 := { stood := { row := machineMadeUptoRow, standIns := [], harness := (true, "d7db39a3771e1964012d680e5925802c2c1deba6a742c874945c5b170f08a901"), looks := false }, kinds := [], alts := [], laidByText := true, laidKinds := [.data, .data, .data], laidTests := true, laidLooks := .later }
def MachineMadeUptoCardSaid : Prop := Claim7.holds Tryz.pinned (.plain (OpenSpec.upto machineMadeSpec)) machineMadeUptoCard

/-- THE SECOND FORM's CARD OF 'pensionlaw9.MachineRuns'. -/
def machineRunsUptoCard : Claim7 := { stood := { row := machineRunsUptoRow, standIns := [], harness := (true, "d7db39a3771e1964012d680e5925802c2c1deba6a742c874945c5b170f08a901"), looks := false }, kinds := [], alts := [], laidByText := true, laidKinds := [.data, .data, .data], laidTests := true, laidLooks := .later }
def MachineRunsUptoCardSaid : Prop := Claim7.holds Tryz.pinned (.plain (OpenSpec.upto machineRunsSpec)) machineRunsUptoCard

/-- THE SECOND FORM's CARD OF 'pensionlaw9.MachineSafe'. -/
def machineSafeUptoCard : Claim7 := { stood := { row := machineSafeUptoRow, standIns := [], harness := (true, "d7db39a3771e1964012d680e5925802c2c1deba6a742c874945c5b170f08a901"), looks := false }, kinds := [], alts := [], laidByText := true, laidKinds := [.data, .data, .data], laidTests := true, laidLooks := .later }
def MachineSafeUptoCardSaid : Prop := Claim7.holds Tryz.pinned (.plain (OpenSpec.upto machineSafeSpec)) machineSafeUptoCard

/-- THE SECOND FORM's CARD OF 'pensionlaw9.MachineSpliced'. -/
def machineSplicedUptoCard : Claim7 := { stood := { row := machineSplicedUptoRow, standIns := [], harness := (true, "d7db39a3771e1964012d680e5925802c2c1deba6a742c874945c5b170f08a901"), looks := false }, kinds := [], alts := [], laidByText := true, laidKinds := [.data, .data, .data], laidTests := true, laidLooks := .later }
def MachineSplicedUptoCardSaid : Prop := Claim7.holds Tryz.pinned (.plain (OpenSpec.upto machineSplicedSpec)) machineSplicedUptoCard

/-- THE SECOND FORM's CARD OF 'pensionlaw9.MachineInputs'. -/
def machineInputsUptoCard : Claim7 := { stood := { row := machineInputsUptoRow, standIns := [], harness := (true, "d7db39a3771e1964012d680e5925802c2c1deba6a742c874945c5b170f08a901"), looks := false }, kinds := [], alts := [], laidByText := true, laidKinds := [.data, .data, .data], laidTests := true, laidLooks := .later }
def MachineInputsUptoCardSaid : Prop := Claim7.holds Tryz.pinned (.plain (OpenSpec.upto machineInputsSpec)) machineInputsUptoCard
end Rows
end Go.Proofs.YtaghhncnicbedaaGreatDoor
