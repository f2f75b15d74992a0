/-
  DERIVED. GIVEN WITH THE SEED: THE CARDS: each row of YtcfpoofhokbhlaaGreatDoorRows.lean that lists a variable, with what it lists TIED to the program's text (the seventh form; the later family's looks); each row that meets fmt, with fmt's text TOLD by the authors' own Lean function (tested against real Go, not proved from fmt's source: count such statements apart). THE CARD IS WHAT COUNTS. Prove the row's statement (the work); the ties are given (YtcfpoofhokbhlaaGreatDoorTie.lean); close each card by the builder's one call (the guide's Derived/Test/ToyasCard.lean, 'card_holds'). Laid BY PROGRAM, IN A SANDBOX (cutbox-door.mjs). By AI agents, Wed Nov 11 2026. No macro, syntax, notation, axiom, sorry.
-/
import Derived.Test.YtcfpoofhokbhlaaGreatDoorRows
import GoSem.ClaimSeven
namespace Go.Proofs.YtcfpoofhokbhlaaGreatDoor
namespace Rows

/-- THE TIED CARD OF 'pensionlaw11.StatuteVerifies'. -/
def statuteVerifiesCard : Claim7 := { stood := { row := statuteVerifiesRow, standIns := [], harness := (true, "6abbed267c0e165ef714ff8545e1ae4c4379c689ed969f42341425803547179a"), looks := false }, kinds := [], alts := [], laidByText := true, laidKinds := [.data, .data, .data], laidTests := true, laidLooks := .later }
def StatuteVerifiesCardSaid : Prop := Claim7.holds Tryz.pinned (.plain (OpenSpec.ofChange statuteVerifiesSpec)) statuteVerifiesCard

/-- THE SECOND FORM's CARD OF 'pensionlaw11.StatuteVerifies'. -/
def statuteVerifiesUptoCard : Claim7 := { stood := { row := statuteVerifiesUptoRow, standIns := [], harness := (true, "6abbed267c0e165ef714ff8545e1ae4c4379c689ed969f42341425803547179a"), looks := false }, kinds := [], alts := [], laidByText := true, laidKinds := [.data, .data, .data], laidTests := true, laidLooks := .later }
def StatuteVerifiesUptoCardSaid : Prop := Claim7.holds Tryz.pinned (.plain (OpenSpec.upto statuteVerifiesSpec)) statuteVerifiesUptoCard
end Rows
end Go.Proofs.YtcfpoofhokbhlaaGreatDoor
