/-
  DERIVED. GIVEN WITH THE SEED: THE CARDS: each row of YthionhbjmheimaaDoorRows.lean that lists a variable, with what it lists TIED to the program's text (the seventh form; the later family's looks); each row that meets fmt, with fmt's text TOLD by the authors' own Lean function (tested against real Go, not proved from fmt's source: count such statements apart). THE CARD IS WHAT COUNTS. Prove the row's statement (the work); the ties are given (YthionhbjmheimaaDoorTie.lean); close each card by the builder's one call (the guide's Derived/Test/ToyasCard.lean, 'card_holds'). Laid BY PROGRAM, IN A SANDBOX (cutbox-door.mjs). By AI agents, Wed Nov 11 2026. No macro, syntax, notation, axiom, sorry.
-/
import Derived.Test.YthionhbjmheimaaDoorRows
import GoSem.ClaimSeven
namespace Go.Proofs.YthionhbjmheimaaDoor
namespace Rows

/-- THE TIED CARD OF 'pensionlaw11.StatuteExplains'. -/
def statuteExplainsCard : Claim7 := { stood := { row := statuteExplainsRow, standIns := [], harness := (true, "d6cb262fa7bdac14530104d1bf288bb148716ff6f3bb9fda520edfc94125f9a9"), looks := false }, kinds := [], alts := [], laidByText := true, laidKinds := [.data, .data, .data], laidTests := true, laidLooks := .later }
def StatuteExplainsCardSaid : Prop := Claim7.holds Tryd.pinned (.plain (OpenSpec.ofChange statuteExplainsSpec)) statuteExplainsCard

/-- THE SECOND FORM's CARD OF 'pensionlaw11.StatuteExplains'. -/
def statuteExplainsUptoCard : Claim7 := { stood := { row := statuteExplainsUptoRow, standIns := [], harness := (true, "d6cb262fa7bdac14530104d1bf288bb148716ff6f3bb9fda520edfc94125f9a9"), looks := false }, kinds := [], alts := [], laidByText := true, laidKinds := [.data, .data, .data], laidTests := true, laidLooks := .later }
def StatuteExplainsUptoCardSaid : Prop := Claim7.holds Tryd.pinned (.plain (OpenSpec.upto statuteExplainsSpec)) statuteExplainsUptoCard
end Rows
end Go.Proofs.YthionhbjmheimaaDoor
