/-
  DERIVED. GIVEN WITH THE SEED: THE CARDS: each row of YtlheailebbngiaaGreatDoorRows.lean that lists a variable, with what it lists TIED to the program's text (the seventh form; the later family's looks); each row that meets fmt, with fmt's text TOLD by the authors' own Lean function (tested against real Go, not proved from fmt's source: count such statements apart). THE CARD IS WHAT COUNTS. Prove the row's statement (the work); the ties are given (YtlheailebbngiaaGreatDoorTie.lean); close each card by the builder's one call (the guide's Derived/Test/ToyasCard.lean, 'card_holds'). Laid BY PROGRAM, IN A SANDBOX (cutbox-door.mjs). By AI agents, Wed Nov 11 2026. No macro, syntax, notation, axiom, sorry.
-/
import Derived.Test.YtlheailebbngiaaGreatDoorRows
import GoSem.ClaimSeven
namespace Go.Proofs.YtlheailebbngiaaGreatDoor
namespace Rows

/-- THE TIED CARD OF 'pensionlaw8.EvalViews'. -/
def evalViewsCard : Claim7 := { stood := { row := evalViewsRow, standIns := [], harness := (true, "59e966a584e90a42c63901d771a559a8cf19637e20d31a0d21bad37c141dc38c"), looks := false }, kinds := [], alts := [], laidByText := true, laidKinds := [.data, .data, .data], laidTests := true, laidLooks := .later }
def EvalViewsCardSaid : Prop := Claim7.holds Tryz.pinned (.plain (OpenSpec.ofChange evalViewsSpec)) evalViewsCard

/-- THE TIED CARD OF 'pensionlaw8.EvalBest'. -/
def evalBestCard : Claim7 := { stood := { row := evalBestRow, standIns := [], harness := (true, "59e966a584e90a42c63901d771a559a8cf19637e20d31a0d21bad37c141dc38c"), looks := false }, kinds := [], alts := [], laidByText := true, laidKinds := [.data, .data, .data], laidTests := true, laidLooks := .later }
def EvalBestCardSaid : Prop := Claim7.holds Tryz.pinned (.plain (OpenSpec.ofChange evalBestSpec)) evalBestCard

/-- THE TIED CARD OF 'pensionlaw8.EvalBestOrder'. -/
def evalBestOrderCard : Claim7 := { stood := { row := evalBestOrderRow, standIns := [], harness := (true, "59e966a584e90a42c63901d771a559a8cf19637e20d31a0d21bad37c141dc38c"), looks := false }, kinds := [], alts := [], laidByText := true, laidKinds := [.data, .data, .data], laidTests := true, laidLooks := .later }
def EvalBestOrderCardSaid : Prop := Claim7.holds Tryz.pinned (.plain (OpenSpec.ofChange evalBestOrderSpec)) evalBestOrderCard

/-- THE TIED CARD OF 'pensionlaw8.EvalExprs'. -/
def evalExprsCard : Claim7 := { stood := { row := evalExprsRow, standIns := [], harness := (true, "59e966a584e90a42c63901d771a559a8cf19637e20d31a0d21bad37c141dc38c"), looks := false }, kinds := [], alts := [], laidByText := true, laidKinds := [.data, .data, .data], laidTests := true, laidLooks := .later }
def EvalExprsCardSaid : Prop := Claim7.holds Tryz.pinned (.plain (OpenSpec.ofChange evalExprsSpec)) evalExprsCard

/-- THE TIED CARD OF 'pensionlaw8.EvalSound'. -/
def evalSoundCard : Claim7 := { stood := { row := evalSoundRow, standIns := [], harness := (true, "59e966a584e90a42c63901d771a559a8cf19637e20d31a0d21bad37c141dc38c"), looks := false }, kinds := [], alts := [], laidByText := true, laidKinds := [.data, .data, .data], laidTests := true, laidLooks := .later }
def EvalSoundCardSaid : Prop := Claim7.holds Tryz.pinned (.plain (OpenSpec.ofChange evalSoundSpec)) evalSoundCard

/-- THE TIED CARD OF 'pensionlaw8.EvalLazy'. -/
def evalLazyCard : Claim7 := { stood := { row := evalLazyRow, standIns := [], harness := (true, "59e966a584e90a42c63901d771a559a8cf19637e20d31a0d21bad37c141dc38c"), looks := false }, kinds := [], alts := [], laidByText := true, laidKinds := [.data, .data, .data], laidTests := true, laidLooks := .later }
def EvalLazyCardSaid : Prop := Claim7.holds Tryz.pinned (.plain (OpenSpec.ofChange evalLazySpec)) evalLazyCard

/-- THE TIED CARD OF 'pensionlaw8.EvalInline'. -/
def evalInlineCard : Claim7 := { stood := { row := evalInlineRow, standIns := [], harness := (true, "59e966a584e90a42c63901d771a559a8cf19637e20d31a0d21bad37c141dc38c"), looks := false }, kinds := [], alts := [], laidByText := true, laidKinds := [.data, .data, .data], laidTests := true, laidLooks := .later }
def EvalInlineCardSaid : Prop := Claim7.holds Tryz.pinned (.plain (OpenSpec.ofChange evalInlineSpec)) evalInlineCard

/-- THE TIED CARD OF 'pensionlaw8.EvalUses'. -/
def evalUsesCard : Claim7 := { stood := { row := evalUsesRow, standIns := [], harness := (true, "59e966a584e90a42c63901d771a559a8cf19637e20d31a0d21bad37c141dc38c"), looks := false }, kinds := [], alts := [], laidByText := true, laidKinds := [.data, .data, .data], laidTests := true, laidLooks := .later }
def EvalUsesCardSaid : Prop := Claim7.holds Tryz.pinned (.plain (OpenSpec.ofChange evalUsesSpec)) evalUsesCard

/-- THE TIED CARD OF 'pensionlaw8.EvalReduces'. -/
def evalReducesCard : Claim7 := { stood := { row := evalReducesRow, standIns := [], harness := (true, "59e966a584e90a42c63901d771a559a8cf19637e20d31a0d21bad37c141dc38c"), looks := false }, kinds := [], alts := [], laidByText := true, laidKinds := [.data, .data, .data], laidTests := true, laidLooks := .later }
def EvalReducesCardSaid : Prop := Claim7.holds Tryz.pinned (.plain (OpenSpec.ofChange evalReducesSpec)) evalReducesCard

/-- THE TIED CARD OF 'pensionlaw8.EvalGrants'. -/
def evalGrantsCard : Claim7 := { stood := { row := evalGrantsRow, standIns := [], harness := (true, "59e966a584e90a42c63901d771a559a8cf19637e20d31a0d21bad37c141dc38c"), looks := false }, kinds := [], alts := [], laidByText := true, laidKinds := [.data, .data, .data], laidTests := true, laidLooks := .later }
def EvalGrantsCardSaid : Prop := Claim7.holds Tryz.pinned (.plain (OpenSpec.ofChange evalGrantsSpec)) evalGrantsCard

/-- THE TIED CARD OF 'pensionlaw8.EvalNeeds'. -/
def evalNeedsCard : Claim7 := { stood := { row := evalNeedsRow, standIns := [], harness := (true, "59e966a584e90a42c63901d771a559a8cf19637e20d31a0d21bad37c141dc38c"), looks := false }, kinds := [], alts := [], laidByText := true, laidKinds := [.data, .data, .data], laidTests := true, laidLooks := .later }
def EvalNeedsCardSaid : Prop := Claim7.holds Tryz.pinned (.plain (OpenSpec.ofChange evalNeedsSpec)) evalNeedsCard

/-- THE SECOND FORM's CARD OF 'pensionlaw8.EvalViews'. -/
def evalViewsUptoCard : Claim7 := { stood := { row := evalViewsUptoRow, standIns := [], harness := (true, "59e966a584e90a42c63901d771a559a8cf19637e20d31a0d21bad37c141dc38c"), looks := false }, kinds := [], alts := [], laidByText := true, laidKinds := [.data, .data, .data], laidTests := true, laidLooks := .later }
def EvalViewsUptoCardSaid : Prop := Claim7.holds Tryz.pinned (.plain (OpenSpec.upto evalViewsSpec)) evalViewsUptoCard

/-- THE SECOND FORM's CARD OF 'pensionlaw8.EvalBest'. -/
def evalBestUptoCard : Claim7 := { stood := { row := evalBestUptoRow, standIns := [], harness := (true, "59e966a584e90a42c63901d771a559a8cf19637e20d31a0d21bad37c141dc38c"), looks := false }, kinds := [], alts := [], laidByText := true, laidKinds := [.data, .data, .data], laidTests := true, laidLooks := .later }
def EvalBestUptoCardSaid : Prop := Claim7.holds Tryz.pinned (.plain (OpenSpec.upto evalBestSpec)) evalBestUptoCard

/-- THE SECOND FORM's CARD OF 'pensionlaw8.EvalBestOrder'. -/
def evalBestOrderUptoCard : Claim7 := { stood := { row := evalBestOrderUptoRow, standIns := [], harness := (true, "59e966a584e90a42c63901d771a559a8cf19637e20d31a0d21bad37c141dc38c"), looks := false }, kinds := [], alts := [], laidByText := true, laidKinds := [.data, .data, .data], laidTests := true, laidLooks := .later }
def EvalBestOrderUptoCardSaid : Prop := Claim7.holds Tryz.pinned (.plain (OpenSpec.upto evalBestOrderSpec)) evalBestOrderUptoCard

/-- THE SECOND FORM's CARD OF 'pensionlaw8.EvalExprs'. -/
def evalExprsUptoCard : Claim7 := { stood := { row := evalExprsUptoRow, standIns := [], harness := (true, "59e966a584e90a42c63901d771a559a8cf19637e20d31a0d21bad37c141dc38c"), looks := false }, kinds := [], alts := [], laidByText := true, laidKinds := [.data, .data, .data], laidTests := true, laidLooks := .later }
def EvalExprsUptoCardSaid : Prop := Claim7.holds Tryz.pinned (.plain (OpenSpec.upto evalExprsSpec)) evalExprsUptoCard

/-- THE SECOND FORM's CARD OF 'pensionlaw8.EvalSound'. -/
def evalSoundUptoCard : Claim7 := { stood := { row := evalSoundUptoRow, standIns := [], harness := (true, "59e966a584e90a42c63901d771a559a8cf19637e20d31a0d21bad37c141dc38c"), looks := false }, kinds := [], alts := [], laidByText := true, laidKinds := [.data, .data, .data], laidTests := true, laidLooks := .later }
def EvalSoundUptoCardSaid : Prop := Claim7.holds Tryz.pinned (.plain (OpenSpec.upto evalSoundSpec)) evalSoundUptoCard

/-- THE SECOND FORM's CARD OF 'pensionlaw8.EvalLazy'. -/
def evalLazyUptoCard : Claim7 := { stood := { row := evalLazyUptoRow, standIns := [], harness := (true, "59e966a584e90a42c63901d771a559a8cf19637e20d31a0d21bad37c141dc38c"), looks := false }, kinds := [], alts := [], laidByText := true, laidKinds := [.data, .data, .data], laidTests := true, laidLooks := .later }
def EvalLazyUptoCardSaid : Prop := Claim7.holds Tryz.pinned (.plain (OpenSpec.upto evalLazySpec)) evalLazyUptoCard

/-- THE SECOND FORM's CARD OF 'pensionlaw8.EvalInline'. -/
def evalInlineUptoCard : Claim7 := { stood := { row := evalInlineUptoRow, standIns := [], harness := (true, "59e966a584e90a42c63901d771a559a8cf19637e20d31a0d21bad37c141dc38c"), looks := false }, kinds := [], alts := [], laidByText := true, laidKinds := [.data, .data, .data], laidTests := true, laidLooks := .later }
def EvalInlineUptoCardSaid : Prop := Claim7.holds Tryz.pinned (.plain (OpenSpec.upto evalInlineSpec)) evalInlineUptoCard

/-- THE SECOND FORM's CARD OF 'pensionlaw8.EvalUses'. -/
def evalUsesUptoCard : Claim7 := { stood := { row := evalUsesUptoRow, standIns := [], harness := (true, "59e966a584e90a42c63901d771a559a8cf19637e20d31a0d21bad37c141dc38c"), looks := false }, kinds := [], alts := [], laidByText := true, laidKinds := [.data, .data, .data], laidTests := true, laidLooks := .later }
def EvalUsesUptoCardSaid : Prop := Claim7.holds Tryz.pinned (.plain (OpenSpec.upto evalUsesSpec)) evalUsesUptoCard

/-- THE SECOND FORM's CARD OF 'pensionlaw8.EvalReduces'. -/
def evalReducesUptoCard : Claim7 := { stood := { row := evalReducesUptoRow, standIns := [], harness := (true, "59e966a584e90a42c63901d771a559a8cf19637e20d31a0d21bad37c141dc38c"), looks := false }, kinds := [], alts := [], laidByText := true, laidKinds := [.data, .data, .data], laidTests := true, laidLooks := .later }
def EvalReducesUptoCardSaid : Prop := Claim7.holds Tryz.pinned (.plain (OpenSpec.upto evalReducesSpec)) evalReducesUptoCard

/-- THE SECOND FORM's CARD OF 'pensionlaw8.EvalGrants'. -/
def evalGrantsUptoCard : Claim7 := { stood := { row := evalGrantsUptoRow, standIns := [], harness := (true, "59e966a584e90a42c63901d771a559a8cf19637e20d31a0d21bad37c141dc38c"), looks := false }, kinds := [], alts := [], laidByText := true, laidKinds := [.data, .data, .data], laidTests := true, laidLooks := .later }
def EvalGrantsUptoCardSaid : Prop := Claim7.holds Tryz.pinned (.plain (OpenSpec.upto evalGrantsSpec)) evalGrantsUptoCard

/-- THE SECOND FORM's CARD OF 'pensionlaw8.EvalNeeds'. -/
def evalNeedsUptoCard : Claim7 := { stood := { row := evalNeedsUptoRow, standIns := [], harness := (true, "59e966a584e90a42c63901d771a559a8cf19637e20d31a0d21bad37c141dc38c"), looks := false }, kinds := [], alts := [], laidByText := true, laidKinds := [.data, .data, .data], laidTests := true, laidLooks := .later }
def EvalNeedsUptoCardSaid : Prop := Claim7.holds Tryz.pinned (.plain (OpenSpec.upto evalNeedsSpec)) evalNeedsUptoCard
end Rows
end Go.Proofs.YtlheailebbngiaaGreatDoor
