/-
  No cell of these rows narrows 'for every input' (looked for: loops, veiled, ifaces, maps, wideKeys, modest, calm, conditions, laid).
  DERIVED. THE GIVEN ROWS OF THIS SEAT. 6 by the template 'for every input the law returns true; each argument reads behind the call as it read before'; 0 by the template 'total and deterministic' (their statements: YtldelkkeimlfcaaTotals.lean).
  GIVEN WITH THE SEED: the statements are not yours to turn. If you find one false, say at which input.
  Laid BY PROGRAM, IN A SANDBOX (cutbox-rows.mjs): the forced cells as the released guide's own fill.sh prints them over the translation 48503d6b9ff7f379… (all of the seat's roots in one cut). By AI agents, Wed Nov 11 2026. No macro, syntax, notation, axiom, sorry.
-/
import Derived.Test.YtldelkkeimlfcaaChecked
import GoSem.Claim
import GoSem.ClaimJoined
import GoSem.ClaimMapViews
import Derived.JoinedTies
import Derived.KernelRfl
namespace Go.Proofs.Ytldelkkeimlfcaa
/- THE CELL 'sum', in the pinned program and in every row, IS THE sha256 OF THE DUMP (.gsa) THAT YtldelkkeimlfcaaProg.lean LOADS. Nothing in Lean hashes anything: it is a label: what it is worth is what the hold of that sum in a sandbox is worth. -/
noncomputable def Try.pinned : Pinned := { name := "ytldelkkeimlfcaa", sum := "48503d6b9ff7f3795c279e480b4f02ceff22361d4c5c9b645e2bbfaaebd83e9a", checked := Try.checked }
namespace Rows
def none {H : Type} : Left H := { results := [], args := [] }

/-- 'pensionlaw11.StatuteFactors': WHATEVER THE INPUT: true; the input reads as it did. -/
def statuteFactorsSpec : ChangeSpec := { name := "statuteFactors", fn := fun _ => fun
  | [d1, d2, d3] => { results := [.lit (.bool true)], args := [d1, d2, d3] }
  | _ => none }
def statuteFactorsRow : OpenClaim := { program := "ytldelkkeimlfcaa", sum := "48503d6b9ff7f3795c279e480b4f02ceff22361d4c5c9b645e2bbfaaebd83e9a", func := "pension/pensionlaw11.StatuteFactors", spec := "statuteFactors", recurses := true, named := ["math/bits.divideError", "math/bits.overflowError"], apart := false }
def StatuteFactorsSaid : Prop := statuteFactorsRow.holds Try.pinned (OpenSpec.ofChange statuteFactorsSpec)

/-- ITS FALSE NEIGHBOUR: 'it returns false'. Refute it at one input. -/
def statuteFactorsWrong : ChangeSpec := { name := "statuteFactors", fn := fun _ => fun
  | [d1, d2, d3] => { results := [.lit (.bool false)], args := [d1, d2, d3] }
  | _ => none }
def StatuteFactorsWrongFalsely : Prop := statuteFactorsRow.holds Try.pinned (OpenSpec.ofChange statuteFactorsWrong)

/-- 'pensionlaw11.StatuteIndexOrder': WHATEVER THE INPUT: true; the input reads as it did. -/
def statuteIndexOrderSpec : ChangeSpec := { name := "statuteIndexOrder", fn := fun _ => fun
  | [d1, d2, d3, d4, d5, d6] => { results := [.lit (.bool true)], args := [d1, d2, d3, d4, d5, d6] }
  | _ => none }
def statuteIndexOrderRow : OpenClaim := { program := "ytldelkkeimlfcaa", sum := "48503d6b9ff7f3795c279e480b4f02ceff22361d4c5c9b645e2bbfaaebd83e9a", func := "pension/pensionlaw11.StatuteIndexOrder", spec := "statuteIndexOrder", recurses := true, named := ["math/bits.divideError", "math/bits.overflowError"], apart := false }
def StatuteIndexOrderSaid : Prop := statuteIndexOrderRow.holds Try.pinned (OpenSpec.ofChange statuteIndexOrderSpec)

/-- ITS FALSE NEIGHBOUR: 'it returns false'. Refute it at one input. -/
def statuteIndexOrderWrong : ChangeSpec := { name := "statuteIndexOrder", fn := fun _ => fun
  | [d1, d2, d3, d4, d5, d6] => { results := [.lit (.bool false)], args := [d1, d2, d3, d4, d5, d6] }
  | _ => none }
def StatuteIndexOrderWrongFalsely : Prop := statuteIndexOrderRow.holds Try.pinned (OpenSpec.ofChange statuteIndexOrderWrong)

/-- 'pensionlaw11.StatuteIndexes': WHATEVER THE INPUT: true; the input reads as it did. -/
def statuteIndexesSpec : ChangeSpec := { name := "statuteIndexes", fn := fun _ => fun
  | [d1, d2, d3, d4, d5] => { results := [.lit (.bool true)], args := [d1, d2, d3, d4, d5] }
  | _ => none }
def statuteIndexesRow : OpenClaim := { program := "ytldelkkeimlfcaa", sum := "48503d6b9ff7f3795c279e480b4f02ceff22361d4c5c9b645e2bbfaaebd83e9a", func := "pension/pensionlaw11.StatuteIndexes", spec := "statuteIndexes", inPlace := ["math/bits.Add64"], recurses := true, named := ["math/bits.divideError", "math/bits.overflowError"], apart := false }
def StatuteIndexesSaid : Prop := statuteIndexesRow.holds Try.pinned (OpenSpec.ofChange statuteIndexesSpec)

/-- ITS FALSE NEIGHBOUR: 'it returns false'. Refute it at one input. -/
def statuteIndexesWrong : ChangeSpec := { name := "statuteIndexes", fn := fun _ => fun
  | [d1, d2, d3, d4, d5] => { results := [.lit (.bool false)], args := [d1, d2, d3, d4, d5] }
  | _ => none }
def StatuteIndexesWrongFalsely : Prop := statuteIndexesRow.holds Try.pinned (OpenSpec.ofChange statuteIndexesWrong)

/-- 'pensionlaw11.StatuteCredits': WHATEVER THE INPUT: true; the input reads as it did. -/
def statuteCreditsSpec : ChangeSpec := { name := "statuteCredits", fn := fun _ => fun
  | [d1, d2] => { results := [.lit (.bool true)], args := [d1, d2] }
  | _ => none }
def statuteCreditsRow : OpenClaim := { program := "ytldelkkeimlfcaa", sum := "48503d6b9ff7f3795c279e480b4f02ceff22361d4c5c9b645e2bbfaaebd83e9a", func := "pension/pensionlaw11.StatuteCredits", spec := "statuteCredits", unfollowed := true, recurses := true, named := ["math/bits.divideError", "math/bits.overflowError"], apart := false }
def StatuteCreditsSaid : Prop := statuteCreditsRow.holds Try.pinned (OpenSpec.ofChange statuteCreditsSpec)

/-- ITS FALSE NEIGHBOUR: 'it returns false'. Refute it at one input. -/
def statuteCreditsWrong : ChangeSpec := { name := "statuteCredits", fn := fun _ => fun
  | [d1, d2] => { results := [.lit (.bool false)], args := [d1, d2] }
  | _ => none }
def StatuteCreditsWrongFalsely : Prop := statuteCreditsRow.holds Try.pinned (OpenSpec.ofChange statuteCreditsWrong)

/-- 'pensionlaw11.StatuteDays': WHATEVER THE INPUT: true; the input reads as it did. -/
def statuteDaysSpec : ChangeSpec := { name := "statuteDays", fn := fun _ => fun
  | [d1, d2, d3] => { results := [.lit (.bool true)], args := [d1, d2, d3] }
  | _ => none }
def statuteDaysRow : OpenClaim := { program := "ytldelkkeimlfcaa", sum := "48503d6b9ff7f3795c279e480b4f02ceff22361d4c5c9b645e2bbfaaebd83e9a", func := "pension/pensionlaw11.StatuteDays", spec := "statuteDays", unfollowed := true, recurses := true, named := ["math/bits.divideError", "math/bits.overflowError"], apart := false }
def StatuteDaysSaid : Prop := statuteDaysRow.holds Try.pinned (OpenSpec.ofChange statuteDaysSpec)

/-- ITS FALSE NEIGHBOUR: 'it returns false'. Refute it at one input. -/
def statuteDaysWrong : ChangeSpec := { name := "statuteDays", fn := fun _ => fun
  | [d1, d2, d3] => { results := [.lit (.bool false)], args := [d1, d2, d3] }
  | _ => none }
def StatuteDaysWrongFalsely : Prop := statuteDaysRow.holds Try.pinned (OpenSpec.ofChange statuteDaysWrong)

/-- 'pensionlaw11.StatuteHolds': WHATEVER THE INPUT: true; the input reads as it did. -/
def statuteHoldsSpec : ChangeSpec := { name := "statuteHolds", fn := fun _ => fun
  | [d1, d2, d3, d4] => { results := [.lit (.bool true)], args := [d1, d2, d3, d4] }
  | _ => none }
def statuteHoldsRow : OpenClaim := { program := "ytldelkkeimlfcaa", sum := "48503d6b9ff7f3795c279e480b4f02ceff22361d4c5c9b645e2bbfaaebd83e9a", func := "pension/pensionlaw11.StatuteHolds", spec := "statuteHolds", unfollowed := true, recurses := true, named := ["math/bits.divideError", "math/bits.overflowError"], apart := false }
def StatuteHoldsSaid : Prop := statuteHoldsRow.holds Try.pinned (OpenSpec.ofChange statuteHoldsSpec)

/-- ITS FALSE NEIGHBOUR: 'it returns false'. Refute it at one input. -/
def statuteHoldsWrong : ChangeSpec := { name := "statuteHolds", fn := fun _ => fun
  | [d1, d2, d3, d4] => { results := [.lit (.bool false)], args := [d1, d2, d3, d4] }
  | _ => none }
def StatuteHoldsWrongFalsely : Prop := statuteHoldsRow.holds Try.pinned (OpenSpec.ofChange statuteHoldsWrong)

/- THE SECOND FORM. 'bulk': how many values and letters a reading holds, each counted each time it is reached (what is shared counts as often as it is met; a slice's spare places count too). A statement '..UptoSaid' is the law's where the arguments, and the package variables that the reading takes, are together of bulk at most 1048576: NARROWER than '..Said'. Prove '..Said' where nothing that the law and all that it calls make is longer than what came in: it says more and counts as full. Else prove '..UptoSaid'. A law counts once. -/
mutual
def uptoBulk {H : Type} : DataW H → Nat
  | .lit (.string bytes) => bytes.length + 1
  | .lit _ => 1
  | .nil => 1
  | .ptr d => uptoBulk d + 1
  | .slice elems spare => uptoBulkAll elems + uptoBulkAll spare + 1
  | .agg parts => uptoBulkAll parts + 1
  | .iface _ d => uptoBulk d + 1
  | .map entries => uptoBulkEntries entries + 1
  | .held _ => 1
def uptoBulkAll {H : Type} : List (DataW H) → Nat
  | [] => 0
  | d :: r => uptoBulk d + uptoBulkAll r
def uptoBulkEntries {H : Type} : List (Lit × DataW H) → Nat
  | [] => 0
  | x :: r => uptoBulkEntry x + uptoBulkEntries r
def uptoBulkEntry {H : Type} : Lit × DataW H → Nat
  | (.string bytes, d) => bytes.length + uptoBulk d + 1
  | (_, d) => uptoBulk d + 1
 end
def uptoSmall : (H : Type) → List (DataW H) → Bool := fun _ ds => decide (uptoBulkAll ds ≤ 1048576)
def OpenSpec.upto (s : _root_.Go.ChangeSpec) : _root_.Go.OpenSpec := { _root_.Go.OpenSpec.ofChange s with cond := some uptoSmall }

/-- 'pensionlaw11.StatuteFactors', WHERE WHAT IT READS IS OF BULK AT MOST 1048576: true; the input reads as it did. -/
def statuteFactorsUptoRow : OpenClaim := { program := "ytldelkkeimlfcaa", sum := "48503d6b9ff7f3795c279e480b4f02ceff22361d4c5c9b645e2bbfaaebd83e9a", func := "pension/pensionlaw11.StatuteFactors", spec := "statuteFactors", recurses := true, named := ["math/bits.divideError", "math/bits.overflowError"], apart := false, narrowed := true }
def StatuteFactorsUptoSaid : Prop := statuteFactorsUptoRow.holds Try.pinned (OpenSpec.upto statuteFactorsSpec)

/-- 'pensionlaw11.StatuteIndexOrder', WHERE WHAT IT READS IS OF BULK AT MOST 1048576: true; the input reads as it did. -/
def statuteIndexOrderUptoRow : OpenClaim := { program := "ytldelkkeimlfcaa", sum := "48503d6b9ff7f3795c279e480b4f02ceff22361d4c5c9b645e2bbfaaebd83e9a", func := "pension/pensionlaw11.StatuteIndexOrder", spec := "statuteIndexOrder", recurses := true, named := ["math/bits.divideError", "math/bits.overflowError"], apart := false, narrowed := true }
def StatuteIndexOrderUptoSaid : Prop := statuteIndexOrderUptoRow.holds Try.pinned (OpenSpec.upto statuteIndexOrderSpec)

/-- 'pensionlaw11.StatuteIndexes', WHERE WHAT IT READS IS OF BULK AT MOST 1048576: true; the input reads as it did. -/
def statuteIndexesUptoRow : OpenClaim := { program := "ytldelkkeimlfcaa", sum := "48503d6b9ff7f3795c279e480b4f02ceff22361d4c5c9b645e2bbfaaebd83e9a", func := "pension/pensionlaw11.StatuteIndexes", spec := "statuteIndexes", inPlace := ["math/bits.Add64"], recurses := true, named := ["math/bits.divideError", "math/bits.overflowError"], apart := false, narrowed := true }
def StatuteIndexesUptoSaid : Prop := statuteIndexesUptoRow.holds Try.pinned (OpenSpec.upto statuteIndexesSpec)

/-- 'pensionlaw11.StatuteCredits', WHERE WHAT IT READS IS OF BULK AT MOST 1048576: true; the input reads as it did. -/
def statuteCreditsUptoRow : OpenClaim := { program := "ytldelkkeimlfcaa", sum := "48503d6b9ff7f3795c279e480b4f02ceff22361d4c5c9b645e2bbfaaebd83e9a", func := "pension/pensionlaw11.StatuteCredits", spec := "statuteCredits", unfollowed := true, recurses := true, named := ["math/bits.divideError", "math/bits.overflowError"], apart := false, narrowed := true }
def StatuteCreditsUptoSaid : Prop := statuteCreditsUptoRow.holds Try.pinned (OpenSpec.upto statuteCreditsSpec)

/-- 'pensionlaw11.StatuteDays', WHERE WHAT IT READS IS OF BULK AT MOST 1048576: true; the input reads as it did. -/
def statuteDaysUptoRow : OpenClaim := { program := "ytldelkkeimlfcaa", sum := "48503d6b9ff7f3795c279e480b4f02ceff22361d4c5c9b645e2bbfaaebd83e9a", func := "pension/pensionlaw11.StatuteDays", spec := "statuteDays", unfollowed := true, recurses := true, named := ["math/bits.divideError", "math/bits.overflowError"], apart := false, narrowed := true }
def StatuteDaysUptoSaid : Prop := statuteDaysUptoRow.holds Try.pinned (OpenSpec.upto statuteDaysSpec)

/-- 'pensionlaw11.StatuteHolds', WHERE WHAT IT READS IS OF BULK AT MOST 1048576: true; the input reads as it did. -/
def statuteHoldsUptoRow : OpenClaim := { program := "ytldelkkeimlfcaa", sum := "48503d6b9ff7f3795c279e480b4f02ceff22361d4c5c9b645e2bbfaaebd83e9a", func := "pension/pensionlaw11.StatuteHolds", spec := "statuteHolds", unfollowed := true, recurses := true, named := ["math/bits.divideError", "math/bits.overflowError"], apart := false, narrowed := true }
def StatuteHoldsUptoSaid : Prop := statuteHoldsUptoRow.holds Try.pinned (OpenSpec.upto statuteHoldsSpec)

end Rows
end Go.Proofs.Ytldelkkeimlfcaa
