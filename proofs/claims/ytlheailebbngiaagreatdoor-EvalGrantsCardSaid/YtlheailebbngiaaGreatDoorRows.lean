/-
  NARROWER THAN 'FOR EVERY INPUT', by the rows' own cells (each row's printed sentence says how): EvalViews: laid · EvalBest: laid · EvalBestOrder: laid · EvalExprs: laid · EvalSound: laid · EvalLazy: laid · EvalInline: laid · EvalUses: laid · EvalReduces: laid · EvalGrants: laid · EvalNeeds: laid.
  DERIVED. THE GIVEN ROWS OF THIS SEAT. 11 by the template 'for every input the law returns true; each argument reads behind the call as it read before'; 0 by the template 'total and deterministic' (their statements: YtlheailebbngiaaGreatDoorTotals.lean).
  GIVEN WITH THE SEED: the statements are not yours to turn. If you find one false, say at which input.
  Laid BY PROGRAM, IN A SANDBOX (cutbox-rows.mjs): the forced cells as the released guide's own fill.sh prints them over the translation 7dcbb7d93795bd57… (all of the seat's roots in one cut). By AI agents, Wed Nov 11 2026. No macro, syntax, notation, axiom, sorry.
-/
import Derived.Test.YtlheailebbngiaaGreatDoorChecked
import GoSem.Claim
import GoSem.ClaimJoined
import GoSem.ClaimMapViews
import Derived.JoinedTies
import Derived.KernelRfl
namespace Go.Proofs.YtlheailebbngiaaGreatDoor
/- THE CELL 'sum', in the pinned program and in every row, IS THE sha256 OF THE DUMP (.gsa) THAT YtlheailebbngiaaGreatDoorProg.lean LOADS. Nothing in Lean hashes anything: it is a label: what it is worth is what the hold of that sum in a sandbox is worth. -/
noncomputable def Tryz.pinned : Pinned := { name := "ytlheailebbngiaagreatdoor", sum := "7dcbb7d93795bd57114a4cc3c740879939481a5ec149d3fd05dfb488d11afd46", checked := Tryz.checked }
namespace Rows
def none {H : Type} : Left H := { results := [], args := [] }

/- WHAT THE LISTED PACKAGE-LEVEL VARIABLES READ AS WHEN THE CALL BEGINS. Each datum BY PROGRAM (the guide's laid-datum.mjs) off the statement by which the dump's own 'gosem.cut.vars' lays the variable. In a bare row this is a premise. The card (YtlheailebbngiaaGreatDoorCards.lean) ties it to the program's text. -/
def laid_math_bits_deBruijn32tab {H : Type} : DataW H := .agg [.lit (.int .u8 0), .lit (.int .u8 1), .lit (.int .u8 28), .lit (.int .u8 2), .lit (.int .u8 29), .lit (.int .u8 14), .lit (.int .u8 24), .lit (.int .u8 3), .lit (.int .u8 30), .lit (.int .u8 22), .lit (.int .u8 20), .lit (.int .u8 15), .lit (.int .u8 25), .lit (.int .u8 17), .lit (.int .u8 4), .lit (.int .u8 8), .lit (.int .u8 31), .lit (.int .u8 27), .lit (.int .u8 13), .lit (.int .u8 23), .lit (.int .u8 21), .lit (.int .u8 19), .lit (.int .u8 16), .lit (.int .u8 7), .lit (.int .u8 26), .lit (.int .u8 12), .lit (.int .u8 18), .lit (.int .u8 6), .lit (.int .u8 11), .lit (.int .u8 5), .lit (.int .u8 10), .lit (.int .u8 9)]
def laid_math_bits_deBruijn64tab {H : Type} : DataW H := .agg [.lit (.int .u8 0), .lit (.int .u8 1), .lit (.int .u8 56), .lit (.int .u8 2), .lit (.int .u8 57), .lit (.int .u8 49), .lit (.int .u8 28), .lit (.int .u8 3), .lit (.int .u8 61), .lit (.int .u8 58), .lit (.int .u8 42), .lit (.int .u8 50), .lit (.int .u8 38), .lit (.int .u8 29), .lit (.int .u8 17), .lit (.int .u8 4), .lit (.int .u8 62), .lit (.int .u8 47), .lit (.int .u8 59), .lit (.int .u8 36), .lit (.int .u8 45), .lit (.int .u8 43), .lit (.int .u8 51), .lit (.int .u8 22), .lit (.int .u8 53), .lit (.int .u8 39), .lit (.int .u8 33), .lit (.int .u8 30), .lit (.int .u8 24), .lit (.int .u8 18), .lit (.int .u8 12), .lit (.int .u8 5), .lit (.int .u8 63), .lit (.int .u8 55), .lit (.int .u8 48), .lit (.int .u8 27), .lit (.int .u8 60), .lit (.int .u8 41), .lit (.int .u8 37), .lit (.int .u8 16), .lit (.int .u8 46), .lit (.int .u8 35), .lit (.int .u8 44), .lit (.int .u8 21), .lit (.int .u8 52), .lit (.int .u8 32), .lit (.int .u8 23), .lit (.int .u8 11), .lit (.int .u8 54), .lit (.int .u8 26), .lit (.int .u8 40), .lit (.int .u8 15), .lit (.int .u8 34), .lit (.int .u8 20), .lit (.int .u8 31), .lit (.int .u8 10), .lit (.int .u8 25), .lit (.int .u8 14), .lit (.int .u8 19), .lit (.int .u8 9), .lit (.int .u8 13), .lit (.int .u8 8), .lit (.int .u8 7), .lit (.int .u8 6)]
def laid_internal_strconv_uint64pow10 {H : Type} : DataW H := .agg [.lit (.int .u64 1), .lit (.int .u64 10), .lit (.int .u64 100), .lit (.int .u64 1000), .lit (.int .u64 10000), .lit (.int .u64 100000), .lit (.int .u64 1000000), .lit (.int .u64 10000000), .lit (.int .u64 100000000), .lit (.int .u64 1000000000), .lit (.int .u64 10000000000), .lit (.int .u64 100000000000), .lit (.int .u64 1000000000000), .lit (.int .u64 10000000000000), .lit (.int .u64 100000000000000), .lit (.int .u64 1000000000000000), .lit (.int .u64 10000000000000000), .lit (.int .u64 100000000000000000), .lit (.int .u64 1000000000000000000), .lit (.int .u64 10000000000000000000)]

/-- 'pensionlaw8.EvalViews': WHATEVER THE INPUT: true; the input reads as it did. -/
def evalViewsSpec : ChangeSpec := { name := "evalViews", fn := fun _ => fun
  | [d1, d2, d3, d4] => { results := [.lit (.bool true)], args := [d1, d2, d3, d4] }
  | _ => none }
def evalViewsRow : OpenClaim := { program := "ytlheailebbngiaagreatdoor", sum := "7dcbb7d93795bd57114a4cc3c740879939481a5ec149d3fd05dfb488d11afd46", func := "pension/pensionlaw8.EvalViews", spec := "evalViews", inPlace := ["internal/bytealg.IndexByteString", "internal/bytealg.IndexString", "math/bits.Add64", "math/bits.Sub64"], unfollowed := true, recurses := true, named := ["math/bits.divideError", "math/bits.overflowError", "internal/strconv.uint64pow10", "math/bits.deBruijn32tab", "math/bits.deBruijn64tab", "internal/bytealg.MaxLen"], apart := false, laid := [("math/bits.deBruijn32tab", laid_math_bits_deBruijn32tab), ("math/bits.deBruijn64tab", laid_math_bits_deBruijn64tab), ("internal/strconv.uint64pow10", laid_internal_strconv_uint64pow10)] }
def EvalViewsSaid : Prop := evalViewsRow.holds Tryz.pinned (OpenSpec.ofChange evalViewsSpec)

/-- ITS FALSE NEIGHBOUR: 'it returns false'. Refute it at one input. -/
def evalViewsWrong : ChangeSpec := { name := "evalViews", fn := fun _ => fun
  | [d1, d2, d3, d4] => { results := [.lit (.bool false)], args := [d1, d2, d3, d4] }
  | _ => none }
def EvalViewsWrongFalsely : Prop := evalViewsRow.holds Tryz.pinned (OpenSpec.ofChange evalViewsWrong)

/-- 'pensionlaw8.EvalBest': WHATEVER THE INPUT: true; the input reads as it did. -/
def evalBestSpec : ChangeSpec := { name := "evalBest", fn := fun _ => fun
  | [d1, d2, d3] => { results := [.lit (.bool true)], args := [d1, d2, d3] }
  | _ => none }
def evalBestRow : OpenClaim := { program := "ytlheailebbngiaagreatdoor", sum := "7dcbb7d93795bd57114a4cc3c740879939481a5ec149d3fd05dfb488d11afd46", func := "pension/pensionlaw8.EvalBest", spec := "evalBest", inPlace := ["internal/bytealg.IndexByteString", "internal/bytealg.IndexString", "math/bits.Add64", "math/bits.Sub64"], unfollowed := true, recurses := true, named := ["math/bits.divideError", "math/bits.overflowError", "internal/strconv.uint64pow10", "math/bits.deBruijn32tab", "math/bits.deBruijn64tab", "internal/bytealg.MaxLen"], apart := false, laid := [("math/bits.deBruijn32tab", laid_math_bits_deBruijn32tab), ("math/bits.deBruijn64tab", laid_math_bits_deBruijn64tab), ("internal/strconv.uint64pow10", laid_internal_strconv_uint64pow10)] }
def EvalBestSaid : Prop := evalBestRow.holds Tryz.pinned (OpenSpec.ofChange evalBestSpec)

/-- ITS FALSE NEIGHBOUR: 'it returns false'. Refute it at one input. -/
def evalBestWrong : ChangeSpec := { name := "evalBest", fn := fun _ => fun
  | [d1, d2, d3] => { results := [.lit (.bool false)], args := [d1, d2, d3] }
  | _ => none }
def EvalBestWrongFalsely : Prop := evalBestRow.holds Tryz.pinned (OpenSpec.ofChange evalBestWrong)

/-- 'pensionlaw8.EvalBestOrder': WHATEVER THE INPUT: true; the input reads as it did. -/
def evalBestOrderSpec : ChangeSpec := { name := "evalBestOrder", fn := fun _ => fun
  | [d1, d2, d3] => { results := [.lit (.bool true)], args := [d1, d2, d3] }
  | _ => none }
def evalBestOrderRow : OpenClaim := { program := "ytlheailebbngiaagreatdoor", sum := "7dcbb7d93795bd57114a4cc3c740879939481a5ec149d3fd05dfb488d11afd46", func := "pension/pensionlaw8.EvalBestOrder", spec := "evalBestOrder", inPlace := ["internal/bytealg.IndexByteString", "internal/bytealg.IndexString", "math/bits.Add64", "math/bits.Sub64"], unfollowed := true, recurses := true, named := ["internal/strconv.uint64pow10", "math/bits.deBruijn32tab", "math/bits.deBruijn64tab", "internal/bytealg.MaxLen", "math/bits.divideError", "math/bits.overflowError"], apart := false, laid := [("math/bits.deBruijn32tab", laid_math_bits_deBruijn32tab), ("math/bits.deBruijn64tab", laid_math_bits_deBruijn64tab), ("internal/strconv.uint64pow10", laid_internal_strconv_uint64pow10)] }
def EvalBestOrderSaid : Prop := evalBestOrderRow.holds Tryz.pinned (OpenSpec.ofChange evalBestOrderSpec)

/-- ITS FALSE NEIGHBOUR: 'it returns false'. Refute it at one input. -/
def evalBestOrderWrong : ChangeSpec := { name := "evalBestOrder", fn := fun _ => fun
  | [d1, d2, d3] => { results := [.lit (.bool false)], args := [d1, d2, d3] }
  | _ => none }
def EvalBestOrderWrongFalsely : Prop := evalBestOrderRow.holds Tryz.pinned (OpenSpec.ofChange evalBestOrderWrong)

/-- 'pensionlaw8.EvalExprs': WHATEVER THE INPUT: true; the input reads as it did. -/
def evalExprsSpec : ChangeSpec := { name := "evalExprs", fn := fun _ => fun
  | [d1, d2, d3, d4, d5] => { results := [.lit (.bool true)], args := [d1, d2, d3, d4, d5] }
  | _ => none }
def evalExprsRow : OpenClaim := { program := "ytlheailebbngiaagreatdoor", sum := "7dcbb7d93795bd57114a4cc3c740879939481a5ec149d3fd05dfb488d11afd46", func := "pension/pensionlaw8.EvalExprs", spec := "evalExprs", inPlace := ["internal/bytealg.IndexByteString", "internal/bytealg.IndexString", "math/bits.Add64", "math/bits.Sub64"], unfollowed := true, recurses := true, named := ["math/bits.divideError", "math/bits.overflowError", "internal/strconv.uint64pow10", "math/bits.deBruijn32tab", "math/bits.deBruijn64tab", "internal/bytealg.MaxLen"], apart := false, laid := [("math/bits.deBruijn32tab", laid_math_bits_deBruijn32tab), ("math/bits.deBruijn64tab", laid_math_bits_deBruijn64tab), ("internal/strconv.uint64pow10", laid_internal_strconv_uint64pow10)] }
def EvalExprsSaid : Prop := evalExprsRow.holds Tryz.pinned (OpenSpec.ofChange evalExprsSpec)

/-- ITS FALSE NEIGHBOUR: 'it returns false'. Refute it at one input. -/
def evalExprsWrong : ChangeSpec := { name := "evalExprs", fn := fun _ => fun
  | [d1, d2, d3, d4, d5] => { results := [.lit (.bool false)], args := [d1, d2, d3, d4, d5] }
  | _ => none }
def EvalExprsWrongFalsely : Prop := evalExprsRow.holds Tryz.pinned (OpenSpec.ofChange evalExprsWrong)

/-- 'pensionlaw8.EvalSound': WHATEVER THE INPUT: true; the input reads as it did. -/
def evalSoundSpec : ChangeSpec := { name := "evalSound", fn := fun _ => fun
  | [d1, d2, d3, d4] => { results := [.lit (.bool true)], args := [d1, d2, d3, d4] }
  | _ => none }
def evalSoundRow : OpenClaim := { program := "ytlheailebbngiaagreatdoor", sum := "7dcbb7d93795bd57114a4cc3c740879939481a5ec149d3fd05dfb488d11afd46", func := "pension/pensionlaw8.EvalSound", spec := "evalSound", inPlace := ["internal/bytealg.IndexByteString", "internal/bytealg.IndexString", "math/bits.Add64", "math/bits.Sub64"], unfollowed := true, recurses := true, named := ["math/bits.divideError", "math/bits.overflowError", "internal/strconv.uint64pow10", "math/bits.deBruijn32tab", "math/bits.deBruijn64tab", "internal/bytealg.MaxLen"], apart := false, laid := [("math/bits.deBruijn32tab", laid_math_bits_deBruijn32tab), ("math/bits.deBruijn64tab", laid_math_bits_deBruijn64tab), ("internal/strconv.uint64pow10", laid_internal_strconv_uint64pow10)] }
def EvalSoundSaid : Prop := evalSoundRow.holds Tryz.pinned (OpenSpec.ofChange evalSoundSpec)

/-- ITS FALSE NEIGHBOUR: 'it returns false'. Refute it at one input. -/
def evalSoundWrong : ChangeSpec := { name := "evalSound", fn := fun _ => fun
  | [d1, d2, d3, d4] => { results := [.lit (.bool false)], args := [d1, d2, d3, d4] }
  | _ => none }
def EvalSoundWrongFalsely : Prop := evalSoundRow.holds Tryz.pinned (OpenSpec.ofChange evalSoundWrong)

/-- 'pensionlaw8.EvalLazy': WHATEVER THE INPUT: true; the input reads as it did. -/
def evalLazySpec : ChangeSpec := { name := "evalLazy", fn := fun _ => fun
  | [d1, d2, d3] => { results := [.lit (.bool true)], args := [d1, d2, d3] }
  | _ => none }
def evalLazyRow : OpenClaim := { program := "ytlheailebbngiaagreatdoor", sum := "7dcbb7d93795bd57114a4cc3c740879939481a5ec149d3fd05dfb488d11afd46", func := "pension/pensionlaw8.EvalLazy", spec := "evalLazy", inPlace := ["internal/bytealg.IndexByteString", "internal/bytealg.IndexString", "math/bits.Add64", "math/bits.Sub64"], unfollowed := true, recurses := true, named := ["math/bits.divideError", "math/bits.overflowError", "internal/strconv.uint64pow10", "math/bits.deBruijn32tab", "math/bits.deBruijn64tab", "internal/bytealg.MaxLen"], apart := false, laid := [("math/bits.deBruijn32tab", laid_math_bits_deBruijn32tab), ("math/bits.deBruijn64tab", laid_math_bits_deBruijn64tab), ("internal/strconv.uint64pow10", laid_internal_strconv_uint64pow10)] }
def EvalLazySaid : Prop := evalLazyRow.holds Tryz.pinned (OpenSpec.ofChange evalLazySpec)

/-- ITS FALSE NEIGHBOUR: 'it returns false'. Refute it at one input. -/
def evalLazyWrong : ChangeSpec := { name := "evalLazy", fn := fun _ => fun
  | [d1, d2, d3] => { results := [.lit (.bool false)], args := [d1, d2, d3] }
  | _ => none }
def EvalLazyWrongFalsely : Prop := evalLazyRow.holds Tryz.pinned (OpenSpec.ofChange evalLazyWrong)

/-- 'pensionlaw8.EvalInline': WHATEVER THE INPUT: true; the input reads as it did. -/
def evalInlineSpec : ChangeSpec := { name := "evalInline", fn := fun _ => fun
  | [d1, d2, d3, d4] => { results := [.lit (.bool true)], args := [d1, d2, d3, d4] }
  | _ => none }
def evalInlineRow : OpenClaim := { program := "ytlheailebbngiaagreatdoor", sum := "7dcbb7d93795bd57114a4cc3c740879939481a5ec149d3fd05dfb488d11afd46", func := "pension/pensionlaw8.EvalInline", spec := "evalInline", inPlace := ["internal/bytealg.IndexByteString", "internal/bytealg.IndexString", "math/bits.Add64", "math/bits.Sub64"], unfollowed := true, recurses := true, named := ["math/bits.divideError", "math/bits.overflowError", "internal/strconv.uint64pow10", "math/bits.deBruijn32tab", "math/bits.deBruijn64tab", "internal/bytealg.MaxLen"], apart := false, laid := [("math/bits.deBruijn32tab", laid_math_bits_deBruijn32tab), ("math/bits.deBruijn64tab", laid_math_bits_deBruijn64tab), ("internal/strconv.uint64pow10", laid_internal_strconv_uint64pow10)] }
def EvalInlineSaid : Prop := evalInlineRow.holds Tryz.pinned (OpenSpec.ofChange evalInlineSpec)

/-- ITS FALSE NEIGHBOUR: 'it returns false'. Refute it at one input. -/
def evalInlineWrong : ChangeSpec := { name := "evalInline", fn := fun _ => fun
  | [d1, d2, d3, d4] => { results := [.lit (.bool false)], args := [d1, d2, d3, d4] }
  | _ => none }
def EvalInlineWrongFalsely : Prop := evalInlineRow.holds Tryz.pinned (OpenSpec.ofChange evalInlineWrong)

/-- 'pensionlaw8.EvalUses': WHATEVER THE INPUT: true; the input reads as it did. -/
def evalUsesSpec : ChangeSpec := { name := "evalUses", fn := fun _ => fun
  | [d1, d2] => { results := [.lit (.bool true)], args := [d1, d2] }
  | _ => none }
def evalUsesRow : OpenClaim := { program := "ytlheailebbngiaagreatdoor", sum := "7dcbb7d93795bd57114a4cc3c740879939481a5ec149d3fd05dfb488d11afd46", func := "pension/pensionlaw8.EvalUses", spec := "evalUses", inPlace := ["internal/bytealg.IndexByteString", "internal/bytealg.IndexString", "math/bits.Add64", "math/bits.Sub64"], unfollowed := true, recurses := true, named := ["math/bits.divideError", "math/bits.overflowError", "internal/strconv.uint64pow10", "math/bits.deBruijn32tab", "math/bits.deBruijn64tab", "internal/bytealg.MaxLen"], apart := false, laid := [("math/bits.deBruijn32tab", laid_math_bits_deBruijn32tab), ("math/bits.deBruijn64tab", laid_math_bits_deBruijn64tab), ("internal/strconv.uint64pow10", laid_internal_strconv_uint64pow10)] }
def EvalUsesSaid : Prop := evalUsesRow.holds Tryz.pinned (OpenSpec.ofChange evalUsesSpec)

/-- ITS FALSE NEIGHBOUR: 'it returns false'. Refute it at one input. -/
def evalUsesWrong : ChangeSpec := { name := "evalUses", fn := fun _ => fun
  | [d1, d2] => { results := [.lit (.bool false)], args := [d1, d2] }
  | _ => none }
def EvalUsesWrongFalsely : Prop := evalUsesRow.holds Tryz.pinned (OpenSpec.ofChange evalUsesWrong)

/-- 'pensionlaw8.EvalReduces': WHATEVER THE INPUT: true; the input reads as it did. -/
def evalReducesSpec : ChangeSpec := { name := "evalReduces", fn := fun _ => fun
  | [d1, d2, d3] => { results := [.lit (.bool true)], args := [d1, d2, d3] }
  | _ => none }
def evalReducesRow : OpenClaim := { program := "ytlheailebbngiaagreatdoor", sum := "7dcbb7d93795bd57114a4cc3c740879939481a5ec149d3fd05dfb488d11afd46", func := "pension/pensionlaw8.EvalReduces", spec := "evalReduces", inPlace := ["internal/bytealg.IndexByteString", "internal/bytealg.IndexString", "math/bits.Add64", "math/bits.Sub64"], unfollowed := true, recurses := true, named := ["math/bits.divideError", "math/bits.overflowError", "internal/strconv.uint64pow10", "math/bits.deBruijn32tab", "math/bits.deBruijn64tab", "internal/bytealg.MaxLen"], apart := false, laid := [("math/bits.deBruijn32tab", laid_math_bits_deBruijn32tab), ("math/bits.deBruijn64tab", laid_math_bits_deBruijn64tab), ("internal/strconv.uint64pow10", laid_internal_strconv_uint64pow10)] }
def EvalReducesSaid : Prop := evalReducesRow.holds Tryz.pinned (OpenSpec.ofChange evalReducesSpec)

/-- ITS FALSE NEIGHBOUR: 'it returns false'. Refute it at one input. -/
def evalReducesWrong : ChangeSpec := { name := "evalReduces", fn := fun _ => fun
  | [d1, d2, d3] => { results := [.lit (.bool false)], args := [d1, d2, d3] }
  | _ => none }
def EvalReducesWrongFalsely : Prop := evalReducesRow.holds Tryz.pinned (OpenSpec.ofChange evalReducesWrong)

/-- 'pensionlaw8.EvalGrants': WHATEVER THE INPUT: true; the input reads as it did. -/
def evalGrantsSpec : ChangeSpec := { name := "evalGrants", fn := fun _ => fun
  | [d1, d2, d3, d4] => { results := [.lit (.bool true)], args := [d1, d2, d3, d4] }
  | _ => none }
def evalGrantsRow : OpenClaim := { program := "ytlheailebbngiaagreatdoor", sum := "7dcbb7d93795bd57114a4cc3c740879939481a5ec149d3fd05dfb488d11afd46", func := "pension/pensionlaw8.EvalGrants", spec := "evalGrants", inPlace := ["internal/bytealg.IndexByteString", "internal/bytealg.IndexString", "math/bits.Add64", "math/bits.Sub64"], unfollowed := true, recurses := true, named := ["math/bits.divideError", "math/bits.overflowError", "internal/strconv.uint64pow10", "math/bits.deBruijn32tab", "math/bits.deBruijn64tab", "internal/bytealg.MaxLen"], apart := false, laid := [("math/bits.deBruijn32tab", laid_math_bits_deBruijn32tab), ("math/bits.deBruijn64tab", laid_math_bits_deBruijn64tab), ("internal/strconv.uint64pow10", laid_internal_strconv_uint64pow10)] }
def EvalGrantsSaid : Prop := evalGrantsRow.holds Tryz.pinned (OpenSpec.ofChange evalGrantsSpec)

/-- ITS FALSE NEIGHBOUR: 'it returns false'. Refute it at one input. -/
def evalGrantsWrong : ChangeSpec := { name := "evalGrants", fn := fun _ => fun
  | [d1, d2, d3, d4] => { results := [.lit (.bool false)], args := [d1, d2, d3, d4] }
  | _ => none }
def EvalGrantsWrongFalsely : Prop := evalGrantsRow.holds Tryz.pinned (OpenSpec.ofChange evalGrantsWrong)

/-- 'pensionlaw8.EvalNeeds': WHATEVER THE INPUT: true; the input reads as it did. -/
def evalNeedsSpec : ChangeSpec := { name := "evalNeeds", fn := fun _ => fun
  | [d1, d2, d3, d4] => { results := [.lit (.bool true)], args := [d1, d2, d3, d4] }
  | _ => none }
def evalNeedsRow : OpenClaim := { program := "ytlheailebbngiaagreatdoor", sum := "7dcbb7d93795bd57114a4cc3c740879939481a5ec149d3fd05dfb488d11afd46", func := "pension/pensionlaw8.EvalNeeds", spec := "evalNeeds", inPlace := ["internal/bytealg.IndexByteString", "internal/bytealg.IndexString", "math/bits.Add64", "math/bits.Sub64"], unfollowed := true, recurses := true, named := ["math/bits.divideError", "math/bits.overflowError", "internal/strconv.uint64pow10", "math/bits.deBruijn32tab", "math/bits.deBruijn64tab", "internal/bytealg.MaxLen"], apart := false, laid := [("math/bits.deBruijn32tab", laid_math_bits_deBruijn32tab), ("math/bits.deBruijn64tab", laid_math_bits_deBruijn64tab), ("internal/strconv.uint64pow10", laid_internal_strconv_uint64pow10)] }
def EvalNeedsSaid : Prop := evalNeedsRow.holds Tryz.pinned (OpenSpec.ofChange evalNeedsSpec)

/-- ITS FALSE NEIGHBOUR: 'it returns false'. Refute it at one input. -/
def evalNeedsWrong : ChangeSpec := { name := "evalNeeds", fn := fun _ => fun
  | [d1, d2, d3, d4] => { results := [.lit (.bool false)], args := [d1, d2, d3, d4] }
  | _ => none }
def EvalNeedsWrongFalsely : Prop := evalNeedsRow.holds Tryz.pinned (OpenSpec.ofChange evalNeedsWrong)

/- THE SECOND FORM. 'bulk': how many values and letters a reading holds, each counted each time it is reached (what is shared counts as often as it is met; a slice's spare places count too). A statement '..UptoSaid' is the law's where the arguments, and the package variables that the reading takes, are together of bulk at most 1048576: NARROWER than '..Said'. Prove '..Said' where nothing that the law and all that it calls make is longer than what came in: it says more and counts as full. Else prove '..UptoSaid'. A law counts once. -/
mutual
def uptoBulk {H : Type} : DataW H → Nat
  | .lit (.string bytes) => bytes.length + 1
  | .lit _ => 1
  | .nil => 1
  | .ptr d => uptoBulk d + 1
  | .slice elems spare => uptoBulkAll elems + uptoBulkAll spare + 1
  | .agg parts => uptoBulkAll parts + 1
  | .iface _ d => uptoBulk d + 1
  | .map entries => uptoBulkEntries entries + 1
  | .held _ => 1
def uptoBulkAll {H : Type} : List (DataW H) → Nat
  | [] => 0
  | d :: r => uptoBulk d + uptoBulkAll r
def uptoBulkEntries {H : Type} : List (Lit × DataW H) → Nat
  | [] => 0
  | x :: r => uptoBulkEntry x + uptoBulkEntries r
def uptoBulkEntry {H : Type} : Lit × DataW H → Nat
  | (.string bytes, d) => bytes.length + uptoBulk d + 1
  | (_, d) => uptoBulk d + 1
 end
def uptoSmall : (H : Type) → List (DataW H) → Bool := fun _ ds => decide (uptoBulkAll ds ≤ 1048576)
def OpenSpec.upto (s : _root_.Go.ChangeSpec) : _root_.Go.OpenSpec := { _root_.Go.OpenSpec.ofChange s with cond := some uptoSmall }

/-- 'pensionlaw8.EvalViews', WHERE WHAT IT READS IS OF BULK AT MOST 1048576: true; the input reads as it did. -/
def evalViewsUptoRow : OpenClaim := { program := "ytlheailebbngiaagreatdoor", sum := "7dcbb7d93795bd57114a4cc3c740879939481a5ec149d3fd05dfb488d11afd46", func := "pension/pensionlaw8.EvalViews", spec := "evalViews", inPlace := ["internal/bytealg.IndexByteString", "internal/bytealg.IndexString", "math/bits.Add64", "math/bits.Sub64"], unfollowed := true, recurses := true, named := ["math/bits.divideError", "math/bits.overflowError", "internal/strconv.uint64pow10", "math/bits.deBruijn32tab", "math/bits.deBruijn64tab", "internal/bytealg.MaxLen"], apart := false, laid := [("math/bits.deBruijn32tab", laid_math_bits_deBruijn32tab), ("math/bits.deBruijn64tab", laid_math_bits_deBruijn64tab), ("internal/strconv.uint64pow10", laid_internal_strconv_uint64pow10)], narrowed := true }
def EvalViewsUptoSaid : Prop := evalViewsUptoRow.holds Tryz.pinned (OpenSpec.upto evalViewsSpec)

/-- 'pensionlaw8.EvalBest', WHERE WHAT IT READS IS OF BULK AT MOST 1048576: true; the input reads as it did. -/
def evalBestUptoRow : OpenClaim := { program := "ytlheailebbngiaagreatdoor", sum := "7dcbb7d93795bd57114a4cc3c740879939481a5ec149d3fd05dfb488d11afd46", func := "pension/pensionlaw8.EvalBest", spec := "evalBest", inPlace := ["internal/bytealg.IndexByteString", "internal/bytealg.IndexString", "math/bits.Add64", "math/bits.Sub64"], unfollowed := true, recurses := true, named := ["math/bits.divideError", "math/bits.overflowError", "internal/strconv.uint64pow10", "math/bits.deBruijn32tab", "math/bits.deBruijn64tab", "internal/bytealg.MaxLen"], apart := false, laid := [("math/bits.deBruijn32tab", laid_math_bits_deBruijn32tab), ("math/bits.deBruijn64tab", laid_math_bits_deBruijn64tab), ("internal/strconv.uint64pow10", laid_internal_strconv_uint64pow10)], narrowed := true }
def EvalBestUptoSaid : Prop := evalBestUptoRow.holds Tryz.pinned (OpenSpec.upto evalBestSpec)

/-- 'pensionlaw8.EvalBestOrder', WHERE WHAT IT READS IS OF BULK AT MOST 1048576: true; the input reads as it did. -/
def evalBestOrderUptoRow : OpenClaim := { program := "ytlheailebbngiaagreatdoor", sum := "7dcbb7d93795bd57114a4cc3c740879939481a5ec149d3fd05dfb488d11afd46", func := "pension/pensionlaw8.EvalBestOrder", spec := "evalBestOrder", inPlace := ["internal/bytealg.IndexByteString", "internal/bytealg.IndexString", "math/bits.Add64", "math/bits.Sub64"], unfollowed := true, recurses := true, named := ["internal/strconv.uint64pow10", "math/bits.deBruijn32tab", "math/bits.deBruijn64tab", "internal/bytealg.MaxLen", "math/bits.divideError", "math/bits.overflowError"], apart := false, laid := [("math/bits.deBruijn32tab", laid_math_bits_deBruijn32tab), ("math/bits.deBruijn64tab", laid_math_bits_deBruijn64tab), ("internal/strconv.uint64pow10", laid_internal_strconv_uint64pow10)], narrowed := true }
def EvalBestOrderUptoSaid : Prop := evalBestOrderUptoRow.holds Tryz.pinned (OpenSpec.upto evalBestOrderSpec)

/-- 'pensionlaw8.EvalExprs', WHERE WHAT IT READS IS OF BULK AT MOST 1048576: true; the input reads as it did. -/
def evalExprsUptoRow : OpenClaim := { program := "ytlheailebbngiaagreatdoor", sum := "7dcbb7d93795bd57114a4cc3c740879939481a5ec149d3fd05dfb488d11afd46", func := "pension/pensionlaw8.EvalExprs", spec := "evalExprs", inPlace := ["internal/bytealg.IndexByteString", "internal/bytealg.IndexString", "math/bits.Add64", "math/bits.Sub64"], unfollowed := true, recurses := true, named := ["math/bits.divideError", "math/bits.overflowError", "internal/strconv.uint64pow10", "math/bits.deBruijn32tab", "math/bits.deBruijn64tab", "internal/bytealg.MaxLen"], apart := false, laid := [("math/bits.deBruijn32tab", laid_math_bits_deBruijn32tab), ("math/bits.deBruijn64tab", laid_math_bits_deBruijn64tab), ("internal/strconv.uint64pow10", laid_internal_strconv_uint64pow10)], narrowed := true }
def EvalExprsUptoSaid : Prop := evalExprsUptoRow.holds Tryz.pinned (OpenSpec.upto evalExprsSpec)

/-- 'pensionlaw8.EvalSound', WHERE WHAT IT READS IS OF BULK AT MOST 1048576: true; the input reads as it did. -/
def evalSoundUptoRow : OpenClaim := { program := "ytlheailebbngiaagreatdoor", sum := "7dcbb7d93795bd57114a4cc3c740879939481a5ec149d3fd05dfb488d11afd46", func := "pension/pensionlaw8.EvalSound", spec := "evalSound", inPlace := ["internal/bytealg.IndexByteString", "internal/bytealg.IndexString", "math/bits.Add64", "math/bits.Sub64"], unfollowed := true, recurses := true, named := ["math/bits.divideError", "math/bits.overflowError", "internal/strconv.uint64pow10", "math/bits.deBruijn32tab", "math/bits.deBruijn64tab", "internal/bytealg.MaxLen"], apart := false, laid := [("math/bits.deBruijn32tab", laid_math_bits_deBruijn32tab), ("math/bits.deBruijn64tab", laid_math_bits_deBruijn64tab), ("internal/strconv.uint64pow10", laid_internal_strconv_uint64pow10)], narrowed := true }
def EvalSoundUptoSaid : Prop := evalSoundUptoRow.holds Tryz.pinned (OpenSpec.upto evalSoundSpec)

/-- 'pensionlaw8.EvalLazy', WHERE WHAT IT READS IS OF BULK AT MOST 1048576: true; the input reads as it did. -/
def evalLazyUptoRow : OpenClaim := { program := "ytlheailebbngiaagreatdoor", sum := "7dcbb7d93795bd57114a4cc3c740879939481a5ec149d3fd05dfb488d11afd46", func := "pension/pensionlaw8.EvalLazy", spec := "evalLazy", inPlace := ["internal/bytealg.IndexByteString", "internal/bytealg.IndexString", "math/bits.Add64", "math/bits.Sub64"], unfollowed := true, recurses := true, named := ["math/bits.divideError", "math/bits.overflowError", "internal/strconv.uint64pow10", "math/bits.deBruijn32tab", "math/bits.deBruijn64tab", "internal/bytealg.MaxLen"], apart := false, laid := [("math/bits.deBruijn32tab", laid_math_bits_deBruijn32tab), ("math/bits.deBruijn64tab", laid_math_bits_deBruijn64tab), ("internal/strconv.uint64pow10", laid_internal_strconv_uint64pow10)], narrowed := true }
def EvalLazyUptoSaid : Prop := evalLazyUptoRow.holds Tryz.pinned (OpenSpec.upto evalLazySpec)

/-- 'pensionlaw8.EvalInline', WHERE WHAT IT READS IS OF BULK AT MOST 1048576: true; the input reads as it did. -/
def evalInlineUptoRow : OpenClaim := { program := "ytlheailebbngiaagreatdoor", sum := "7dcbb7d93795bd57114a4cc3c740879939481a5ec149d3fd05dfb488d11afd46", func := "pension/pensionlaw8.EvalInline", spec := "evalInline", inPlace := ["internal/bytealg.IndexByteString", "internal/bytealg.IndexString", "math/bits.Add64", "math/bits.Sub64"], unfollowed := true, recurses := true, named := ["math/bits.divideError", "math/bits.overflowError", "internal/strconv.uint64pow10", "math/bits.deBruijn32tab", "math/bits.deBruijn64tab", "internal/bytealg.MaxLen"], apart := false, laid := [("math/bits.deBruijn32tab", laid_math_bits_deBruijn32tab), ("math/bits.deBruijn64tab", laid_math_bits_deBruijn64tab), ("internal/strconv.uint64pow10", laid_internal_strconv_uint64pow10)], narrowed := true }
def EvalInlineUptoSaid : Prop := evalInlineUptoRow.holds Tryz.pinned (OpenSpec.upto evalInlineSpec)

/-- 'pensionlaw8.EvalUses', WHERE WHAT IT READS IS OF BULK AT MOST 1048576: true; the input reads as it did. -/
def evalUsesUptoRow : OpenClaim := { program := "ytlheailebbngiaagreatdoor", sum := "7dcbb7d93795bd57114a4cc3c740879939481a5ec149d3fd05dfb488d11afd46", func := "pension/pensionlaw8.EvalUses", spec := "evalUses", inPlace := ["internal/bytealg.IndexByteString", "internal/bytealg.IndexString", "math/bits.Add64", "math/bits.Sub64"], unfollowed := true, recurses := true, named := ["math/bits.divideError", "math/bits.overflowError", "internal/strconv.uint64pow10", "math/bits.deBruijn32tab", "math/bits.deBruijn64tab", "internal/bytealg.MaxLen"], apart := false, laid := [("math/bits.deBruijn32tab", laid_math_bits_deBruijn32tab), ("math/bits.deBruijn64tab", laid_math_bits_deBruijn64tab), ("internal/strconv.uint64pow10", laid_internal_strconv_uint64pow10)], narrowed := true }
def EvalUsesUptoSaid : Prop := evalUsesUptoRow.holds Tryz.pinned (OpenSpec.upto evalUsesSpec)

/-- 'pensionlaw8.EvalReduces', WHERE WHAT IT READS IS OF BULK AT MOST 1048576: true; the input reads as it did. -/
def evalReducesUptoRow : OpenClaim := { program := "ytlheailebbngiaagreatdoor", sum := "7dcbb7d93795bd57114a4cc3c740879939481a5ec149d3fd05dfb488d11afd46", func := "pension/pensionlaw8.EvalReduces", spec := "evalReduces", inPlace := ["internal/bytealg.IndexByteString", "internal/bytealg.IndexString", "math/bits.Add64", "math/bits.Sub64"], unfollowed := true, recurses := true, named := ["math/bits.divideError", "math/bits.overflowError", "internal/strconv.uint64pow10", "math/bits.deBruijn32tab", "math/bits.deBruijn64tab", "internal/bytealg.MaxLen"], apart := false, laid := [("math/bits.deBruijn32tab", laid_math_bits_deBruijn32tab), ("math/bits.deBruijn64tab", laid_math_bits_deBruijn64tab), ("internal/strconv.uint64pow10", laid_internal_strconv_uint64pow10)], narrowed := true }
def EvalReducesUptoSaid : Prop := evalReducesUptoRow.holds Tryz.pinned (OpenSpec.upto evalReducesSpec)

/-- 'pensionlaw8.EvalGrants', WHERE WHAT IT READS IS OF BULK AT MOST 1048576: true; the input reads as it did. -/
def evalGrantsUptoRow : OpenClaim := { program := "ytlheailebbngiaagreatdoor", sum := "7dcbb7d93795bd57114a4cc3c740879939481a5ec149d3fd05dfb488d11afd46", func := "pension/pensionlaw8.EvalGrants", spec := "evalGrants", inPlace := ["internal/bytealg.IndexByteString", "internal/bytealg.IndexString", "math/bits.Add64", "math/bits.Sub64"], unfollowed := true, recurses := true, named := ["math/bits.divideError", "math/bits.overflowError", "internal/strconv.uint64pow10", "math/bits.deBruijn32tab", "math/bits.deBruijn64tab", "internal/bytealg.MaxLen"], apart := false, laid := [("math/bits.deBruijn32tab", laid_math_bits_deBruijn32tab), ("math/bits.deBruijn64tab", laid_math_bits_deBruijn64tab), ("internal/strconv.uint64pow10", laid_internal_strconv_uint64pow10)], narrowed := true }
def EvalGrantsUptoSaid : Prop := evalGrantsUptoRow.holds Tryz.pinned (OpenSpec.upto evalGrantsSpec)

/-- 'pensionlaw8.EvalNeeds', WHERE WHAT IT READS IS OF BULK AT MOST 1048576: true; the input reads as it did. -/
def evalNeedsUptoRow : OpenClaim := { program := "ytlheailebbngiaagreatdoor", sum := "7dcbb7d93795bd57114a4cc3c740879939481a5ec149d3fd05dfb488d11afd46", func := "pension/pensionlaw8.EvalNeeds", spec := "evalNeeds", inPlace := ["internal/bytealg.IndexByteString", "internal/bytealg.IndexString", "math/bits.Add64", "math/bits.Sub64"], unfollowed := true, recurses := true, named := ["math/bits.divideError", "math/bits.overflowError", "internal/strconv.uint64pow10", "math/bits.deBruijn32tab", "math/bits.deBruijn64tab", "internal/bytealg.MaxLen"], apart := false, laid := [("math/bits.deBruijn32tab", laid_math_bits_deBruijn32tab), ("math/bits.deBruijn64tab", laid_math_bits_deBruijn64tab), ("internal/strconv.uint64pow10", laid_internal_strconv_uint64pow10)], narrowed := true }
def EvalNeedsUptoSaid : Prop := evalNeedsUptoRow.holds Tryz.pinned (OpenSpec.upto evalNeedsSpec)

end Rows
end Go.Proofs.YtlheailebbngiaaGreatDoor
