/-
  No cell of these rows narrows 'for every input' (looked for: loops, veiled, ifaces, maps, wideKeys, modest, calm, conditions, laid).
  DERIVED. THE GIVEN ROWS OF THIS SEAT. 22 by the template 'for every input the law returns true; each argument reads behind the call as it read before'; 0 by the template 'total and deterministic' (their statements: YtegefemkmdlmaaaTotals.lean).
  GIVEN WITH THE SEED: the statements are not yours to turn. If you find one false, say at which input.
  Laid BY PROGRAM, IN A SANDBOX (cutbox-rows.mjs): the forced cells as the released guide's own fill.sh prints them over the translation 94ff5fe676063ecf… (all of the seat's roots in one cut). By AI agents, Wed Nov 11 2026. No macro, syntax, notation, axiom, sorry.
-/
import Derived.Test.YtegefemkmdlmaaaChecked
import GoSem.Claim
import GoSem.ClaimJoined
import GoSem.ClaimMapViews
import Derived.JoinedTies
import Derived.KernelRfl
namespace Go.Proofs.Ytegefemkmdlmaaa
/- THE CELL 'sum', in the pinned program and in every row, IS THE sha256 OF THE DUMP (.gsa) THAT YtegefemkmdlmaaaProg.lean LOADS. Nothing in Lean hashes anything: it is a label: what it is worth is what the hold of that sum in a sandbox is worth. -/
noncomputable def Try.pinned : Pinned := { name := "ytegefemkmdlmaaa", sum := "94ff5fe676063ecf6e7849ffa70f34ef93261ce3ff2d2429318c901a0a53f5ab", checked := Try.checked }
namespace Rows
def none {H : Type} : Left H := { results := [], args := [] }

/-- 'dasdlaw01.WireNumbers': WHATEVER THE INPUT: true; the input reads as it did. -/
def wireNumbersSpec : ChangeSpec := { name := "wireNumbers", fn := fun _ => fun
  | [d1, d2] => { results := [.lit (.bool true)], args := [d1, d2] }
  | _ => none }
def wireNumbersRow : OpenClaim := { program := "ytegefemkmdlmaaa", sum := "94ff5fe676063ecf6e7849ffa70f34ef93261ce3ff2d2429318c901a0a53f5ab", func := "dasd/dasdlaw01.WireNumbers", spec := "wireNumbers", unfollowed := true, recurses := true, apart := false }
def WireNumbersSaid : Prop := wireNumbersRow.holds Try.pinned (OpenSpec.ofChange wireNumbersSpec)

/-- ITS FALSE NEIGHBOUR: 'it returns false'. Refute it at one input. -/
def wireNumbersWrong : ChangeSpec := { name := "wireNumbers", fn := fun _ => fun
  | [d1, d2] => { results := [.lit (.bool false)], args := [d1, d2] }
  | _ => none }
def WireNumbersWrongFalsely : Prop := wireNumbersRow.holds Try.pinned (OpenSpec.ofChange wireNumbersWrong)

/-- 'dasdlaw01.WirePrefix': WHATEVER THE INPUT: true; the input reads as it did. -/
def wirePrefixSpec : ChangeSpec := { name := "wirePrefix", fn := fun _ => fun
  | [d1, d2] => { results := [.lit (.bool true)], args := [d1, d2] }
  | _ => none }
def wirePrefixRow : OpenClaim := { program := "ytegefemkmdlmaaa", sum := "94ff5fe676063ecf6e7849ffa70f34ef93261ce3ff2d2429318c901a0a53f5ab", func := "dasd/dasdlaw01.WirePrefix", spec := "wirePrefix", unfollowed := true, recurses := true, apart := false }
def WirePrefixSaid : Prop := wirePrefixRow.holds Try.pinned (OpenSpec.ofChange wirePrefixSpec)

/-- ITS FALSE NEIGHBOUR: 'it returns false'. Refute it at one input. -/
def wirePrefixWrong : ChangeSpec := { name := "wirePrefix", fn := fun _ => fun
  | [d1, d2] => { results := [.lit (.bool false)], args := [d1, d2] }
  | _ => none }
def WirePrefixWrongFalsely : Prop := wirePrefixRow.holds Try.pinned (OpenSpec.ofChange wirePrefixWrong)

/-- 'dasdlaw01.WireValues': WHATEVER THE INPUT: true; the input reads as it did. -/
def wireValuesSpec : ChangeSpec := { name := "wireValues", fn := fun _ => fun
  | [d1, d2, d3, d4] => { results := [.lit (.bool true)], args := [d1, d2, d3, d4] }
  | _ => none }
def wireValuesRow : OpenClaim := { program := "ytegefemkmdlmaaa", sum := "94ff5fe676063ecf6e7849ffa70f34ef93261ce3ff2d2429318c901a0a53f5ab", func := "dasd/dasdlaw01.WireValues", spec := "wireValues", unfollowed := true, recurses := true, apart := false }
def WireValuesSaid : Prop := wireValuesRow.holds Try.pinned (OpenSpec.ofChange wireValuesSpec)

/-- ITS FALSE NEIGHBOUR: 'it returns false'. Refute it at one input. -/
def wireValuesWrong : ChangeSpec := { name := "wireValues", fn := fun _ => fun
  | [d1, d2, d3, d4] => { results := [.lit (.bool false)], args := [d1, d2, d3, d4] }
  | _ => none }
def WireValuesWrongFalsely : Prop := wireValuesRow.holds Try.pinned (OpenSpec.ofChange wireValuesWrong)

/-- 'dasdlaw05.ExtentCuts': WHATEVER THE INPUT: true; the input reads as it did. -/
def extentCutsSpec : ChangeSpec := { name := "extentCuts", fn := fun _ => fun
  | [d1, d2] => { results := [.lit (.bool true)], args := [d1, d2] }
  | _ => none }
def extentCutsRow : OpenClaim := { program := "ytegefemkmdlmaaa", sum := "94ff5fe676063ecf6e7849ffa70f34ef93261ce3ff2d2429318c901a0a53f5ab", func := "dasd/dasdlaw05.ExtentCuts", spec := "extentCuts", apart := false }
def ExtentCutsSaid : Prop := extentCutsRow.holds Try.pinned (OpenSpec.ofChange extentCutsSpec)

/-- ITS FALSE NEIGHBOUR: 'it returns false'. Refute it at one input. -/
def extentCutsWrong : ChangeSpec := { name := "extentCuts", fn := fun _ => fun
  | [d1, d2] => { results := [.lit (.bool false)], args := [d1, d2] }
  | _ => none }
def ExtentCutsWrongFalsely : Prop := extentCutsRow.holds Try.pinned (OpenSpec.ofChange extentCutsWrong)

/-- 'dasdlaw05.ExtentNormal': WHATEVER THE INPUT: true; the input reads as it did. -/
def extentNormalSpec : ChangeSpec := { name := "extentNormal", fn := fun _ => fun
  | [d] => { results := [.lit (.bool true)], args := [d] }
  | _ => none }
def extentNormalRow : OpenClaim := { program := "ytegefemkmdlmaaa", sum := "94ff5fe676063ecf6e7849ffa70f34ef93261ce3ff2d2429318c901a0a53f5ab", func := "dasd/dasdlaw05.ExtentNormal", spec := "extentNormal", apart := false }
def ExtentNormalSaid : Prop := extentNormalRow.holds Try.pinned (OpenSpec.ofChange extentNormalSpec)

/-- ITS FALSE NEIGHBOUR: 'it returns false'. Refute it at one input. -/
def extentNormalWrong : ChangeSpec := { name := "extentNormal", fn := fun _ => fun
  | [d] => { results := [.lit (.bool false)], args := [d] }
  | _ => none }
def ExtentNormalWrongFalsely : Prop := extentNormalRow.holds Try.pinned (OpenSpec.ofChange extentNormalWrong)

/-- 'dasdlaw07.LabelHeads': WHATEVER THE INPUT: true; the input reads as it did. -/
def labelHeadsSpec : ChangeSpec := { name := "labelHeads", fn := fun _ => fun
  | [d1, d2, d3] => { results := [.lit (.bool true)], args := [d1, d2, d3] }
  | _ => none }
def labelHeadsRow : OpenClaim := { program := "ytegefemkmdlmaaa", sum := "94ff5fe676063ecf6e7849ffa70f34ef93261ce3ff2d2429318c901a0a53f5ab", func := "dasd/dasdlaw07.LabelHeads", spec := "labelHeads", unfollowed := true, recurses := true, apart := false }
def LabelHeadsSaid : Prop := labelHeadsRow.holds Try.pinned (OpenSpec.ofChange labelHeadsSpec)

/-- ITS FALSE NEIGHBOUR: 'it returns false'. Refute it at one input. -/
def labelHeadsWrong : ChangeSpec := { name := "labelHeads", fn := fun _ => fun
  | [d1, d2, d3] => { results := [.lit (.bool false)], args := [d1, d2, d3] }
  | _ => none }
def LabelHeadsWrongFalsely : Prop := labelHeadsRow.holds Try.pinned (OpenSpec.ofChange labelHeadsWrong)

/-- 'dasdlaw05.ExtentLists': WHATEVER THE INPUT: true; the input reads as it did. -/
def extentListsSpec : ChangeSpec := { name := "extentLists", fn := fun _ => fun
  | [d1, d2] => { results := [.lit (.bool true)], args := [d1, d2] }
  | _ => none }
def extentListsRow : OpenClaim := { program := "ytegefemkmdlmaaa", sum := "94ff5fe676063ecf6e7849ffa70f34ef93261ce3ff2d2429318c901a0a53f5ab", func := "dasd/dasdlaw05.ExtentLists", spec := "extentLists", apart := false }
def ExtentListsSaid : Prop := extentListsRow.holds Try.pinned (OpenSpec.ofChange extentListsSpec)

/-- ITS FALSE NEIGHBOUR: 'it returns false'. Refute it at one input. -/
def extentListsWrong : ChangeSpec := { name := "extentLists", fn := fun _ => fun
  | [d1, d2] => { results := [.lit (.bool false)], args := [d1, d2] }
  | _ => none }
def ExtentListsWrongFalsely : Prop := extentListsRow.holds Try.pinned (OpenSpec.ofChange extentListsWrong)

/-- 'dasdlaw07.LabelStrict': WHATEVER THE INPUT: true; the input reads as it did. -/
def labelStrictSpec : ChangeSpec := { name := "labelStrict", fn := fun _ => fun
  | [d1, d2] => { results := [.lit (.bool true)], args := [d1, d2] }
  | _ => none }
def labelStrictRow : OpenClaim := { program := "ytegefemkmdlmaaa", sum := "94ff5fe676063ecf6e7849ffa70f34ef93261ce3ff2d2429318c901a0a53f5ab", func := "dasd/dasdlaw07.LabelStrict", spec := "labelStrict", unfollowed := true, recurses := true, apart := false }
def LabelStrictSaid : Prop := labelStrictRow.holds Try.pinned (OpenSpec.ofChange labelStrictSpec)

/-- ITS FALSE NEIGHBOUR: 'it returns false'. Refute it at one input. -/
def labelStrictWrong : ChangeSpec := { name := "labelStrict", fn := fun _ => fun
  | [d1, d2] => { results := [.lit (.bool false)], args := [d1, d2] }
  | _ => none }
def LabelStrictWrongFalsely : Prop := labelStrictRow.holds Try.pinned (OpenSpec.ofChange labelStrictWrong)

/-- 'dasdlaw01.WireLimits': WHATEVER THE INPUT: true; the input reads as it did. -/
def wireLimitsSpec : ChangeSpec := { name := "wireLimits", fn := fun _ => fun
  | [d1, d2] => { results := [.lit (.bool true)], args := [d1, d2] }
  | _ => none }
def wireLimitsRow : OpenClaim := { program := "ytegefemkmdlmaaa", sum := "94ff5fe676063ecf6e7849ffa70f34ef93261ce3ff2d2429318c901a0a53f5ab", func := "dasd/dasdlaw01.WireLimits", spec := "wireLimits", unfollowed := true, recurses := true, apart := false }
def WireLimitsSaid : Prop := wireLimitsRow.holds Try.pinned (OpenSpec.ofChange wireLimitsSpec)

/-- ITS FALSE NEIGHBOUR: 'it returns false'. Refute it at one input. -/
def wireLimitsWrong : ChangeSpec := { name := "wireLimits", fn := fun _ => fun
  | [d1, d2] => { results := [.lit (.bool false)], args := [d1, d2] }
  | _ => none }
def WireLimitsWrongFalsely : Prop := wireLimitsRow.holds Try.pinned (OpenSpec.ofChange wireLimitsWrong)

/-- 'dasdlaw05.ExtentSizes': WHATEVER THE INPUT: true; the input reads as it did. -/
def extentSizesSpec : ChangeSpec := { name := "extentSizes", fn := fun _ => fun
  | [d1, d2] => { results := [.lit (.bool true)], args := [d1, d2] }
  | _ => none }
def extentSizesRow : OpenClaim := { program := "ytegefemkmdlmaaa", sum := "94ff5fe676063ecf6e7849ffa70f34ef93261ce3ff2d2429318c901a0a53f5ab", func := "dasd/dasdlaw05.ExtentSizes", spec := "extentSizes", unfollowed := true, recurses := true, apart := false }
def ExtentSizesSaid : Prop := extentSizesRow.holds Try.pinned (OpenSpec.ofChange extentSizesSpec)

/-- ITS FALSE NEIGHBOUR: 'it returns false'. Refute it at one input. -/
def extentSizesWrong : ChangeSpec := { name := "extentSizes", fn := fun _ => fun
  | [d1, d2] => { results := [.lit (.bool false)], args := [d1, d2] }
  | _ => none }
def ExtentSizesWrongFalsely : Prop := extentSizesRow.holds Try.pinned (OpenSpec.ofChange extentSizesWrong)

/-- 'dasdlaw05.ExtentParts': WHATEVER THE INPUT: true; the input reads as it did. -/
def extentPartsSpec : ChangeSpec := { name := "extentParts", fn := fun _ => fun
  | [d1, d2] => { results := [.lit (.bool true)], args := [d1, d2] }
  | _ => none }
def extentPartsRow : OpenClaim := { program := "ytegefemkmdlmaaa", sum := "94ff5fe676063ecf6e7849ffa70f34ef93261ce3ff2d2429318c901a0a53f5ab", func := "dasd/dasdlaw05.ExtentParts", spec := "extentParts", apart := false }
def ExtentPartsSaid : Prop := extentPartsRow.holds Try.pinned (OpenSpec.ofChange extentPartsSpec)

/-- ITS FALSE NEIGHBOUR: 'it returns false'. Refute it at one input. -/
def extentPartsWrong : ChangeSpec := { name := "extentParts", fn := fun _ => fun
  | [d1, d2] => { results := [.lit (.bool false)], args := [d1, d2] }
  | _ => none }
def ExtentPartsWrongFalsely : Prop := extentPartsRow.holds Try.pinned (OpenSpec.ofChange extentPartsWrong)

/-- 'dasdlaw01.WireReads': WHATEVER THE INPUT: true; the input reads as it did. -/
def wireReadsSpec : ChangeSpec := { name := "wireReads", fn := fun _ => fun
  | [d1, d2] => { results := [.lit (.bool true)], args := [d1, d2] }
  | _ => none }
def wireReadsRow : OpenClaim := { program := "ytegefemkmdlmaaa", sum := "94ff5fe676063ecf6e7849ffa70f34ef93261ce3ff2d2429318c901a0a53f5ab", func := "dasd/dasdlaw01.WireReads", spec := "wireReads", unfollowed := true, recurses := true, apart := false }
def WireReadsSaid : Prop := wireReadsRow.holds Try.pinned (OpenSpec.ofChange wireReadsSpec)

/-- ITS FALSE NEIGHBOUR: 'it returns false'. Refute it at one input. -/
def wireReadsWrong : ChangeSpec := { name := "wireReads", fn := fun _ => fun
  | [d1, d2] => { results := [.lit (.bool false)], args := [d1, d2] }
  | _ => none }
def WireReadsWrongFalsely : Prop := wireReadsRow.holds Try.pinned (OpenSpec.ofChange wireReadsWrong)

/-- 'dasdlaw01.WireStops': WHATEVER THE INPUT: true; the input reads as it did. -/
def wireStopsSpec : ChangeSpec := { name := "wireStops", fn := fun _ => fun
  | [d1, d2] => { results := [.lit (.bool true)], args := [d1, d2] }
  | _ => none }
def wireStopsRow : OpenClaim := { program := "ytegefemkmdlmaaa", sum := "94ff5fe676063ecf6e7849ffa70f34ef93261ce3ff2d2429318c901a0a53f5ab", func := "dasd/dasdlaw01.WireStops", spec := "wireStops", unfollowed := true, recurses := true, apart := false }
def WireStopsSaid : Prop := wireStopsRow.holds Try.pinned (OpenSpec.ofChange wireStopsSpec)

/-- ITS FALSE NEIGHBOUR: 'it returns false'. Refute it at one input. -/
def wireStopsWrong : ChangeSpec := { name := "wireStops", fn := fun _ => fun
  | [d1, d2] => { results := [.lit (.bool false)], args := [d1, d2] }
  | _ => none }
def WireStopsWrongFalsely : Prop := wireStopsRow.holds Try.pinned (OpenSpec.ofChange wireStopsWrong)

/-- 'dasdlaw05.ExtentSets': WHATEVER THE INPUT: true; the input reads as it did. -/
def extentSetsSpec : ChangeSpec := { name := "extentSets", fn := fun _ => fun
  | [d1, d2, d3] => { results := [.lit (.bool true)], args := [d1, d2, d3] }
  | _ => none }
def extentSetsRow : OpenClaim := { program := "ytegefemkmdlmaaa", sum := "94ff5fe676063ecf6e7849ffa70f34ef93261ce3ff2d2429318c901a0a53f5ab", func := "dasd/dasdlaw05.ExtentSets", spec := "extentSets", unfollowed := true, recurses := true, apart := false }
def ExtentSetsSaid : Prop := extentSetsRow.holds Try.pinned (OpenSpec.ofChange extentSetsSpec)

/-- ITS FALSE NEIGHBOUR: 'it returns false'. Refute it at one input. -/
def extentSetsWrong : ChangeSpec := { name := "extentSets", fn := fun _ => fun
  | [d1, d2, d3] => { results := [.lit (.bool false)], args := [d1, d2, d3] }
  | _ => none }
def ExtentSetsWrongFalsely : Prop := extentSetsRow.holds Try.pinned (OpenSpec.ofChange extentSetsWrong)

/-- 'dasdlaw01.WireReturns': WHATEVER THE INPUT: true; the input reads as it did. -/
def wireReturnsSpec : ChangeSpec := { name := "wireReturns", fn := fun _ => fun
  | [d] => { results := [.lit (.bool true)], args := [d] }
  | _ => none }
def wireReturnsRow : OpenClaim := { program := "ytegefemkmdlmaaa", sum := "94ff5fe676063ecf6e7849ffa70f34ef93261ce3ff2d2429318c901a0a53f5ab", func := "dasd/dasdlaw01.WireReturns", spec := "wireReturns", unfollowed := true, recurses := true, apart := false }
def WireReturnsSaid : Prop := wireReturnsRow.holds Try.pinned (OpenSpec.ofChange wireReturnsSpec)

/-- ITS FALSE NEIGHBOUR: 'it returns false'. Refute it at one input. -/
def wireReturnsWrong : ChangeSpec := { name := "wireReturns", fn := fun _ => fun
  | [d] => { results := [.lit (.bool false)], args := [d] }
  | _ => none }
def WireReturnsWrongFalsely : Prop := wireReturnsRow.holds Try.pinned (OpenSpec.ofChange wireReturnsWrong)

/-- 'dasdlaw01.WireStrict': WHATEVER THE INPUT: true; the input reads as it did. -/
def wireStrictSpec : ChangeSpec := { name := "wireStrict", fn := fun _ => fun
  | [d1, d2] => { results := [.lit (.bool true)], args := [d1, d2] }
  | _ => none }
def wireStrictRow : OpenClaim := { program := "ytegefemkmdlmaaa", sum := "94ff5fe676063ecf6e7849ffa70f34ef93261ce3ff2d2429318c901a0a53f5ab", func := "dasd/dasdlaw01.WireStrict", spec := "wireStrict", unfollowed := true, recurses := true, apart := false }
def WireStrictSaid : Prop := wireStrictRow.holds Try.pinned (OpenSpec.ofChange wireStrictSpec)

/-- ITS FALSE NEIGHBOUR: 'it returns false'. Refute it at one input. -/
def wireStrictWrong : ChangeSpec := { name := "wireStrict", fn := fun _ => fun
  | [d1, d2] => { results := [.lit (.bool false)], args := [d1, d2] }
  | _ => none }
def WireStrictWrongFalsely : Prop := wireStrictRow.holds Try.pinned (OpenSpec.ofChange wireStrictWrong)

/-- 'dasdlaw05.ExtentEqual': WHATEVER THE INPUT: true; the input reads as it did. -/
def extentEqualSpec : ChangeSpec := { name := "extentEqual", fn := fun _ => fun
  | [d1, d2] => { results := [.lit (.bool true)], args := [d1, d2] }
  | _ => none }
def extentEqualRow : OpenClaim := { program := "ytegefemkmdlmaaa", sum := "94ff5fe676063ecf6e7849ffa70f34ef93261ce3ff2d2429318c901a0a53f5ab", func := "dasd/dasdlaw05.ExtentEqual", spec := "extentEqual", unfollowed := true, recurses := true, apart := false }
def ExtentEqualSaid : Prop := extentEqualRow.holds Try.pinned (OpenSpec.ofChange extentEqualSpec)

/-- ITS FALSE NEIGHBOUR: 'it returns false'. Refute it at one input. -/
def extentEqualWrong : ChangeSpec := { name := "extentEqual", fn := fun _ => fun
  | [d1, d2] => { results := [.lit (.bool false)], args := [d1, d2] }
  | _ => none }
def ExtentEqualWrongFalsely : Prop := extentEqualRow.holds Try.pinned (OpenSpec.ofChange extentEqualWrong)

/-- 'dasdlaw07.LabelValid': WHATEVER THE INPUT: true; the input reads as it did. -/
def labelValidSpec : ChangeSpec := { name := "labelValid", fn := fun _ => fun
  | [d1, d2, d3] => { results := [.lit (.bool true)], args := [d1, d2, d3] }
  | _ => none }
def labelValidRow : OpenClaim := { program := "ytegefemkmdlmaaa", sum := "94ff5fe676063ecf6e7849ffa70f34ef93261ce3ff2d2429318c901a0a53f5ab", func := "dasd/dasdlaw07.LabelValid", spec := "labelValid", unfollowed := true, recurses := true, apart := false }
def LabelValidSaid : Prop := labelValidRow.holds Try.pinned (OpenSpec.ofChange labelValidSpec)

/-- ITS FALSE NEIGHBOUR: 'it returns false'. Refute it at one input. -/
def labelValidWrong : ChangeSpec := { name := "labelValid", fn := fun _ => fun
  | [d1, d2, d3] => { results := [.lit (.bool false)], args := [d1, d2, d3] }
  | _ => none }
def LabelValidWrongFalsely : Prop := labelValidRow.holds Try.pinned (OpenSpec.ofChange labelValidWrong)

/-- 'dasdlaw07.LabelSlots': WHATEVER THE INPUT: true; the input reads as it did. -/
def labelSlotsSpec : ChangeSpec := { name := "labelSlots", fn := fun _ => fun
  | [d] => { results := [.lit (.bool true)], args := [d] }
  | _ => none }
def labelSlotsRow : OpenClaim := { program := "ytegefemkmdlmaaa", sum := "94ff5fe676063ecf6e7849ffa70f34ef93261ce3ff2d2429318c901a0a53f5ab", func := "dasd/dasdlaw07.LabelSlots", spec := "labelSlots", unfollowed := true, recurses := true, apart := false }
def LabelSlotsSaid : Prop := labelSlotsRow.holds Try.pinned (OpenSpec.ofChange labelSlotsSpec)

/-- ITS FALSE NEIGHBOUR: 'it returns false'. Refute it at one input. -/
def labelSlotsWrong : ChangeSpec := { name := "labelSlots", fn := fun _ => fun
  | [d] => { results := [.lit (.bool false)], args := [d] }
  | _ => none }
def LabelSlotsWrongFalsely : Prop := labelSlotsRow.holds Try.pinned (OpenSpec.ofChange labelSlotsWrong)

/-- 'dasdlaw07.LabelOther': WHATEVER THE INPUT: true; the input reads as it did. -/
def labelOtherSpec : ChangeSpec := { name := "labelOther", fn := fun _ => fun
  | [d1, d2, d3] => { results := [.lit (.bool true)], args := [d1, d2, d3] }
  | _ => none }
def labelOtherRow : OpenClaim := { program := "ytegefemkmdlmaaa", sum := "94ff5fe676063ecf6e7849ffa70f34ef93261ce3ff2d2429318c901a0a53f5ab", func := "dasd/dasdlaw07.LabelOther", spec := "labelOther", unfollowed := true, recurses := true, apart := false }
def LabelOtherSaid : Prop := labelOtherRow.holds Try.pinned (OpenSpec.ofChange labelOtherSpec)

/-- ITS FALSE NEIGHBOUR: 'it returns false'. Refute it at one input. -/
def labelOtherWrong : ChangeSpec := { name := "labelOther", fn := fun _ => fun
  | [d1, d2, d3] => { results := [.lit (.bool false)], args := [d1, d2, d3] }
  | _ => none }
def LabelOtherWrongFalsely : Prop := labelOtherRow.holds Try.pinned (OpenSpec.ofChange labelOtherWrong)

/-- 'dasdlaw07.LabelDecodes': WHATEVER THE INPUT: true; the input reads as it did. -/
def labelDecodesSpec : ChangeSpec := { name := "labelDecodes", fn := fun _ => fun
  | [d1, d2] => { results := [.lit (.bool true)], args := [d1, d2] }
  | _ => none }
def labelDecodesRow : OpenClaim := { program := "ytegefemkmdlmaaa", sum := "94ff5fe676063ecf6e7849ffa70f34ef93261ce3ff2d2429318c901a0a53f5ab", func := "dasd/dasdlaw07.LabelDecodes", spec := "labelDecodes", unfollowed := true, recurses := true, apart := false }
def LabelDecodesSaid : Prop := labelDecodesRow.holds Try.pinned (OpenSpec.ofChange labelDecodesSpec)

/-- ITS FALSE NEIGHBOUR: 'it returns false'. Refute it at one input. -/
def labelDecodesWrong : ChangeSpec := { name := "labelDecodes", fn := fun _ => fun
  | [d1, d2] => { results := [.lit (.bool false)], args := [d1, d2] }
  | _ => none }
def LabelDecodesWrongFalsely : Prop := labelDecodesRow.holds Try.pinned (OpenSpec.ofChange labelDecodesWrong)

/-- 'dasdlaw07.LabelReturns': WHATEVER THE INPUT: true; the input reads as it did. -/
def labelReturnsSpec : ChangeSpec := { name := "labelReturns", fn := fun _ => fun
  | [d1, d2] => { results := [.lit (.bool true)], args := [d1, d2] }
  | _ => none }
def labelReturnsRow : OpenClaim := { program := "ytegefemkmdlmaaa", sum := "94ff5fe676063ecf6e7849ffa70f34ef93261ce3ff2d2429318c901a0a53f5ab", func := "dasd/dasdlaw07.LabelReturns", spec := "labelReturns", unfollowed := true, recurses := true, apart := false }
def LabelReturnsSaid : Prop := labelReturnsRow.holds Try.pinned (OpenSpec.ofChange labelReturnsSpec)

/-- ITS FALSE NEIGHBOUR: 'it returns false'. Refute it at one input. -/
def labelReturnsWrong : ChangeSpec := { name := "labelReturns", fn := fun _ => fun
  | [d1, d2] => { results := [.lit (.bool false)], args := [d1, d2] }
  | _ => none }
def LabelReturnsWrongFalsely : Prop := labelReturnsRow.holds Try.pinned (OpenSpec.ofChange labelReturnsWrong)

/- THE SECOND FORM. 'bulk': how many values and letters a reading holds, each counted each time it is reached (what is shared counts as often as it is met; a slice's spare places count too). A statement '..UptoSaid' is the law's where the arguments, and the package variables that the reading takes, are together of bulk at most 1048576: NARROWER than '..Said'. Prove '..Said' where nothing that the law and all that it calls make is longer than what came in: it says more and counts as full. Else prove '..UptoSaid'. A law counts once. -/
mutual
def uptoBulk {H : Type} : DataW H → Nat
  | .lit (.string bytes) => bytes.length + 1
  | .lit _ => 1
  | .nil => 1
  | .ptr d => uptoBulk d + 1
  | .slice elems spare => uptoBulkAll elems + uptoBulkAll spare + 1
  | .agg parts => uptoBulkAll parts + 1
  | .iface _ d => uptoBulk d + 1
  | .map entries => uptoBulkEntries entries + 1
  | .held _ => 1
def uptoBulkAll {H : Type} : List (DataW H) → Nat
  | [] => 0
  | d :: r => uptoBulk d + uptoBulkAll r
def uptoBulkEntries {H : Type} : List (Lit × DataW H) → Nat
  | [] => 0
  | x :: r => uptoBulkEntry x + uptoBulkEntries r
def uptoBulkEntry {H : Type} : Lit × DataW H → Nat
  | (.string bytes, d) => bytes.length + uptoBulk d + 1
  | (_, d) => uptoBulk d + 1
 end
def uptoSmall : (H : Type) → List (DataW H) → Bool := fun _ ds => decide (uptoBulkAll ds ≤ 1048576)
def OpenSpec.upto (s : _root_.Go.ChangeSpec) : _root_.Go.OpenSpec := { _root_.Go.OpenSpec.ofChange s with cond := some uptoSmall }

/-- 'dasdlaw01.WireNumbers', WHERE WHAT IT READS IS OF BULK AT MOST 1048576: true; the input reads as it did. -/
def wireNumbersUptoRow : OpenClaim := { program := "ytegefemkmdlmaaa", sum := "94ff5fe676063ecf6e7849ffa70f34ef93261ce3ff2d2429318c901a0a53f5ab", func := "dasd/dasdlaw01.WireNumbers", spec := "wireNumbers", unfollowed := true, recurses := true, apart := false, narrowed := true }
def WireNumbersUptoSaid : Prop := wireNumbersUptoRow.holds Try.pinned (OpenSpec.upto wireNumbersSpec)

/-- 'dasdlaw01.WirePrefix', WHERE WHAT IT READS IS OF BULK AT MOST 1048576: true; the input reads as it did. -/
def wirePrefixUptoRow : OpenClaim := { program := "ytegefemkmdlmaaa", sum := "94ff5fe676063ecf6e7849ffa70f34ef93261ce3ff2d2429318c901a0a53f5ab", func := "dasd/dasdlaw01.WirePrefix", spec := "wirePrefix", unfollowed := true, recurses := true, apart := false, narrowed := true }
def WirePrefixUptoSaid : Prop := wirePrefixUptoRow.holds Try.pinned (OpenSpec.upto wirePrefixSpec)

/-- 'dasdlaw01.WireValues', WHERE WHAT IT READS IS OF BULK AT MOST 1048576: true; the input reads as it did. -/
def wireValuesUptoRow : OpenClaim := { program := "ytegefemkmdlmaaa", sum := "94ff5fe676063ecf6e7849ffa70f34ef93261ce3ff2d2429318c901a0a53f5ab", func := "dasd/dasdlaw01.WireValues", spec := "wireValues", unfollowed := true, recurses := true, apart := false, narrowed := true }
def WireValuesUptoSaid : Prop := wireValuesUptoRow.holds Try.pinned (OpenSpec.upto wireValuesSpec)

/-- 'dasdlaw05.ExtentCuts', WHERE WHAT IT READS IS OF BULK AT MOST 1048576: true; the input reads as it did. -/
def extentCutsUptoRow : OpenClaim := { program := "ytegefemkmdlmaaa", sum := "94ff5fe676063ecf6e7849ffa70f34ef93261ce3ff2d2429318c901a0a53f5ab", func := "dasd/dasdlaw05.ExtentCuts", spec := "extentCuts", apart := false, narrowed := true }
def ExtentCutsUptoSaid : Prop := extentCutsUptoRow.holds Try.pinned (OpenSpec.upto extentCutsSpec)

/-- 'dasdlaw05.ExtentNormal', WHERE WHAT IT READS IS OF BULK AT MOST 1048576: true; the input reads as it did. -/
def extentNormalUptoRow : OpenClaim := { program := "ytegefemkmdlmaaa", sum := "94ff5fe676063ecf6e7849ffa70f34ef93261ce3ff2d2429318c901a0a53f5ab", func := "dasd/dasdlaw05.ExtentNormal", spec := "extentNormal", apart := false, narrowed := true }
def ExtentNormalUptoSaid : Prop := extentNormalUptoRow.holds Try.pinned (OpenSpec.upto extentNormalSpec)

/-- 'dasdlaw07.LabelHeads', WHERE WHAT IT READS IS OF BULK AT MOST 1048576: true; the input reads as it did. -/
def labelHeadsUptoRow : OpenClaim := { program := "ytegefemkmdlmaaa", sum := "94ff5fe676063ecf6e7849ffa70f34ef93261ce3ff2d2429318c901a0a53f5ab", func := "dasd/dasdlaw07.LabelHeads", spec := "labelHeads", unfollowed := true, recurses := true, apart := false, narrowed := true }
def LabelHeadsUptoSaid : Prop := labelHeadsUptoRow.holds Try.pinned (OpenSpec.upto labelHeadsSpec)

/-- 'dasdlaw05.ExtentLists', WHERE WHAT IT READS IS OF BULK AT MOST 1048576: true; the input reads as it did. -/
def extentListsUptoRow : OpenClaim := { program := "ytegefemkmdlmaaa", sum := "94ff5fe676063ecf6e7849ffa70f34ef93261ce3ff2d2429318c901a0a53f5ab", func := "dasd/dasdlaw05.ExtentLists", spec := "extentLists", apart := false, narrowed := true }
def ExtentListsUptoSaid : Prop := extentListsUptoRow.holds Try.pinned (OpenSpec.upto extentListsSpec)

/-- 'dasdlaw07.LabelStrict', WHERE WHAT IT READS IS OF BULK AT MOST 1048576: true; the input reads as it did. -/
def labelStrictUptoRow : OpenClaim := { program := "ytegefemkmdlmaaa", sum := "94ff5fe676063ecf6e7849ffa70f34ef93261ce3ff2d2429318c901a0a53f5ab", func := "dasd/dasdlaw07.LabelStrict", spec := "labelStrict", unfollowed := true, recurses := true, apart := false, narrowed := true }
def LabelStrictUptoSaid : Prop := labelStrictUptoRow.holds Try.pinned (OpenSpec.upto labelStrictSpec)

/-- 'dasdlaw01.WireLimits', WHERE WHAT IT READS IS OF BULK AT MOST 1048576: true; the input reads as it did. -/
def wireLimitsUptoRow : OpenClaim := { program := "ytegefemkmdlmaaa", sum := "94ff5fe676063ecf6e7849ffa70f34ef93261ce3ff2d2429318c901a0a53f5ab", func := "dasd/dasdlaw01.WireLimits", spec := "wireLimits", unfollowed := true, recurses := true, apart := false, narrowed := true }
def WireLimitsUptoSaid : Prop := wireLimitsUptoRow.holds Try.pinned (OpenSpec.upto wireLimitsSpec)

/-- 'dasdlaw05.ExtentSizes', WHERE WHAT IT READS IS OF BULK AT MOST 1048576: true; the input reads as it did. -/
def extentSizesUptoRow : OpenClaim := { program := "ytegefemkmdlmaaa", sum := "94ff5fe676063ecf6e7849ffa70f34ef93261ce3ff2d2429318c901a0a53f5ab", func := "dasd/dasdlaw05.ExtentSizes", spec := "extentSizes", unfollowed := true, recurses := true, apart := false, narrowed := true }
def ExtentSizesUptoSaid : Prop := extentSizesUptoRow.holds Try.pinned (OpenSpec.upto extentSizesSpec)

/-- 'dasdlaw05.ExtentParts', WHERE WHAT IT READS IS OF BULK AT MOST 1048576: true; the input reads as it did. -/
def extentPartsUptoRow : OpenClaim := { program := "ytegefemkmdlmaaa", sum := "94ff5fe676063ecf6e7849ffa70f34ef93261ce3ff2d2429318c901a0a53f5ab", func := "dasd/dasdlaw05.ExtentParts", spec := "extentParts", apart := false, narrowed := true }
def ExtentPartsUptoSaid : Prop := extentPartsUptoRow.holds Try.pinned (OpenSpec.upto extentPartsSpec)

/-- 'dasdlaw01.WireReads', WHERE WHAT IT READS IS OF BULK AT MOST 1048576: true; the input reads as it did. -/
def wireReadsUptoRow : OpenClaim := { program := "ytegefemkmdlmaaa", sum := "94ff5fe676063ecf6e7849ffa70f34ef93261ce3ff2d2429318c901a0a53f5ab", func := "dasd/dasdlaw01.WireReads", spec := "wireReads", unfollowed := true, recurses := true, apart := false, narrowed := true }
def WireReadsUptoSaid : Prop := wireReadsUptoRow.holds Try.pinned (OpenSpec.upto wireReadsSpec)

/-- 'dasdlaw01.WireStops', WHERE WHAT IT READS IS OF BULK AT MOST 1048576: true; the input reads as it did. -/
def wireStopsUptoRow : OpenClaim := { program := "ytegefemkmdlmaaa", sum := "94ff5fe676063ecf6e7849ffa70f34ef93261ce3ff2d2429318c901a0a53f5ab", func := "dasd/dasdlaw01.WireStops", spec := "wireStops", unfollowed := true, recurses := true, apart := false, narrowed := true }
def WireStopsUptoSaid : Prop := wireStopsUptoRow.holds Try.pinned (OpenSpec.upto wireStopsSpec)

/-- 'dasdlaw05.ExtentSets', WHERE WHAT IT READS IS OF BULK AT MOST 1048576: true; the input reads as it did. -/
def extentSetsUptoRow : OpenClaim := { program := "ytegefemkmdlmaaa", sum := "94ff5fe676063ecf6e7849ffa70f34ef93261ce3ff2d2429318c901a0a53f5ab", func := "dasd/dasdlaw05.ExtentSets", spec := "extentSets", unfollowed := true, recurses := true, apart := false, narrowed := true }
def ExtentSetsUptoSaid : Prop := extentSetsUptoRow.holds Try.pinned (OpenSpec.upto extentSetsSpec)

/-- 'dasdlaw01.WireReturns', WHERE WHAT IT READS IS OF BULK AT MOST 1048576: true; the input reads as it did. -/
def wireReturnsUptoRow : OpenClaim := { program := "ytegefemkmdlmaaa", sum := "94ff5fe676063ecf6e7849ffa70f34ef93261ce3ff2d2429318c901a0a53f5ab", func := "dasd/dasdlaw01.WireReturns", spec := "wireReturns", unfollowed := true, recurses := true, apart := false, narrowed := true }
def WireReturnsUptoSaid : Prop := wireReturnsUptoRow.holds Try.pinned (OpenSpec.upto wireReturnsSpec)

/-- 'dasdlaw01.WireStrict', WHERE WHAT IT READS IS OF BULK AT MOST 1048576: true; the input reads as it did. -/
def wireStrictUptoRow : OpenClaim := { program := "ytegefemkmdlmaaa", sum := "94ff5fe676063ecf6e7849ffa70f34ef93261ce3ff2d2429318c901a0a53f5ab", func := "dasd/dasdlaw01.WireStrict", spec := "wireStrict", unfollowed := true, recurses := true, apart := false, narrowed := true }
def WireStrictUptoSaid : Prop := wireStrictUptoRow.holds Try.pinned (OpenSpec.upto wireStrictSpec)

/-- 'dasdlaw05.ExtentEqual', WHERE WHAT IT READS IS OF BULK AT MOST 1048576: true; the input reads as it did. -/
def extentEqualUptoRow : OpenClaim := { program := "ytegefemkmdlmaaa", sum := "94ff5fe676063ecf6e7849ffa70f34ef93261ce3ff2d2429318c901a0a53f5ab", func := "dasd/dasdlaw05.ExtentEqual", spec := "extentEqual", unfollowed := true, recurses := true, apart := false, narrowed := true }
def ExtentEqualUptoSaid : Prop := extentEqualUptoRow.holds Try.pinned (OpenSpec.upto extentEqualSpec)

/-- 'dasdlaw07.LabelValid', WHERE WHAT IT READS IS OF BULK AT MOST 1048576: true; the input reads as it did. -/
def labelValidUptoRow : OpenClaim := { program := "ytegefemkmdlmaaa", sum := "94ff5fe676063ecf6e7849ffa70f34ef93261ce3ff2d2429318c901a0a53f5ab", func := "dasd/dasdlaw07.LabelValid", spec := "labelValid", unfollowed := true, recurses := true, apart := false, narrowed := true }
def LabelValidUptoSaid : Prop := labelValidUptoRow.holds Try.pinned (OpenSpec.upto labelValidSpec)

/-- 'dasdlaw07.LabelSlots', WHERE WHAT IT READS IS OF BULK AT MOST 1048576: true; the input reads as it did. -/
def labelSlotsUptoRow : OpenClaim := { program := "ytegefemkmdlmaaa", sum := "94ff5fe676063ecf6e7849ffa70f34ef93261ce3ff2d2429318c901a0a53f5ab", func := "dasd/dasdlaw07.LabelSlots", spec := "labelSlots", unfollowed := true, recurses := true, apart := false, narrowed := true }
def LabelSlotsUptoSaid : Prop := labelSlotsUptoRow.holds Try.pinned (OpenSpec.upto labelSlotsSpec)

/-- 'dasdlaw07.LabelOther', WHERE WHAT IT READS IS OF BULK AT MOST 1048576: true; the input reads as it did. -/
def labelOtherUptoRow : OpenClaim := { program := "ytegefemkmdlmaaa", sum := "94ff5fe676063ecf6e7849ffa70f34ef93261ce3ff2d2429318c901a0a53f5ab", func := "dasd/dasdlaw07.LabelOther", spec := "labelOther", unfollowed := true, recurses := true, apart := false, narrowed := true }
def LabelOtherUptoSaid : Prop := labelOtherUptoRow.holds Try.pinned (OpenSpec.upto labelOtherSpec)

/-- 'dasdlaw07.LabelDecodes', WHERE WHAT IT READS IS OF BULK AT MOST 1048576: true; the input reads as it did. -/
def labelDecodesUptoRow : OpenClaim := { program := "ytegefemkmdlmaaa", sum := "94ff5fe676063ecf6e7849ffa70f34ef93261ce3ff2d2429318c901a0a53f5ab", func := "dasd/dasdlaw07.LabelDecodes", spec := "labelDecodes", unfollowed := true, recurses := true, apart := false, narrowed := true }
def LabelDecodesUptoSaid : Prop := labelDecodesUptoRow.holds Try.pinned (OpenSpec.upto labelDecodesSpec)

/-- 'dasdlaw07.LabelReturns', WHERE WHAT IT READS IS OF BULK AT MOST 1048576: true; the input reads as it did. -/
def labelReturnsUptoRow : OpenClaim := { program := "ytegefemkmdlmaaa", sum := "94ff5fe676063ecf6e7849ffa70f34ef93261ce3ff2d2429318c901a0a53f5ab", func := "dasd/dasdlaw07.LabelReturns", spec := "labelReturns", unfollowed := true, recurses := true, apart := false, narrowed := true }
def LabelReturnsUptoSaid : Prop := labelReturnsUptoRow.holds Try.pinned (OpenSpec.upto labelReturnsSpec)

end Rows
end Go.Proofs.Ytegefemkmdlmaaa
