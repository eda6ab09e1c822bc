/-
  No cell of these rows narrows 'for every input' (looked for: loops, veiled, ifaces, maps, wideKeys, modest, calm, conditions, laid).
  DERIVED. THE GIVEN ROWS OF THIS SEAT. 28 by the template 'for every input the law returns true; each argument reads behind the call as it read before'; 0 by the template 'total and deterministic' (their statements: YtpchomihojidpaaTotals.lean).
  GIVEN WITH THE SEED: the statements are not yours to turn. If you find one false, say at which input.
  Laid BY PROGRAM, IN A SANDBOX (cutbox-rows.mjs): the forced cells as the released guide's own fill.sh prints them over the translation d5808bd5d6fbaec4… (all of the seat's roots in one cut). By AI agents, Wed Nov 11 2026. No macro, syntax, notation, axiom, sorry.
-/
import Derived.Test.YtpchomihojidpaaChecked
import GoSem.Claim
import GoSem.ClaimJoined
import GoSem.ClaimMapViews
import Derived.JoinedTies
import Derived.KernelRfl
namespace Go.Proofs.Ytpchomihojidpaa
/- THE CELL 'sum', in the pinned program and in every row, IS THE sha256 OF THE DUMP (.gsa) THAT YtpchomihojidpaaProg.lean LOADS. Nothing in Lean hashes anything: it is a label: what it is worth is what the hold of that sum in a sandbox is worth. -/
noncomputable def Try.pinned : Pinned := { name := "ytpchomihojidpaa", sum := "d5808bd5d6fbaec4048d4975bfccbaad1de54f41e967e7912750d0f78025cb9e", checked := Try.checked }
namespace Rows
def none {H : Type} : Left H := { results := [], args := [] }

/-- 'hachurelaw43.DistSteps': WHATEVER THE INPUT: true; the input reads as it did. -/
def distStepsSpec : ChangeSpec := { name := "distSteps", fn := fun _ => fun
  | [d1, d2, d3, d4, d5] => { results := [.lit (.bool true)], args := [d1, d2, d3, d4, d5] }
  | _ => none }
def distStepsRow : OpenClaim := { program := "ytpchomihojidpaa", sum := "d5808bd5d6fbaec4048d4975bfccbaad1de54f41e967e7912750d0f78025cb9e", func := "hachure/hachurelaw43.DistSteps", spec := "distSteps", unfollowed := true, recurses := true, plainKeys := false, apart := false }
def DistStepsSaid : Prop := distStepsRow.holds Try.pinned (OpenSpec.ofChange distStepsSpec)

/-- ITS FALSE NEIGHBOUR: 'it returns false'. Refute it at one input. -/
def distStepsWrong : ChangeSpec := { name := "distSteps", fn := fun _ => fun
  | [d1, d2, d3, d4, d5] => { results := [.lit (.bool false)], args := [d1, d2, d3, d4, d5] }
  | _ => none }
def DistStepsWrongFalsely : Prop := distStepsRow.holds Try.pinned (OpenSpec.ofChange distStepsWrong)

/-- 'hachurelaw47.MergeThree': WHATEVER THE INPUT: true; the input reads as it did. -/
def mergeThreeSpec : ChangeSpec := { name := "mergeThree", fn := fun _ => fun
  | [d1, d2, d3, d4, d5, d6] => { results := [.lit (.bool true)], args := [d1, d2, d3, d4, d5, d6] }
  | _ => none }
def mergeThreeRow : OpenClaim := { program := "ytpchomihojidpaa", sum := "d5808bd5d6fbaec4048d4975bfccbaad1de54f41e967e7912750d0f78025cb9e", func := "hachure/hachurelaw47.MergeThree", spec := "mergeThree", unfollowed := true, recurses := true, plainKeys := false, apart := false }
def MergeThreeSaid : Prop := mergeThreeRow.holds Try.pinned (OpenSpec.ofChange mergeThreeSpec)

/-- ITS FALSE NEIGHBOUR: 'it returns false'. Refute it at one input. -/
def mergeThreeWrong : ChangeSpec := { name := "mergeThree", fn := fun _ => fun
  | [d1, d2, d3, d4, d5, d6] => { results := [.lit (.bool false)], args := [d1, d2, d3, d4, d5, d6] }
  | _ => none }
def MergeThreeWrongFalsely : Prop := mergeThreeRow.holds Try.pinned (OpenSpec.ofChange mergeThreeWrong)

/-- 'hachurelaw43.DistNearest': WHATEVER THE INPUT: true; the input reads as it did. -/
def distNearestSpec : ChangeSpec := { name := "distNearest", fn := fun _ => fun
  | [d1, d2, d3, d4, d5] => { results := [.lit (.bool true)], args := [d1, d2, d3, d4, d5] }
  | _ => none }
def distNearestRow : OpenClaim := { program := "ytpchomihojidpaa", sum := "d5808bd5d6fbaec4048d4975bfccbaad1de54f41e967e7912750d0f78025cb9e", func := "hachure/hachurelaw43.DistNearest", spec := "distNearest", unfollowed := true, recurses := true, plainKeys := false, apart := false }
def DistNearestSaid : Prop := distNearestRow.holds Try.pinned (OpenSpec.ofChange distNearestSpec)

/-- ITS FALSE NEIGHBOUR: 'it returns false'. Refute it at one input. -/
def distNearestWrong : ChangeSpec := { name := "distNearest", fn := fun _ => fun
  | [d1, d2, d3, d4, d5] => { results := [.lit (.bool false)], args := [d1, d2, d3, d4, d5] }
  | _ => none }
def DistNearestWrongFalsely : Prop := distNearestRow.holds Try.pinned (OpenSpec.ofChange distNearestWrong)

/-- 'hachurelaw29.RegionsRise': WHATEVER THE INPUT: true; the input reads as it did. -/
def regionsRiseSpec : ChangeSpec := { name := "regionsRise", fn := fun _ => fun
  | [d1, d2, d3, d4, d5] => { results := [.lit (.bool true)], args := [d1, d2, d3, d4, d5] }
  | _ => none }
def regionsRiseRow : OpenClaim := { program := "ytpchomihojidpaa", sum := "d5808bd5d6fbaec4048d4975bfccbaad1de54f41e967e7912750d0f78025cb9e", func := "hachure/hachurelaw29.RegionsRise", spec := "regionsRise", unfollowed := true, recurses := true, plainKeys := false, apart := false }
def RegionsRiseSaid : Prop := regionsRiseRow.holds Try.pinned (OpenSpec.ofChange regionsRiseSpec)

/-- ITS FALSE NEIGHBOUR: 'it returns false'. Refute it at one input. -/
def regionsRiseWrong : ChangeSpec := { name := "regionsRise", fn := fun _ => fun
  | [d1, d2, d3, d4, d5] => { results := [.lit (.bool false)], args := [d1, d2, d3, d4, d5] }
  | _ => none }
def RegionsRiseWrongFalsely : Prop := regionsRiseRow.holds Try.pinned (OpenSpec.ofChange regionsRiseWrong)

/-- 'hachurelaw42.TurnCrops': WHATEVER THE INPUT: true; the input reads as it did. -/
def turnCropsSpec : ChangeSpec := { name := "turnCrops", fn := fun _ => fun
  | [d1, d2, d3, d4, d5] => { results := [.lit (.bool true)], args := [d1, d2, d3, d4, d5] }
  | _ => none }
def turnCropsRow : OpenClaim := { program := "ytpchomihojidpaa", sum := "d5808bd5d6fbaec4048d4975bfccbaad1de54f41e967e7912750d0f78025cb9e", func := "hachure/hachurelaw42.TurnCrops", spec := "turnCrops", unfollowed := true, recurses := true, plainKeys := false, apart := false }
def TurnCropsSaid : Prop := turnCropsRow.holds Try.pinned (OpenSpec.ofChange turnCropsSpec)

/-- ITS FALSE NEIGHBOUR: 'it returns false'. Refute it at one input. -/
def turnCropsWrong : ChangeSpec := { name := "turnCrops", fn := fun _ => fun
  | [d1, d2, d3, d4, d5] => { results := [.lit (.bool false)], args := [d1, d2, d3, d4, d5] }
  | _ => none }
def TurnCropsWrongFalsely : Prop := turnCropsRow.holds Try.pinned (OpenSpec.ofChange turnCropsWrong)

/-- 'hachurelaw43.DistTo': WHATEVER THE INPUT: true; the input reads as it did. -/
def distToSpec : ChangeSpec := { name := "distTo", fn := fun _ => fun
  | [d1, d2, d3, d4, d5] => { results := [.lit (.bool true)], args := [d1, d2, d3, d4, d5] }
  | _ => none }
def distToRow : OpenClaim := { program := "ytpchomihojidpaa", sum := "d5808bd5d6fbaec4048d4975bfccbaad1de54f41e967e7912750d0f78025cb9e", func := "hachure/hachurelaw43.DistTo", spec := "distTo", unfollowed := true, recurses := true, plainKeys := false, apart := false }
def DistToSaid : Prop := distToRow.holds Try.pinned (OpenSpec.ofChange distToSpec)

/-- ITS FALSE NEIGHBOUR: 'it returns false'. Refute it at one input. -/
def distToWrong : ChangeSpec := { name := "distTo", fn := fun _ => fun
  | [d1, d2, d3, d4, d5] => { results := [.lit (.bool false)], args := [d1, d2, d3, d4, d5] }
  | _ => none }
def DistToWrongFalsely : Prop := distToRow.holds Try.pinned (OpenSpec.ofChange distToWrong)

/-- 'hachurelaw47.MergeSides': WHATEVER THE INPUT: true; the input reads as it did. -/
def mergeSidesSpec : ChangeSpec := { name := "mergeSides", fn := fun _ => fun
  | [d1, d2, d3, d4, d5] => { results := [.lit (.bool true)], args := [d1, d2, d3, d4, d5] }
  | _ => none }
def mergeSidesRow : OpenClaim := { program := "ytpchomihojidpaa", sum := "d5808bd5d6fbaec4048d4975bfccbaad1de54f41e967e7912750d0f78025cb9e", func := "hachure/hachurelaw47.MergeSides", spec := "mergeSides", unfollowed := true, recurses := true, plainKeys := false, apart := false }
def MergeSidesSaid : Prop := mergeSidesRow.holds Try.pinned (OpenSpec.ofChange mergeSidesSpec)

/-- ITS FALSE NEIGHBOUR: 'it returns false'. Refute it at one input. -/
def mergeSidesWrong : ChangeSpec := { name := "mergeSides", fn := fun _ => fun
  | [d1, d2, d3, d4, d5] => { results := [.lit (.bool false)], args := [d1, d2, d3, d4, d5] }
  | _ => none }
def MergeSidesWrongFalsely : Prop := mergeSidesRow.holds Try.pinned (OpenSpec.ofChange mergeSidesWrong)

/-- 'hachurelaw42.TurnTurns': WHATEVER THE INPUT: true; the input reads as it did. -/
def turnTurnsSpec : ChangeSpec := { name := "turnTurns", fn := fun _ => fun
  | [d1, d2, d3, d4] => { results := [.lit (.bool true)], args := [d1, d2, d3, d4] }
  | _ => none }
def turnTurnsRow : OpenClaim := { program := "ytpchomihojidpaa", sum := "d5808bd5d6fbaec4048d4975bfccbaad1de54f41e967e7912750d0f78025cb9e", func := "hachure/hachurelaw42.TurnTurns", spec := "turnTurns", unfollowed := true, recurses := true, plainKeys := false, apart := false }
def TurnTurnsSaid : Prop := turnTurnsRow.holds Try.pinned (OpenSpec.ofChange turnTurnsSpec)

/-- ITS FALSE NEIGHBOUR: 'it returns false'. Refute it at one input. -/
def turnTurnsWrong : ChangeSpec := { name := "turnTurns", fn := fun _ => fun
  | [d1, d2, d3, d4] => { results := [.lit (.bool false)], args := [d1, d2, d3, d4] }
  | _ => none }
def TurnTurnsWrongFalsely : Prop := turnTurnsRow.holds Try.pinned (OpenSpec.ofChange turnTurnsWrong)

/-- 'hachurelaw32.RouteFinds': WHATEVER THE INPUT: true; the input reads as it did. -/
def routeFindsSpec : ChangeSpec := { name := "routeFinds", fn := fun _ => fun
  | [d1, d2, d3, d4, d5] => { results := [.lit (.bool true)], args := [d1, d2, d3, d4, d5] }
  | _ => none }
def routeFindsRow : OpenClaim := { program := "ytpchomihojidpaa", sum := "d5808bd5d6fbaec4048d4975bfccbaad1de54f41e967e7912750d0f78025cb9e", func := "hachure/hachurelaw32.RouteFinds", spec := "routeFinds", unfollowed := true, recurses := true, plainKeys := false, apart := false }
def RouteFindsSaid : Prop := routeFindsRow.holds Try.pinned (OpenSpec.ofChange routeFindsSpec)

/-- ITS FALSE NEIGHBOUR: 'it returns false'. Refute it at one input. -/
def routeFindsWrong : ChangeSpec := { name := "routeFinds", fn := fun _ => fun
  | [d1, d2, d3, d4, d5] => { results := [.lit (.bool false)], args := [d1, d2, d3, d4, d5] }
  | _ => none }
def RouteFindsWrongFalsely : Prop := routeFindsRow.holds Try.pinned (OpenSpec.ofChange routeFindsWrong)

/-- 'hachurelaw32.RouteWays': WHATEVER THE INPUT: true; the input reads as it did. -/
def routeWaysSpec : ChangeSpec := { name := "routeWays", fn := fun _ => fun
  | [d1, d2, d3, d4, d5, d6] => { results := [.lit (.bool true)], args := [d1, d2, d3, d4, d5, d6] }
  | _ => none }
def routeWaysRow : OpenClaim := { program := "ytpchomihojidpaa", sum := "d5808bd5d6fbaec4048d4975bfccbaad1de54f41e967e7912750d0f78025cb9e", func := "hachure/hachurelaw32.RouteWays", spec := "routeWays", unfollowed := true, recurses := true, plainKeys := false, apart := false }
def RouteWaysSaid : Prop := routeWaysRow.holds Try.pinned (OpenSpec.ofChange routeWaysSpec)

/-- ITS FALSE NEIGHBOUR: 'it returns false'. Refute it at one input. -/
def routeWaysWrong : ChangeSpec := { name := "routeWays", fn := fun _ => fun
  | [d1, d2, d3, d4, d5, d6] => { results := [.lit (.bool false)], args := [d1, d2, d3, d4, d5, d6] }
  | _ => none }
def RouteWaysWrongFalsely : Prop := routeWaysRow.holds Try.pinned (OpenSpec.ofChange routeWaysWrong)

/-- 'hachurelaw47.MergeApply': WHATEVER THE INPUT: true; the input reads as it did. -/
def mergeApplySpec : ChangeSpec := { name := "mergeApply", fn := fun _ => fun
  | [d1, d2, d3, d4] => { results := [.lit (.bool true)], args := [d1, d2, d3, d4] }
  | _ => none }
def mergeApplyRow : OpenClaim := { program := "ytpchomihojidpaa", sum := "d5808bd5d6fbaec4048d4975bfccbaad1de54f41e967e7912750d0f78025cb9e", func := "hachure/hachurelaw47.MergeApply", spec := "mergeApply", unfollowed := true, recurses := true, plainKeys := false, apart := false }
def MergeApplySaid : Prop := mergeApplyRow.holds Try.pinned (OpenSpec.ofChange mergeApplySpec)

/-- ITS FALSE NEIGHBOUR: 'it returns false'. Refute it at one input. -/
def mergeApplyWrong : ChangeSpec := { name := "mergeApply", fn := fun _ => fun
  | [d1, d2, d3, d4] => { results := [.lit (.bool false)], args := [d1, d2, d3, d4] }
  | _ => none }
def MergeApplyWrongFalsely : Prop := mergeApplyRow.holds Try.pinned (OpenSpec.ofChange mergeApplyWrong)

/-- 'hachurelaw42.TurnJoins': WHATEVER THE INPUT: true; the input reads as it did. -/
def turnJoinsSpec : ChangeSpec := { name := "turnJoins", fn := fun _ => fun
  | [d1, d2, d3, d4, d5, d6] => { results := [.lit (.bool true)], args := [d1, d2, d3, d4, d5, d6] }
  | _ => none }
def turnJoinsRow : OpenClaim := { program := "ytpchomihojidpaa", sum := "d5808bd5d6fbaec4048d4975bfccbaad1de54f41e967e7912750d0f78025cb9e", func := "hachure/hachurelaw42.TurnJoins", spec := "turnJoins", unfollowed := true, recurses := true, plainKeys := false, apart := false }
def TurnJoinsSaid : Prop := turnJoinsRow.holds Try.pinned (OpenSpec.ofChange turnJoinsSpec)

/-- ITS FALSE NEIGHBOUR: 'it returns false'. Refute it at one input. -/
def turnJoinsWrong : ChangeSpec := { name := "turnJoins", fn := fun _ => fun
  | [d1, d2, d3, d4, d5, d6] => { results := [.lit (.bool false)], args := [d1, d2, d3, d4, d5, d6] }
  | _ => none }
def TurnJoinsWrongFalsely : Prop := turnJoinsRow.holds Try.pinned (OpenSpec.ofChange turnJoinsWrong)

/-- 'hachurelaw47.MergeSizes': WHATEVER THE INPUT: true; the input reads as it did. -/
def mergeSizesSpec : ChangeSpec := { name := "mergeSizes", fn := fun _ => fun
  | [d1, d2, d3, d4, d5, d6, d7] => { results := [.lit (.bool true)], args := [d1, d2, d3, d4, d5, d6, d7] }
  | _ => none }
def mergeSizesRow : OpenClaim := { program := "ytpchomihojidpaa", sum := "d5808bd5d6fbaec4048d4975bfccbaad1de54f41e967e7912750d0f78025cb9e", func := "hachure/hachurelaw47.MergeSizes", spec := "mergeSizes", unfollowed := true, recurses := true, plainKeys := false, apart := false }
def MergeSizesSaid : Prop := mergeSizesRow.holds Try.pinned (OpenSpec.ofChange mergeSizesSpec)

/-- ITS FALSE NEIGHBOUR: 'it returns false'. Refute it at one input. -/
def mergeSizesWrong : ChangeSpec := { name := "mergeSizes", fn := fun _ => fun
  | [d1, d2, d3, d4, d5, d6, d7] => { results := [.lit (.bool false)], args := [d1, d2, d3, d4, d5, d6, d7] }
  | _ => none }
def MergeSizesWrongFalsely : Prop := mergeSizesRow.holds Try.pinned (OpenSpec.ofChange mergeSizesWrong)

/-- 'hachurelaw32.RouteCosts': WHATEVER THE INPUT: true; the input reads as it did. -/
def routeCostsSpec : ChangeSpec := { name := "routeCosts", fn := fun _ => fun
  | [d1, d2, d3, d4, d5] => { results := [.lit (.bool true)], args := [d1, d2, d3, d4, d5] }
  | _ => none }
def routeCostsRow : OpenClaim := { program := "ytpchomihojidpaa", sum := "d5808bd5d6fbaec4048d4975bfccbaad1de54f41e967e7912750d0f78025cb9e", func := "hachure/hachurelaw32.RouteCosts", spec := "routeCosts", unfollowed := true, recurses := true, plainKeys := false, apart := false }
def RouteCostsSaid : Prop := routeCostsRow.holds Try.pinned (OpenSpec.ofChange routeCostsSpec)

/-- ITS FALSE NEIGHBOUR: 'it returns false'. Refute it at one input. -/
def routeCostsWrong : ChangeSpec := { name := "routeCosts", fn := fun _ => fun
  | [d1, d2, d3, d4, d5] => { results := [.lit (.bool false)], args := [d1, d2, d3, d4, d5] }
  | _ => none }
def RouteCostsWrongFalsely : Prop := routeCostsRow.holds Try.pinned (OpenSpec.ofChange routeCostsWrong)

/-- 'hachurelaw45.FillLevels': WHATEVER THE INPUT: true; the input reads as it did. -/
def fillLevelsSpec : ChangeSpec := { name := "fillLevels", fn := fun _ => fun
  | [d1, d2, d3] => { results := [.lit (.bool true)], args := [d1, d2, d3] }
  | _ => none }
def fillLevelsRow : OpenClaim := { program := "ytpchomihojidpaa", sum := "d5808bd5d6fbaec4048d4975bfccbaad1de54f41e967e7912750d0f78025cb9e", func := "hachure/hachurelaw45.FillLevels", spec := "fillLevels", unfollowed := true, recurses := true, plainKeys := false, apart := false }
def FillLevelsSaid : Prop := fillLevelsRow.holds Try.pinned (OpenSpec.ofChange fillLevelsSpec)

/-- ITS FALSE NEIGHBOUR: 'it returns false'. Refute it at one input. -/
def fillLevelsWrong : ChangeSpec := { name := "fillLevels", fn := fun _ => fun
  | [d1, d2, d3] => { results := [.lit (.bool false)], args := [d1, d2, d3] }
  | _ => none }
def FillLevelsWrongFalsely : Prop := fillLevelsRow.holds Try.pinned (OpenSpec.ofChange fillLevelsWrong)

/-- 'hachurelaw45.FillShores': WHATEVER THE INPUT: true; the input reads as it did. -/
def fillShoresSpec : ChangeSpec := { name := "fillShores", fn := fun _ => fun
  | [d1, d2, d3] => { results := [.lit (.bool true)], args := [d1, d2, d3] }
  | _ => none }
def fillShoresRow : OpenClaim := { program := "ytpchomihojidpaa", sum := "d5808bd5d6fbaec4048d4975bfccbaad1de54f41e967e7912750d0f78025cb9e", func := "hachure/hachurelaw45.FillShores", spec := "fillShores", unfollowed := true, recurses := true, plainKeys := false, apart := false }
def FillShoresSaid : Prop := fillShoresRow.holds Try.pinned (OpenSpec.ofChange fillShoresSpec)

/-- ITS FALSE NEIGHBOUR: 'it returns false'. Refute it at one input. -/
def fillShoresWrong : ChangeSpec := { name := "fillShores", fn := fun _ => fun
  | [d1, d2, d3] => { results := [.lit (.bool false)], args := [d1, d2, d3] }
  | _ => none }
def FillShoresWrongFalsely : Prop := fillShoresRow.holds Try.pinned (OpenSpec.ofChange fillShoresWrong)

/-- 'hachurelaw31.SinkBasins': WHATEVER THE INPUT: true; the input reads as it did. -/
def sinkBasinsSpec : ChangeSpec := { name := "sinkBasins", fn := fun _ => fun
  | [d1, d2, d3] => { results := [.lit (.bool true)], args := [d1, d2, d3] }
  | _ => none }
def sinkBasinsRow : OpenClaim := { program := "ytpchomihojidpaa", sum := "d5808bd5d6fbaec4048d4975bfccbaad1de54f41e967e7912750d0f78025cb9e", func := "hachure/hachurelaw31.SinkBasins", spec := "sinkBasins", unfollowed := true, recurses := true, plainKeys := false, apart := false }
def SinkBasinsSaid : Prop := sinkBasinsRow.holds Try.pinned (OpenSpec.ofChange sinkBasinsSpec)

/-- ITS FALSE NEIGHBOUR: 'it returns false'. Refute it at one input. -/
def sinkBasinsWrong : ChangeSpec := { name := "sinkBasins", fn := fun _ => fun
  | [d1, d2, d3] => { results := [.lit (.bool false)], args := [d1, d2, d3] }
  | _ => none }
def SinkBasinsWrongFalsely : Prop := sinkBasinsRow.holds Try.pinned (OpenSpec.ofChange sinkBasinsWrong)

/-- 'hachurelaw31.SinkWays': WHATEVER THE INPUT: true; the input reads as it did. -/
def sinkWaysSpec : ChangeSpec := { name := "sinkWays", fn := fun _ => fun
  | [d1, d2, d3, d4] => { results := [.lit (.bool true)], args := [d1, d2, d3, d4] }
  | _ => none }
def sinkWaysRow : OpenClaim := { program := "ytpchomihojidpaa", sum := "d5808bd5d6fbaec4048d4975bfccbaad1de54f41e967e7912750d0f78025cb9e", func := "hachure/hachurelaw31.SinkWays", spec := "sinkWays", unfollowed := true, recurses := true, plainKeys := false, apart := false }
def SinkWaysSaid : Prop := sinkWaysRow.holds Try.pinned (OpenSpec.ofChange sinkWaysSpec)

/-- ITS FALSE NEIGHBOUR: 'it returns false'. Refute it at one input. -/
def sinkWaysWrong : ChangeSpec := { name := "sinkWays", fn := fun _ => fun
  | [d1, d2, d3, d4] => { results := [.lit (.bool false)], args := [d1, d2, d3, d4] }
  | _ => none }
def SinkWaysWrongFalsely : Prop := sinkWaysRow.holds Try.pinned (OpenSpec.ofChange sinkWaysWrong)

/-- 'hachurelaw31.SinkWet': WHATEVER THE INPUT: true; the input reads as it did. -/
def sinkWetSpec : ChangeSpec := { name := "sinkWet", fn := fun _ => fun
  | [d1, d2, d3, d4] => { results := [.lit (.bool true)], args := [d1, d2, d3, d4] }
  | _ => none }
def sinkWetRow : OpenClaim := { program := "ytpchomihojidpaa", sum := "d5808bd5d6fbaec4048d4975bfccbaad1de54f41e967e7912750d0f78025cb9e", func := "hachure/hachurelaw31.SinkWet", spec := "sinkWet", unfollowed := true, recurses := true, plainKeys := false, apart := false }
def SinkWetSaid : Prop := sinkWetRow.holds Try.pinned (OpenSpec.ofChange sinkWetSpec)

/-- ITS FALSE NEIGHBOUR: 'it returns false'. Refute it at one input. -/
def sinkWetWrong : ChangeSpec := { name := "sinkWet", fn := fun _ => fun
  | [d1, d2, d3, d4] => { results := [.lit (.bool false)], args := [d1, d2, d3, d4] }
  | _ => none }
def SinkWetWrongFalsely : Prop := sinkWetRow.holds Try.pinned (OpenSpec.ofChange sinkWetWrong)

/-- 'hachurelaw46.PeaksBest': WHATEVER THE INPUT: true; the input reads as it did. -/
def peaksBestSpec : ChangeSpec := { name := "peaksBest", fn := fun _ => fun
  | [d1, d2, d3, d4] => { results := [.lit (.bool true)], args := [d1, d2, d3, d4] }
  | _ => none }
def peaksBestRow : OpenClaim := { program := "ytpchomihojidpaa", sum := "d5808bd5d6fbaec4048d4975bfccbaad1de54f41e967e7912750d0f78025cb9e", func := "hachure/hachurelaw46.PeaksBest", spec := "peaksBest", unfollowed := true, recurses := true, plainKeys := false, apart := false }
def PeaksBestSaid : Prop := peaksBestRow.holds Try.pinned (OpenSpec.ofChange peaksBestSpec)

/-- ITS FALSE NEIGHBOUR: 'it returns false'. Refute it at one input. -/
def peaksBestWrong : ChangeSpec := { name := "peaksBest", fn := fun _ => fun
  | [d1, d2, d3, d4] => { results := [.lit (.bool false)], args := [d1, d2, d3, d4] }
  | _ => none }
def PeaksBestWrongFalsely : Prop := peaksBestRow.holds Try.pinned (OpenSpec.ofChange peaksBestWrong)

/-- 'hachurelaw45.FillLakes': WHATEVER THE INPUT: true; the input reads as it did. -/
def fillLakesSpec : ChangeSpec := { name := "fillLakes", fn := fun _ => fun
  | [d1, d2, d3] => { results := [.lit (.bool true)], args := [d1, d2, d3] }
  | _ => none }
def fillLakesRow : OpenClaim := { program := "ytpchomihojidpaa", sum := "d5808bd5d6fbaec4048d4975bfccbaad1de54f41e967e7912750d0f78025cb9e", func := "hachure/hachurelaw45.FillLakes", spec := "fillLakes", unfollowed := true, recurses := true, plainKeys := false, apart := false }
def FillLakesSaid : Prop := fillLakesRow.holds Try.pinned (OpenSpec.ofChange fillLakesSpec)

/-- ITS FALSE NEIGHBOUR: 'it returns false'. Refute it at one input. -/
def fillLakesWrong : ChangeSpec := { name := "fillLakes", fn := fun _ => fun
  | [d1, d2, d3] => { results := [.lit (.bool false)], args := [d1, d2, d3] }
  | _ => none }
def FillLakesWrongFalsely : Prop := fillLakesRow.holds Try.pinned (OpenSpec.ofChange fillLakesWrong)

/-- 'hachurelaw46.PeaksOf': WHATEVER THE INPUT: true; the input reads as it did. -/
def peaksOfSpec : ChangeSpec := { name := "peaksOf", fn := fun _ => fun
  | [d1, d2, d3, d4] => { results := [.lit (.bool true)], args := [d1, d2, d3, d4] }
  | _ => none }
def peaksOfRow : OpenClaim := { program := "ytpchomihojidpaa", sum := "d5808bd5d6fbaec4048d4975bfccbaad1de54f41e967e7912750d0f78025cb9e", func := "hachure/hachurelaw46.PeaksOf", spec := "peaksOf", unfollowed := true, recurses := true, plainKeys := false, apart := false }
def PeaksOfSaid : Prop := peaksOfRow.holds Try.pinned (OpenSpec.ofChange peaksOfSpec)

/-- ITS FALSE NEIGHBOUR: 'it returns false'. Refute it at one input. -/
def peaksOfWrong : ChangeSpec := { name := "peaksOf", fn := fun _ => fun
  | [d1, d2, d3, d4] => { results := [.lit (.bool false)], args := [d1, d2, d3, d4] }
  | _ => none }
def PeaksOfWrongFalsely : Prop := peaksOfRow.holds Try.pinned (OpenSpec.ofChange peaksOfWrong)

/-- 'hachurelaw29.RegionsJoined': WHATEVER THE INPUT: true; the input reads as it did. -/
def regionsJoinedSpec : ChangeSpec := { name := "regionsJoined", fn := fun _ => fun
  | [d1, d2, d3, d4, d5] => { results := [.lit (.bool true)], args := [d1, d2, d3, d4, d5] }
  | _ => none }
def regionsJoinedRow : OpenClaim := { program := "ytpchomihojidpaa", sum := "d5808bd5d6fbaec4048d4975bfccbaad1de54f41e967e7912750d0f78025cb9e", func := "hachure/hachurelaw29.RegionsJoined", spec := "regionsJoined", unfollowed := true, recurses := true, plainKeys := false, apart := false }
def RegionsJoinedSaid : Prop := regionsJoinedRow.holds Try.pinned (OpenSpec.ofChange regionsJoinedSpec)

/-- ITS FALSE NEIGHBOUR: 'it returns false'. Refute it at one input. -/
def regionsJoinedWrong : ChangeSpec := { name := "regionsJoined", fn := fun _ => fun
  | [d1, d2, d3, d4, d5] => { results := [.lit (.bool false)], args := [d1, d2, d3, d4, d5] }
  | _ => none }
def RegionsJoinedWrongFalsely : Prop := regionsJoinedRow.holds Try.pinned (OpenSpec.ofChange regionsJoinedWrong)

/-- 'hachurelaw46.PeaksJoin': WHATEVER THE INPUT: true; the input reads as it did. -/
def peaksJoinSpec : ChangeSpec := { name := "peaksJoin", fn := fun _ => fun
  | [d1, d2, d3] => { results := [.lit (.bool true)], args := [d1, d2, d3] }
  | _ => none }
def peaksJoinRow : OpenClaim := { program := "ytpchomihojidpaa", sum := "d5808bd5d6fbaec4048d4975bfccbaad1de54f41e967e7912750d0f78025cb9e", func := "hachure/hachurelaw46.PeaksJoin", spec := "peaksJoin", unfollowed := true, recurses := true, plainKeys := false, apart := false }
def PeaksJoinSaid : Prop := peaksJoinRow.holds Try.pinned (OpenSpec.ofChange peaksJoinSpec)

/-- ITS FALSE NEIGHBOUR: 'it returns false'. Refute it at one input. -/
def peaksJoinWrong : ChangeSpec := { name := "peaksJoin", fn := fun _ => fun
  | [d1, d2, d3] => { results := [.lit (.bool false)], args := [d1, d2, d3] }
  | _ => none }
def PeaksJoinWrongFalsely : Prop := peaksJoinRow.holds Try.pinned (OpenSpec.ofChange peaksJoinWrong)

/-- 'hachurelaw49.ZonesOf': WHATEVER THE INPUT: true; the input reads as it did. -/
def zonesOfSpec : ChangeSpec := { name := "zonesOf", fn := fun _ => fun
  | [d1, d2, d3, d4] => { results := [.lit (.bool true)], args := [d1, d2, d3, d4] }
  | _ => none }
def zonesOfRow : OpenClaim := { program := "ytpchomihojidpaa", sum := "d5808bd5d6fbaec4048d4975bfccbaad1de54f41e967e7912750d0f78025cb9e", func := "hachure/hachurelaw49.ZonesOf", spec := "zonesOf", unfollowed := true, recurses := true, plainKeys := false, apart := false }
def ZonesOfSaid : Prop := zonesOfRow.holds Try.pinned (OpenSpec.ofChange zonesOfSpec)

/-- ITS FALSE NEIGHBOUR: 'it returns false'. Refute it at one input. -/
def zonesOfWrong : ChangeSpec := { name := "zonesOf", fn := fun _ => fun
  | [d1, d2, d3, d4] => { results := [.lit (.bool false)], args := [d1, d2, d3, d4] }
  | _ => none }
def ZonesOfWrongFalsely : Prop := zonesOfRow.holds Try.pinned (OpenSpec.ofChange zonesOfWrong)

/-- 'hachurelaw49.ZonesBorders': WHATEVER THE INPUT: true; the input reads as it did. -/
def zonesBordersSpec : ChangeSpec := { name := "zonesBorders", fn := fun _ => fun
  | [d1, d2, d3, d4] => { results := [.lit (.bool true)], args := [d1, d2, d3, d4] }
  | _ => none }
def zonesBordersRow : OpenClaim := { program := "ytpchomihojidpaa", sum := "d5808bd5d6fbaec4048d4975bfccbaad1de54f41e967e7912750d0f78025cb9e", func := "hachure/hachurelaw49.ZonesBorders", spec := "zonesBorders", unfollowed := true, recurses := true, plainKeys := false, apart := false }
def ZonesBordersSaid : Prop := zonesBordersRow.holds Try.pinned (OpenSpec.ofChange zonesBordersSpec)

/-- ITS FALSE NEIGHBOUR: 'it returns false'. Refute it at one input. -/
def zonesBordersWrong : ChangeSpec := { name := "zonesBorders", fn := fun _ => fun
  | [d1, d2, d3, d4] => { results := [.lit (.bool false)], args := [d1, d2, d3, d4] }
  | _ => none }
def ZonesBordersWrongFalsely : Prop := zonesBordersRow.holds Try.pinned (OpenSpec.ofChange zonesBordersWrong)

/-- 'hachurelaw49.ZonesMask': WHATEVER THE INPUT: true; the input reads as it did. -/
def zonesMaskSpec : ChangeSpec := { name := "zonesMask", fn := fun _ => fun
  | [d1, d2, d3, d4, d5, d6] => { results := [.lit (.bool true)], args := [d1, d2, d3, d4, d5, d6] }
  | _ => none }
def zonesMaskRow : OpenClaim := { program := "ytpchomihojidpaa", sum := "d5808bd5d6fbaec4048d4975bfccbaad1de54f41e967e7912750d0f78025cb9e", func := "hachure/hachurelaw49.ZonesMask", spec := "zonesMask", unfollowed := true, recurses := true, plainKeys := false, apart := false }
def ZonesMaskSaid : Prop := zonesMaskRow.holds Try.pinned (OpenSpec.ofChange zonesMaskSpec)

/-- ITS FALSE NEIGHBOUR: 'it returns false'. Refute it at one input. -/
def zonesMaskWrong : ChangeSpec := { name := "zonesMask", fn := fun _ => fun
  | [d1, d2, d3, d4, d5, d6] => { results := [.lit (.bool false)], args := [d1, d2, d3, d4, d5, d6] }
  | _ => none }
def ZonesMaskWrongFalsely : Prop := zonesMaskRow.holds Try.pinned (OpenSpec.ofChange zonesMaskWrong)

/-- 'hachurelaw49.ZonesRegions': WHATEVER THE INPUT: true; the input reads as it did. -/
def zonesRegionsSpec : ChangeSpec := { name := "zonesRegions", fn := fun _ => fun
  | [d1, d2, d3, d4] => { results := [.lit (.bool true)], args := [d1, d2, d3, d4] }
  | _ => none }
def zonesRegionsRow : OpenClaim := { program := "ytpchomihojidpaa", sum := "d5808bd5d6fbaec4048d4975bfccbaad1de54f41e967e7912750d0f78025cb9e", func := "hachure/hachurelaw49.ZonesRegions", spec := "zonesRegions", unfollowed := true, recurses := true, plainKeys := false, apart := false }
def ZonesRegionsSaid : Prop := zonesRegionsRow.holds Try.pinned (OpenSpec.ofChange zonesRegionsSpec)

/-- ITS FALSE NEIGHBOUR: 'it returns false'. Refute it at one input. -/
def zonesRegionsWrong : ChangeSpec := { name := "zonesRegions", fn := fun _ => fun
  | [d1, d2, d3, d4] => { results := [.lit (.bool false)], args := [d1, d2, d3, d4] }
  | _ => none }
def ZonesRegionsWrongFalsely : Prop := zonesRegionsRow.holds Try.pinned (OpenSpec.ofChange zonesRegionsWrong)

/- THE SECOND FORM. 'bulk': how many values and letters a reading holds, each counted each time it is reached (what is shared counts as often as it is met; a slice's spare places count too). A statement '..UptoSaid' is the law's where the arguments, and the package variables that the reading takes, are together of bulk at most 1048576: NARROWER than '..Said'. Prove '..Said' where nothing that the law and all that it calls make is longer than what came in: it says more and counts as full. Else prove '..UptoSaid'. A law counts once. -/
mutual
def uptoBulk {H : Type} : DataW H → Nat
  | .lit (.string bytes) => bytes.length + 1
  | .lit _ => 1
  | .nil => 1
  | .ptr d => uptoBulk d + 1
  | .slice elems spare => uptoBulkAll elems + uptoBulkAll spare + 1
  | .agg parts => uptoBulkAll parts + 1
  | .iface _ d => uptoBulk d + 1
  | .map entries => uptoBulkEntries entries + 1
  | .held _ => 1
def uptoBulkAll {H : Type} : List (DataW H) → Nat
  | [] => 0
  | d :: r => uptoBulk d + uptoBulkAll r
def uptoBulkEntries {H : Type} : List (Lit × DataW H) → Nat
  | [] => 0
  | x :: r => uptoBulkEntry x + uptoBulkEntries r
def uptoBulkEntry {H : Type} : Lit × DataW H → Nat
  | (.string bytes, d) => bytes.length + uptoBulk d + 1
  | (_, d) => uptoBulk d + 1
 end
def uptoSmall : (H : Type) → List (DataW H) → Bool := fun _ ds => decide (uptoBulkAll ds ≤ 1048576)
def OpenSpec.upto (s : _root_.Go.ChangeSpec) : _root_.Go.OpenSpec := { _root_.Go.OpenSpec.ofChange s with cond := some uptoSmall }

/-- 'hachurelaw43.DistSteps', WHERE WHAT IT READS IS OF BULK AT MOST 1048576: true; the input reads as it did. -/
def distStepsUptoRow : OpenClaim := { program := "ytpchomihojidpaa", sum := "d5808bd5d6fbaec4048d4975bfccbaad1de54f41e967e7912750d0f78025cb9e", func := "hachure/hachurelaw43.DistSteps", spec := "distSteps", unfollowed := true, recurses := true, plainKeys := false, apart := false, narrowed := true }
def DistStepsUptoSaid : Prop := distStepsUptoRow.holds Try.pinned (OpenSpec.upto distStepsSpec)

/-- 'hachurelaw47.MergeThree', WHERE WHAT IT READS IS OF BULK AT MOST 1048576: true; the input reads as it did. -/
def mergeThreeUptoRow : OpenClaim := { program := "ytpchomihojidpaa", sum := "d5808bd5d6fbaec4048d4975bfccbaad1de54f41e967e7912750d0f78025cb9e", func := "hachure/hachurelaw47.MergeThree", spec := "mergeThree", unfollowed := true, recurses := true, plainKeys := false, apart := false, narrowed := true }
def MergeThreeUptoSaid : Prop := mergeThreeUptoRow.holds Try.pinned (OpenSpec.upto mergeThreeSpec)

/-- 'hachurelaw43.DistNearest', WHERE WHAT IT READS IS OF BULK AT MOST 1048576: true; the input reads as it did. -/
def distNearestUptoRow : OpenClaim := { program := "ytpchomihojidpaa", sum := "d5808bd5d6fbaec4048d4975bfccbaad1de54f41e967e7912750d0f78025cb9e", func := "hachure/hachurelaw43.DistNearest", spec := "distNearest", unfollowed := true, recurses := true, plainKeys := false, apart := false, narrowed := true }
def DistNearestUptoSaid : Prop := distNearestUptoRow.holds Try.pinned (OpenSpec.upto distNearestSpec)

/-- 'hachurelaw29.RegionsRise', WHERE WHAT IT READS IS OF BULK AT MOST 1048576: true; the input reads as it did. -/
def regionsRiseUptoRow : OpenClaim := { program := "ytpchomihojidpaa", sum := "d5808bd5d6fbaec4048d4975bfccbaad1de54f41e967e7912750d0f78025cb9e", func := "hachure/hachurelaw29.RegionsRise", spec := "regionsRise", unfollowed := true, recurses := true, plainKeys := false, apart := false, narrowed := true }
def RegionsRiseUptoSaid : Prop := regionsRiseUptoRow.holds Try.pinned (OpenSpec.upto regionsRiseSpec)

/-- 'hachurelaw42.TurnCrops', WHERE WHAT IT READS IS OF BULK AT MOST 1048576: true; the input reads as it did. -/
def turnCropsUptoRow : OpenClaim := { program := "ytpchomihojidpaa", sum := "d5808bd5d6fbaec4048d4975bfccbaad1de54f41e967e7912750d0f78025cb9e", func := "hachure/hachurelaw42.TurnCrops", spec := "turnCrops", unfollowed := true, recurses := true, plainKeys := false, apart := false, narrowed := true }
def TurnCropsUptoSaid : Prop := turnCropsUptoRow.holds Try.pinned (OpenSpec.upto turnCropsSpec)

/-- 'hachurelaw43.DistTo', WHERE WHAT IT READS IS OF BULK AT MOST 1048576: true; the input reads as it did. -/
def distToUptoRow : OpenClaim := { program := "ytpchomihojidpaa", sum := "d5808bd5d6fbaec4048d4975bfccbaad1de54f41e967e7912750d0f78025cb9e", func := "hachure/hachurelaw43.DistTo", spec := "distTo", unfollowed := true, recurses := true, plainKeys := false, apart := false, narrowed := true }
def DistToUptoSaid : Prop := distToUptoRow.holds Try.pinned (OpenSpec.upto distToSpec)

/-- 'hachurelaw47.MergeSides', WHERE WHAT IT READS IS OF BULK AT MOST 1048576: true; the input reads as it did. -/
def mergeSidesUptoRow : OpenClaim := { program := "ytpchomihojidpaa", sum := "d5808bd5d6fbaec4048d4975bfccbaad1de54f41e967e7912750d0f78025cb9e", func := "hachure/hachurelaw47.MergeSides", spec := "mergeSides", unfollowed := true, recurses := true, plainKeys := false, apart := false, narrowed := true }
def MergeSidesUptoSaid : Prop := mergeSidesUptoRow.holds Try.pinned (OpenSpec.upto mergeSidesSpec)

/-- 'hachurelaw42.TurnTurns', WHERE WHAT IT READS IS OF BULK AT MOST 1048576: true; the input reads as it did. -/
def turnTurnsUptoRow : OpenClaim := { program := "ytpchomihojidpaa", sum := "d5808bd5d6fbaec4048d4975bfccbaad1de54f41e967e7912750d0f78025cb9e", func := "hachure/hachurelaw42.TurnTurns", spec := "turnTurns", unfollowed := true, recurses := true, plainKeys := false, apart := false, narrowed := true }
def TurnTurnsUptoSaid : Prop := turnTurnsUptoRow.holds Try.pinned (OpenSpec.upto turnTurnsSpec)

/-- 'hachurelaw32.RouteFinds', WHERE WHAT IT READS IS OF BULK AT MOST 1048576: true; the input reads as it did. -/
def routeFindsUptoRow : OpenClaim := { program := "ytpchomihojidpaa", sum := "d5808bd5d6fbaec4048d4975bfccbaad1de54f41e967e7912750d0f78025cb9e", func := "hachure/hachurelaw32.RouteFinds", spec := "routeFinds", unfollowed := true, recurses := true, plainKeys := false, apart := false, narrowed := true }
def RouteFindsUptoSaid : Prop := routeFindsUptoRow.holds Try.pinned (OpenSpec.upto routeFindsSpec)

/-- 'hachurelaw32.RouteWays', WHERE WHAT IT READS IS OF BULK AT MOST 1048576: true; the input reads as it did. -/
def routeWaysUptoRow : OpenClaim := { program := "ytpchomihojidpaa", sum := "d5808bd5d6fbaec4048d4975bfccbaad1de54f41e967e7912750d0f78025cb9e", func := "hachure/hachurelaw32.RouteWays", spec := "routeWays", unfollowed := true, recurses := true, plainKeys := false, apart := false, narrowed := true }
def RouteWaysUptoSaid : Prop := routeWaysUptoRow.holds Try.pinned (OpenSpec.upto routeWaysSpec)

/-- 'hachurelaw47.MergeApply', WHERE WHAT IT READS IS OF BULK AT MOST 1048576: true; the input reads as it did. -/
def mergeApplyUptoRow : OpenClaim := { program := "ytpchomihojidpaa", sum := "d5808bd5d6fbaec4048d4975bfccbaad1de54f41e967e7912750d0f78025cb9e", func := "hachure/hachurelaw47.MergeApply", spec := "mergeApply", unfollowed := true, recurses := true, plainKeys := false, apart := false, narrowed := true }
def MergeApplyUptoSaid : Prop := mergeApplyUptoRow.holds Try.pinned (OpenSpec.upto mergeApplySpec)

/-- 'hachurelaw42.TurnJoins', WHERE WHAT IT READS IS OF BULK AT MOST 1048576: true; the input reads as it did. -/
def turnJoinsUptoRow : OpenClaim := { program := "ytpchomihojidpaa", sum := "d5808bd5d6fbaec4048d4975bfccbaad1de54f41e967e7912750d0f78025cb9e", func := "hachure/hachurelaw42.TurnJoins", spec := "turnJoins", unfollowed := true, recurses := true, plainKeys := false, apart := false, narrowed := true }
def TurnJoinsUptoSaid : Prop := turnJoinsUptoRow.holds Try.pinned (OpenSpec.upto turnJoinsSpec)

/-- 'hachurelaw47.MergeSizes', WHERE WHAT IT READS IS OF BULK AT MOST 1048576: true; the input reads as it did. -/
def mergeSizesUptoRow : OpenClaim := { program := "ytpchomihojidpaa", sum := "d5808bd5d6fbaec4048d4975bfccbaad1de54f41e967e7912750d0f78025cb9e", func := "hachure/hachurelaw47.MergeSizes", spec := "mergeSizes", unfollowed := true, recurses := true, plainKeys := false, apart := false, narrowed := true }
def MergeSizesUptoSaid : Prop := mergeSizesUptoRow.holds Try.pinned (OpenSpec.upto mergeSizesSpec)

/-- 'hachurelaw32.RouteCosts', WHERE WHAT IT READS IS OF BULK AT MOST 1048576: true; the input reads as it did. -/
def routeCostsUptoRow : OpenClaim := { program := "ytpchomihojidpaa", sum := "d5808bd5d6fbaec4048d4975bfccbaad1de54f41e967e7912750d0f78025cb9e", func := "hachure/hachurelaw32.RouteCosts", spec := "routeCosts", unfollowed := true, recurses := true, plainKeys := false, apart := false, narrowed := true }
def RouteCostsUptoSaid : Prop := routeCostsUptoRow.holds Try.pinned (OpenSpec.upto routeCostsSpec)

/-- 'hachurelaw45.FillLevels', WHERE WHAT IT READS IS OF BULK AT MOST 1048576: true; the input reads as it did. -/
def fillLevelsUptoRow : OpenClaim := { program := "ytpchomihojidpaa", sum := "d5808bd5d6fbaec4048d4975bfccbaad1de54f41e967e7912750d0f78025cb9e", func := "hachure/hachurelaw45.FillLevels", spec := "fillLevels", unfollowed := true, recurses := true, plainKeys := false, apart := false, narrowed := true }
def FillLevelsUptoSaid : Prop := fillLevelsUptoRow.holds Try.pinned (OpenSpec.upto fillLevelsSpec)

/-- 'hachurelaw45.FillShores', WHERE WHAT IT READS IS OF BULK AT MOST 1048576: true; the input reads as it did. -/
def fillShoresUptoRow : OpenClaim := { program := "ytpchomihojidpaa", sum := "d5808bd5d6fbaec4048d4975bfccbaad1de54f41e967e7912750d0f78025cb9e", func := "hachure/hachurelaw45.FillShores", spec := "fillShores", unfollowed := true, recurses := true, plainKeys := false, apart := false, narrowed := true }
def FillShoresUptoSaid : Prop := fillShoresUptoRow.holds Try.pinned (OpenSpec.upto fillShoresSpec)

/-- 'hachurelaw31.SinkBasins', WHERE WHAT IT READS IS OF BULK AT MOST 1048576: true; the input reads as it did. -/
def sinkBasinsUptoRow : OpenClaim := { program := "ytpchomihojidpaa", sum := "d5808bd5d6fbaec4048d4975bfccbaad1de54f41e967e7912750d0f78025cb9e", func := "hachure/hachurelaw31.SinkBasins", spec := "sinkBasins", unfollowed := true, recurses := true, plainKeys := false, apart := false, narrowed := true }
def SinkBasinsUptoSaid : Prop := sinkBasinsUptoRow.holds Try.pinned (OpenSpec.upto sinkBasinsSpec)

/-- 'hachurelaw31.SinkWays', WHERE WHAT IT READS IS OF BULK AT MOST 1048576: true; the input reads as it did. -/
def sinkWaysUptoRow : OpenClaim := { program := "ytpchomihojidpaa", sum := "d5808bd5d6fbaec4048d4975bfccbaad1de54f41e967e7912750d0f78025cb9e", func := "hachure/hachurelaw31.SinkWays", spec := "sinkWays", unfollowed := true, recurses := true, plainKeys := false, apart := false, narrowed := true }
def SinkWaysUptoSaid : Prop := sinkWaysUptoRow.holds Try.pinned (OpenSpec.upto sinkWaysSpec)

/-- 'hachurelaw31.SinkWet', WHERE WHAT IT READS IS OF BULK AT MOST 1048576: true; the input reads as it did. -/
def sinkWetUptoRow : OpenClaim := { program := "ytpchomihojidpaa", sum := "d5808bd5d6fbaec4048d4975bfccbaad1de54f41e967e7912750d0f78025cb9e", func := "hachure/hachurelaw31.SinkWet", spec := "sinkWet", unfollowed := true, recurses := true, plainKeys := false, apart := false, narrowed := true }
def SinkWetUptoSaid : Prop := sinkWetUptoRow.holds Try.pinned (OpenSpec.upto sinkWetSpec)

/-- 'hachurelaw46.PeaksBest', WHERE WHAT IT READS IS OF BULK AT MOST 1048576: true; the input reads as it did. -/
def peaksBestUptoRow : OpenClaim := { program := "ytpchomihojidpaa", sum := "d5808bd5d6fbaec4048d4975bfccbaad1de54f41e967e7912750d0f78025cb9e", func := "hachure/hachurelaw46.PeaksBest", spec := "peaksBest", unfollowed := true, recurses := true, plainKeys := false, apart := false, narrowed := true }
def PeaksBestUptoSaid : Prop := peaksBestUptoRow.holds Try.pinned (OpenSpec.upto peaksBestSpec)

/-- 'hachurelaw45.FillLakes', WHERE WHAT IT READS IS OF BULK AT MOST 1048576: true; the input reads as it did. -/
def fillLakesUptoRow : OpenClaim := { program := "ytpchomihojidpaa", sum := "d5808bd5d6fbaec4048d4975bfccbaad1de54f41e967e7912750d0f78025cb9e", func := "hachure/hachurelaw45.FillLakes", spec := "fillLakes", unfollowed := true, recurses := true, plainKeys := false, apart := false, narrowed := true }
def FillLakesUptoSaid : Prop := fillLakesUptoRow.holds Try.pinned (OpenSpec.upto fillLakesSpec)

/-- 'hachurelaw46.PeaksOf', WHERE WHAT IT READS IS OF BULK AT MOST 1048576: true; the input reads as it did. -/
def peaksOfUptoRow : OpenClaim := { program := "ytpchomihojidpaa", sum := "d5808bd5d6fbaec4048d4975bfccbaad1de54f41e967e7912750d0f78025cb9e", func := "hachure/hachurelaw46.PeaksOf", spec := "peaksOf", unfollowed := true, recurses := true, plainKeys := false, apart := false, narrowed := true }
def PeaksOfUptoSaid : Prop := peaksOfUptoRow.holds Try.pinned (OpenSpec.upto peaksOfSpec)

/-- 'hachurelaw29.RegionsJoined', WHERE WHAT IT READS IS OF BULK AT MOST 1048576: true; the input reads as it did. -/
def regionsJoinedUptoRow : OpenClaim := { program := "ytpchomihojidpaa", sum := "d5808bd5d6fbaec4048d4975bfccbaad1de54f41e967e7912750d0f78025cb9e", func := "hachure/hachurelaw29.RegionsJoined", spec := "regionsJoined", unfollowed := true, recurses := true, plainKeys := false, apart := false, narrowed := true }
def RegionsJoinedUptoSaid : Prop := regionsJoinedUptoRow.holds Try.pinned (OpenSpec.upto regionsJoinedSpec)

/-- 'hachurelaw46.PeaksJoin', WHERE WHAT IT READS IS OF BULK AT MOST 1048576: true; the input reads as it did. -/
def peaksJoinUptoRow : OpenClaim := { program := "ytpchomihojidpaa", sum := "d5808bd5d6fbaec4048d4975bfccbaad1de54f41e967e7912750d0f78025cb9e", func := "hachure/hachurelaw46.PeaksJoin", spec := "peaksJoin", unfollowed := true, recurses := true, plainKeys := false, apart := false, narrowed := true }
def PeaksJoinUptoSaid : Prop := peaksJoinUptoRow.holds Try.pinned (OpenSpec.upto peaksJoinSpec)

/-- 'hachurelaw49.ZonesOf', WHERE WHAT IT READS IS OF BULK AT MOST 1048576: true; the input reads as it did. -/
def zonesOfUptoRow : OpenClaim := { program := "ytpchomihojidpaa", sum := "d5808bd5d6fbaec4048d4975bfccbaad1de54f41e967e7912750d0f78025cb9e", func := "hachure/hachurelaw49.ZonesOf", spec := "zonesOf", unfollowed := true, recurses := true, plainKeys := false, apart := false, narrowed := true }
def ZonesOfUptoSaid : Prop := zonesOfUptoRow.holds Try.pinned (OpenSpec.upto zonesOfSpec)

/-- 'hachurelaw49.ZonesBorders', WHERE WHAT IT READS IS OF BULK AT MOST 1048576: true; the input reads as it did. -/
def zonesBordersUptoRow : OpenClaim := { program := "ytpchomihojidpaa", sum := "d5808bd5d6fbaec4048d4975bfccbaad1de54f41e967e7912750d0f78025cb9e", func := "hachure/hachurelaw49.ZonesBorders", spec := "zonesBorders", unfollowed := true, recurses := true, plainKeys := false, apart := false, narrowed := true }
def ZonesBordersUptoSaid : Prop := zonesBordersUptoRow.holds Try.pinned (OpenSpec.upto zonesBordersSpec)

/-- 'hachurelaw49.ZonesMask', WHERE WHAT IT READS IS OF BULK AT MOST 1048576: true; the input reads as it did. -/
def zonesMaskUptoRow : OpenClaim := { program := "ytpchomihojidpaa", sum := "d5808bd5d6fbaec4048d4975bfccbaad1de54f41e967e7912750d0f78025cb9e", func := "hachure/hachurelaw49.ZonesMask", spec := "zonesMask", unfollowed := true, recurses := true, plainKeys := false, apart := false, narrowed := true }
def ZonesMaskUptoSaid : Prop := zonesMaskUptoRow.holds Try.pinned (OpenSpec.upto zonesMaskSpec)

/-- 'hachurelaw49.ZonesRegions', WHERE WHAT IT READS IS OF BULK AT MOST 1048576: true; the input reads as it did. -/
def zonesRegionsUptoRow : OpenClaim := { program := "ytpchomihojidpaa", sum := "d5808bd5d6fbaec4048d4975bfccbaad1de54f41e967e7912750d0f78025cb9e", func := "hachure/hachurelaw49.ZonesRegions", spec := "zonesRegions", unfollowed := true, recurses := true, plainKeys := false, apart := false, narrowed := true }
def ZonesRegionsUptoSaid : Prop := zonesRegionsUptoRow.holds Try.pinned (OpenSpec.upto zonesRegionsSpec)

end Rows
end Go.Proofs.Ytpchomihojidpaa
