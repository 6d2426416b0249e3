/-
  No cell of these rows narrows 'for every input' (looked for: loops, veiled, ifaces, maps, wideKeys, modest, calm, conditions, laid).
  DERIVED. THE GIVEN ROWS OF THIS SEAT. 20 by the template 'for every input the law returns true; each argument reads behind the call as it read before'; 0 by the template 'total and deterministic' (their statements: YtkchoojcficjgaaTotals.lean).
  GIVEN WITH THE SEED: the statements are not yours to turn. If you find one false, say at which input.
  Laid BY PROGRAM, IN A SANDBOX (cutbox-rows.mjs): the forced cells as the released guide's own fill.sh prints them over the translation 9449bcbfe294ff1b… (all of the seat's roots in one cut). By AI agents, Wed Nov 11 2026. No macro, syntax, notation, axiom, sorry.
-/
import Derived.Test.YtkchoojcficjgaaChecked
import GoSem.Claim
import GoSem.ClaimJoined
import GoSem.ClaimMapViews
import Derived.JoinedTies
import Derived.KernelRfl
namespace Go.Proofs.Ytkchoojcficjgaa
/- THE CELL 'sum', in the pinned program and in every row, IS THE sha256 OF THE DUMP (.gsa) THAT YtkchoojcficjgaaProg.lean LOADS. Nothing in Lean hashes anything: it is a label: what it is worth is what the hold of that sum in a sandbox is worth. -/
noncomputable def Try.pinned : Pinned := { name := "ytkchoojcficjgaa", sum := "9449bcbfe294ff1b09abbf4a6a32cefdd4a269c4f5a7ae1c46f2567bd6be1237", checked := Try.checked }
namespace Rows
def none {H : Type} : Left H := { results := [], args := [] }

/-- 'skifflaw01.FieldPowers': WHATEVER THE INPUT: true; the input reads as it did. -/
def fieldPowersSpec : ChangeSpec := { name := "fieldPowers", fn := fun _ => fun
  | [d1, d2] => { results := [.lit (.bool true)], args := [d1, d2] }
  | _ => none }
def fieldPowersRow : OpenClaim := { program := "ytkchoojcficjgaa", sum := "9449bcbfe294ff1b09abbf4a6a32cefdd4a269c4f5a7ae1c46f2567bd6be1237", func := "skiff/skifflaw01.FieldPowers", spec := "fieldPowers", inPlace := ["math/bits.Add64"], apart := false }
def FieldPowersSaid : Prop := fieldPowersRow.holds Try.pinned (OpenSpec.ofChange fieldPowersSpec)

/-- ITS FALSE NEIGHBOUR: 'it returns false'. Refute it at one input. -/
def fieldPowersWrong : ChangeSpec := { name := "fieldPowers", fn := fun _ => fun
  | [d1, d2] => { results := [.lit (.bool false)], args := [d1, d2] }
  | _ => none }
def FieldPowersWrongFalsely : Prop := fieldPowersRow.holds Try.pinned (OpenSpec.ofChange fieldPowersWrong)

/-- 'skifflaw01.FieldAsks': WHATEVER THE INPUT: true; the input reads as it did. -/
def fieldAsksSpec : ChangeSpec := { name := "fieldAsks", fn := fun _ => fun
  | [d1, d2, d3] => { results := [.lit (.bool true)], args := [d1, d2, d3] }
  | _ => none }
def fieldAsksRow : OpenClaim := { program := "ytkchoojcficjgaa", sum := "9449bcbfe294ff1b09abbf4a6a32cefdd4a269c4f5a7ae1c46f2567bd6be1237", func := "skiff/skifflaw01.FieldAsks", spec := "fieldAsks", inPlace := ["math/bits.Add64"], apart := false }
def FieldAsksSaid : Prop := fieldAsksRow.holds Try.pinned (OpenSpec.ofChange fieldAsksSpec)

/-- ITS FALSE NEIGHBOUR: 'it returns false'. Refute it at one input. -/
def fieldAsksWrong : ChangeSpec := { name := "fieldAsks", fn := fun _ => fun
  | [d1, d2, d3] => { results := [.lit (.bool false)], args := [d1, d2, d3] }
  | _ => none }
def FieldAsksWrongFalsely : Prop := fieldAsksRow.holds Try.pinned (OpenSpec.ofChange fieldAsksWrong)

/-- 'skifflaw01.FieldOf': WHATEVER THE INPUT: true; the input reads as it did. -/
def fieldOfSpec : ChangeSpec := { name := "fieldOf", fn := fun _ => fun
  | [d1, d2] => { results := [.lit (.bool true)], args := [d1, d2] }
  | _ => none }
def fieldOfRow : OpenClaim := { program := "ytkchoojcficjgaa", sum := "9449bcbfe294ff1b09abbf4a6a32cefdd4a269c4f5a7ae1c46f2567bd6be1237", func := "skiff/skifflaw01.FieldOf", spec := "fieldOf", inPlace := ["math/bits.Add64"], apart := false }
def FieldOfSaid : Prop := fieldOfRow.holds Try.pinned (OpenSpec.ofChange fieldOfSpec)

/-- ITS FALSE NEIGHBOUR: 'it returns false'. Refute it at one input. -/
def fieldOfWrong : ChangeSpec := { name := "fieldOf", fn := fun _ => fun
  | [d1, d2] => { results := [.lit (.bool false)], args := [d1, d2] }
  | _ => none }
def FieldOfWrongFalsely : Prop := fieldOfRow.holds Try.pinned (OpenSpec.ofChange fieldOfWrong)

/-- 'skifflaw01.FieldOften': WHATEVER THE INPUT: true; the input reads as it did. -/
def fieldOftenSpec : ChangeSpec := { name := "fieldOften", fn := fun _ => fun
  | [d1, d2, d3] => { results := [.lit (.bool true)], args := [d1, d2, d3] }
  | _ => none }
def fieldOftenRow : OpenClaim := { program := "ytkchoojcficjgaa", sum := "9449bcbfe294ff1b09abbf4a6a32cefdd4a269c4f5a7ae1c46f2567bd6be1237", func := "skiff/skifflaw01.FieldOften", spec := "fieldOften", inPlace := ["math/bits.Add64"], apart := false }
def FieldOftenSaid : Prop := fieldOftenRow.holds Try.pinned (OpenSpec.ofChange fieldOftenSpec)

/-- ITS FALSE NEIGHBOUR: 'it returns false'. Refute it at one input. -/
def fieldOftenWrong : ChangeSpec := { name := "fieldOften", fn := fun _ => fun
  | [d1, d2, d3] => { results := [.lit (.bool false)], args := [d1, d2, d3] }
  | _ => none }
def FieldOftenWrongFalsely : Prop := fieldOftenRow.holds Try.pinned (OpenSpec.ofChange fieldOftenWrong)

/-- 'skifflaw01.FieldSwaps': WHATEVER THE INPUT: true; the input reads as it did. -/
def fieldSwapsSpec : ChangeSpec := { name := "fieldSwaps", fn := fun _ => fun
  | [d1, d2, d3] => { results := [.lit (.bool true)], args := [d1, d2, d3] }
  | _ => none }
def fieldSwapsRow : OpenClaim := { program := "ytkchoojcficjgaa", sum := "9449bcbfe294ff1b09abbf4a6a32cefdd4a269c4f5a7ae1c46f2567bd6be1237", func := "skiff/skifflaw01.FieldSwaps", spec := "fieldSwaps", inPlace := ["math/bits.Add64"], apart := false }
def FieldSwapsSaid : Prop := fieldSwapsRow.holds Try.pinned (OpenSpec.ofChange fieldSwapsSpec)

/-- ITS FALSE NEIGHBOUR: 'it returns false'. Refute it at one input. -/
def fieldSwapsWrong : ChangeSpec := { name := "fieldSwaps", fn := fun _ => fun
  | [d1, d2, d3] => { results := [.lit (.bool false)], args := [d1, d2, d3] }
  | _ => none }
def FieldSwapsWrongFalsely : Prop := fieldSwapsRow.holds Try.pinned (OpenSpec.ofChange fieldSwapsWrong)

/-- 'skifflaw01.FieldChains': WHATEVER THE INPUT: true; the input reads as it did. -/
def fieldChainsSpec : ChangeSpec := { name := "fieldChains", fn := fun _ => fun
  | [d1, d2] => { results := [.lit (.bool true)], args := [d1, d2] }
  | _ => none }
def fieldChainsRow : OpenClaim := { program := "ytkchoojcficjgaa", sum := "9449bcbfe294ff1b09abbf4a6a32cefdd4a269c4f5a7ae1c46f2567bd6be1237", func := "skiff/skifflaw01.FieldChains", spec := "fieldChains", inPlace := ["math/bits.Add64"], apart := false }
def FieldChainsSaid : Prop := fieldChainsRow.holds Try.pinned (OpenSpec.ofChange fieldChainsSpec)

/-- ITS FALSE NEIGHBOUR: 'it returns false'. Refute it at one input. -/
def fieldChainsWrong : ChangeSpec := { name := "fieldChains", fn := fun _ => fun
  | [d1, d2] => { results := [.lit (.bool false)], args := [d1, d2] }
  | _ => none }
def FieldChainsWrongFalsely : Prop := fieldChainsRow.holds Try.pinned (OpenSpec.ofChange fieldChainsWrong)

/-- 'skifflaw01.FieldRuns': WHATEVER THE INPUT: true; the input reads as it did. -/
def fieldRunsSpec : ChangeSpec := { name := "fieldRuns", fn := fun _ => fun
  | [d1, d2] => { results := [.lit (.bool true)], args := [d1, d2] }
  | _ => none }
def fieldRunsRow : OpenClaim := { program := "ytkchoojcficjgaa", sum := "9449bcbfe294ff1b09abbf4a6a32cefdd4a269c4f5a7ae1c46f2567bd6be1237", func := "skiff/skifflaw01.FieldRuns", spec := "fieldRuns", inPlace := ["math/bits.Add64"], apart := false }
def FieldRunsSaid : Prop := fieldRunsRow.holds Try.pinned (OpenSpec.ofChange fieldRunsSpec)

/-- ITS FALSE NEIGHBOUR: 'it returns false'. Refute it at one input. -/
def fieldRunsWrong : ChangeSpec := { name := "fieldRuns", fn := fun _ => fun
  | [d1, d2] => { results := [.lit (.bool false)], args := [d1, d2] }
  | _ => none }
def FieldRunsWrongFalsely : Prop := fieldRunsRow.holds Try.pinned (OpenSpec.ofChange fieldRunsWrong)

/-- 'skifflaw01.FieldLaws': WHATEVER THE INPUT: true; the input reads as it did. -/
def fieldLawsSpec : ChangeSpec := { name := "fieldLaws", fn := fun _ => fun
  | [d1, d2, d3] => { results := [.lit (.bool true)], args := [d1, d2, d3] }
  | _ => none }
def fieldLawsRow : OpenClaim := { program := "ytkchoojcficjgaa", sum := "9449bcbfe294ff1b09abbf4a6a32cefdd4a269c4f5a7ae1c46f2567bd6be1237", func := "skiff/skifflaw01.FieldLaws", spec := "fieldLaws", inPlace := ["math/bits.Add64"], apart := false }
def FieldLawsSaid : Prop := fieldLawsRow.holds Try.pinned (OpenSpec.ofChange fieldLawsSpec)

/-- ITS FALSE NEIGHBOUR: 'it returns false'. Refute it at one input. -/
def fieldLawsWrong : ChangeSpec := { name := "fieldLaws", fn := fun _ => fun
  | [d1, d2, d3] => { results := [.lit (.bool false)], args := [d1, d2, d3] }
  | _ => none }
def FieldLawsWrongFalsely : Prop := fieldLawsRow.holds Try.pinned (OpenSpec.ofChange fieldLawsWrong)

/-- 'skifflaw01.FieldRoots': WHATEVER THE INPUT: true; the input reads as it did. -/
def fieldRootsSpec : ChangeSpec := { name := "fieldRoots", fn := fun _ => fun
  | [d1, d2] => { results := [.lit (.bool true)], args := [d1, d2] }
  | _ => none }
def fieldRootsRow : OpenClaim := { program := "ytkchoojcficjgaa", sum := "9449bcbfe294ff1b09abbf4a6a32cefdd4a269c4f5a7ae1c46f2567bd6be1237", func := "skiff/skifflaw01.FieldRoots", spec := "fieldRoots", inPlace := ["math/bits.Add64"], apart := false }
def FieldRootsSaid : Prop := fieldRootsRow.holds Try.pinned (OpenSpec.ofChange fieldRootsSpec)

/-- ITS FALSE NEIGHBOUR: 'it returns false'. Refute it at one input. -/
def fieldRootsWrong : ChangeSpec := { name := "fieldRoots", fn := fun _ => fun
  | [d1, d2] => { results := [.lit (.bool false)], args := [d1, d2] }
  | _ => none }
def FieldRootsWrongFalsely : Prop := fieldRootsRow.holds Try.pinned (OpenSpec.ofChange fieldRootsWrong)

/-- 'skifflaw05.LadderRuns': WHATEVER THE INPUT: true; the input reads as it did. -/
def ladderRunsSpec : ChangeSpec := { name := "ladderRuns", fn := fun _ => fun
  | [d1, d2] => { results := [.lit (.bool true)], args := [d1, d2] }
  | _ => none }
def ladderRunsRow : OpenClaim := { program := "ytkchoojcficjgaa", sum := "9449bcbfe294ff1b09abbf4a6a32cefdd4a269c4f5a7ae1c46f2567bd6be1237", func := "skiff/skifflaw05.LadderRuns", spec := "ladderRuns", inPlace := ["math/bits.Add64"], apart := false }
def LadderRunsSaid : Prop := ladderRunsRow.holds Try.pinned (OpenSpec.ofChange ladderRunsSpec)

/-- ITS FALSE NEIGHBOUR: 'it returns false'. Refute it at one input. -/
def ladderRunsWrong : ChangeSpec := { name := "ladderRuns", fn := fun _ => fun
  | [d1, d2] => { results := [.lit (.bool false)], args := [d1, d2] }
  | _ => none }
def LadderRunsWrongFalsely : Prop := ladderRunsRow.holds Try.pinned (OpenSpec.ofChange ladderRunsWrong)

/-- 'skifflaw05.LadderBits': WHATEVER THE INPUT: true; the input reads as it did. -/
def ladderBitsSpec : ChangeSpec := { name := "ladderBits", fn := fun _ => fun
  | [d1, d2, d3] => { results := [.lit (.bool true)], args := [d1, d2, d3] }
  | _ => none }
def ladderBitsRow : OpenClaim := { program := "ytkchoojcficjgaa", sum := "9449bcbfe294ff1b09abbf4a6a32cefdd4a269c4f5a7ae1c46f2567bd6be1237", func := "skiff/skifflaw05.LadderBits", spec := "ladderBits", inPlace := ["math/bits.Add64"], apart := false }
def LadderBitsSaid : Prop := ladderBitsRow.holds Try.pinned (OpenSpec.ofChange ladderBitsSpec)

/-- ITS FALSE NEIGHBOUR: 'it returns false'. Refute it at one input. -/
def ladderBitsWrong : ChangeSpec := { name := "ladderBits", fn := fun _ => fun
  | [d1, d2, d3] => { results := [.lit (.bool false)], args := [d1, d2, d3] }
  | _ => none }
def LadderBitsWrongFalsely : Prop := ladderBitsRow.holds Try.pinned (OpenSpec.ofChange ladderBitsWrong)

/-- 'skifflaw05.LadderSmall': WHATEVER THE INPUT: true; the input reads as it did. -/
def ladderSmallSpec : ChangeSpec := { name := "ladderSmall", fn := fun _ => fun
  | [d1, d2] => { results := [.lit (.bool true)], args := [d1, d2] }
  | _ => none }
def ladderSmallRow : OpenClaim := { program := "ytkchoojcficjgaa", sum := "9449bcbfe294ff1b09abbf4a6a32cefdd4a269c4f5a7ae1c46f2567bd6be1237", func := "skiff/skifflaw05.LadderSmall", spec := "ladderSmall", inPlace := ["math/bits.Add64"], apart := false }
def LadderSmallSaid : Prop := ladderSmallRow.holds Try.pinned (OpenSpec.ofChange ladderSmallSpec)

/-- ITS FALSE NEIGHBOUR: 'it returns false'. Refute it at one input. -/
def ladderSmallWrong : ChangeSpec := { name := "ladderSmall", fn := fun _ => fun
  | [d1, d2] => { results := [.lit (.bool false)], args := [d1, d2] }
  | _ => none }
def LadderSmallWrongFalsely : Prop := ladderSmallRow.holds Try.pinned (OpenSpec.ofChange ladderSmallWrong)

/-- 'skifflaw05.LadderMeets': WHATEVER THE INPUT: true; the input reads as it did. -/
def ladderMeetsSpec : ChangeSpec := { name := "ladderMeets", fn := fun _ => fun
  | [d1, d2] => { results := [.lit (.bool true)], args := [d1, d2] }
  | _ => none }
def ladderMeetsRow : OpenClaim := { program := "ytkchoojcficjgaa", sum := "9449bcbfe294ff1b09abbf4a6a32cefdd4a269c4f5a7ae1c46f2567bd6be1237", func := "skiff/skifflaw05.LadderMeets", spec := "ladderMeets", inPlace := ["math/bits.Add64"], apart := false }
def LadderMeetsSaid : Prop := ladderMeetsRow.holds Try.pinned (OpenSpec.ofChange ladderMeetsSpec)

/-- ITS FALSE NEIGHBOUR: 'it returns false'. Refute it at one input. -/
def ladderMeetsWrong : ChangeSpec := { name := "ladderMeets", fn := fun _ => fun
  | [d1, d2] => { results := [.lit (.bool false)], args := [d1, d2] }
  | _ => none }
def LadderMeetsWrongFalsely : Prop := ladderMeetsRow.holds Try.pinned (OpenSpec.ofChange ladderMeetsWrong)

/-- 'skifflaw05.LadderChain': WHATEVER THE INPUT: true; the input reads as it did. -/
def ladderChainSpec : ChangeSpec := { name := "ladderChain", fn := fun _ => fun
  | [d1, d2, d3] => { results := [.lit (.bool true)], args := [d1, d2, d3] }
  | _ => none }
def ladderChainRow : OpenClaim := { program := "ytkchoojcficjgaa", sum := "9449bcbfe294ff1b09abbf4a6a32cefdd4a269c4f5a7ae1c46f2567bd6be1237", func := "skiff/skifflaw05.LadderChain", spec := "ladderChain", inPlace := ["math/bits.Add64"], apart := false }
def LadderChainSaid : Prop := ladderChainRow.holds Try.pinned (OpenSpec.ofChange ladderChainSpec)

/-- ITS FALSE NEIGHBOUR: 'it returns false'. Refute it at one input. -/
def ladderChainWrong : ChangeSpec := { name := "ladderChain", fn := fun _ => fun
  | [d1, d2, d3] => { results := [.lit (.bool false)], args := [d1, d2, d3] }
  | _ => none }
def LadderChainWrongFalsely : Prop := ladderChainRow.holds Try.pinned (OpenSpec.ofChange ladderChainWrong)

/-- 'skifflaw06.CurveTexts': WHATEVER THE INPUT: true; the input reads as it did. -/
def curveTextsSpec : ChangeSpec := { name := "curveTexts", fn := fun _ => fun
  | [d1, d2, d3] => { results := [.lit (.bool true)], args := [d1, d2, d3] }
  | _ => none }
def curveTextsRow : OpenClaim := { program := "ytkchoojcficjgaa", sum := "9449bcbfe294ff1b09abbf4a6a32cefdd4a269c4f5a7ae1c46f2567bd6be1237", func := "skiff/skifflaw06.CurveTexts", spec := "curveTexts", inPlace := ["math/bits.Add64"], apart := false }
def CurveTextsSaid : Prop := curveTextsRow.holds Try.pinned (OpenSpec.ofChange curveTextsSpec)

/-- ITS FALSE NEIGHBOUR: 'it returns false'. Refute it at one input. -/
def curveTextsWrong : ChangeSpec := { name := "curveTexts", fn := fun _ => fun
  | [d1, d2, d3] => { results := [.lit (.bool false)], args := [d1, d2, d3] }
  | _ => none }
def CurveTextsWrongFalsely : Prop := curveTextsRow.holds Try.pinned (OpenSpec.ofChange curveTextsWrong)

/-- 'skifflaw06.CurveTimes': WHATEVER THE INPUT: true; the input reads as it did. -/
def curveTimesSpec : ChangeSpec := { name := "curveTimes", fn := fun _ => fun
  | [d1, d2] => { results := [.lit (.bool true)], args := [d1, d2] }
  | _ => none }
def curveTimesRow : OpenClaim := { program := "ytkchoojcficjgaa", sum := "9449bcbfe294ff1b09abbf4a6a32cefdd4a269c4f5a7ae1c46f2567bd6be1237", func := "skiff/skifflaw06.CurveTimes", spec := "curveTimes", inPlace := ["math/bits.Add64"], apart := false }
def CurveTimesSaid : Prop := curveTimesRow.holds Try.pinned (OpenSpec.ofChange curveTimesSpec)

/-- ITS FALSE NEIGHBOUR: 'it returns false'. Refute it at one input. -/
def curveTimesWrong : ChangeSpec := { name := "curveTimes", fn := fun _ => fun
  | [d1, d2] => { results := [.lit (.bool false)], args := [d1, d2] }
  | _ => none }
def CurveTimesWrongFalsely : Prop := curveTimesRow.holds Try.pinned (OpenSpec.ofChange curveTimesWrong)

/-- 'skifflaw06.CurveSums': WHATEVER THE INPUT: true; the input reads as it did. -/
def curveSumsSpec : ChangeSpec := { name := "curveSums", fn := fun _ => fun
  | [d1, d2, d3] => { results := [.lit (.bool true)], args := [d1, d2, d3] }
  | _ => none }
def curveSumsRow : OpenClaim := { program := "ytkchoojcficjgaa", sum := "9449bcbfe294ff1b09abbf4a6a32cefdd4a269c4f5a7ae1c46f2567bd6be1237", func := "skiff/skifflaw06.CurveSums", spec := "curveSums", inPlace := ["math/bits.Add64"], apart := false }
def CurveSumsSaid : Prop := curveSumsRow.holds Try.pinned (OpenSpec.ofChange curveSumsSpec)

/-- ITS FALSE NEIGHBOUR: 'it returns false'. Refute it at one input. -/
def curveSumsWrong : ChangeSpec := { name := "curveSums", fn := fun _ => fun
  | [d1, d2, d3] => { results := [.lit (.bool false)], args := [d1, d2, d3] }
  | _ => none }
def CurveSumsWrongFalsely : Prop := curveSumsRow.holds Try.pinned (OpenSpec.ofChange curveSumsWrong)

/-- 'skifflaw06.CurveLaws': WHATEVER THE INPUT: true; the input reads as it did. -/
def curveLawsSpec : ChangeSpec := { name := "curveLaws", fn := fun _ => fun
  | [d1, d2, d3, d4] => { results := [.lit (.bool true)], args := [d1, d2, d3, d4] }
  | _ => none }
def curveLawsRow : OpenClaim := { program := "ytkchoojcficjgaa", sum := "9449bcbfe294ff1b09abbf4a6a32cefdd4a269c4f5a7ae1c46f2567bd6be1237", func := "skiff/skifflaw06.CurveLaws", spec := "curveLaws", inPlace := ["math/bits.Add64"], apart := false }
def CurveLawsSaid : Prop := curveLawsRow.holds Try.pinned (OpenSpec.ofChange curveLawsSpec)

/-- ITS FALSE NEIGHBOUR: 'it returns false'. Refute it at one input. -/
def curveLawsWrong : ChangeSpec := { name := "curveLaws", fn := fun _ => fun
  | [d1, d2, d3, d4] => { results := [.lit (.bool false)], args := [d1, d2, d3, d4] }
  | _ => none }
def CurveLawsWrongFalsely : Prop := curveLawsRow.holds Try.pinned (OpenSpec.ofChange curveLawsWrong)

/-- 'skifflaw06.CurveSame': WHATEVER THE INPUT: true; the input reads as it did. -/
def curveSameSpec : ChangeSpec := { name := "curveSame", fn := fun _ => fun
  | [d1, d2, d3] => { results := [.lit (.bool true)], args := [d1, d2, d3] }
  | _ => none }
def curveSameRow : OpenClaim := { program := "ytkchoojcficjgaa", sum := "9449bcbfe294ff1b09abbf4a6a32cefdd4a269c4f5a7ae1c46f2567bd6be1237", func := "skiff/skifflaw06.CurveSame", spec := "curveSame", inPlace := ["math/bits.Add64"], apart := false }
def CurveSameSaid : Prop := curveSameRow.holds Try.pinned (OpenSpec.ofChange curveSameSpec)

/-- ITS FALSE NEIGHBOUR: 'it returns false'. Refute it at one input. -/
def curveSameWrong : ChangeSpec := { name := "curveSame", fn := fun _ => fun
  | [d1, d2, d3] => { results := [.lit (.bool false)], args := [d1, d2, d3] }
  | _ => none }
def CurveSameWrongFalsely : Prop := curveSameRow.holds Try.pinned (OpenSpec.ofChange curveSameWrong)

/-- 'skifflaw06.CurveEight': WHATEVER THE INPUT: true; the input reads as it did. -/
def curveEightSpec : ChangeSpec := { name := "curveEight", fn := fun _ => fun
  | [d] => { results := [.lit (.bool true)], args := [d] }
  | _ => none }
def curveEightRow : OpenClaim := { program := "ytkchoojcficjgaa", sum := "9449bcbfe294ff1b09abbf4a6a32cefdd4a269c4f5a7ae1c46f2567bd6be1237", func := "skiff/skifflaw06.CurveEight", spec := "curveEight", inPlace := ["math/bits.Add64"], apart := false }
def CurveEightSaid : Prop := curveEightRow.holds Try.pinned (OpenSpec.ofChange curveEightSpec)

/-- ITS FALSE NEIGHBOUR: 'it returns false'. Refute it at one input. -/
def curveEightWrong : ChangeSpec := { name := "curveEight", fn := fun _ => fun
  | [d] => { results := [.lit (.bool false)], args := [d] }
  | _ => none }
def CurveEightWrongFalsely : Prop := curveEightRow.holds Try.pinned (OpenSpec.ofChange curveEightWrong)

/- THE SECOND FORM. 'bulk': how many values and letters a reading holds, each counted each time it is reached (what is shared counts as often as it is met; a slice's spare places count too). A statement '..UptoSaid' is the law's where the arguments, and the package variables that the reading takes, are together of bulk at most 1048576: NARROWER than '..Said'. Prove '..Said' where nothing that the law and all that it calls make is longer than what came in: it says more and counts as full. Else prove '..UptoSaid'. A law counts once. -/
mutual
def uptoBulk {H : Type} : DataW H → Nat
  | .lit (.string bytes) => bytes.length + 1
  | .lit _ => 1
  | .nil => 1
  | .ptr d => uptoBulk d + 1
  | .slice elems spare => uptoBulkAll elems + uptoBulkAll spare + 1
  | .agg parts => uptoBulkAll parts + 1
  | .iface _ d => uptoBulk d + 1
  | .map entries => uptoBulkEntries entries + 1
  | .held _ => 1
def uptoBulkAll {H : Type} : List (DataW H) → Nat
  | [] => 0
  | d :: r => uptoBulk d + uptoBulkAll r
def uptoBulkEntries {H : Type} : List (Lit × DataW H) → Nat
  | [] => 0
  | x :: r => uptoBulkEntry x + uptoBulkEntries r
def uptoBulkEntry {H : Type} : Lit × DataW H → Nat
  | (.string bytes, d) => bytes.length + uptoBulk d + 1
  | (_, d) => uptoBulk d + 1
 end
def uptoSmall : (H : Type) → List (DataW H) → Bool := fun _ ds => decide (uptoBulkAll ds ≤ 1048576)
def OpenSpec.upto (s : _root_.Go.ChangeSpec) : _root_.Go.OpenSpec := { _root_.Go.OpenSpec.ofChange s with cond := some uptoSmall }

/-- 'skifflaw01.FieldPowers', WHERE WHAT IT READS IS OF BULK AT MOST 1048576: true; the input reads as it did. -/
def fieldPowersUptoRow : OpenClaim := { program := "ytkchoojcficjgaa", sum := "9449bcbfe294ff1b09abbf4a6a32cefdd4a269c4f5a7ae1c46f2567bd6be1237", func := "skiff/skifflaw01.FieldPowers", spec := "fieldPowers", inPlace := ["math/bits.Add64"], apart := false, narrowed := true }
def FieldPowersUptoSaid : Prop := fieldPowersUptoRow.holds Try.pinned (OpenSpec.upto fieldPowersSpec)

/-- 'skifflaw01.FieldAsks', WHERE WHAT IT READS IS OF BULK AT MOST 1048576: true; the input reads as it did. -/
def fieldAsksUptoRow : OpenClaim := { program := "ytkchoojcficjgaa", sum := "9449bcbfe294ff1b09abbf4a6a32cefdd4a269c4f5a7ae1c46f2567bd6be1237", func := "skiff/skifflaw01.FieldAsks", spec := "fieldAsks", inPlace := ["math/bits.Add64"], apart := false, narrowed := true }
def FieldAsksUptoSaid : Prop := fieldAsksUptoRow.holds Try.pinned (OpenSpec.upto fieldAsksSpec)

/-- 'skifflaw01.FieldOf', WHERE WHAT IT READS IS OF BULK AT MOST 1048576: true; the input reads as it did. -/
def fieldOfUptoRow : OpenClaim := { program := "ytkchoojcficjgaa", sum := "9449bcbfe294ff1b09abbf4a6a32cefdd4a269c4f5a7ae1c46f2567bd6be1237", func := "skiff/skifflaw01.FieldOf", spec := "fieldOf", inPlace := ["math/bits.Add64"], apart := false, narrowed := true }
def FieldOfUptoSaid : Prop := fieldOfUptoRow.holds Try.pinned (OpenSpec.upto fieldOfSpec)

/-- 'skifflaw01.FieldOften', WHERE WHAT IT READS IS OF BULK AT MOST 1048576: true; the input reads as it did. -/
def fieldOftenUptoRow : OpenClaim := { program := "ytkchoojcficjgaa", sum := "9449bcbfe294ff1b09abbf4a6a32cefdd4a269c4f5a7ae1c46f2567bd6be1237", func := "skiff/skifflaw01.FieldOften", spec := "fieldOften", inPlace := ["math/bits.Add64"], apart := false, narrowed := true }
def FieldOftenUptoSaid : Prop := fieldOftenUptoRow.holds Try.pinned (OpenSpec.upto fieldOftenSpec)

/-- 'skifflaw01.FieldSwaps', WHERE WHAT IT READS IS OF BULK AT MOST 1048576: true; the input reads as it did. -/
def fieldSwapsUptoRow : OpenClaim := { program := "ytkchoojcficjgaa", sum := "9449bcbfe294ff1b09abbf4a6a32cefdd4a269c4f5a7ae1c46f2567bd6be1237", func := "skiff/skifflaw01.FieldSwaps", spec := "fieldSwaps", inPlace := ["math/bits.Add64"], apart := false, narrowed := true }
def FieldSwapsUptoSaid : Prop := fieldSwapsUptoRow.holds Try.pinned (OpenSpec.upto fieldSwapsSpec)

/-- 'skifflaw01.FieldChains', WHERE WHAT IT READS IS OF BULK AT MOST 1048576: true; the input reads as it did. -/
def fieldChainsUptoRow : OpenClaim := { program := "ytkchoojcficjgaa", sum := "9449bcbfe294ff1b09abbf4a6a32cefdd4a269c4f5a7ae1c46f2567bd6be1237", func := "skiff/skifflaw01.FieldChains", spec := "fieldChains", inPlace := ["math/bits.Add64"], apart := false, narrowed := true }
def FieldChainsUptoSaid : Prop := fieldChainsUptoRow.holds Try.pinned (OpenSpec.upto fieldChainsSpec)

/-- 'skifflaw01.FieldRuns', WHERE WHAT IT READS IS OF BULK AT MOST 1048576: true; the input reads as it did. -/
def fieldRunsUptoRow : OpenClaim := { program := "ytkchoojcficjgaa", sum := "9449bcbfe294ff1b09abbf4a6a32cefdd4a269c4f5a7ae1c46f2567bd6be1237", func := "skiff/skifflaw01.FieldRuns", spec := "fieldRuns", inPlace := ["math/bits.Add64"], apart := false, narrowed := true }
def FieldRunsUptoSaid : Prop := fieldRunsUptoRow.holds Try.pinned (OpenSpec.upto fieldRunsSpec)

/-- 'skifflaw01.FieldLaws', WHERE WHAT IT READS IS OF BULK AT MOST 1048576: true; the input reads as it did. -/
def fieldLawsUptoRow : OpenClaim := { program := "ytkchoojcficjgaa", sum := "9449bcbfe294ff1b09abbf4a6a32cefdd4a269c4f5a7ae1c46f2567bd6be1237", func := "skiff/skifflaw01.FieldLaws", spec := "fieldLaws", inPlace := ["math/bits.Add64"], apart := false, narrowed := true }
def FieldLawsUptoSaid : Prop := fieldLawsUptoRow.holds Try.pinned (OpenSpec.upto fieldLawsSpec)

/-- 'skifflaw01.FieldRoots', WHERE WHAT IT READS IS OF BULK AT MOST 1048576: true; the input reads as it did. -/
def fieldRootsUptoRow : OpenClaim := { program := "ytkchoojcficjgaa", sum := "9449bcbfe294ff1b09abbf4a6a32cefdd4a269c4f5a7ae1c46f2567bd6be1237", func := "skiff/skifflaw01.FieldRoots", spec := "fieldRoots", inPlace := ["math/bits.Add64"], apart := false, narrowed := true }
def FieldRootsUptoSaid : Prop := fieldRootsUptoRow.holds Try.pinned (OpenSpec.upto fieldRootsSpec)

/-- 'skifflaw05.LadderRuns', WHERE WHAT IT READS IS OF BULK AT MOST 1048576: true; the input reads as it did. -/
def ladderRunsUptoRow : OpenClaim := { program := "ytkchoojcficjgaa", sum := "9449bcbfe294ff1b09abbf4a6a32cefdd4a269c4f5a7ae1c46f2567bd6be1237", func := "skiff/skifflaw05.LadderRuns", spec := "ladderRuns", inPlace := ["math/bits.Add64"], apart := false, narrowed := true }
def LadderRunsUptoSaid : Prop := ladderRunsUptoRow.holds Try.pinned (OpenSpec.upto ladderRunsSpec)

/-- 'skifflaw05.LadderBits', WHERE WHAT IT READS IS OF BULK AT MOST 1048576: true; the input reads as it did. -/
def ladderBitsUptoRow : OpenClaim := { program := "ytkchoojcficjgaa", sum := "9449bcbfe294ff1b09abbf4a6a32cefdd4a269c4f5a7ae1c46f2567bd6be1237", func := "skiff/skifflaw05.LadderBits", spec := "ladderBits", inPlace := ["math/bits.Add64"], apart := false, narrowed := true }
def LadderBitsUptoSaid : Prop := ladderBitsUptoRow.holds Try.pinned (OpenSpec.upto ladderBitsSpec)

/-- 'skifflaw05.LadderSmall', WHERE WHAT IT READS IS OF BULK AT MOST 1048576: true; the input reads as it did. -/
def ladderSmallUptoRow : OpenClaim := { program := "ytkchoojcficjgaa", sum := "9449bcbfe294ff1b09abbf4a6a32cefdd4a269c4f5a7ae1c46f2567bd6be1237", func := "skiff/skifflaw05.LadderSmall", spec := "ladderSmall", inPlace := ["math/bits.Add64"], apart := false, narrowed := true }
def LadderSmallUptoSaid : Prop := ladderSmallUptoRow.holds Try.pinned (OpenSpec.upto ladderSmallSpec)

/-- 'skifflaw05.LadderMeets', WHERE WHAT IT READS IS OF BULK AT MOST 1048576: true; the input reads as it did. -/
def ladderMeetsUptoRow : OpenClaim := { program := "ytkchoojcficjgaa", sum := "9449bcbfe294ff1b09abbf4a6a32cefdd4a269c4f5a7ae1c46f2567bd6be1237", func := "skiff/skifflaw05.LadderMeets", spec := "ladderMeets", inPlace := ["math/bits.Add64"], apart := false, narrowed := true }
def LadderMeetsUptoSaid : Prop := ladderMeetsUptoRow.holds Try.pinned (OpenSpec.upto ladderMeetsSpec)

/-- 'skifflaw05.LadderChain', WHERE WHAT IT READS IS OF BULK AT MOST 1048576: true; the input reads as it did. -/
def ladderChainUptoRow : OpenClaim := { program := "ytkchoojcficjgaa", sum := "9449bcbfe294ff1b09abbf4a6a32cefdd4a269c4f5a7ae1c46f2567bd6be1237", func := "skiff/skifflaw05.LadderChain", spec := "ladderChain", inPlace := ["math/bits.Add64"], apart := false, narrowed := true }
def LadderChainUptoSaid : Prop := ladderChainUptoRow.holds Try.pinned (OpenSpec.upto ladderChainSpec)

/-- 'skifflaw06.CurveTexts', WHERE WHAT IT READS IS OF BULK AT MOST 1048576: true; the input reads as it did. -/
def curveTextsUptoRow : OpenClaim := { program := "ytkchoojcficjgaa", sum := "9449bcbfe294ff1b09abbf4a6a32cefdd4a269c4f5a7ae1c46f2567bd6be1237", func := "skiff/skifflaw06.CurveTexts", spec := "curveTexts", inPlace := ["math/bits.Add64"], apart := false, narrowed := true }
def CurveTextsUptoSaid : Prop := curveTextsUptoRow.holds Try.pinned (OpenSpec.upto curveTextsSpec)

/-- 'skifflaw06.CurveTimes', WHERE WHAT IT READS IS OF BULK AT MOST 1048576: true; the input reads as it did. -/
def curveTimesUptoRow : OpenClaim := { program := "ytkchoojcficjgaa", sum := "9449bcbfe294ff1b09abbf4a6a32cefdd4a269c4f5a7ae1c46f2567bd6be1237", func := "skiff/skifflaw06.CurveTimes", spec := "curveTimes", inPlace := ["math/bits.Add64"], apart := false, narrowed := true }
def CurveTimesUptoSaid : Prop := curveTimesUptoRow.holds Try.pinned (OpenSpec.upto curveTimesSpec)

/-- 'skifflaw06.CurveSums', WHERE WHAT IT READS IS OF BULK AT MOST 1048576: true; the input reads as it did. -/
def curveSumsUptoRow : OpenClaim := { program := "ytkchoojcficjgaa", sum := "9449bcbfe294ff1b09abbf4a6a32cefdd4a269c4f5a7ae1c46f2567bd6be1237", func := "skiff/skifflaw06.CurveSums", spec := "curveSums", inPlace := ["math/bits.Add64"], apart := false, narrowed := true }
def CurveSumsUptoSaid : Prop := curveSumsUptoRow.holds Try.pinned (OpenSpec.upto curveSumsSpec)

/-- 'skifflaw06.CurveLaws', WHERE WHAT IT READS IS OF BULK AT MOST 1048576: true; the input reads as it did. -/
def curveLawsUptoRow : OpenClaim := { program := "ytkchoojcficjgaa", sum := "9449bcbfe294ff1b09abbf4a6a32cefdd4a269c4f5a7ae1c46f2567bd6be1237", func := "skiff/skifflaw06.CurveLaws", spec := "curveLaws", inPlace := ["math/bits.Add64"], apart := false, narrowed := true }
def CurveLawsUptoSaid : Prop := curveLawsUptoRow.holds Try.pinned (OpenSpec.upto curveLawsSpec)

/-- 'skifflaw06.CurveSame', WHERE WHAT IT READS IS OF BULK AT MOST 1048576: true; the input reads as it did. -/
def curveSameUptoRow : OpenClaim := { program := "ytkchoojcficjgaa", sum := "9449bcbfe294ff1b09abbf4a6a32cefdd4a269c4f5a7ae1c46f2567bd6be1237", func := "skiff/skifflaw06.CurveSame", spec := "curveSame", inPlace := ["math/bits.Add64"], apart := false, narrowed := true }
def CurveSameUptoSaid : Prop := curveSameUptoRow.holds Try.pinned (OpenSpec.upto curveSameSpec)

/-- 'skifflaw06.CurveEight', WHERE WHAT IT READS IS OF BULK AT MOST 1048576: true; the input reads as it did. -/
def curveEightUptoRow : OpenClaim := { program := "ytkchoojcficjgaa", sum := "9449bcbfe294ff1b09abbf4a6a32cefdd4a269c4f5a7ae1c46f2567bd6be1237", func := "skiff/skifflaw06.CurveEight", spec := "curveEight", inPlace := ["math/bits.Add64"], apart := false, narrowed := true }
def CurveEightUptoSaid : Prop := curveEightUptoRow.holds Try.pinned (OpenSpec.upto curveEightSpec)

end Rows
end Go.Proofs.Ytkchoojcficjgaa
