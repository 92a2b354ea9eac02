/-
  No cell of these rows narrows 'for every input' (looked for: loops, veiled, ifaces, maps, wideKeys, modest, calm, conditions, laid).
  DERIVED. THE GIVEN ROWS OF THIS SEAT. 26 by the template 'for every input the law returns true; each argument reads behind the call as it read before'; 0 by the template 'total and deterministic' (their statements: YtmkddcmfofabbaaTotals.lean).
  GIVEN WITH THE SEED: the statements are not yours to turn. If you find one false, say at which input.
  Laid BY PROGRAM, IN A SANDBOX (cutbox-rows.mjs): the forced cells as the released guide's own fill.sh prints them over the translation 99924a710db5b62f… (all of the seat's roots in one cut). By AI agents, Wed Nov 11 2026. No macro, syntax, notation, axiom, sorry.
-/
import Derived.Test.YtmkddcmfofabbaaChecked
import GoSem.Claim
import GoSem.ClaimJoined
import GoSem.ClaimMapViews
import Derived.JoinedTies
import Derived.KernelRfl
namespace Go.Proofs.Ytmkddcmfofabbaa
/- THE CELL 'sum', in the pinned program and in every row, IS THE sha256 OF THE DUMP (.gsa) THAT YtmkddcmfofabbaaProg.lean LOADS. Nothing in Lean hashes anything: it is a label: what it is worth is what the hold of that sum in a sandbox is worth. -/
noncomputable def Try.pinned : Pinned := { name := "ytmkddcmfofabbaa", sum := "99924a710db5b62fcd0cdf3acec33d8823b58eeb9606725ccd29377e38165610", checked := Try.checked }
namespace Rows
def none {H : Type} : Left H := { results := [], args := [] }

/-- 'analemmalaw02.WideHands': WHATEVER THE INPUT: true; the input reads as it did. -/
def wideHandsSpec : ChangeSpec := { name := "wideHands", fn := fun _ => fun
  | [d1, d2] => { results := [.lit (.bool true)], args := [d1, d2] }
  | _ => none }
def wideHandsRow : OpenClaim := { program := "ytmkddcmfofabbaa", sum := "99924a710db5b62fcd0cdf3acec33d8823b58eeb9606725ccd29377e38165610", func := "analemma/analemmalaw02.WideHands", spec := "wideHands", inPlace := ["math/bits.Sub64"], named := ["math/bits.divideError", "math/bits.overflowError"], apart := false }
def WideHandsSaid : Prop := wideHandsRow.holds Try.pinned (OpenSpec.ofChange wideHandsSpec)

/-- ITS FALSE NEIGHBOUR: 'it returns false'. Refute it at one input. -/
def wideHandsWrong : ChangeSpec := { name := "wideHands", fn := fun _ => fun
  | [d1, d2] => { results := [.lit (.bool false)], args := [d1, d2] }
  | _ => none }
def WideHandsWrongFalsely : Prop := wideHandsRow.holds Try.pinned (OpenSpec.ofChange wideHandsWrong)

/-- 'analemmalaw02.WideInts': WHATEVER THE INPUT: true; the input reads as it did. -/
def wideIntsSpec : ChangeSpec := { name := "wideInts", fn := fun _ => fun
  | [d1, d2, d3] => { results := [.lit (.bool true)], args := [d1, d2, d3] }
  | _ => none }
def wideIntsRow : OpenClaim := { program := "ytmkddcmfofabbaa", sum := "99924a710db5b62fcd0cdf3acec33d8823b58eeb9606725ccd29377e38165610", func := "analemma/analemmalaw02.WideInts", spec := "wideInts", inPlace := ["math/bits.Sub64"], named := ["math/bits.divideError", "math/bits.overflowError"], apart := false }
def WideIntsSaid : Prop := wideIntsRow.holds Try.pinned (OpenSpec.ofChange wideIntsSpec)

/-- ITS FALSE NEIGHBOUR: 'it returns false'. Refute it at one input. -/
def wideIntsWrong : ChangeSpec := { name := "wideInts", fn := fun _ => fun
  | [d1, d2, d3] => { results := [.lit (.bool false)], args := [d1, d2, d3] }
  | _ => none }
def WideIntsWrongFalsely : Prop := wideIntsRow.holds Try.pinned (OpenSpec.ofChange wideIntsWrong)

/-- 'analemmalaw02.WideProducts': WHATEVER THE INPUT: true; the input reads as it did. -/
def wideProductsSpec : ChangeSpec := { name := "wideProducts", fn := fun _ => fun
  | [d1, d2, d3] => { results := [.lit (.bool true)], args := [d1, d2, d3] }
  | _ => none }
def wideProductsRow : OpenClaim := { program := "ytmkddcmfofabbaa", sum := "99924a710db5b62fcd0cdf3acec33d8823b58eeb9606725ccd29377e38165610", func := "analemma/analemmalaw02.WideProducts", spec := "wideProducts", inPlace := ["math/bits.Sub64", "math/bits.Add64"], named := ["math/bits.divideError", "math/bits.overflowError"], apart := false }
def WideProductsSaid : Prop := wideProductsRow.holds Try.pinned (OpenSpec.ofChange wideProductsSpec)

/-- ITS FALSE NEIGHBOUR: 'it returns false'. Refute it at one input. -/
def wideProductsWrong : ChangeSpec := { name := "wideProducts", fn := fun _ => fun
  | [d1, d2, d3] => { results := [.lit (.bool false)], args := [d1, d2, d3] }
  | _ => none }
def WideProductsWrongFalsely : Prop := wideProductsRow.holds Try.pinned (OpenSpec.ofChange wideProductsWrong)

/-- 'analemmalaw02.WideSums': WHATEVER THE INPUT: true; the input reads as it did. -/
def wideSumsSpec : ChangeSpec := { name := "wideSums", fn := fun _ => fun
  | [d1, d2] => { results := [.lit (.bool true)], args := [d1, d2] }
  | _ => none }
def wideSumsRow : OpenClaim := { program := "ytmkddcmfofabbaa", sum := "99924a710db5b62fcd0cdf3acec33d8823b58eeb9606725ccd29377e38165610", func := "analemma/analemmalaw02.WideSums", spec := "wideSums", inPlace := ["math/bits.Add64", "math/bits.Sub64"], named := ["math/bits.divideError", "math/bits.overflowError"], apart := false }
def WideSumsSaid : Prop := wideSumsRow.holds Try.pinned (OpenSpec.ofChange wideSumsSpec)

/-- ITS FALSE NEIGHBOUR: 'it returns false'. Refute it at one input. -/
def wideSumsWrong : ChangeSpec := { name := "wideSums", fn := fun _ => fun
  | [d1, d2] => { results := [.lit (.bool false)], args := [d1, d2] }
  | _ => none }
def WideSumsWrongFalsely : Prop := wideSumsRow.holds Try.pinned (OpenSpec.ofChange wideSumsWrong)

/-- 'analemmalaw02.WideSum': WHATEVER THE INPUT: true; the input reads as it did. -/
def wideSumSpec : ChangeSpec := { name := "wideSum", fn := fun _ => fun
  | [d] => { results := [.lit (.bool true)], args := [d] }
  | _ => none }
def wideSumRow : OpenClaim := { program := "ytmkddcmfofabbaa", sum := "99924a710db5b62fcd0cdf3acec33d8823b58eeb9606725ccd29377e38165610", func := "analemma/analemmalaw02.WideSum", spec := "wideSum", inPlace := ["math/bits.Sub64", "math/bits.Add64"], named := ["math/bits.divideError", "math/bits.overflowError"], apart := false }
def WideSumSaid : Prop := wideSumRow.holds Try.pinned (OpenSpec.ofChange wideSumSpec)

/-- ITS FALSE NEIGHBOUR: 'it returns false'. Refute it at one input. -/
def wideSumWrong : ChangeSpec := { name := "wideSum", fn := fun _ => fun
  | [d] => { results := [.lit (.bool false)], args := [d] }
  | _ => none }
def WideSumWrongFalsely : Prop := wideSumRow.holds Try.pinned (OpenSpec.ofChange wideSumWrong)

/-- 'analemmalaw02.WideTexts': WHATEVER THE INPUT: true; the input reads as it did. -/
def wideTextsSpec : ChangeSpec := { name := "wideTexts", fn := fun _ => fun
  | [d1, d2] => { results := [.lit (.bool true)], args := [d1, d2] }
  | _ => none }
def wideTextsRow : OpenClaim := { program := "ytmkddcmfofabbaa", sum := "99924a710db5b62fcd0cdf3acec33d8823b58eeb9606725ccd29377e38165610", func := "analemma/analemmalaw02.WideTexts", spec := "wideTexts", inPlace := ["math/bits.Add64", "math/bits.Sub64"], recurses := true, named := ["math/bits.divideError", "math/bits.overflowError"], apart := false }
def WideTextsSaid : Prop := wideTextsRow.holds Try.pinned (OpenSpec.ofChange wideTextsSpec)

/-- ITS FALSE NEIGHBOUR: 'it returns false'. Refute it at one input. -/
def wideTextsWrong : ChangeSpec := { name := "wideTexts", fn := fun _ => fun
  | [d1, d2] => { results := [.lit (.bool false)], args := [d1, d2] }
  | _ => none }
def WideTextsWrongFalsely : Prop := wideTextsRow.holds Try.pinned (OpenSpec.ofChange wideTextsWrong)

/-- 'analemmalaw03.DivideFloors': WHATEVER THE INPUT: true; the input reads as it did. -/
def divideFloorsSpec : ChangeSpec := { name := "divideFloors", fn := fun _ => fun
  | [d1, d2] => { results := [.lit (.bool true)], args := [d1, d2] }
  | _ => none }
def divideFloorsRow : OpenClaim := { program := "ytmkddcmfofabbaa", sum := "99924a710db5b62fcd0cdf3acec33d8823b58eeb9606725ccd29377e38165610", func := "analemma/analemmalaw03.DivideFloors", spec := "divideFloors", inPlace := ["math/bits.Sub64", "math/bits.Add64"], unfollowed := true, recurses := true, named := ["math/bits.divideError", "math/bits.overflowError"], apart := false }
def DivideFloorsSaid : Prop := divideFloorsRow.holds Try.pinned (OpenSpec.ofChange divideFloorsSpec)

/-- ITS FALSE NEIGHBOUR: 'it returns false'. Refute it at one input. -/
def divideFloorsWrong : ChangeSpec := { name := "divideFloors", fn := fun _ => fun
  | [d1, d2] => { results := [.lit (.bool false)], args := [d1, d2] }
  | _ => none }
def DivideFloorsWrongFalsely : Prop := divideFloorsRow.holds Try.pinned (OpenSpec.ofChange divideFloorsWrong)

/-- 'analemmalaw03.DivideTruncs': WHATEVER THE INPUT: true; the input reads as it did. -/
def divideTruncsSpec : ChangeSpec := { name := "divideTruncs", fn := fun _ => fun
  | [d1, d2] => { results := [.lit (.bool true)], args := [d1, d2] }
  | _ => none }
def divideTruncsRow : OpenClaim := { program := "ytmkddcmfofabbaa", sum := "99924a710db5b62fcd0cdf3acec33d8823b58eeb9606725ccd29377e38165610", func := "analemma/analemmalaw03.DivideTruncs", spec := "divideTruncs", inPlace := ["math/bits.Sub64", "math/bits.Add64"], unfollowed := true, recurses := true, named := ["math/bits.divideError", "math/bits.overflowError"], apart := false }
def DivideTruncsSaid : Prop := divideTruncsRow.holds Try.pinned (OpenSpec.ofChange divideTruncsSpec)

/-- ITS FALSE NEIGHBOUR: 'it returns false'. Refute it at one input. -/
def divideTruncsWrong : ChangeSpec := { name := "divideTruncs", fn := fun _ => fun
  | [d1, d2] => { results := [.lit (.bool false)], args := [d1, d2] }
  | _ => none }
def DivideTruncsWrongFalsely : Prop := divideTruncsRow.holds Try.pinned (OpenSpec.ofChange divideTruncsWrong)

/-- 'analemmalaw03.DivideCommons': WHATEVER THE INPUT: true; the input reads as it did. -/
def divideCommonsSpec : ChangeSpec := { name := "divideCommons", fn := fun _ => fun
  | [d1, d2] => { results := [.lit (.bool true)], args := [d1, d2] }
  | _ => none }
def divideCommonsRow : OpenClaim := { program := "ytmkddcmfofabbaa", sum := "99924a710db5b62fcd0cdf3acec33d8823b58eeb9606725ccd29377e38165610", func := "analemma/analemmalaw03.DivideCommons", spec := "divideCommons", inPlace := ["math/bits.Sub64", "math/bits.Add64"], unfollowed := true, recurses := true, named := ["math/bits.divideError", "math/bits.overflowError"], apart := false }
def DivideCommonsSaid : Prop := divideCommonsRow.holds Try.pinned (OpenSpec.ofChange divideCommonsSpec)

/-- ITS FALSE NEIGHBOUR: 'it returns false'. Refute it at one input. -/
def divideCommonsWrong : ChangeSpec := { name := "divideCommons", fn := fun _ => fun
  | [d1, d2] => { results := [.lit (.bool false)], args := [d1, d2] }
  | _ => none }
def DivideCommonsWrongFalsely : Prop := divideCommonsRow.holds Try.pinned (OpenSpec.ofChange divideCommonsWrong)

/-- 'analemmalaw02.WideBack': WHATEVER THE INPUT: true; the input reads as it did. -/
def wideBackSpec : ChangeSpec := { name := "wideBack", fn := fun _ => fun
  | [d1, d2] => { results := [.lit (.bool true)], args := [d1, d2] }
  | _ => none }
def wideBackRow : OpenClaim := { program := "ytmkddcmfofabbaa", sum := "99924a710db5b62fcd0cdf3acec33d8823b58eeb9606725ccd29377e38165610", func := "analemma/analemmalaw02.WideBack", spec := "wideBack", inPlace := ["math/bits.Sub64", "math/bits.Add64"], named := ["math/bits.divideError", "math/bits.overflowError"], apart := false }
def WideBackSaid : Prop := wideBackRow.holds Try.pinned (OpenSpec.ofChange wideBackSpec)

/-- ITS FALSE NEIGHBOUR: 'it returns false'. Refute it at one input. -/
def wideBackWrong : ChangeSpec := { name := "wideBack", fn := fun _ => fun
  | [d1, d2] => { results := [.lit (.bool false)], args := [d1, d2] }
  | _ => none }
def WideBackWrongFalsely : Prop := wideBackRow.holds Try.pinned (OpenSpec.ofChange wideBackWrong)

/-- 'analemmalaw03.DivideBys': WHATEVER THE INPUT: true; the input reads as it did. -/
def divideBysSpec : ChangeSpec := { name := "divideBys", fn := fun _ => fun
  | [d1, d2] => { results := [.lit (.bool true)], args := [d1, d2] }
  | _ => none }
def divideBysRow : OpenClaim := { program := "ytmkddcmfofabbaa", sum := "99924a710db5b62fcd0cdf3acec33d8823b58eeb9606725ccd29377e38165610", func := "analemma/analemmalaw03.DivideBys", spec := "divideBys", inPlace := ["math/bits.Sub64", "math/bits.Add64"], unfollowed := true, recurses := true, named := ["math/bits.divideError", "math/bits.overflowError"], apart := false }
def DivideBysSaid : Prop := divideBysRow.holds Try.pinned (OpenSpec.ofChange divideBysSpec)

/-- ITS FALSE NEIGHBOUR: 'it returns false'. Refute it at one input. -/
def divideBysWrong : ChangeSpec := { name := "divideBys", fn := fun _ => fun
  | [d1, d2] => { results := [.lit (.bool false)], args := [d1, d2] }
  | _ => none }
def DivideBysWrongFalsely : Prop := divideBysRow.holds Try.pinned (OpenSpec.ofChange divideBysWrong)

/-- 'analemmalaw03.DivideRests': WHATEVER THE INPUT: true; the input reads as it did. -/
def divideRestsSpec : ChangeSpec := { name := "divideRests", fn := fun _ => fun
  | [d1, d2] => { results := [.lit (.bool true)], args := [d1, d2] }
  | _ => none }
def divideRestsRow : OpenClaim := { program := "ytmkddcmfofabbaa", sum := "99924a710db5b62fcd0cdf3acec33d8823b58eeb9606725ccd29377e38165610", func := "analemma/analemmalaw03.DivideRests", spec := "divideRests", inPlace := ["math/bits.Sub64", "math/bits.Add64"], unfollowed := true, recurses := true, named := ["math/bits.divideError", "math/bits.overflowError"], apart := false }
def DivideRestsSaid : Prop := divideRestsRow.holds Try.pinned (OpenSpec.ofChange divideRestsSpec)

/-- ITS FALSE NEIGHBOUR: 'it returns false'. Refute it at one input. -/
def divideRestsWrong : ChangeSpec := { name := "divideRests", fn := fun _ => fun
  | [d1, d2] => { results := [.lit (.bool false)], args := [d1, d2] }
  | _ => none }
def DivideRestsWrongFalsely : Prop := divideRestsRow.holds Try.pinned (OpenSpec.ofChange divideRestsWrong)

/-- 'analemmalaw03.DivideFractions': WHATEVER THE INPUT: true; the input reads as it did. -/
def divideFractionsSpec : ChangeSpec := { name := "divideFractions", fn := fun _ => fun
  | [d1, d2] => { results := [.lit (.bool true)], args := [d1, d2] }
  | _ => none }
def divideFractionsRow : OpenClaim := { program := "ytmkddcmfofabbaa", sum := "99924a710db5b62fcd0cdf3acec33d8823b58eeb9606725ccd29377e38165610", func := "analemma/analemmalaw03.DivideFractions", spec := "divideFractions", inPlace := ["math/bits.Sub64", "math/bits.Add64"], unfollowed := true, recurses := true, named := ["math/bits.divideError", "math/bits.overflowError"], apart := false }
def DivideFractionsSaid : Prop := divideFractionsRow.holds Try.pinned (OpenSpec.ofChange divideFractionsSpec)

/-- ITS FALSE NEIGHBOUR: 'it returns false'. Refute it at one input. -/
def divideFractionsWrong : ChangeSpec := { name := "divideFractions", fn := fun _ => fun
  | [d1, d2] => { results := [.lit (.bool false)], args := [d1, d2] }
  | _ => none }
def DivideFractionsWrongFalsely : Prop := divideFractionsRow.holds Try.pinned (OpenSpec.ofChange divideFractionsWrong)

/-- 'analemmalaw03.DivideLowest': WHATEVER THE INPUT: true; the input reads as it did. -/
def divideLowestSpec : ChangeSpec := { name := "divideLowest", fn := fun _ => fun
  | [d1, d2] => { results := [.lit (.bool true)], args := [d1, d2] }
  | _ => none }
def divideLowestRow : OpenClaim := { program := "ytmkddcmfofabbaa", sum := "99924a710db5b62fcd0cdf3acec33d8823b58eeb9606725ccd29377e38165610", func := "analemma/analemmalaw03.DivideLowest", spec := "divideLowest", inPlace := ["math/bits.Sub64", "math/bits.Add64"], unfollowed := true, recurses := true, named := ["math/bits.divideError", "math/bits.overflowError"], apart := false }
def DivideLowestSaid : Prop := divideLowestRow.holds Try.pinned (OpenSpec.ofChange divideLowestSpec)

/-- ITS FALSE NEIGHBOUR: 'it returns false'. Refute it at one input. -/
def divideLowestWrong : ChangeSpec := { name := "divideLowest", fn := fun _ => fun
  | [d1, d2] => { results := [.lit (.bool false)], args := [d1, d2] }
  | _ => none }
def DivideLowestWrongFalsely : Prop := divideLowestRow.holds Try.pinned (OpenSpec.ofChange divideLowestWrong)

/-- 'analemmalaw06.ClockCounts': WHATEVER THE INPUT: true; the input reads as it did. -/
def clockCountsSpec : ChangeSpec := { name := "clockCounts", fn := fun _ => fun
  | [d1, d2] => { results := [.lit (.bool true)], args := [d1, d2] }
  | _ => none }
def clockCountsRow : OpenClaim := { program := "ytmkddcmfofabbaa", sum := "99924a710db5b62fcd0cdf3acec33d8823b58eeb9606725ccd29377e38165610", func := "analemma/analemmalaw06.ClockCounts", spec := "clockCounts", inPlace := ["math/bits.Sub64", "math/bits.Add64"], unfollowed := true, recurses := true, named := ["math/bits.divideError", "math/bits.overflowError"], apart := false }
def ClockCountsSaid : Prop := clockCountsRow.holds Try.pinned (OpenSpec.ofChange clockCountsSpec)

/-- ITS FALSE NEIGHBOUR: 'it returns false'. Refute it at one input. -/
def clockCountsWrong : ChangeSpec := { name := "clockCounts", fn := fun _ => fun
  | [d1, d2] => { results := [.lit (.bool false)], args := [d1, d2] }
  | _ => none }
def ClockCountsWrongFalsely : Prop := clockCountsRow.holds Try.pinned (OpenSpec.ofChange clockCountsWrong)

/-- 'analemmalaw06.ClockAdds': WHATEVER THE INPUT: true; the input reads as it did. -/
def clockAddsSpec : ChangeSpec := { name := "clockAdds", fn := fun _ => fun
  | [d1, d2] => { results := [.lit (.bool true)], args := [d1, d2] }
  | _ => none }
def clockAddsRow : OpenClaim := { program := "ytmkddcmfofabbaa", sum := "99924a710db5b62fcd0cdf3acec33d8823b58eeb9606725ccd29377e38165610", func := "analemma/analemmalaw06.ClockAdds", spec := "clockAdds", inPlace := ["math/bits.Sub64", "math/bits.Add64"], unfollowed := true, recurses := true, named := ["math/bits.divideError", "math/bits.overflowError"], apart := false }
def ClockAddsSaid : Prop := clockAddsRow.holds Try.pinned (OpenSpec.ofChange clockAddsSpec)

/-- ITS FALSE NEIGHBOUR: 'it returns false'. Refute it at one input. -/
def clockAddsWrong : ChangeSpec := { name := "clockAdds", fn := fun _ => fun
  | [d1, d2] => { results := [.lit (.bool false)], args := [d1, d2] }
  | _ => none }
def ClockAddsWrongFalsely : Prop := clockAddsRow.holds Try.pinned (OpenSpec.ofChange clockAddsWrong)

/-- 'analemmalaw06.ClockBack': WHATEVER THE INPUT: true; the input reads as it did. -/
def clockBackSpec : ChangeSpec := { name := "clockBack", fn := fun _ => fun
  | [d1, d2] => { results := [.lit (.bool true)], args := [d1, d2] }
  | _ => none }
def clockBackRow : OpenClaim := { program := "ytmkddcmfofabbaa", sum := "99924a710db5b62fcd0cdf3acec33d8823b58eeb9606725ccd29377e38165610", func := "analemma/analemmalaw06.ClockBack", spec := "clockBack", inPlace := ["math/bits.Sub64", "math/bits.Add64"], unfollowed := true, recurses := true, named := ["math/bits.divideError", "math/bits.overflowError"], apart := false }
def ClockBackSaid : Prop := clockBackRow.holds Try.pinned (OpenSpec.ofChange clockBackSpec)

/-- ITS FALSE NEIGHBOUR: 'it returns false'. Refute it at one input. -/
def clockBackWrong : ChangeSpec := { name := "clockBack", fn := fun _ => fun
  | [d1, d2] => { results := [.lit (.bool false)], args := [d1, d2] }
  | _ => none }
def ClockBackWrongFalsely : Prop := clockBackRow.holds Try.pinned (OpenSpec.ofChange clockBackWrong)

/-- 'analemmalaw06.ClockRegulates': WHATEVER THE INPUT: true; the input reads as it did. -/
def clockRegulatesSpec : ChangeSpec := { name := "clockRegulates", fn := fun _ => fun
  | [d1, d2] => { results := [.lit (.bool true)], args := [d1, d2] }
  | _ => none }
def clockRegulatesRow : OpenClaim := { program := "ytmkddcmfofabbaa", sum := "99924a710db5b62fcd0cdf3acec33d8823b58eeb9606725ccd29377e38165610", func := "analemma/analemmalaw06.ClockRegulates", spec := "clockRegulates", inPlace := ["math/bits.Sub64", "math/bits.Add64"], unfollowed := true, recurses := true, named := ["math/bits.divideError", "math/bits.overflowError"], apart := false }
def ClockRegulatesSaid : Prop := clockRegulatesRow.holds Try.pinned (OpenSpec.ofChange clockRegulatesSpec)

/-- ITS FALSE NEIGHBOUR: 'it returns false'. Refute it at one input. -/
def clockRegulatesWrong : ChangeSpec := { name := "clockRegulates", fn := fun _ => fun
  | [d1, d2] => { results := [.lit (.bool false)], args := [d1, d2] }
  | _ => none }
def ClockRegulatesWrongFalsely : Prop := clockRegulatesRow.holds Try.pinned (OpenSpec.ofChange clockRegulatesWrong)

/-- 'analemmalaw06.ClockOrders': WHATEVER THE INPUT: true; the input reads as it did. -/
def clockOrdersSpec : ChangeSpec := { name := "clockOrders", fn := fun _ => fun
  | [d1, d2] => { results := [.lit (.bool true)], args := [d1, d2] }
  | _ => none }
def clockOrdersRow : OpenClaim := { program := "ytmkddcmfofabbaa", sum := "99924a710db5b62fcd0cdf3acec33d8823b58eeb9606725ccd29377e38165610", func := "analemma/analemmalaw06.ClockOrders", spec := "clockOrders", inPlace := ["math/bits.Sub64", "math/bits.Add64"], unfollowed := true, recurses := true, named := ["math/bits.divideError", "math/bits.overflowError"], apart := false }
def ClockOrdersSaid : Prop := clockOrdersRow.holds Try.pinned (OpenSpec.ofChange clockOrdersSpec)

/-- ITS FALSE NEIGHBOUR: 'it returns false'. Refute it at one input. -/
def clockOrdersWrong : ChangeSpec := { name := "clockOrders", fn := fun _ => fun
  | [d1, d2] => { results := [.lit (.bool false)], args := [d1, d2] }
  | _ => none }
def ClockOrdersWrongFalsely : Prop := clockOrdersRow.holds Try.pinned (OpenSpec.ofChange clockOrdersWrong)

/-- 'analemmalaw04.RoundTos': WHATEVER THE INPUT: true; the input reads as it did. -/
def roundTosSpec : ChangeSpec := { name := "roundTos", fn := fun _ => fun
  | [d1, d2, d3] => { results := [.lit (.bool true)], args := [d1, d2, d3] }
  | _ => none }
def roundTosRow : OpenClaim := { program := "ytmkddcmfofabbaa", sum := "99924a710db5b62fcd0cdf3acec33d8823b58eeb9606725ccd29377e38165610", func := "analemma/analemmalaw04.RoundTos", spec := "roundTos", inPlace := ["math/bits.Sub64", "math/bits.Add64"], unfollowed := true, recurses := true, named := ["math/bits.divideError", "math/bits.overflowError"], apart := false }
def RoundTosSaid : Prop := roundTosRow.holds Try.pinned (OpenSpec.ofChange roundTosSpec)

/-- ITS FALSE NEIGHBOUR: 'it returns false'. Refute it at one input. -/
def roundTosWrong : ChangeSpec := { name := "roundTos", fn := fun _ => fun
  | [d1, d2, d3] => { results := [.lit (.bool false)], args := [d1, d2, d3] }
  | _ => none }
def RoundTosWrongFalsely : Prop := roundTosRow.holds Try.pinned (OpenSpec.ofChange roundTosWrong)

/-- 'analemmalaw04.RoundRatios': WHATEVER THE INPUT: true; the input reads as it did. -/
def roundRatiosSpec : ChangeSpec := { name := "roundRatios", fn := fun _ => fun
  | [d1, d2, d3] => { results := [.lit (.bool true)], args := [d1, d2, d3] }
  | _ => none }
def roundRatiosRow : OpenClaim := { program := "ytmkddcmfofabbaa", sum := "99924a710db5b62fcd0cdf3acec33d8823b58eeb9606725ccd29377e38165610", func := "analemma/analemmalaw04.RoundRatios", spec := "roundRatios", inPlace := ["math/bits.Sub64", "math/bits.Add64"], unfollowed := true, recurses := true, named := ["math/bits.divideError", "math/bits.overflowError"], apart := false }
def RoundRatiosSaid : Prop := roundRatiosRow.holds Try.pinned (OpenSpec.ofChange roundRatiosSpec)

/-- ITS FALSE NEIGHBOUR: 'it returns false'. Refute it at one input. -/
def roundRatiosWrong : ChangeSpec := { name := "roundRatios", fn := fun _ => fun
  | [d1, d2, d3] => { results := [.lit (.bool false)], args := [d1, d2, d3] }
  | _ => none }
def RoundRatiosWrongFalsely : Prop := roundRatiosRow.holds Try.pinned (OpenSpec.ofChange roundRatiosWrong)

/-- 'analemmalaw04.RoundAll': WHATEVER THE INPUT: true; the input reads as it did. -/
def roundAllSpec : ChangeSpec := { name := "roundAll", fn := fun _ => fun
  | [d1, d2, d3] => { results := [.lit (.bool true)], args := [d1, d2, d3] }
  | _ => none }
def roundAllRow : OpenClaim := { program := "ytmkddcmfofabbaa", sum := "99924a710db5b62fcd0cdf3acec33d8823b58eeb9606725ccd29377e38165610", func := "analemma/analemmalaw04.RoundAll", spec := "roundAll", inPlace := ["math/bits.Sub64", "math/bits.Add64"], unfollowed := true, recurses := true, named := ["math/bits.divideError", "math/bits.overflowError"], apart := false }
def RoundAllSaid : Prop := roundAllRow.holds Try.pinned (OpenSpec.ofChange roundAllSpec)

/-- ITS FALSE NEIGHBOUR: 'it returns false'. Refute it at one input. -/
def roundAllWrong : ChangeSpec := { name := "roundAll", fn := fun _ => fun
  | [d1, d2, d3] => { results := [.lit (.bool false)], args := [d1, d2, d3] }
  | _ => none }
def RoundAllWrongFalsely : Prop := roundAllRow.holds Try.pinned (OpenSpec.ofChange roundAllWrong)

/-- 'analemmalaw04.RoundMirrors': WHATEVER THE INPUT: true; the input reads as it did. -/
def roundMirrorsSpec : ChangeSpec := { name := "roundMirrors", fn := fun _ => fun
  | [d1, d2, d3] => { results := [.lit (.bool true)], args := [d1, d2, d3] }
  | _ => none }
def roundMirrorsRow : OpenClaim := { program := "ytmkddcmfofabbaa", sum := "99924a710db5b62fcd0cdf3acec33d8823b58eeb9606725ccd29377e38165610", func := "analemma/analemmalaw04.RoundMirrors", spec := "roundMirrors", inPlace := ["math/bits.Sub64", "math/bits.Add64"], unfollowed := true, recurses := true, named := ["math/bits.divideError", "math/bits.overflowError"], apart := false }
def RoundMirrorsSaid : Prop := roundMirrorsRow.holds Try.pinned (OpenSpec.ofChange roundMirrorsSpec)

/-- ITS FALSE NEIGHBOUR: 'it returns false'. Refute it at one input. -/
def roundMirrorsWrong : ChangeSpec := { name := "roundMirrors", fn := fun _ => fun
  | [d1, d2, d3] => { results := [.lit (.bool false)], args := [d1, d2, d3] }
  | _ => none }
def RoundMirrorsWrongFalsely : Prop := roundMirrorsRow.holds Try.pinned (OpenSpec.ofChange roundMirrorsWrong)

/-- 'analemmalaw04.RoundNear': WHATEVER THE INPUT: true; the input reads as it did. -/
def roundNearSpec : ChangeSpec := { name := "roundNear", fn := fun _ => fun
  | [d1, d2, d3] => { results := [.lit (.bool true)], args := [d1, d2, d3] }
  | _ => none }
def roundNearRow : OpenClaim := { program := "ytmkddcmfofabbaa", sum := "99924a710db5b62fcd0cdf3acec33d8823b58eeb9606725ccd29377e38165610", func := "analemma/analemmalaw04.RoundNear", spec := "roundNear", inPlace := ["math/bits.Sub64", "math/bits.Add64"], unfollowed := true, recurses := true, named := ["math/bits.divideError", "math/bits.overflowError"], apart := false }
def RoundNearSaid : Prop := roundNearRow.holds Try.pinned (OpenSpec.ofChange roundNearSpec)

/-- ITS FALSE NEIGHBOUR: 'it returns false'. Refute it at one input. -/
def roundNearWrong : ChangeSpec := { name := "roundNear", fn := fun _ => fun
  | [d1, d2, d3] => { results := [.lit (.bool false)], args := [d1, d2, d3] }
  | _ => none }
def RoundNearWrongFalsely : Prop := roundNearRow.holds Try.pinned (OpenSpec.ofChange roundNearWrong)

/-- 'analemmalaw04.RoundRises': WHATEVER THE INPUT: true; the input reads as it did. -/
def roundRisesSpec : ChangeSpec := { name := "roundRises", fn := fun _ => fun
  | [d1, d2, d3, d4] => { results := [.lit (.bool true)], args := [d1, d2, d3, d4] }
  | _ => none }
def roundRisesRow : OpenClaim := { program := "ytmkddcmfofabbaa", sum := "99924a710db5b62fcd0cdf3acec33d8823b58eeb9606725ccd29377e38165610", func := "analemma/analemmalaw04.RoundRises", spec := "roundRises", inPlace := ["math/bits.Sub64", "math/bits.Add64"], unfollowed := true, recurses := true, named := ["math/bits.divideError", "math/bits.overflowError"], apart := false }
def RoundRisesSaid : Prop := roundRisesRow.holds Try.pinned (OpenSpec.ofChange roundRisesSpec)

/-- ITS FALSE NEIGHBOUR: 'it returns false'. Refute it at one input. -/
def roundRisesWrong : ChangeSpec := { name := "roundRises", fn := fun _ => fun
  | [d1, d2, d3, d4] => { results := [.lit (.bool false)], args := [d1, d2, d3, d4] }
  | _ => none }
def RoundRisesWrongFalsely : Prop := roundRisesRow.holds Try.pinned (OpenSpec.ofChange roundRisesWrong)

/-- 'analemmalaw06.ClockRounds': WHATEVER THE INPUT: true; the input reads as it did. -/
def clockRoundsSpec : ChangeSpec := { name := "clockRounds", fn := fun _ => fun
  | [d1, d2, d3, d4] => { results := [.lit (.bool true)], args := [d1, d2, d3, d4] }
  | _ => none }
def clockRoundsRow : OpenClaim := { program := "ytmkddcmfofabbaa", sum := "99924a710db5b62fcd0cdf3acec33d8823b58eeb9606725ccd29377e38165610", func := "analemma/analemmalaw06.ClockRounds", spec := "clockRounds", inPlace := ["math/bits.Sub64", "math/bits.Add64"], unfollowed := true, recurses := true, named := ["math/bits.divideError", "math/bits.overflowError"], apart := false }
def ClockRoundsSaid : Prop := clockRoundsRow.holds Try.pinned (OpenSpec.ofChange clockRoundsSpec)

/-- ITS FALSE NEIGHBOUR: 'it returns false'. Refute it at one input. -/
def clockRoundsWrong : ChangeSpec := { name := "clockRounds", fn := fun _ => fun
  | [d1, d2, d3, d4] => { results := [.lit (.bool false)], args := [d1, d2, d3, d4] }
  | _ => none }
def ClockRoundsWrongFalsely : Prop := clockRoundsRow.holds Try.pinned (OpenSpec.ofChange clockRoundsWrong)

/- THE SECOND FORM. 'bulk': how many values and letters a reading holds, each counted each time it is reached (what is shared counts as often as it is met; a slice's spare places count too). A statement '..UptoSaid' is the law's where the arguments, and the package variables that the reading takes, are together of bulk at most 1048576: NARROWER than '..Said'. Prove '..Said' where nothing that the law and all that it calls make is longer than what came in: it says more and counts as full. Else prove '..UptoSaid'. A law counts once. -/
mutual
def uptoBulk {H : Type} : DataW H → Nat
  | .lit (.string bytes) => bytes.length + 1
  | .lit _ => 1
  | .nil => 1
  | .ptr d => uptoBulk d + 1
  | .slice elems spare => uptoBulkAll elems + uptoBulkAll spare + 1
  | .agg parts => uptoBulkAll parts + 1
  | .iface _ d => uptoBulk d + 1
  | .map entries => uptoBulkEntries entries + 1
  | .held _ => 1
def uptoBulkAll {H : Type} : List (DataW H) → Nat
  | [] => 0
  | d :: r => uptoBulk d + uptoBulkAll r
def uptoBulkEntries {H : Type} : List (Lit × DataW H) → Nat
  | [] => 0
  | x :: r => uptoBulkEntry x + uptoBulkEntries r
def uptoBulkEntry {H : Type} : Lit × DataW H → Nat
  | (.string bytes, d) => bytes.length + uptoBulk d + 1
  | (_, d) => uptoBulk d + 1
 end
def uptoSmall : (H : Type) → List (DataW H) → Bool := fun _ ds => decide (uptoBulkAll ds ≤ 1048576)
def OpenSpec.upto (s : _root_.Go.ChangeSpec) : _root_.Go.OpenSpec := { _root_.Go.OpenSpec.ofChange s with cond := some uptoSmall }

/-- 'analemmalaw02.WideHands', WHERE WHAT IT READS IS OF BULK AT MOST 1048576: true; the input reads as it did. -/
def wideHandsUptoRow : OpenClaim := { program := "ytmkddcmfofabbaa", sum := "99924a710db5b62fcd0cdf3acec33d8823b58eeb9606725ccd29377e38165610", func := "analemma/analemmalaw02.WideHands", spec := "wideHands", inPlace := ["math/bits.Sub64"], named := ["math/bits.divideError", "math/bits.overflowError"], apart := false, narrowed := true }
def WideHandsUptoSaid : Prop := wideHandsUptoRow.holds Try.pinned (OpenSpec.upto wideHandsSpec)

/-- 'analemmalaw02.WideInts', WHERE WHAT IT READS IS OF BULK AT MOST 1048576: true; the input reads as it did. -/
def wideIntsUptoRow : OpenClaim := { program := "ytmkddcmfofabbaa", sum := "99924a710db5b62fcd0cdf3acec33d8823b58eeb9606725ccd29377e38165610", func := "analemma/analemmalaw02.WideInts", spec := "wideInts", inPlace := ["math/bits.Sub64"], named := ["math/bits.divideError", "math/bits.overflowError"], apart := false, narrowed := true }
def WideIntsUptoSaid : Prop := wideIntsUptoRow.holds Try.pinned (OpenSpec.upto wideIntsSpec)

/-- 'analemmalaw02.WideProducts', WHERE WHAT IT READS IS OF BULK AT MOST 1048576: true; the input reads as it did. -/
def wideProductsUptoRow : OpenClaim := { program := "ytmkddcmfofabbaa", sum := "99924a710db5b62fcd0cdf3acec33d8823b58eeb9606725ccd29377e38165610", func := "analemma/analemmalaw02.WideProducts", spec := "wideProducts", inPlace := ["math/bits.Sub64", "math/bits.Add64"], named := ["math/bits.divideError", "math/bits.overflowError"], apart := false, narrowed := true }
def WideProductsUptoSaid : Prop := wideProductsUptoRow.holds Try.pinned (OpenSpec.upto wideProductsSpec)

/-- 'analemmalaw02.WideSums', WHERE WHAT IT READS IS OF BULK AT MOST 1048576: true; the input reads as it did. -/
def wideSumsUptoRow : OpenClaim := { program := "ytmkddcmfofabbaa", sum := "99924a710db5b62fcd0cdf3acec33d8823b58eeb9606725ccd29377e38165610", func := "analemma/analemmalaw02.WideSums", spec := "wideSums", inPlace := ["math/bits.Add64", "math/bits.Sub64"], named := ["math/bits.divideError", "math/bits.overflowError"], apart := false, narrowed := true }
def WideSumsUptoSaid : Prop := wideSumsUptoRow.holds Try.pinned (OpenSpec.upto wideSumsSpec)

/-- 'analemmalaw02.WideSum', WHERE WHAT IT READS IS OF BULK AT MOST 1048576: true; the input reads as it did. -/
def wideSumUptoRow : OpenClaim := { program := "ytmkddcmfofabbaa", sum := "99924a710db5b62fcd0cdf3acec33d8823b58eeb9606725ccd29377e38165610", func := "analemma/analemmalaw02.WideSum", spec := "wideSum", inPlace := ["math/bits.Sub64", "math/bits.Add64"], named := ["math/bits.divideError", "math/bits.overflowError"], apart := false, narrowed := true }
def WideSumUptoSaid : Prop := wideSumUptoRow.holds Try.pinned (OpenSpec.upto wideSumSpec)

/-- 'analemmalaw02.WideTexts', WHERE WHAT IT READS IS OF BULK AT MOST 1048576: true; the input reads as it did. -/
def wideTextsUptoRow : OpenClaim := { program := "ytmkddcmfofabbaa", sum := "99924a710db5b62fcd0cdf3acec33d8823b58eeb9606725ccd29377e38165610", func := "analemma/analemmalaw02.WideTexts", spec := "wideTexts", inPlace := ["math/bits.Add64", "math/bits.Sub64"], recurses := true, named := ["math/bits.divideError", "math/bits.overflowError"], apart := false, narrowed := true }
def WideTextsUptoSaid : Prop := wideTextsUptoRow.holds Try.pinned (OpenSpec.upto wideTextsSpec)

/-- 'analemmalaw03.DivideFloors', WHERE WHAT IT READS IS OF BULK AT MOST 1048576: true; the input reads as it did. -/
def divideFloorsUptoRow : OpenClaim := { program := "ytmkddcmfofabbaa", sum := "99924a710db5b62fcd0cdf3acec33d8823b58eeb9606725ccd29377e38165610", func := "analemma/analemmalaw03.DivideFloors", spec := "divideFloors", inPlace := ["math/bits.Sub64", "math/bits.Add64"], unfollowed := true, recurses := true, named := ["math/bits.divideError", "math/bits.overflowError"], apart := false, narrowed := true }
def DivideFloorsUptoSaid : Prop := divideFloorsUptoRow.holds Try.pinned (OpenSpec.upto divideFloorsSpec)

/-- 'analemmalaw03.DivideTruncs', WHERE WHAT IT READS IS OF BULK AT MOST 1048576: true; the input reads as it did. -/
def divideTruncsUptoRow : OpenClaim := { program := "ytmkddcmfofabbaa", sum := "99924a710db5b62fcd0cdf3acec33d8823b58eeb9606725ccd29377e38165610", func := "analemma/analemmalaw03.DivideTruncs", spec := "divideTruncs", inPlace := ["math/bits.Sub64", "math/bits.Add64"], unfollowed := true, recurses := true, named := ["math/bits.divideError", "math/bits.overflowError"], apart := false, narrowed := true }
def DivideTruncsUptoSaid : Prop := divideTruncsUptoRow.holds Try.pinned (OpenSpec.upto divideTruncsSpec)

/-- 'analemmalaw03.DivideCommons', WHERE WHAT IT READS IS OF BULK AT MOST 1048576: true; the input reads as it did. -/
def divideCommonsUptoRow : OpenClaim := { program := "ytmkddcmfofabbaa", sum := "99924a710db5b62fcd0cdf3acec33d8823b58eeb9606725ccd29377e38165610", func := "analemma/analemmalaw03.DivideCommons", spec := "divideCommons", inPlace := ["math/bits.Sub64", "math/bits.Add64"], unfollowed := true, recurses := true, named := ["math/bits.divideError", "math/bits.overflowError"], apart := false, narrowed := true }
def DivideCommonsUptoSaid : Prop := divideCommonsUptoRow.holds Try.pinned (OpenSpec.upto divideCommonsSpec)

/-- 'analemmalaw02.WideBack', WHERE WHAT IT READS IS OF BULK AT MOST 1048576: true; the input reads as it did. -/
def wideBackUptoRow : OpenClaim := { program := "ytmkddcmfofabbaa", sum := "99924a710db5b62fcd0cdf3acec33d8823b58eeb9606725ccd29377e38165610", func := "analemma/analemmalaw02.WideBack", spec := "wideBack", inPlace := ["math/bits.Sub64", "math/bits.Add64"], named := ["math/bits.divideError", "math/bits.overflowError"], apart := false, narrowed := true }
def WideBackUptoSaid : Prop := wideBackUptoRow.holds Try.pinned (OpenSpec.upto wideBackSpec)

/-- 'analemmalaw03.DivideBys', WHERE WHAT IT READS IS OF BULK AT MOST 1048576: true; the input reads as it did. -/
def divideBysUptoRow : OpenClaim := { program := "ytmkddcmfofabbaa", sum := "99924a710db5b62fcd0cdf3acec33d8823b58eeb9606725ccd29377e38165610", func := "analemma/analemmalaw03.DivideBys", spec := "divideBys", inPlace := ["math/bits.Sub64", "math/bits.Add64"], unfollowed := true, recurses := true, named := ["math/bits.divideError", "math/bits.overflowError"], apart := false, narrowed := true }
def DivideBysUptoSaid : Prop := divideBysUptoRow.holds Try.pinned (OpenSpec.upto divideBysSpec)

/-- 'analemmalaw03.DivideRests', WHERE WHAT IT READS IS OF BULK AT MOST 1048576: true; the input reads as it did. -/
def divideRestsUptoRow : OpenClaim := { program := "ytmkddcmfofabbaa", sum := "99924a710db5b62fcd0cdf3acec33d8823b58eeb9606725ccd29377e38165610", func := "analemma/analemmalaw03.DivideRests", spec := "divideRests", inPlace := ["math/bits.Sub64", "math/bits.Add64"], unfollowed := true, recurses := true, named := ["math/bits.divideError", "math/bits.overflowError"], apart := false, narrowed := true }
def DivideRestsUptoSaid : Prop := divideRestsUptoRow.holds Try.pinned (OpenSpec.upto divideRestsSpec)

/-- 'analemmalaw03.DivideFractions', WHERE WHAT IT READS IS OF BULK AT MOST 1048576: true; the input reads as it did. -/
def divideFractionsUptoRow : OpenClaim := { program := "ytmkddcmfofabbaa", sum := "99924a710db5b62fcd0cdf3acec33d8823b58eeb9606725ccd29377e38165610", func := "analemma/analemmalaw03.DivideFractions", spec := "divideFractions", inPlace := ["math/bits.Sub64", "math/bits.Add64"], unfollowed := true, recurses := true, named := ["math/bits.divideError", "math/bits.overflowError"], apart := false, narrowed := true }
def DivideFractionsUptoSaid : Prop := divideFractionsUptoRow.holds Try.pinned (OpenSpec.upto divideFractionsSpec)

/-- 'analemmalaw03.DivideLowest', WHERE WHAT IT READS IS OF BULK AT MOST 1048576: true; the input reads as it did. -/
def divideLowestUptoRow : OpenClaim := { program := "ytmkddcmfofabbaa", sum := "99924a710db5b62fcd0cdf3acec33d8823b58eeb9606725ccd29377e38165610", func := "analemma/analemmalaw03.DivideLowest", spec := "divideLowest", inPlace := ["math/bits.Sub64", "math/bits.Add64"], unfollowed := true, recurses := true, named := ["math/bits.divideError", "math/bits.overflowError"], apart := false, narrowed := true }
def DivideLowestUptoSaid : Prop := divideLowestUptoRow.holds Try.pinned (OpenSpec.upto divideLowestSpec)

/-- 'analemmalaw06.ClockCounts', WHERE WHAT IT READS IS OF BULK AT MOST 1048576: true; the input reads as it did. -/
def clockCountsUptoRow : OpenClaim := { program := "ytmkddcmfofabbaa", sum := "99924a710db5b62fcd0cdf3acec33d8823b58eeb9606725ccd29377e38165610", func := "analemma/analemmalaw06.ClockCounts", spec := "clockCounts", inPlace := ["math/bits.Sub64", "math/bits.Add64"], unfollowed := true, recurses := true, named := ["math/bits.divideError", "math/bits.overflowError"], apart := false, narrowed := true }
def ClockCountsUptoSaid : Prop := clockCountsUptoRow.holds Try.pinned (OpenSpec.upto clockCountsSpec)

/-- 'analemmalaw06.ClockAdds', WHERE WHAT IT READS IS OF BULK AT MOST 1048576: true; the input reads as it did. -/
def clockAddsUptoRow : OpenClaim := { program := "ytmkddcmfofabbaa", sum := "99924a710db5b62fcd0cdf3acec33d8823b58eeb9606725ccd29377e38165610", func := "analemma/analemmalaw06.ClockAdds", spec := "clockAdds", inPlace := ["math/bits.Sub64", "math/bits.Add64"], unfollowed := true, recurses := true, named := ["math/bits.divideError", "math/bits.overflowError"], apart := false, narrowed := true }
def ClockAddsUptoSaid : Prop := clockAddsUptoRow.holds Try.pinned (OpenSpec.upto clockAddsSpec)

/-- 'analemmalaw06.ClockBack', WHERE WHAT IT READS IS OF BULK AT MOST 1048576: true; the input reads as it did. -/
def clockBackUptoRow : OpenClaim := { program := "ytmkddcmfofabbaa", sum := "99924a710db5b62fcd0cdf3acec33d8823b58eeb9606725ccd29377e38165610", func := "analemma/analemmalaw06.ClockBack", spec := "clockBack", inPlace := ["math/bits.Sub64", "math/bits.Add64"], unfollowed := true, recurses := true, named := ["math/bits.divideError", "math/bits.overflowError"], apart := false, narrowed := true }
def ClockBackUptoSaid : Prop := clockBackUptoRow.holds Try.pinned (OpenSpec.upto clockBackSpec)

/-- 'analemmalaw06.ClockRegulates', WHERE WHAT IT READS IS OF BULK AT MOST 1048576: true; the input reads as it did. -/
def clockRegulatesUptoRow : OpenClaim := { program := "ytmkddcmfofabbaa", sum := "99924a710db5b62fcd0cdf3acec33d8823b58eeb9606725ccd29377e38165610", func := "analemma/analemmalaw06.ClockRegulates", spec := "clockRegulates", inPlace := ["math/bits.Sub64", "math/bits.Add64"], unfollowed := true, recurses := true, named := ["math/bits.divideError", "math/bits.overflowError"], apart := false, narrowed := true }
def ClockRegulatesUptoSaid : Prop := clockRegulatesUptoRow.holds Try.pinned (OpenSpec.upto clockRegulatesSpec)

/-- 'analemmalaw06.ClockOrders', WHERE WHAT IT READS IS OF BULK AT MOST 1048576: true; the input reads as it did. -/
def clockOrdersUptoRow : OpenClaim := { program := "ytmkddcmfofabbaa", sum := "99924a710db5b62fcd0cdf3acec33d8823b58eeb9606725ccd29377e38165610", func := "analemma/analemmalaw06.ClockOrders", spec := "clockOrders", inPlace := ["math/bits.Sub64", "math/bits.Add64"], unfollowed := true, recurses := true, named := ["math/bits.divideError", "math/bits.overflowError"], apart := false, narrowed := true }
def ClockOrdersUptoSaid : Prop := clockOrdersUptoRow.holds Try.pinned (OpenSpec.upto clockOrdersSpec)

/-- 'analemmalaw04.RoundTos', WHERE WHAT IT READS IS OF BULK AT MOST 1048576: true; the input reads as it did. -/
def roundTosUptoRow : OpenClaim := { program := "ytmkddcmfofabbaa", sum := "99924a710db5b62fcd0cdf3acec33d8823b58eeb9606725ccd29377e38165610", func := "analemma/analemmalaw04.RoundTos", spec := "roundTos", inPlace := ["math/bits.Sub64", "math/bits.Add64"], unfollowed := true, recurses := true, named := ["math/bits.divideError", "math/bits.overflowError"], apart := false, narrowed := true }
def RoundTosUptoSaid : Prop := roundTosUptoRow.holds Try.pinned (OpenSpec.upto roundTosSpec)

/-- 'analemmalaw04.RoundRatios', WHERE WHAT IT READS IS OF BULK AT MOST 1048576: true; the input reads as it did. -/
def roundRatiosUptoRow : OpenClaim := { program := "ytmkddcmfofabbaa", sum := "99924a710db5b62fcd0cdf3acec33d8823b58eeb9606725ccd29377e38165610", func := "analemma/analemmalaw04.RoundRatios", spec := "roundRatios", inPlace := ["math/bits.Sub64", "math/bits.Add64"], unfollowed := true, recurses := true, named := ["math/bits.divideError", "math/bits.overflowError"], apart := false, narrowed := true }
def RoundRatiosUptoSaid : Prop := roundRatiosUptoRow.holds Try.pinned (OpenSpec.upto roundRatiosSpec)

/-- 'analemmalaw04.RoundAll', WHERE WHAT IT READS IS OF BULK AT MOST 1048576: true; the input reads as it did. -/
def roundAllUptoRow : OpenClaim := { program := "ytmkddcmfofabbaa", sum := "99924a710db5b62fcd0cdf3acec33d8823b58eeb9606725ccd29377e38165610", func := "analemma/analemmalaw04.RoundAll", spec := "roundAll", inPlace := ["math/bits.Sub64", "math/bits.Add64"], unfollowed := true, recurses := true, named := ["math/bits.divideError", "math/bits.overflowError"], apart := false, narrowed := true }
def RoundAllUptoSaid : Prop := roundAllUptoRow.holds Try.pinned (OpenSpec.upto roundAllSpec)

/-- 'analemmalaw04.RoundMirrors', WHERE WHAT IT READS IS OF BULK AT MOST 1048576: true; the input reads as it did. -/
def roundMirrorsUptoRow : OpenClaim := { program := "ytmkddcmfofabbaa", sum := "99924a710db5b62fcd0cdf3acec33d8823b58eeb9606725ccd29377e38165610", func := "analemma/analemmalaw04.RoundMirrors", spec := "roundMirrors", inPlace := ["math/bits.Sub64", "math/bits.Add64"], unfollowed := true, recurses := true, named := ["math/bits.divideError", "math/bits.overflowError"], apart := false, narrowed := true }
def RoundMirrorsUptoSaid : Prop := roundMirrorsUptoRow.holds Try.pinned (OpenSpec.upto roundMirrorsSpec)

/-- 'analemmalaw04.RoundNear', WHERE WHAT IT READS IS OF BULK AT MOST 1048576: true; the input reads as it did. -/
def roundNearUptoRow : OpenClaim := { program := "ytmkddcmfofabbaa", sum := "99924a710db5b62fcd0cdf3acec33d8823b58eeb9606725ccd29377e38165610", func := "analemma/analemmalaw04.RoundNear", spec := "roundNear", inPlace := ["math/bits.Sub64", "math/bits.Add64"], unfollowed := true, recurses := true, named := ["math/bits.divideError", "math/bits.overflowError"], apart := false, narrowed := true }
def RoundNearUptoSaid : Prop := roundNearUptoRow.holds Try.pinned (OpenSpec.upto roundNearSpec)

/-- 'analemmalaw04.RoundRises', WHERE WHAT IT READS IS OF BULK AT MOST 1048576: true; the input reads as it did. -/
def roundRisesUptoRow : OpenClaim := { program := "ytmkddcmfofabbaa", sum := "99924a710db5b62fcd0cdf3acec33d8823b58eeb9606725ccd29377e38165610", func := "analemma/analemmalaw04.RoundRises", spec := "roundRises", inPlace := ["math/bits.Sub64", "math/bits.Add64"], unfollowed := true, recurses := true, named := ["math/bits.divideError", "math/bits.overflowError"], apart := false, narrowed := true }
def RoundRisesUptoSaid : Prop := roundRisesUptoRow.holds Try.pinned (OpenSpec.upto roundRisesSpec)

/-- 'analemmalaw06.ClockRounds', WHERE WHAT IT READS IS OF BULK AT MOST 1048576: true; the input reads as it did. -/
def clockRoundsUptoRow : OpenClaim := { program := "ytmkddcmfofabbaa", sum := "99924a710db5b62fcd0cdf3acec33d8823b58eeb9606725ccd29377e38165610", func := "analemma/analemmalaw06.ClockRounds", spec := "clockRounds", inPlace := ["math/bits.Sub64", "math/bits.Add64"], unfollowed := true, recurses := true, named := ["math/bits.divideError", "math/bits.overflowError"], apart := false, narrowed := true }
def ClockRoundsUptoSaid : Prop := clockRoundsUptoRow.holds Try.pinned (OpenSpec.upto clockRoundsSpec)

end Rows
end Go.Proofs.Ytmkddcmfofabbaa
