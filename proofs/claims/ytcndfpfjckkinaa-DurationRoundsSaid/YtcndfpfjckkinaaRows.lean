/-
  No cell of these rows narrows 'for every input' (looked for: loops, veiled, ifaces, maps, wideKeys, modest, calm, conditions, laid).
  DERIVED. THE GIVEN ROWS OF THIS SEAT. 23 by the template 'for every input the law returns true; each argument reads behind the call as it read before'; 0 by the template 'total and deterministic' (their statements: YtcndfpfjckkinaaTotals.lean).
  GIVEN WITH THE SEED: the statements are not yours to turn. If you find one false, say at which input.
  Laid BY PROGRAM, IN A SANDBOX (cutbox-rows.mjs): the forced cells as the released guide's own fill.sh prints them over the translation 6c62bdff64a6ca57… (all of the seat's roots in one cut). By AI agents, Wed Nov 11 2026. No macro, syntax, notation, axiom, sorry.
-/
import Derived.Test.YtcndfpfjckkinaaChecked
import GoSem.Claim
import GoSem.ClaimJoined
import GoSem.ClaimMapViews
import Derived.JoinedTies
import Derived.KernelRfl
namespace Go.Proofs.Ytcndfpfjckkinaa
/- THE CELL 'sum', in the pinned program and in every row, IS THE sha256 OF THE DUMP (.gsa) THAT YtcndfpfjckkinaaProg.lean LOADS. Nothing in Lean hashes anything: it is a label: what it is worth is what the hold of that sum in a sandbox is worth. -/
noncomputable def Try.pinned : Pinned := { name := "ytcndfpfjckkinaa", sum := "6c62bdff64a6ca57f21f1b05293026ab540d2be4210e825d9164729202898146", checked := Try.checked }
namespace Rows
def none {H : Type} : Left H := { results := [], args := [] }

/-- 'analemmalaw06.ClockRounds': WHATEVER THE INPUT: true; the input reads as it did. -/
def clockRoundsSpec : ChangeSpec := { name := "clockRounds", fn := fun _ => fun
  | [d1, d2, d3, d4] => { results := [.lit (.bool true)], args := [d1, d2, d3, d4] }
  | _ => none }
def clockRoundsRow : OpenClaim := { program := "ytcndfpfjckkinaa", sum := "6c62bdff64a6ca57f21f1b05293026ab540d2be4210e825d9164729202898146", func := "analemma/analemmalaw06.ClockRounds", spec := "clockRounds", inPlace := ["math/bits.Sub64", "math/bits.Add64"], unfollowed := true, recurses := true, named := ["math/bits.divideError", "math/bits.overflowError"], apart := false }
def ClockRoundsSaid : Prop := clockRoundsRow.holds Try.pinned (OpenSpec.ofChange clockRoundsSpec)

/-- ITS FALSE NEIGHBOUR: 'it returns false'. Refute it at one input. -/
def clockRoundsWrong : ChangeSpec := { name := "clockRounds", fn := fun _ => fun
  | [d1, d2, d3, d4] => { results := [.lit (.bool false)], args := [d1, d2, d3, d4] }
  | _ => none }
def ClockRoundsWrongFalsely : Prop := clockRoundsRow.holds Try.pinned (OpenSpec.ofChange clockRoundsWrong)

/-- 'analemmalaw07.PlainCounts': WHATEVER THE INPUT: true; the input reads as it did. -/
def plainCountsSpec : ChangeSpec := { name := "plainCounts", fn := fun _ => fun
  | [d1, d2] => { results := [.lit (.bool true)], args := [d1, d2] }
  | _ => none }
def plainCountsRow : OpenClaim := { program := "ytcndfpfjckkinaa", sum := "6c62bdff64a6ca57f21f1b05293026ab540d2be4210e825d9164729202898146", func := "analemma/analemmalaw07.PlainCounts", spec := "plainCounts", inPlace := ["math/bits.Sub64", "math/bits.Add64"], unfollowed := true, recurses := true, named := ["math/bits.divideError", "math/bits.overflowError"], apart := false }
def PlainCountsSaid : Prop := plainCountsRow.holds Try.pinned (OpenSpec.ofChange plainCountsSpec)

/-- ITS FALSE NEIGHBOUR: 'it returns false'. Refute it at one input. -/
def plainCountsWrong : ChangeSpec := { name := "plainCounts", fn := fun _ => fun
  | [d1, d2] => { results := [.lit (.bool false)], args := [d1, d2] }
  | _ => none }
def PlainCountsWrongFalsely : Prop := plainCountsRow.holds Try.pinned (OpenSpec.ofChange plainCountsWrong)

/-- 'analemmalaw07.PlainAdds': WHATEVER THE INPUT: true; the input reads as it did. -/
def plainAddsSpec : ChangeSpec := { name := "plainAdds", fn := fun _ => fun
  | [d1, d2] => { results := [.lit (.bool true)], args := [d1, d2] }
  | _ => none }
def plainAddsRow : OpenClaim := { program := "ytcndfpfjckkinaa", sum := "6c62bdff64a6ca57f21f1b05293026ab540d2be4210e825d9164729202898146", func := "analemma/analemmalaw07.PlainAdds", spec := "plainAdds", inPlace := ["math/bits.Sub64", "math/bits.Add64"], unfollowed := true, recurses := true, named := ["math/bits.divideError", "math/bits.overflowError"], apart := false }
def PlainAddsSaid : Prop := plainAddsRow.holds Try.pinned (OpenSpec.ofChange plainAddsSpec)

/-- ITS FALSE NEIGHBOUR: 'it returns false'. Refute it at one input. -/
def plainAddsWrong : ChangeSpec := { name := "plainAdds", fn := fun _ => fun
  | [d1, d2] => { results := [.lit (.bool false)], args := [d1, d2] }
  | _ => none }
def PlainAddsWrongFalsely : Prop := plainAddsRow.holds Try.pinned (OpenSpec.ofChange plainAddsWrong)

/-- 'analemmalaw07.PlainBetween': WHATEVER THE INPUT: true; the input reads as it did. -/
def plainBetweenSpec : ChangeSpec := { name := "plainBetween", fn := fun _ => fun
  | [d1, d2] => { results := [.lit (.bool true)], args := [d1, d2] }
  | _ => none }
def plainBetweenRow : OpenClaim := { program := "ytcndfpfjckkinaa", sum := "6c62bdff64a6ca57f21f1b05293026ab540d2be4210e825d9164729202898146", func := "analemma/analemmalaw07.PlainBetween", spec := "plainBetween", inPlace := ["math/bits.Sub64", "math/bits.Add64"], unfollowed := true, recurses := true, named := ["math/bits.divideError", "math/bits.overflowError"], apart := false }
def PlainBetweenSaid : Prop := plainBetweenRow.holds Try.pinned (OpenSpec.ofChange plainBetweenSpec)

/-- ITS FALSE NEIGHBOUR: 'it returns false'. Refute it at one input. -/
def plainBetweenWrong : ChangeSpec := { name := "plainBetween", fn := fun _ => fun
  | [d1, d2] => { results := [.lit (.bool false)], args := [d1, d2] }
  | _ => none }
def PlainBetweenWrongFalsely : Prop := plainBetweenRow.holds Try.pinned (OpenSpec.ofChange plainBetweenWrong)

/-- 'analemmalaw07.PlainOrders': WHATEVER THE INPUT: true; the input reads as it did. -/
def plainOrdersSpec : ChangeSpec := { name := "plainOrders", fn := fun _ => fun
  | [d1, d2, d3] => { results := [.lit (.bool true)], args := [d1, d2, d3] }
  | _ => none }
def plainOrdersRow : OpenClaim := { program := "ytcndfpfjckkinaa", sum := "6c62bdff64a6ca57f21f1b05293026ab540d2be4210e825d9164729202898146", func := "analemma/analemmalaw07.PlainOrders", spec := "plainOrders", inPlace := ["math/bits.Sub64", "math/bits.Add64"], unfollowed := true, recurses := true, named := ["math/bits.divideError", "math/bits.overflowError"], apart := false }
def PlainOrdersSaid : Prop := plainOrdersRow.holds Try.pinned (OpenSpec.ofChange plainOrdersSpec)

/-- ITS FALSE NEIGHBOUR: 'it returns false'. Refute it at one input. -/
def plainOrdersWrong : ChangeSpec := { name := "plainOrders", fn := fun _ => fun
  | [d1, d2, d3] => { results := [.lit (.bool false)], args := [d1, d2, d3] }
  | _ => none }
def PlainOrdersWrongFalsely : Prop := plainOrdersRow.holds Try.pinned (OpenSpec.ofChange plainOrdersWrong)

/-- 'analemmalaw07.PlainRounds': WHATEVER THE INPUT: true; the input reads as it did. -/
def plainRoundsSpec : ChangeSpec := { name := "plainRounds", fn := fun _ => fun
  | [d1, d2, d3] => { results := [.lit (.bool true)], args := [d1, d2, d3] }
  | _ => none }
def plainRoundsRow : OpenClaim := { program := "ytcndfpfjckkinaa", sum := "6c62bdff64a6ca57f21f1b05293026ab540d2be4210e825d9164729202898146", func := "analemma/analemmalaw07.PlainRounds", spec := "plainRounds", inPlace := ["math/bits.Sub64", "math/bits.Add64"], unfollowed := true, recurses := true, named := ["math/bits.divideError", "math/bits.overflowError"], apart := false }
def PlainRoundsSaid : Prop := plainRoundsRow.holds Try.pinned (OpenSpec.ofChange plainRoundsSpec)

/-- ITS FALSE NEIGHBOUR: 'it returns false'. Refute it at one input. -/
def plainRoundsWrong : ChangeSpec := { name := "plainRounds", fn := fun _ => fun
  | [d1, d2, d3] => { results := [.lit (.bool false)], args := [d1, d2, d3] }
  | _ => none }
def PlainRoundsWrongFalsely : Prop := plainRoundsRow.holds Try.pinned (OpenSpec.ofChange plainRoundsWrong)

/-- 'analemmalaw07.PlainNear': WHATEVER THE INPUT: true; the input reads as it did. -/
def plainNearSpec : ChangeSpec := { name := "plainNear", fn := fun _ => fun
  | [d1, d2, d3] => { results := [.lit (.bool true)], args := [d1, d2, d3] }
  | _ => none }
def plainNearRow : OpenClaim := { program := "ytcndfpfjckkinaa", sum := "6c62bdff64a6ca57f21f1b05293026ab540d2be4210e825d9164729202898146", func := "analemma/analemmalaw07.PlainNear", spec := "plainNear", inPlace := ["math/bits.Sub64", "math/bits.Add64"], unfollowed := true, recurses := true, named := ["math/bits.divideError", "math/bits.overflowError"], apart := false }
def PlainNearSaid : Prop := plainNearRow.holds Try.pinned (OpenSpec.ofChange plainNearSpec)

/-- ITS FALSE NEIGHBOUR: 'it returns false'. Refute it at one input. -/
def plainNearWrong : ChangeSpec := { name := "plainNear", fn := fun _ => fun
  | [d1, d2, d3] => { results := [.lit (.bool false)], args := [d1, d2, d3] }
  | _ => none }
def PlainNearWrongFalsely : Prop := plainNearRow.holds Try.pinned (OpenSpec.ofChange plainNearWrong)

/-- 'analemmalaw18.DurationLays': WHATEVER THE INPUT: true; the input reads as it did. -/
def durationLaysSpec : ChangeSpec := { name := "durationLays", fn := fun _ => fun
  | [d1, d2] => { results := [.lit (.bool true)], args := [d1, d2] }
  | _ => none }
def durationLaysRow : OpenClaim := { program := "ytcndfpfjckkinaa", sum := "6c62bdff64a6ca57f21f1b05293026ab540d2be4210e825d9164729202898146", func := "analemma/analemmalaw18.DurationLays", spec := "durationLays", inPlace := ["math/bits.Sub64", "math/bits.Add64"], unfollowed := true, recurses := true, named := ["math/bits.divideError", "math/bits.overflowError"], apart := false }
def DurationLaysSaid : Prop := durationLaysRow.holds Try.pinned (OpenSpec.ofChange durationLaysSpec)

/-- ITS FALSE NEIGHBOUR: 'it returns false'. Refute it at one input. -/
def durationLaysWrong : ChangeSpec := { name := "durationLays", fn := fun _ => fun
  | [d1, d2] => { results := [.lit (.bool false)], args := [d1, d2] }
  | _ => none }
def DurationLaysWrongFalsely : Prop := durationLaysRow.holds Try.pinned (OpenSpec.ofChange durationLaysWrong)

/-- 'analemmalaw18.DurationAdds': WHATEVER THE INPUT: true; the input reads as it did. -/
def durationAddsSpec : ChangeSpec := { name := "durationAdds", fn := fun _ => fun
  | [d1, d2] => { results := [.lit (.bool true)], args := [d1, d2] }
  | _ => none }
def durationAddsRow : OpenClaim := { program := "ytcndfpfjckkinaa", sum := "6c62bdff64a6ca57f21f1b05293026ab540d2be4210e825d9164729202898146", func := "analemma/analemmalaw18.DurationAdds", spec := "durationAdds", inPlace := ["math/bits.Sub64", "math/bits.Add64"], unfollowed := true, recurses := true, named := ["math/bits.divideError", "math/bits.overflowError"], apart := false }
def DurationAddsSaid : Prop := durationAddsRow.holds Try.pinned (OpenSpec.ofChange durationAddsSpec)

/-- ITS FALSE NEIGHBOUR: 'it returns false'. Refute it at one input. -/
def durationAddsWrong : ChangeSpec := { name := "durationAdds", fn := fun _ => fun
  | [d1, d2] => { results := [.lit (.bool false)], args := [d1, d2] }
  | _ => none }
def DurationAddsWrongFalsely : Prop := durationAddsRow.holds Try.pinned (OpenSpec.ofChange durationAddsWrong)

/-- 'analemmalaw18.DurationTotals': WHATEVER THE INPUT: true; the input reads as it did. -/
def durationTotalsSpec : ChangeSpec := { name := "durationTotals", fn := fun _ => fun
  | [d1, d2] => { results := [.lit (.bool true)], args := [d1, d2] }
  | _ => none }
def durationTotalsRow : OpenClaim := { program := "ytcndfpfjckkinaa", sum := "6c62bdff64a6ca57f21f1b05293026ab540d2be4210e825d9164729202898146", func := "analemma/analemmalaw18.DurationTotals", spec := "durationTotals", inPlace := ["math/bits.Sub64", "math/bits.Add64"], unfollowed := true, recurses := true, named := ["math/bits.divideError", "math/bits.overflowError"], apart := false }
def DurationTotalsSaid : Prop := durationTotalsRow.holds Try.pinned (OpenSpec.ofChange durationTotalsSpec)

/-- ITS FALSE NEIGHBOUR: 'it returns false'. Refute it at one input. -/
def durationTotalsWrong : ChangeSpec := { name := "durationTotals", fn := fun _ => fun
  | [d1, d2] => { results := [.lit (.bool false)], args := [d1, d2] }
  | _ => none }
def DurationTotalsWrongFalsely : Prop := durationTotalsRow.holds Try.pinned (OpenSpec.ofChange durationTotalsWrong)

/-- 'analemmalaw18.DurationUnits': WHATEVER THE INPUT: true; the input reads as it did. -/
def durationUnitsSpec : ChangeSpec := { name := "durationUnits", fn := fun _ => fun
  | [d1, d2] => { results := [.lit (.bool true)], args := [d1, d2] }
  | _ => none }
def durationUnitsRow : OpenClaim := { program := "ytcndfpfjckkinaa", sum := "6c62bdff64a6ca57f21f1b05293026ab540d2be4210e825d9164729202898146", func := "analemma/analemmalaw18.DurationUnits", spec := "durationUnits", inPlace := ["math/bits.Sub64", "math/bits.Add64"], unfollowed := true, recurses := true, named := ["math/bits.divideError", "math/bits.overflowError"], apart := false }
def DurationUnitsSaid : Prop := durationUnitsRow.holds Try.pinned (OpenSpec.ofChange durationUnitsSpec)

/-- ITS FALSE NEIGHBOUR: 'it returns false'. Refute it at one input. -/
def durationUnitsWrong : ChangeSpec := { name := "durationUnits", fn := fun _ => fun
  | [d1, d2] => { results := [.lit (.bool false)], args := [d1, d2] }
  | _ => none }
def DurationUnitsWrongFalsely : Prop := durationUnitsRow.holds Try.pinned (OpenSpec.ofChange durationUnitsWrong)

/-- 'analemmalaw18.DurationRights': WHATEVER THE INPUT: true; the input reads as it did. -/
def durationRightsSpec : ChangeSpec := { name := "durationRights", fn := fun _ => fun
  | [d] => { results := [.lit (.bool true)], args := [d] }
  | _ => none }
def durationRightsRow : OpenClaim := { program := "ytcndfpfjckkinaa", sum := "6c62bdff64a6ca57f21f1b05293026ab540d2be4210e825d9164729202898146", func := "analemma/analemmalaw18.DurationRights", spec := "durationRights", inPlace := ["math/bits.Sub64", "math/bits.Add64"], unfollowed := true, recurses := true, named := ["math/bits.divideError", "math/bits.overflowError"], apart := false }
def DurationRightsSaid : Prop := durationRightsRow.holds Try.pinned (OpenSpec.ofChange durationRightsSpec)

/-- ITS FALSE NEIGHBOUR: 'it returns false'. Refute it at one input. -/
def durationRightsWrong : ChangeSpec := { name := "durationRights", fn := fun _ => fun
  | [d] => { results := [.lit (.bool false)], args := [d] }
  | _ => none }
def DurationRightsWrongFalsely : Prop := durationRightsRow.holds Try.pinned (OpenSpec.ofChange durationRightsWrong)

/-- 'analemmalaw18.DurationBack': WHATEVER THE INPUT: true; the input reads as it did. -/
def durationBackSpec : ChangeSpec := { name := "durationBack", fn := fun _ => fun
  | [d1, d2] => { results := [.lit (.bool true)], args := [d1, d2] }
  | _ => none }
def durationBackRow : OpenClaim := { program := "ytcndfpfjckkinaa", sum := "6c62bdff64a6ca57f21f1b05293026ab540d2be4210e825d9164729202898146", func := "analemma/analemmalaw18.DurationBack", spec := "durationBack", inPlace := ["math/bits.Sub64", "math/bits.Add64"], unfollowed := true, recurses := true, named := ["math/bits.divideError", "math/bits.overflowError"], apart := false }
def DurationBackSaid : Prop := durationBackRow.holds Try.pinned (OpenSpec.ofChange durationBackSpec)

/-- ITS FALSE NEIGHBOUR: 'it returns false'. Refute it at one input. -/
def durationBackWrong : ChangeSpec := { name := "durationBack", fn := fun _ => fun
  | [d1, d2] => { results := [.lit (.bool false)], args := [d1, d2] }
  | _ => none }
def DurationBackWrongFalsely : Prop := durationBackRow.holds Try.pinned (OpenSpec.ofChange durationBackWrong)

/-- 'analemmalaw18.DurationRounds': WHATEVER THE INPUT: true; the input reads as it did. -/
def durationRoundsSpec : ChangeSpec := { name := "durationRounds", fn := fun _ => fun
  | [d1, d2] => { results := [.lit (.bool true)], args := [d1, d2] }
  | _ => none }
def durationRoundsRow : OpenClaim := { program := "ytcndfpfjckkinaa", sum := "6c62bdff64a6ca57f21f1b05293026ab540d2be4210e825d9164729202898146", func := "analemma/analemmalaw18.DurationRounds", spec := "durationRounds", inPlace := ["math/bits.Sub64", "math/bits.Add64"], unfollowed := true, recurses := true, named := ["math/bits.divideError", "math/bits.overflowError"], apart := false }
def DurationRoundsSaid : Prop := durationRoundsRow.holds Try.pinned (OpenSpec.ofChange durationRoundsSpec)

/-- ITS FALSE NEIGHBOUR: 'it returns false'. Refute it at one input. -/
def durationRoundsWrong : ChangeSpec := { name := "durationRounds", fn := fun _ => fun
  | [d1, d2] => { results := [.lit (.bool false)], args := [d1, d2] }
  | _ => none }
def DurationRoundsWrongFalsely : Prop := durationRoundsRow.holds Try.pinned (OpenSpec.ofChange durationRoundsWrong)

/-- 'analemmalaw21.InstantRounds': WHATEVER THE INPUT: true; the input reads as it did. -/
def instantRoundsSpec : ChangeSpec := { name := "instantRounds", fn := fun _ => fun
  | [d1, d2, d3, d4] => { results := [.lit (.bool true)], args := [d1, d2, d3, d4] }
  | _ => none }
def instantRoundsRow : OpenClaim := { program := "ytcndfpfjckkinaa", sum := "6c62bdff64a6ca57f21f1b05293026ab540d2be4210e825d9164729202898146", func := "analemma/analemmalaw21.InstantRounds", spec := "instantRounds", inPlace := ["math/bits.Sub64", "math/bits.Add64"], unfollowed := true, recurses := true, named := ["math/bits.divideError", "math/bits.overflowError"], apart := false }
def InstantRoundsSaid : Prop := instantRoundsRow.holds Try.pinned (OpenSpec.ofChange instantRoundsSpec)

/-- ITS FALSE NEIGHBOUR: 'it returns false'. Refute it at one input. -/
def instantRoundsWrong : ChangeSpec := { name := "instantRounds", fn := fun _ => fun
  | [d1, d2, d3, d4] => { results := [.lit (.bool false)], args := [d1, d2, d3, d4] }
  | _ => none }
def InstantRoundsWrongFalsely : Prop := instantRoundsRow.holds Try.pinned (OpenSpec.ofChange instantRoundsWrong)

/-- 'analemmalaw21.InstantSplits': WHATEVER THE INPUT: true; the input reads as it did. -/
def instantSplitsSpec : ChangeSpec := { name := "instantSplits", fn := fun _ => fun
  | [d1, d2, d3] => { results := [.lit (.bool true)], args := [d1, d2, d3] }
  | _ => none }
def instantSplitsRow : OpenClaim := { program := "ytcndfpfjckkinaa", sum := "6c62bdff64a6ca57f21f1b05293026ab540d2be4210e825d9164729202898146", func := "analemma/analemmalaw21.InstantSplits", spec := "instantSplits", inPlace := ["math/bits.Sub64", "math/bits.Add64"], unfollowed := true, recurses := true, named := ["math/bits.divideError", "math/bits.overflowError"], apart := false }
def InstantSplitsSaid : Prop := instantSplitsRow.holds Try.pinned (OpenSpec.ofChange instantSplitsSpec)

/-- ITS FALSE NEIGHBOUR: 'it returns false'. Refute it at one input. -/
def instantSplitsWrong : ChangeSpec := { name := "instantSplits", fn := fun _ => fun
  | [d1, d2, d3] => { results := [.lit (.bool false)], args := [d1, d2, d3] }
  | _ => none }
def InstantSplitsWrongFalsely : Prop := instantSplitsRow.holds Try.pinned (OpenSpec.ofChange instantSplitsWrong)

/-- 'analemmalaw21.InstantAdds': WHATEVER THE INPUT: true; the input reads as it did. -/
def instantAddsSpec : ChangeSpec := { name := "instantAdds", fn := fun _ => fun
  | [d1, d2, d3, d4] => { results := [.lit (.bool true)], args := [d1, d2, d3, d4] }
  | _ => none }
def instantAddsRow : OpenClaim := { program := "ytcndfpfjckkinaa", sum := "6c62bdff64a6ca57f21f1b05293026ab540d2be4210e825d9164729202898146", func := "analemma/analemmalaw21.InstantAdds", spec := "instantAdds", inPlace := ["math/bits.Sub64", "math/bits.Add64"], unfollowed := true, recurses := true, named := ["math/bits.divideError", "math/bits.overflowError"], apart := false }
def InstantAddsSaid : Prop := instantAddsRow.holds Try.pinned (OpenSpec.ofChange instantAddsSpec)

/-- ITS FALSE NEIGHBOUR: 'it returns false'. Refute it at one input. -/
def instantAddsWrong : ChangeSpec := { name := "instantAdds", fn := fun _ => fun
  | [d1, d2, d3, d4] => { results := [.lit (.bool false)], args := [d1, d2, d3, d4] }
  | _ => none }
def InstantAddsWrongFalsely : Prop := instantAddsRow.holds Try.pinned (OpenSpec.ofChange instantAddsWrong)

/-- 'analemmalaw21.InstantBack': WHATEVER THE INPUT: true; the input reads as it did. -/
def instantBackSpec : ChangeSpec := { name := "instantBack", fn := fun _ => fun
  | [d1, d2, d3, d4] => { results := [.lit (.bool true)], args := [d1, d2, d3, d4] }
  | _ => none }
def instantBackRow : OpenClaim := { program := "ytcndfpfjckkinaa", sum := "6c62bdff64a6ca57f21f1b05293026ab540d2be4210e825d9164729202898146", func := "analemma/analemmalaw21.InstantBack", spec := "instantBack", inPlace := ["math/bits.Sub64", "math/bits.Add64"], unfollowed := true, recurses := true, named := ["math/bits.divideError", "math/bits.overflowError"], apart := false }
def InstantBackSaid : Prop := instantBackRow.holds Try.pinned (OpenSpec.ofChange instantBackSpec)

/-- ITS FALSE NEIGHBOUR: 'it returns false'. Refute it at one input. -/
def instantBackWrong : ChangeSpec := { name := "instantBack", fn := fun _ => fun
  | [d1, d2, d3, d4] => { results := [.lit (.bool false)], args := [d1, d2, d3, d4] }
  | _ => none }
def InstantBackWrongFalsely : Prop := instantBackRow.holds Try.pinned (OpenSpec.ofChange instantBackWrong)

/-- 'analemmalaw19.CalendarUntils': WHATEVER THE INPUT: true; the input reads as it did. -/
def calendarUntilsSpec : ChangeSpec := { name := "calendarUntils", fn := fun _ => fun
  | [d1, d2, d3] => { results := [.lit (.bool true)], args := [d1, d2, d3] }
  | _ => none }
def calendarUntilsRow : OpenClaim := { program := "ytcndfpfjckkinaa", sum := "6c62bdff64a6ca57f21f1b05293026ab540d2be4210e825d9164729202898146", func := "analemma/analemmalaw19.CalendarUntils", spec := "calendarUntils", inPlace := ["math/bits.Sub64", "math/bits.Add64"], unfollowed := true, recurses := true, named := ["math/bits.divideError", "math/bits.overflowError"], apart := false }
def CalendarUntilsSaid : Prop := calendarUntilsRow.holds Try.pinned (OpenSpec.ofChange calendarUntilsSpec)

/-- ITS FALSE NEIGHBOUR: 'it returns false'. Refute it at one input. -/
def calendarUntilsWrong : ChangeSpec := { name := "calendarUntils", fn := fun _ => fun
  | [d1, d2, d3] => { results := [.lit (.bool false)], args := [d1, d2, d3] }
  | _ => none }
def CalendarUntilsWrongFalsely : Prop := calendarUntilsRow.holds Try.pinned (OpenSpec.ofChange calendarUntilsWrong)

/-- 'analemmalaw19.CalendarBack': WHATEVER THE INPUT: true; the input reads as it did. -/
def calendarBackSpec : ChangeSpec := { name := "calendarBack", fn := fun _ => fun
  | [d1, d2, d3] => { results := [.lit (.bool true)], args := [d1, d2, d3] }
  | _ => none }
def calendarBackRow : OpenClaim := { program := "ytcndfpfjckkinaa", sum := "6c62bdff64a6ca57f21f1b05293026ab540d2be4210e825d9164729202898146", func := "analemma/analemmalaw19.CalendarBack", spec := "calendarBack", inPlace := ["math/bits.Sub64", "math/bits.Add64"], unfollowed := true, recurses := true, named := ["math/bits.divideError", "math/bits.overflowError"], apart := false }
def CalendarBackSaid : Prop := calendarBackRow.holds Try.pinned (OpenSpec.ofChange calendarBackSpec)

/-- ITS FALSE NEIGHBOUR: 'it returns false'. Refute it at one input. -/
def calendarBackWrong : ChangeSpec := { name := "calendarBack", fn := fun _ => fun
  | [d1, d2, d3] => { results := [.lit (.bool false)], args := [d1, d2, d3] }
  | _ => none }
def CalendarBackWrongFalsely : Prop := calendarBackRow.holds Try.pinned (OpenSpec.ofChange calendarBackWrong)

/-- 'analemmalaw19.CalendarSigns': WHATEVER THE INPUT: true; the input reads as it did. -/
def calendarSignsSpec : ChangeSpec := { name := "calendarSigns", fn := fun _ => fun
  | [d1, d2, d3] => { results := [.lit (.bool true)], args := [d1, d2, d3] }
  | _ => none }
def calendarSignsRow : OpenClaim := { program := "ytcndfpfjckkinaa", sum := "6c62bdff64a6ca57f21f1b05293026ab540d2be4210e825d9164729202898146", func := "analemma/analemmalaw19.CalendarSigns", spec := "calendarSigns", inPlace := ["math/bits.Sub64", "math/bits.Add64"], unfollowed := true, recurses := true, named := ["math/bits.divideError", "math/bits.overflowError"], apart := false }
def CalendarSignsSaid : Prop := calendarSignsRow.holds Try.pinned (OpenSpec.ofChange calendarSignsSpec)

/-- ITS FALSE NEIGHBOUR: 'it returns false'. Refute it at one input. -/
def calendarSignsWrong : ChangeSpec := { name := "calendarSigns", fn := fun _ => fun
  | [d1, d2, d3] => { results := [.lit (.bool false)], args := [d1, d2, d3] }
  | _ => none }
def CalendarSignsWrongFalsely : Prop := calendarSignsRow.holds Try.pinned (OpenSpec.ofChange calendarSignsWrong)

/-- 'analemmalaw20.RelativeBack': WHATEVER THE INPUT: true; the input reads as it did. -/
def relativeBackSpec : ChangeSpec := { name := "relativeBack", fn := fun _ => fun
  | [d1, d2, d3] => { results := [.lit (.bool true)], args := [d1, d2, d3] }
  | _ => none }
def relativeBackRow : OpenClaim := { program := "ytcndfpfjckkinaa", sum := "6c62bdff64a6ca57f21f1b05293026ab540d2be4210e825d9164729202898146", func := "analemma/analemmalaw20.RelativeBack", spec := "relativeBack", inPlace := ["math/bits.Sub64", "math/bits.Add64"], unfollowed := true, recurses := true, named := ["math/bits.divideError", "math/bits.overflowError"], apart := false }
def RelativeBackSaid : Prop := relativeBackRow.holds Try.pinned (OpenSpec.ofChange relativeBackSpec)

/-- ITS FALSE NEIGHBOUR: 'it returns false'. Refute it at one input. -/
def relativeBackWrong : ChangeSpec := { name := "relativeBack", fn := fun _ => fun
  | [d1, d2, d3] => { results := [.lit (.bool false)], args := [d1, d2, d3] }
  | _ => none }
def RelativeBackWrongFalsely : Prop := relativeBackRow.holds Try.pinned (OpenSpec.ofChange relativeBackWrong)

/-- 'analemmalaw20.RelativeExact': WHATEVER THE INPUT: true; the input reads as it did. -/
def relativeExactSpec : ChangeSpec := { name := "relativeExact", fn := fun _ => fun
  | [d1, d2, d3, d4] => { results := [.lit (.bool true)], args := [d1, d2, d3, d4] }
  | _ => none }
def relativeExactRow : OpenClaim := { program := "ytcndfpfjckkinaa", sum := "6c62bdff64a6ca57f21f1b05293026ab540d2be4210e825d9164729202898146", func := "analemma/analemmalaw20.RelativeExact", spec := "relativeExact", inPlace := ["math/bits.Sub64", "math/bits.Add64"], unfollowed := true, recurses := true, named := ["math/bits.divideError", "math/bits.overflowError"], apart := false }
def RelativeExactSaid : Prop := relativeExactRow.holds Try.pinned (OpenSpec.ofChange relativeExactSpec)

/-- ITS FALSE NEIGHBOUR: 'it returns false'. Refute it at one input. -/
def relativeExactWrong : ChangeSpec := { name := "relativeExact", fn := fun _ => fun
  | [d1, d2, d3, d4] => { results := [.lit (.bool false)], args := [d1, d2, d3, d4] }
  | _ => none }
def RelativeExactWrongFalsely : Prop := relativeExactRow.holds Try.pinned (OpenSpec.ofChange relativeExactWrong)

/- THE SECOND FORM. 'bulk': how many values and letters a reading holds, each counted each time it is reached (what is shared counts as often as it is met; a slice's spare places count too). A statement '..UptoSaid' is the law's where the arguments, and the package variables that the reading takes, are together of bulk at most 1048576: NARROWER than '..Said'. Prove '..Said' where nothing that the law and all that it calls make is longer than what came in: it says more and counts as full. Else prove '..UptoSaid'. A law counts once. -/
mutual
def uptoBulk {H : Type} : DataW H → Nat
  | .lit (.string bytes) => bytes.length + 1
  | .lit _ => 1
  | .nil => 1
  | .ptr d => uptoBulk d + 1
  | .slice elems spare => uptoBulkAll elems + uptoBulkAll spare + 1
  | .agg parts => uptoBulkAll parts + 1
  | .iface _ d => uptoBulk d + 1
  | .map entries => uptoBulkEntries entries + 1
  | .held _ => 1
def uptoBulkAll {H : Type} : List (DataW H) → Nat
  | [] => 0
  | d :: r => uptoBulk d + uptoBulkAll r
def uptoBulkEntries {H : Type} : List (Lit × DataW H) → Nat
  | [] => 0
  | x :: r => uptoBulkEntry x + uptoBulkEntries r
def uptoBulkEntry {H : Type} : Lit × DataW H → Nat
  | (.string bytes, d) => bytes.length + uptoBulk d + 1
  | (_, d) => uptoBulk d + 1
 end
def uptoSmall : (H : Type) → List (DataW H) → Bool := fun _ ds => decide (uptoBulkAll ds ≤ 1048576)
def OpenSpec.upto (s : _root_.Go.ChangeSpec) : _root_.Go.OpenSpec := { _root_.Go.OpenSpec.ofChange s with cond := some uptoSmall }

/-- 'analemmalaw06.ClockRounds', WHERE WHAT IT READS IS OF BULK AT MOST 1048576: true; the input reads as it did. -/
def clockRoundsUptoRow : OpenClaim := { program := "ytcndfpfjckkinaa", sum := "6c62bdff64a6ca57f21f1b05293026ab540d2be4210e825d9164729202898146", func := "analemma/analemmalaw06.ClockRounds", spec := "clockRounds", inPlace := ["math/bits.Sub64", "math/bits.Add64"], unfollowed := true, recurses := true, named := ["math/bits.divideError", "math/bits.overflowError"], apart := false, narrowed := true }
def ClockRoundsUptoSaid : Prop := clockRoundsUptoRow.holds Try.pinned (OpenSpec.upto clockRoundsSpec)

/-- 'analemmalaw07.PlainCounts', WHERE WHAT IT READS IS OF BULK AT MOST 1048576: true; the input reads as it did. -/
def plainCountsUptoRow : OpenClaim := { program := "ytcndfpfjckkinaa", sum := "6c62bdff64a6ca57f21f1b05293026ab540d2be4210e825d9164729202898146", func := "analemma/analemmalaw07.PlainCounts", spec := "plainCounts", inPlace := ["math/bits.Sub64", "math/bits.Add64"], unfollowed := true, recurses := true, named := ["math/bits.divideError", "math/bits.overflowError"], apart := false, narrowed := true }
def PlainCountsUptoSaid : Prop := plainCountsUptoRow.holds Try.pinned (OpenSpec.upto plainCountsSpec)

/-- 'analemmalaw07.PlainAdds', WHERE WHAT IT READS IS OF BULK AT MOST 1048576: true; the input reads as it did. -/
def plainAddsUptoRow : OpenClaim := { program := "ytcndfpfjckkinaa", sum := "6c62bdff64a6ca57f21f1b05293026ab540d2be4210e825d9164729202898146", func := "analemma/analemmalaw07.PlainAdds", spec := "plainAdds", inPlace := ["math/bits.Sub64", "math/bits.Add64"], unfollowed := true, recurses := true, named := ["math/bits.divideError", "math/bits.overflowError"], apart := false, narrowed := true }
def PlainAddsUptoSaid : Prop := plainAddsUptoRow.holds Try.pinned (OpenSpec.upto plainAddsSpec)

/-- 'analemmalaw07.PlainBetween', WHERE WHAT IT READS IS OF BULK AT MOST 1048576: true; the input reads as it did. -/
def plainBetweenUptoRow : OpenClaim := { program := "ytcndfpfjckkinaa", sum := "6c62bdff64a6ca57f21f1b05293026ab540d2be4210e825d9164729202898146", func := "analemma/analemmalaw07.PlainBetween", spec := "plainBetween", inPlace := ["math/bits.Sub64", "math/bits.Add64"], unfollowed := true, recurses := true, named := ["math/bits.divideError", "math/bits.overflowError"], apart := false, narrowed := true }
def PlainBetweenUptoSaid : Prop := plainBetweenUptoRow.holds Try.pinned (OpenSpec.upto plainBetweenSpec)

/-- 'analemmalaw07.PlainOrders', WHERE WHAT IT READS IS OF BULK AT MOST 1048576: true; the input reads as it did. -/
def plainOrdersUptoRow : OpenClaim := { program := "ytcndfpfjckkinaa", sum := "6c62bdff64a6ca57f21f1b05293026ab540d2be4210e825d9164729202898146", func := "analemma/analemmalaw07.PlainOrders", spec := "plainOrders", inPlace := ["math/bits.Sub64", "math/bits.Add64"], unfollowed := true, recurses := true, named := ["math/bits.divideError", "math/bits.overflowError"], apart := false, narrowed := true }
def PlainOrdersUptoSaid : Prop := plainOrdersUptoRow.holds Try.pinned (OpenSpec.upto plainOrdersSpec)

/-- 'analemmalaw07.PlainRounds', WHERE WHAT IT READS IS OF BULK AT MOST 1048576: true; the input reads as it did. -/
def plainRoundsUptoRow : OpenClaim := { program := "ytcndfpfjckkinaa", sum := "6c62bdff64a6ca57f21f1b05293026ab540d2be4210e825d9164729202898146", func := "analemma/analemmalaw07.PlainRounds", spec := "plainRounds", inPlace := ["math/bits.Sub64", "math/bits.Add64"], unfollowed := true, recurses := true, named := ["math/bits.divideError", "math/bits.overflowError"], apart := false, narrowed := true }
def PlainRoundsUptoSaid : Prop := plainRoundsUptoRow.holds Try.pinned (OpenSpec.upto plainRoundsSpec)

/-- 'analemmalaw07.PlainNear', WHERE WHAT IT READS IS OF BULK AT MOST 1048576: true; the input reads as it did. -/
def plainNearUptoRow : OpenClaim := { program := "ytcndfpfjckkinaa", sum := "6c62bdff64a6ca57f21f1b05293026ab540d2be4210e825d9164729202898146", func := "analemma/analemmalaw07.PlainNear", spec := "plainNear", inPlace := ["math/bits.Sub64", "math/bits.Add64"], unfollowed := true, recurses := true, named := ["math/bits.divideError", "math/bits.overflowError"], apart := false, narrowed := true }
def PlainNearUptoSaid : Prop := plainNearUptoRow.holds Try.pinned (OpenSpec.upto plainNearSpec)

/-- 'analemmalaw18.DurationLays', WHERE WHAT IT READS IS OF BULK AT MOST 1048576: true; the input reads as it did. -/
def durationLaysUptoRow : OpenClaim := { program := "ytcndfpfjckkinaa", sum := "6c62bdff64a6ca57f21f1b05293026ab540d2be4210e825d9164729202898146", func := "analemma/analemmalaw18.DurationLays", spec := "durationLays", inPlace := ["math/bits.Sub64", "math/bits.Add64"], unfollowed := true, recurses := true, named := ["math/bits.divideError", "math/bits.overflowError"], apart := false, narrowed := true }
def DurationLaysUptoSaid : Prop := durationLaysUptoRow.holds Try.pinned (OpenSpec.upto durationLaysSpec)

/-- 'analemmalaw18.DurationAdds', WHERE WHAT IT READS IS OF BULK AT MOST 1048576: true; the input reads as it did. -/
def durationAddsUptoRow : OpenClaim := { program := "ytcndfpfjckkinaa", sum := "6c62bdff64a6ca57f21f1b05293026ab540d2be4210e825d9164729202898146", func := "analemma/analemmalaw18.DurationAdds", spec := "durationAdds", inPlace := ["math/bits.Sub64", "math/bits.Add64"], unfollowed := true, recurses := true, named := ["math/bits.divideError", "math/bits.overflowError"], apart := false, narrowed := true }
def DurationAddsUptoSaid : Prop := durationAddsUptoRow.holds Try.pinned (OpenSpec.upto durationAddsSpec)

/-- 'analemmalaw18.DurationTotals', WHERE WHAT IT READS IS OF BULK AT MOST 1048576: true; the input reads as it did. -/
def durationTotalsUptoRow : OpenClaim := { program := "ytcndfpfjckkinaa", sum := "6c62bdff64a6ca57f21f1b05293026ab540d2be4210e825d9164729202898146", func := "analemma/analemmalaw18.DurationTotals", spec := "durationTotals", inPlace := ["math/bits.Sub64", "math/bits.Add64"], unfollowed := true, recurses := true, named := ["math/bits.divideError", "math/bits.overflowError"], apart := false, narrowed := true }
def DurationTotalsUptoSaid : Prop := durationTotalsUptoRow.holds Try.pinned (OpenSpec.upto durationTotalsSpec)

/-- 'analemmalaw18.DurationUnits', WHERE WHAT IT READS IS OF BULK AT MOST 1048576: true; the input reads as it did. -/
def durationUnitsUptoRow : OpenClaim := { program := "ytcndfpfjckkinaa", sum := "6c62bdff64a6ca57f21f1b05293026ab540d2be4210e825d9164729202898146", func := "analemma/analemmalaw18.DurationUnits", spec := "durationUnits", inPlace := ["math/bits.Sub64", "math/bits.Add64"], unfollowed := true, recurses := true, named := ["math/bits.divideError", "math/bits.overflowError"], apart := false, narrowed := true }
def DurationUnitsUptoSaid : Prop := durationUnitsUptoRow.holds Try.pinned (OpenSpec.upto durationUnitsSpec)

/-- 'analemmalaw18.DurationRights', WHERE WHAT IT READS IS OF BULK AT MOST 1048576: true; the input reads as it did. -/
def durationRightsUptoRow : OpenClaim := { program := "ytcndfpfjckkinaa", sum := "6c62bdff64a6ca57f21f1b05293026ab540d2be4210e825d9164729202898146", func := "analemma/analemmalaw18.DurationRights", spec := "durationRights", inPlace := ["math/bits.Sub64", "math/bits.Add64"], unfollowed := true, recurses := true, named := ["math/bits.divideError", "math/bits.overflowError"], apart := false, narrowed := true }
def DurationRightsUptoSaid : Prop := durationRightsUptoRow.holds Try.pinned (OpenSpec.upto durationRightsSpec)

/-- 'analemmalaw18.DurationBack', WHERE WHAT IT READS IS OF BULK AT MOST 1048576: true; the input reads as it did. -/
def durationBackUptoRow : OpenClaim := { program := "ytcndfpfjckkinaa", sum := "6c62bdff64a6ca57f21f1b05293026ab540d2be4210e825d9164729202898146", func := "analemma/analemmalaw18.DurationBack", spec := "durationBack", inPlace := ["math/bits.Sub64", "math/bits.Add64"], unfollowed := true, recurses := true, named := ["math/bits.divideError", "math/bits.overflowError"], apart := false, narrowed := true }
def DurationBackUptoSaid : Prop := durationBackUptoRow.holds Try.pinned (OpenSpec.upto durationBackSpec)

/-- 'analemmalaw18.DurationRounds', WHERE WHAT IT READS IS OF BULK AT MOST 1048576: true; the input reads as it did. -/
def durationRoundsUptoRow : OpenClaim := { program := "ytcndfpfjckkinaa", sum := "6c62bdff64a6ca57f21f1b05293026ab540d2be4210e825d9164729202898146", func := "analemma/analemmalaw18.DurationRounds", spec := "durationRounds", inPlace := ["math/bits.Sub64", "math/bits.Add64"], unfollowed := true, recurses := true, named := ["math/bits.divideError", "math/bits.overflowError"], apart := false, narrowed := true }
def DurationRoundsUptoSaid : Prop := durationRoundsUptoRow.holds Try.pinned (OpenSpec.upto durationRoundsSpec)

/-- 'analemmalaw21.InstantRounds', WHERE WHAT IT READS IS OF BULK AT MOST 1048576: true; the input reads as it did. -/
def instantRoundsUptoRow : OpenClaim := { program := "ytcndfpfjckkinaa", sum := "6c62bdff64a6ca57f21f1b05293026ab540d2be4210e825d9164729202898146", func := "analemma/analemmalaw21.InstantRounds", spec := "instantRounds", inPlace := ["math/bits.Sub64", "math/bits.Add64"], unfollowed := true, recurses := true, named := ["math/bits.divideError", "math/bits.overflowError"], apart := false, narrowed := true }
def InstantRoundsUptoSaid : Prop := instantRoundsUptoRow.holds Try.pinned (OpenSpec.upto instantRoundsSpec)

/-- 'analemmalaw21.InstantSplits', WHERE WHAT IT READS IS OF BULK AT MOST 1048576: true; the input reads as it did. -/
def instantSplitsUptoRow : OpenClaim := { program := "ytcndfpfjckkinaa", sum := "6c62bdff64a6ca57f21f1b05293026ab540d2be4210e825d9164729202898146", func := "analemma/analemmalaw21.InstantSplits", spec := "instantSplits", inPlace := ["math/bits.Sub64", "math/bits.Add64"], unfollowed := true, recurses := true, named := ["math/bits.divideError", "math/bits.overflowError"], apart := false, narrowed := true }
def InstantSplitsUptoSaid : Prop := instantSplitsUptoRow.holds Try.pinned (OpenSpec.upto instantSplitsSpec)

/-- 'analemmalaw21.InstantAdds', WHERE WHAT IT READS IS OF BULK AT MOST 1048576: true; the input reads as it did. -/
def instantAddsUptoRow : OpenClaim := { program := "ytcndfpfjckkinaa", sum := "6c62bdff64a6ca57f21f1b05293026ab540d2be4210e825d9164729202898146", func := "analemma/analemmalaw21.InstantAdds", spec := "instantAdds", inPlace := ["math/bits.Sub64", "math/bits.Add64"], unfollowed := true, recurses := true, named := ["math/bits.divideError", "math/bits.overflowError"], apart := false, narrowed := true }
def InstantAddsUptoSaid : Prop := instantAddsUptoRow.holds Try.pinned (OpenSpec.upto instantAddsSpec)

/-- 'analemmalaw21.InstantBack', WHERE WHAT IT READS IS OF BULK AT MOST 1048576: true; the input reads as it did. -/
def instantBackUptoRow : OpenClaim := { program := "ytcndfpfjckkinaa", sum := "6c62bdff64a6ca57f21f1b05293026ab540d2be4210e825d9164729202898146", func := "analemma/analemmalaw21.InstantBack", spec := "instantBack", inPlace := ["math/bits.Sub64", "math/bits.Add64"], unfollowed := true, recurses := true, named := ["math/bits.divideError", "math/bits.overflowError"], apart := false, narrowed := true }
def InstantBackUptoSaid : Prop := instantBackUptoRow.holds Try.pinned (OpenSpec.upto instantBackSpec)

/-- 'analemmalaw19.CalendarUntils', WHERE WHAT IT READS IS OF BULK AT MOST 1048576: true; the input reads as it did. -/
def calendarUntilsUptoRow : OpenClaim := { program := "ytcndfpfjckkinaa", sum := "6c62bdff64a6ca57f21f1b05293026ab540d2be4210e825d9164729202898146", func := "analemma/analemmalaw19.CalendarUntils", spec := "calendarUntils", inPlace := ["math/bits.Sub64", "math/bits.Add64"], unfollowed := true, recurses := true, named := ["math/bits.divideError", "math/bits.overflowError"], apart := false, narrowed := true }
def CalendarUntilsUptoSaid : Prop := calendarUntilsUptoRow.holds Try.pinned (OpenSpec.upto calendarUntilsSpec)

/-- 'analemmalaw19.CalendarBack', WHERE WHAT IT READS IS OF BULK AT MOST 1048576: true; the input reads as it did. -/
def calendarBackUptoRow : OpenClaim := { program := "ytcndfpfjckkinaa", sum := "6c62bdff64a6ca57f21f1b05293026ab540d2be4210e825d9164729202898146", func := "analemma/analemmalaw19.CalendarBack", spec := "calendarBack", inPlace := ["math/bits.Sub64", "math/bits.Add64"], unfollowed := true, recurses := true, named := ["math/bits.divideError", "math/bits.overflowError"], apart := false, narrowed := true }
def CalendarBackUptoSaid : Prop := calendarBackUptoRow.holds Try.pinned (OpenSpec.upto calendarBackSpec)

/-- 'analemmalaw19.CalendarSigns', WHERE WHAT IT READS IS OF BULK AT MOST 1048576: true; the input reads as it did. -/
def calendarSignsUptoRow : OpenClaim := { program := "ytcndfpfjckkinaa", sum := "6c62bdff64a6ca57f21f1b05293026ab540d2be4210e825d9164729202898146", func := "analemma/analemmalaw19.CalendarSigns", spec := "calendarSigns", inPlace := ["math/bits.Sub64", "math/bits.Add64"], unfollowed := true, recurses := true, named := ["math/bits.divideError", "math/bits.overflowError"], apart := false, narrowed := true }
def CalendarSignsUptoSaid : Prop := calendarSignsUptoRow.holds Try.pinned (OpenSpec.upto calendarSignsSpec)

/-- 'analemmalaw20.RelativeBack', WHERE WHAT IT READS IS OF BULK AT MOST 1048576: true; the input reads as it did. -/
def relativeBackUptoRow : OpenClaim := { program := "ytcndfpfjckkinaa", sum := "6c62bdff64a6ca57f21f1b05293026ab540d2be4210e825d9164729202898146", func := "analemma/analemmalaw20.RelativeBack", spec := "relativeBack", inPlace := ["math/bits.Sub64", "math/bits.Add64"], unfollowed := true, recurses := true, named := ["math/bits.divideError", "math/bits.overflowError"], apart := false, narrowed := true }
def RelativeBackUptoSaid : Prop := relativeBackUptoRow.holds Try.pinned (OpenSpec.upto relativeBackSpec)

/-- 'analemmalaw20.RelativeExact', WHERE WHAT IT READS IS OF BULK AT MOST 1048576: true; the input reads as it did. -/
def relativeExactUptoRow : OpenClaim := { program := "ytcndfpfjckkinaa", sum := "6c62bdff64a6ca57f21f1b05293026ab540d2be4210e825d9164729202898146", func := "analemma/analemmalaw20.RelativeExact", spec := "relativeExact", inPlace := ["math/bits.Sub64", "math/bits.Add64"], unfollowed := true, recurses := true, named := ["math/bits.divideError", "math/bits.overflowError"], apart := false, narrowed := true }
def RelativeExactUptoSaid : Prop := relativeExactUptoRow.holds Try.pinned (OpenSpec.upto relativeExactSpec)

end Rows
end Go.Proofs.Ytcndfpfjckkinaa
