/-
  No cell of these rows narrows 'for every input' (looked for: loops, veiled, ifaces, maps, wideKeys, modest, calm, conditions, laid).
  DERIVED. THE GIVEN ROWS OF THIS SEAT. 7 by the template 'for every input the law returns true; each argument reads behind the call as it read before'; 0 by the template 'total and deterministic' (their statements: YtccllfegnijpiaaTotals.lean).
  GIVEN WITH THE SEED: the statements are not yours to turn. If you find one false, say at which input.
  Laid BY PROGRAM, IN A SANDBOX (cutbox-rows.mjs): the forced cells as the released guide's own fill.sh prints them over the translation 1683b73dd89dc28c… (all of the seat's roots in one cut). By AI agents, Wed Nov 11 2026. No macro, syntax, notation, axiom, sorry.
-/
import Derived.Test.YtccllfegnijpiaaChecked
import GoSem.Claim
import GoSem.ClaimJoined
import GoSem.ClaimMapViews
import Derived.JoinedTies
import Derived.KernelRfl
namespace Go.Proofs.Ytccllfegnijpiaa
/- THE CELL 'sum', in the pinned program and in every row, IS THE sha256 OF THE DUMP (.gsa) THAT YtccllfegnijpiaaProg.lean LOADS. Nothing in Lean hashes anything: it is a label: what it is worth is what the hold of that sum in a sandbox is worth. -/
noncomputable def Try.pinned : Pinned := { name := "ytccllfegnijpiaa", sum := "1683b73dd89dc28cd7bcf1bdaa439876629944107ca4f2c6a66a21f4e3e2139d", checked := Try.checked }
namespace Rows
def none {H : Type} : Left H := { results := [], args := [] }

/-- 'analemmalaw21.InstantRounds': WHATEVER THE INPUT: true; the input reads as it did. -/
def instantRoundsSpec : ChangeSpec := { name := "instantRounds", fn := fun _ => fun
  | [d1, d2, d3, d4] => { results := [.lit (.bool true)], args := [d1, d2, d3, d4] }
  | _ => none }
def instantRoundsRow : OpenClaim := { program := "ytccllfegnijpiaa", sum := "1683b73dd89dc28cd7bcf1bdaa439876629944107ca4f2c6a66a21f4e3e2139d", func := "analemma/analemmalaw21.InstantRounds", spec := "instantRounds", inPlace := ["math/bits.Sub64", "math/bits.Add64"], unfollowed := true, recurses := true, named := ["math/bits.divideError", "math/bits.overflowError"], apart := false }
def InstantRoundsSaid : Prop := instantRoundsRow.holds Try.pinned (OpenSpec.ofChange instantRoundsSpec)

/-- ITS FALSE NEIGHBOUR: 'it returns false'. Refute it at one input. -/
def instantRoundsWrong : ChangeSpec := { name := "instantRounds", fn := fun _ => fun
  | [d1, d2, d3, d4] => { results := [.lit (.bool false)], args := [d1, d2, d3, d4] }
  | _ => none }
def InstantRoundsWrongFalsely : Prop := instantRoundsRow.holds Try.pinned (OpenSpec.ofChange instantRoundsWrong)

/-- 'analemmalaw21.InstantSplits': WHATEVER THE INPUT: true; the input reads as it did. -/
def instantSplitsSpec : ChangeSpec := { name := "instantSplits", fn := fun _ => fun
  | [d1, d2, d3] => { results := [.lit (.bool true)], args := [d1, d2, d3] }
  | _ => none }
def instantSplitsRow : OpenClaim := { program := "ytccllfegnijpiaa", sum := "1683b73dd89dc28cd7bcf1bdaa439876629944107ca4f2c6a66a21f4e3e2139d", func := "analemma/analemmalaw21.InstantSplits", spec := "instantSplits", inPlace := ["math/bits.Sub64", "math/bits.Add64"], unfollowed := true, recurses := true, named := ["math/bits.divideError", "math/bits.overflowError"], apart := false }
def InstantSplitsSaid : Prop := instantSplitsRow.holds Try.pinned (OpenSpec.ofChange instantSplitsSpec)

/-- ITS FALSE NEIGHBOUR: 'it returns false'. Refute it at one input. -/
def instantSplitsWrong : ChangeSpec := { name := "instantSplits", fn := fun _ => fun
  | [d1, d2, d3] => { results := [.lit (.bool false)], args := [d1, d2, d3] }
  | _ => none }
def InstantSplitsWrongFalsely : Prop := instantSplitsRow.holds Try.pinned (OpenSpec.ofChange instantSplitsWrong)

/-- 'analemmalaw21.InstantAdds': WHATEVER THE INPUT: true; the input reads as it did. -/
def instantAddsSpec : ChangeSpec := { name := "instantAdds", fn := fun _ => fun
  | [d1, d2, d3, d4] => { results := [.lit (.bool true)], args := [d1, d2, d3, d4] }
  | _ => none }
def instantAddsRow : OpenClaim := { program := "ytccllfegnijpiaa", sum := "1683b73dd89dc28cd7bcf1bdaa439876629944107ca4f2c6a66a21f4e3e2139d", func := "analemma/analemmalaw21.InstantAdds", spec := "instantAdds", inPlace := ["math/bits.Sub64", "math/bits.Add64"], unfollowed := true, recurses := true, named := ["math/bits.divideError", "math/bits.overflowError"], apart := false }
def InstantAddsSaid : Prop := instantAddsRow.holds Try.pinned (OpenSpec.ofChange instantAddsSpec)

/-- ITS FALSE NEIGHBOUR: 'it returns false'. Refute it at one input. -/
def instantAddsWrong : ChangeSpec := { name := "instantAdds", fn := fun _ => fun
  | [d1, d2, d3, d4] => { results := [.lit (.bool false)], args := [d1, d2, d3, d4] }
  | _ => none }
def InstantAddsWrongFalsely : Prop := instantAddsRow.holds Try.pinned (OpenSpec.ofChange instantAddsWrong)

/-- 'analemmalaw21.InstantBack': WHATEVER THE INPUT: true; the input reads as it did. -/
def instantBackSpec : ChangeSpec := { name := "instantBack", fn := fun _ => fun
  | [d1, d2, d3, d4] => { results := [.lit (.bool true)], args := [d1, d2, d3, d4] }
  | _ => none }
def instantBackRow : OpenClaim := { program := "ytccllfegnijpiaa", sum := "1683b73dd89dc28cd7bcf1bdaa439876629944107ca4f2c6a66a21f4e3e2139d", func := "analemma/analemmalaw21.InstantBack", spec := "instantBack", inPlace := ["math/bits.Sub64", "math/bits.Add64"], unfollowed := true, recurses := true, named := ["math/bits.divideError", "math/bits.overflowError"], apart := false }
def InstantBackSaid : Prop := instantBackRow.holds Try.pinned (OpenSpec.ofChange instantBackSpec)

/-- ITS FALSE NEIGHBOUR: 'it returns false'. Refute it at one input. -/
def instantBackWrong : ChangeSpec := { name := "instantBack", fn := fun _ => fun
  | [d1, d2, d3, d4] => { results := [.lit (.bool false)], args := [d1, d2, d3, d4] }
  | _ => none }
def InstantBackWrongFalsely : Prop := instantBackRow.holds Try.pinned (OpenSpec.ofChange instantBackWrong)

/-- 'analemmalaw19.CalendarUntils': WHATEVER THE INPUT: true; the input reads as it did. -/
def calendarUntilsSpec : ChangeSpec := { name := "calendarUntils", fn := fun _ => fun
  | [d1, d2, d3] => { results := [.lit (.bool true)], args := [d1, d2, d3] }
  | _ => none }
def calendarUntilsRow : OpenClaim := { program := "ytccllfegnijpiaa", sum := "1683b73dd89dc28cd7bcf1bdaa439876629944107ca4f2c6a66a21f4e3e2139d", func := "analemma/analemmalaw19.CalendarUntils", spec := "calendarUntils", inPlace := ["math/bits.Sub64", "math/bits.Add64"], unfollowed := true, recurses := true, named := ["math/bits.divideError", "math/bits.overflowError"], apart := false }
def CalendarUntilsSaid : Prop := calendarUntilsRow.holds Try.pinned (OpenSpec.ofChange calendarUntilsSpec)

/-- ITS FALSE NEIGHBOUR: 'it returns false'. Refute it at one input. -/
def calendarUntilsWrong : ChangeSpec := { name := "calendarUntils", fn := fun _ => fun
  | [d1, d2, d3] => { results := [.lit (.bool false)], args := [d1, d2, d3] }
  | _ => none }
def CalendarUntilsWrongFalsely : Prop := calendarUntilsRow.holds Try.pinned (OpenSpec.ofChange calendarUntilsWrong)

/-- 'analemmalaw19.CalendarBack': WHATEVER THE INPUT: true; the input reads as it did. -/
def calendarBackSpec : ChangeSpec := { name := "calendarBack", fn := fun _ => fun
  | [d1, d2, d3] => { results := [.lit (.bool true)], args := [d1, d2, d3] }
  | _ => none }
def calendarBackRow : OpenClaim := { program := "ytccllfegnijpiaa", sum := "1683b73dd89dc28cd7bcf1bdaa439876629944107ca4f2c6a66a21f4e3e2139d", func := "analemma/analemmalaw19.CalendarBack", spec := "calendarBack", inPlace := ["math/bits.Sub64", "math/bits.Add64"], unfollowed := true, recurses := true, named := ["math/bits.divideError", "math/bits.overflowError"], apart := false }
def CalendarBackSaid : Prop := calendarBackRow.holds Try.pinned (OpenSpec.ofChange calendarBackSpec)

/-- ITS FALSE NEIGHBOUR: 'it returns false'. Refute it at one input. -/
def calendarBackWrong : ChangeSpec := { name := "calendarBack", fn := fun _ => fun
  | [d1, d2, d3] => { results := [.lit (.bool false)], args := [d1, d2, d3] }
  | _ => none }
def CalendarBackWrongFalsely : Prop := calendarBackRow.holds Try.pinned (OpenSpec.ofChange calendarBackWrong)

/-- 'analemmalaw19.CalendarSigns': WHATEVER THE INPUT: true; the input reads as it did. -/
def calendarSignsSpec : ChangeSpec := { name := "calendarSigns", fn := fun _ => fun
  | [d1, d2, d3] => { results := [.lit (.bool true)], args := [d1, d2, d3] }
  | _ => none }
def calendarSignsRow : OpenClaim := { program := "ytccllfegnijpiaa", sum := "1683b73dd89dc28cd7bcf1bdaa439876629944107ca4f2c6a66a21f4e3e2139d", func := "analemma/analemmalaw19.CalendarSigns", spec := "calendarSigns", inPlace := ["math/bits.Sub64", "math/bits.Add64"], unfollowed := true, recurses := true, named := ["math/bits.divideError", "math/bits.overflowError"], apart := false }
def CalendarSignsSaid : Prop := calendarSignsRow.holds Try.pinned (OpenSpec.ofChange calendarSignsSpec)

/-- ITS FALSE NEIGHBOUR: 'it returns false'. Refute it at one input. -/
def calendarSignsWrong : ChangeSpec := { name := "calendarSigns", fn := fun _ => fun
  | [d1, d2, d3] => { results := [.lit (.bool false)], args := [d1, d2, d3] }
  | _ => none }
def CalendarSignsWrongFalsely : Prop := calendarSignsRow.holds Try.pinned (OpenSpec.ofChange calendarSignsWrong)

/- THE SECOND FORM. 'bulk': how many values and letters a reading holds, each counted each time it is reached (what is shared counts as often as it is met; a slice's spare places count too). A statement '..UptoSaid' is the law's where the arguments, and the package variables that the reading takes, are together of bulk at most 1048576: NARROWER than '..Said'. Prove '..Said' where nothing that the law and all that it calls make is longer than what came in: it says more and counts as full. Else prove '..UptoSaid'. A law counts once. -/
mutual
def uptoBulk {H : Type} : DataW H → Nat
  | .lit (.string bytes) => bytes.length + 1
  | .lit _ => 1
  | .nil => 1
  | .ptr d => uptoBulk d + 1
  | .slice elems spare => uptoBulkAll elems + uptoBulkAll spare + 1
  | .agg parts => uptoBulkAll parts + 1
  | .iface _ d => uptoBulk d + 1
  | .map entries => uptoBulkEntries entries + 1
  | .held _ => 1
def uptoBulkAll {H : Type} : List (DataW H) → Nat
  | [] => 0
  | d :: r => uptoBulk d + uptoBulkAll r
def uptoBulkEntries {H : Type} : List (Lit × DataW H) → Nat
  | [] => 0
  | x :: r => uptoBulkEntry x + uptoBulkEntries r
def uptoBulkEntry {H : Type} : Lit × DataW H → Nat
  | (.string bytes, d) => bytes.length + uptoBulk d + 1
  | (_, d) => uptoBulk d + 1
 end
def uptoSmall : (H : Type) → List (DataW H) → Bool := fun _ ds => decide (uptoBulkAll ds ≤ 1048576)
def OpenSpec.upto (s : _root_.Go.ChangeSpec) : _root_.Go.OpenSpec := { _root_.Go.OpenSpec.ofChange s with cond := some uptoSmall }

/-- 'analemmalaw21.InstantRounds', WHERE WHAT IT READS IS OF BULK AT MOST 1048576: true; the input reads as it did. -/
def instantRoundsUptoRow : OpenClaim := { program := "ytccllfegnijpiaa", sum := "1683b73dd89dc28cd7bcf1bdaa439876629944107ca4f2c6a66a21f4e3e2139d", func := "analemma/analemmalaw21.InstantRounds", spec := "instantRounds", inPlace := ["math/bits.Sub64", "math/bits.Add64"], unfollowed := true, recurses := true, named := ["math/bits.divideError", "math/bits.overflowError"], apart := false, narrowed := true }
def InstantRoundsUptoSaid : Prop := instantRoundsUptoRow.holds Try.pinned (OpenSpec.upto instantRoundsSpec)

/-- 'analemmalaw21.InstantSplits', WHERE WHAT IT READS IS OF BULK AT MOST 1048576: true; the input reads as it did. -/
def instantSplitsUptoRow : OpenClaim := { program := "ytccllfegnijpiaa", sum := "1683b73dd89dc28cd7bcf1bdaa439876629944107ca4f2c6a66a21f4e3e2139d", func := "analemma/analemmalaw21.InstantSplits", spec := "instantSplits", inPlace := ["math/bits.Sub64", "math/bits.Add64"], unfollowed := true, recurses := true, named := ["math/bits.divideError", "math/bits.overflowError"], apart := false, narrowed := true }
def InstantSplitsUptoSaid : Prop := instantSplitsUptoRow.holds Try.pinned (OpenSpec.upto instantSplitsSpec)

/-- 'analemmalaw21.InstantAdds', WHERE WHAT IT READS IS OF BULK AT MOST 1048576: true; the input reads as it did. -/
def instantAddsUptoRow : OpenClaim := { program := "ytccllfegnijpiaa", sum := "1683b73dd89dc28cd7bcf1bdaa439876629944107ca4f2c6a66a21f4e3e2139d", func := "analemma/analemmalaw21.InstantAdds", spec := "instantAdds", inPlace := ["math/bits.Sub64", "math/bits.Add64"], unfollowed := true, recurses := true, named := ["math/bits.divideError", "math/bits.overflowError"], apart := false, narrowed := true }
def InstantAddsUptoSaid : Prop := instantAddsUptoRow.holds Try.pinned (OpenSpec.upto instantAddsSpec)

/-- 'analemmalaw21.InstantBack', WHERE WHAT IT READS IS OF BULK AT MOST 1048576: true; the input reads as it did. -/
def instantBackUptoRow : OpenClaim := { program := "ytccllfegnijpiaa", sum := "1683b73dd89dc28cd7bcf1bdaa439876629944107ca4f2c6a66a21f4e3e2139d", func := "analemma/analemmalaw21.InstantBack", spec := "instantBack", inPlace := ["math/bits.Sub64", "math/bits.Add64"], unfollowed := true, recurses := true, named := ["math/bits.divideError", "math/bits.overflowError"], apart := false, narrowed := true }
def InstantBackUptoSaid : Prop := instantBackUptoRow.holds Try.pinned (OpenSpec.upto instantBackSpec)

/-- 'analemmalaw19.CalendarUntils', WHERE WHAT IT READS IS OF BULK AT MOST 1048576: true; the input reads as it did. -/
def calendarUntilsUptoRow : OpenClaim := { program := "ytccllfegnijpiaa", sum := "1683b73dd89dc28cd7bcf1bdaa439876629944107ca4f2c6a66a21f4e3e2139d", func := "analemma/analemmalaw19.CalendarUntils", spec := "calendarUntils", inPlace := ["math/bits.Sub64", "math/bits.Add64"], unfollowed := true, recurses := true, named := ["math/bits.divideError", "math/bits.overflowError"], apart := false, narrowed := true }
def CalendarUntilsUptoSaid : Prop := calendarUntilsUptoRow.holds Try.pinned (OpenSpec.upto calendarUntilsSpec)

/-- 'analemmalaw19.CalendarBack', WHERE WHAT IT READS IS OF BULK AT MOST 1048576: true; the input reads as it did. -/
def calendarBackUptoRow : OpenClaim := { program := "ytccllfegnijpiaa", sum := "1683b73dd89dc28cd7bcf1bdaa439876629944107ca4f2c6a66a21f4e3e2139d", func := "analemma/analemmalaw19.CalendarBack", spec := "calendarBack", inPlace := ["math/bits.Sub64", "math/bits.Add64"], unfollowed := true, recurses := true, named := ["math/bits.divideError", "math/bits.overflowError"], apart := false, narrowed := true }
def CalendarBackUptoSaid : Prop := calendarBackUptoRow.holds Try.pinned (OpenSpec.upto calendarBackSpec)

/-- 'analemmalaw19.CalendarSigns', WHERE WHAT IT READS IS OF BULK AT MOST 1048576: true; the input reads as it did. -/
def calendarSignsUptoRow : OpenClaim := { program := "ytccllfegnijpiaa", sum := "1683b73dd89dc28cd7bcf1bdaa439876629944107ca4f2c6a66a21f4e3e2139d", func := "analemma/analemmalaw19.CalendarSigns", spec := "calendarSigns", inPlace := ["math/bits.Sub64", "math/bits.Add64"], unfollowed := true, recurses := true, named := ["math/bits.divideError", "math/bits.overflowError"], apart := false, narrowed := true }
def CalendarSignsUptoSaid : Prop := calendarSignsUptoRow.holds Try.pinned (OpenSpec.upto calendarSignsSpec)

end Rows
end Go.Proofs.Ytccllfegnijpiaa
