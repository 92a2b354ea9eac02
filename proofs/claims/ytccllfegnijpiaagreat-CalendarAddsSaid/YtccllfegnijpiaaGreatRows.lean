/-
  No cell of these rows narrows 'for every input' (looked for: loops, veiled, ifaces, maps, wideKeys, modest, calm, conditions, laid).
  DERIVED. THE GIVEN ROWS OF THIS SEAT. 4 by the template 'for every input the law returns true; each argument reads behind the call as it read before'; 0 by the template 'total and deterministic' (their statements: YtccllfegnijpiaaGreatTotals.lean).
  GIVEN WITH THE SEED: the statements are not yours to turn. If you find one false, say at which input.
  Laid BY PROGRAM, IN A SANDBOX (cutbox-rows.mjs): the forced cells as the released guide's own fill.sh prints them over the translation 4b58cccfb0d7046f… (all of the seat's roots in one cut). By AI agents, Wed Nov 11 2026. No macro, syntax, notation, axiom, sorry.
-/
import Derived.Test.YtccllfegnijpiaaGreatChecked
import GoSem.Claim
import GoSem.ClaimJoined
import GoSem.ClaimMapViews
import Derived.JoinedTies
import Derived.KernelRfl
namespace Go.Proofs.YtccllfegnijpiaaGreat
/- THE CELL 'sum', in the pinned program and in every row, IS THE sha256 OF THE DUMP (.gsa) THAT YtccllfegnijpiaaGreatProg.lean LOADS. Nothing in Lean hashes anything: it is a label: what it is worth is what the hold of that sum in a sandbox is worth. -/
noncomputable def Tryz.pinned : Pinned := { name := "ytccllfegnijpiaagreat", sum := "4b58cccfb0d7046fba33e59586d60699bd8580f081373fa526a3d2e755ed8559", checked := Tryz.checked }
namespace Rows
def none {H : Type} : Left H := { results := [], args := [] }

/-- 'analemmalaw21.InstantLocals': WHATEVER THE INPUT: true; the input reads as it did. -/
def instantLocalsSpec : ChangeSpec := { name := "instantLocals", fn := fun _ => fun
  | [d1, d2, d3] => { results := [.lit (.bool true)], args := [d1, d2, d3] }
  | _ => none }
def instantLocalsRow : OpenClaim := { program := "ytccllfegnijpiaagreat", sum := "4b58cccfb0d7046fba33e59586d60699bd8580f081373fa526a3d2e755ed8559", func := "analemma/analemmalaw21.InstantLocals", spec := "instantLocals", inPlace := ["math/bits.Sub64", "math/bits.Add64"], unfollowed := true, recurses := true, named := ["math/bits.divideError", "math/bits.overflowError"], apart := false }
def InstantLocalsSaid : Prop := instantLocalsRow.holds Tryz.pinned (OpenSpec.ofChange instantLocalsSpec)

/-- ITS FALSE NEIGHBOUR: 'it returns false'. Refute it at one input. -/
def instantLocalsWrong : ChangeSpec := { name := "instantLocals", fn := fun _ => fun
  | [d1, d2, d3] => { results := [.lit (.bool false)], args := [d1, d2, d3] }
  | _ => none }
def InstantLocalsWrongFalsely : Prop := instantLocalsRow.holds Tryz.pinned (OpenSpec.ofChange instantLocalsWrong)

/-- 'analemmalaw19.CalendarAddsDates': WHATEVER THE INPUT: true; the input reads as it did. -/
def calendarAddsDatesSpec : ChangeSpec := { name := "calendarAddsDates", fn := fun _ => fun
  | [d1, d2, d3] => { results := [.lit (.bool true)], args := [d1, d2, d3] }
  | _ => none }
def calendarAddsDatesRow : OpenClaim := { program := "ytccllfegnijpiaagreat", sum := "4b58cccfb0d7046fba33e59586d60699bd8580f081373fa526a3d2e755ed8559", func := "analemma/analemmalaw19.CalendarAddsDates", spec := "calendarAddsDates", inPlace := ["math/bits.Sub64", "math/bits.Add64"], unfollowed := true, recurses := true, named := ["math/bits.divideError", "math/bits.overflowError"], apart := false }
def CalendarAddsDatesSaid : Prop := calendarAddsDatesRow.holds Tryz.pinned (OpenSpec.ofChange calendarAddsDatesSpec)

/-- ITS FALSE NEIGHBOUR: 'it returns false'. Refute it at one input. -/
def calendarAddsDatesWrong : ChangeSpec := { name := "calendarAddsDates", fn := fun _ => fun
  | [d1, d2, d3] => { results := [.lit (.bool false)], args := [d1, d2, d3] }
  | _ => none }
def CalendarAddsDatesWrongFalsely : Prop := calendarAddsDatesRow.holds Tryz.pinned (OpenSpec.ofChange calendarAddsDatesWrong)

/-- 'analemmalaw19.CalendarAdds': WHATEVER THE INPUT: true; the input reads as it did. -/
def calendarAddsSpec : ChangeSpec := { name := "calendarAdds", fn := fun _ => fun
  | [d1, d2, d3] => { results := [.lit (.bool true)], args := [d1, d2, d3] }
  | _ => none }
def calendarAddsRow : OpenClaim := { program := "ytccllfegnijpiaagreat", sum := "4b58cccfb0d7046fba33e59586d60699bd8580f081373fa526a3d2e755ed8559", func := "analemma/analemmalaw19.CalendarAdds", spec := "calendarAdds", inPlace := ["math/bits.Sub64", "math/bits.Add64"], unfollowed := true, recurses := true, named := ["math/bits.divideError", "math/bits.overflowError"], apart := false }
def CalendarAddsSaid : Prop := calendarAddsRow.holds Tryz.pinned (OpenSpec.ofChange calendarAddsSpec)

/-- ITS FALSE NEIGHBOUR: 'it returns false'. Refute it at one input. -/
def calendarAddsWrong : ChangeSpec := { name := "calendarAdds", fn := fun _ => fun
  | [d1, d2, d3] => { results := [.lit (.bool false)], args := [d1, d2, d3] }
  | _ => none }
def CalendarAddsWrongFalsely : Prop := calendarAddsRow.holds Tryz.pinned (OpenSpec.ofChange calendarAddsWrong)

/-- 'analemmalaw19.CalendarBetweens': WHATEVER THE INPUT: true; the input reads as it did. -/
def calendarBetweensSpec : ChangeSpec := { name := "calendarBetweens", fn := fun _ => fun
  | [d1, d2, d3] => { results := [.lit (.bool true)], args := [d1, d2, d3] }
  | _ => none }
def calendarBetweensRow : OpenClaim := { program := "ytccllfegnijpiaagreat", sum := "4b58cccfb0d7046fba33e59586d60699bd8580f081373fa526a3d2e755ed8559", func := "analemma/analemmalaw19.CalendarBetweens", spec := "calendarBetweens", inPlace := ["math/bits.Sub64", "math/bits.Add64"], unfollowed := true, recurses := true, named := ["math/bits.divideError", "math/bits.overflowError"], apart := false }
def CalendarBetweensSaid : Prop := calendarBetweensRow.holds Tryz.pinned (OpenSpec.ofChange calendarBetweensSpec)

/-- ITS FALSE NEIGHBOUR: 'it returns false'. Refute it at one input. -/
def calendarBetweensWrong : ChangeSpec := { name := "calendarBetweens", fn := fun _ => fun
  | [d1, d2, d3] => { results := [.lit (.bool false)], args := [d1, d2, d3] }
  | _ => none }
def CalendarBetweensWrongFalsely : Prop := calendarBetweensRow.holds Tryz.pinned (OpenSpec.ofChange calendarBetweensWrong)

/- THE SECOND FORM. 'bulk': how many values and letters a reading holds, each counted each time it is reached (what is shared counts as often as it is met; a slice's spare places count too). A statement '..UptoSaid' is the law's where the arguments, and the package variables that the reading takes, are together of bulk at most 1048576: NARROWER than '..Said'. Prove '..Said' where nothing that the law and all that it calls make is longer than what came in: it says more and counts as full. Else prove '..UptoSaid'. A law counts once. -/
mutual
def uptoBulk {H : Type} : DataW H → Nat
  | .lit (.string bytes) => bytes.length + 1
  | .lit _ => 1
  | .nil => 1
  | .ptr d => uptoBulk d + 1
  | .slice elems spare => uptoBulkAll elems + uptoBulkAll spare + 1
  | .agg parts => uptoBulkAll parts + 1
  | .iface _ d => uptoBulk d + 1
  | .map entries => uptoBulkEntries entries + 1
  | .held _ => 1
def uptoBulkAll {H : Type} : List (DataW H) → Nat
  | [] => 0
  | d :: r => uptoBulk d + uptoBulkAll r
def uptoBulkEntries {H : Type} : List (Lit × DataW H) → Nat
  | [] => 0
  | x :: r => uptoBulkEntry x + uptoBulkEntries r
def uptoBulkEntry {H : Type} : Lit × DataW H → Nat
  | (.string bytes, d) => bytes.length + uptoBulk d + 1
  | (_, d) => uptoBulk d + 1
 end
def uptoSmall : (H : Type) → List (DataW H) → Bool := fun _ ds => decide (uptoBulkAll ds ≤ 1048576)
def OpenSpec.upto (s : _root_.Go.ChangeSpec) : _root_.Go.OpenSpec := { _root_.Go.OpenSpec.ofChange s with cond := some uptoSmall }

/-- 'analemmalaw21.InstantLocals', WHERE WHAT IT READS IS OF BULK AT MOST 1048576: true; the input reads as it did. -/
def instantLocalsUptoRow : OpenClaim := { program := "ytccllfegnijpiaagreat", sum := "4b58cccfb0d7046fba33e59586d60699bd8580f081373fa526a3d2e755ed8559", func := "analemma/analemmalaw21.InstantLocals", spec := "instantLocals", inPlace := ["math/bits.Sub64", "math/bits.Add64"], unfollowed := true, recurses := true, named := ["math/bits.divideError", "math/bits.overflowError"], apart := false, narrowed := true }
def InstantLocalsUptoSaid : Prop := instantLocalsUptoRow.holds Tryz.pinned (OpenSpec.upto instantLocalsSpec)

/-- 'analemmalaw19.CalendarAddsDates', WHERE WHAT IT READS IS OF BULK AT MOST 1048576: true; the input reads as it did. -/
def calendarAddsDatesUptoRow : OpenClaim := { program := "ytccllfegnijpiaagreat", sum := "4b58cccfb0d7046fba33e59586d60699bd8580f081373fa526a3d2e755ed8559", func := "analemma/analemmalaw19.CalendarAddsDates", spec := "calendarAddsDates", inPlace := ["math/bits.Sub64", "math/bits.Add64"], unfollowed := true, recurses := true, named := ["math/bits.divideError", "math/bits.overflowError"], apart := false, narrowed := true }
def CalendarAddsDatesUptoSaid : Prop := calendarAddsDatesUptoRow.holds Tryz.pinned (OpenSpec.upto calendarAddsDatesSpec)

/-- 'analemmalaw19.CalendarAdds', WHERE WHAT IT READS IS OF BULK AT MOST 1048576: true; the input reads as it did. -/
def calendarAddsUptoRow : OpenClaim := { program := "ytccllfegnijpiaagreat", sum := "4b58cccfb0d7046fba33e59586d60699bd8580f081373fa526a3d2e755ed8559", func := "analemma/analemmalaw19.CalendarAdds", spec := "calendarAdds", inPlace := ["math/bits.Sub64", "math/bits.Add64"], unfollowed := true, recurses := true, named := ["math/bits.divideError", "math/bits.overflowError"], apart := false, narrowed := true }
def CalendarAddsUptoSaid : Prop := calendarAddsUptoRow.holds Tryz.pinned (OpenSpec.upto calendarAddsSpec)

/-- 'analemmalaw19.CalendarBetweens', WHERE WHAT IT READS IS OF BULK AT MOST 1048576: true; the input reads as it did. -/
def calendarBetweensUptoRow : OpenClaim := { program := "ytccllfegnijpiaagreat", sum := "4b58cccfb0d7046fba33e59586d60699bd8580f081373fa526a3d2e755ed8559", func := "analemma/analemmalaw19.CalendarBetweens", spec := "calendarBetweens", inPlace := ["math/bits.Sub64", "math/bits.Add64"], unfollowed := true, recurses := true, named := ["math/bits.divideError", "math/bits.overflowError"], apart := false, narrowed := true }
def CalendarBetweensUptoSaid : Prop := calendarBetweensUptoRow.holds Tryz.pinned (OpenSpec.upto calendarBetweensSpec)

end Rows
end Go.Proofs.YtccllfegnijpiaaGreat
