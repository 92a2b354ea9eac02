/-
  No cell of these rows narrows 'for every input' (looked for: loops, veiled, ifaces, maps, wideKeys, modest, calm, conditions, laid).
  DERIVED. THE GIVEN ROWS OF THIS SEAT. 4 by the template 'for every input the law returns true; each argument reads behind the call as it read before'; 0 by the template 'total and deterministic' (their statements: YthoedmikfpbfnaaGreatTotals.lean).
  GIVEN WITH THE SEED: the statements are not yours to turn. If you find one false, say at which input.
  Laid BY PROGRAM, IN A SANDBOX (cutbox-rows.mjs): the forced cells as the released guide's own fill.sh prints them over the translation d90a7ad84bf684aa… (all of the seat's roots in one cut). By AI agents, Wed Nov 11 2026. No macro, syntax, notation, axiom, sorry.
-/
import Derived.Test.YthoedmikfpbfnaaGreatChecked
import GoSem.Claim
import GoSem.ClaimJoined
import GoSem.ClaimMapViews
import Derived.JoinedTies
import Derived.KernelRfl
namespace Go.Proofs.YthoedmikfpbfnaaGreat
/- THE CELL 'sum', in the pinned program and in every row, IS THE sha256 OF THE DUMP (.gsa) THAT YthoedmikfpbfnaaGreatProg.lean LOADS. Nothing in Lean hashes anything: it is a label: what it is worth is what the hold of that sum in a sandbox is worth. -/
noncomputable def Tryz.pinned : Pinned := { name := "ythoedmikfpbfnaagreat", sum := "d90a7ad84bf684aa18081669f7fb937854bef3af61f75b2f440754cb199c6c27", checked := Tryz.checked }
namespace Rows
def none {H : Type} : Left H := { results := [], args := [] }

/-- 'analemmalaw20.RelativeMoves': WHATEVER THE INPUT: true; the input reads as it did. -/
def relativeMovesSpec : ChangeSpec := { name := "relativeMoves", fn := fun _ => fun
  | [d1, d2, d3] => { results := [.lit (.bool true)], args := [d1, d2, d3] }
  | _ => none }
def relativeMovesRow : OpenClaim := { program := "ythoedmikfpbfnaagreat", sum := "d90a7ad84bf684aa18081669f7fb937854bef3af61f75b2f440754cb199c6c27", func := "analemma/analemmalaw20.RelativeMoves", spec := "relativeMoves", inPlace := ["math/bits.Sub64", "math/bits.Add64"], unfollowed := true, recurses := true, named := ["math/bits.divideError", "math/bits.overflowError"], apart := false }
def RelativeMovesSaid : Prop := relativeMovesRow.holds Tryz.pinned (OpenSpec.ofChange relativeMovesSpec)

/-- ITS FALSE NEIGHBOUR: 'it returns false'. Refute it at one input. -/
def relativeMovesWrong : ChangeSpec := { name := "relativeMoves", fn := fun _ => fun
  | [d1, d2, d3] => { results := [.lit (.bool false)], args := [d1, d2, d3] }
  | _ => none }
def RelativeMovesWrongFalsely : Prop := relativeMovesRow.holds Tryz.pinned (OpenSpec.ofChange relativeMovesWrong)

/-- 'analemmalaw20.RelativeTotals': WHATEVER THE INPUT: true; the input reads as it did. -/
def relativeTotalsSpec : ChangeSpec := { name := "relativeTotals", fn := fun _ => fun
  | [d1, d2, d3] => { results := [.lit (.bool true)], args := [d1, d2, d3] }
  | _ => none }
def relativeTotalsRow : OpenClaim := { program := "ythoedmikfpbfnaagreat", sum := "d90a7ad84bf684aa18081669f7fb937854bef3af61f75b2f440754cb199c6c27", func := "analemma/analemmalaw20.RelativeTotals", spec := "relativeTotals", inPlace := ["math/bits.Sub64", "math/bits.Add64"], unfollowed := true, recurses := true, named := ["math/bits.divideError", "math/bits.overflowError"], apart := false }
def RelativeTotalsSaid : Prop := relativeTotalsRow.holds Tryz.pinned (OpenSpec.ofChange relativeTotalsSpec)

/-- ITS FALSE NEIGHBOUR: 'it returns false'. Refute it at one input. -/
def relativeTotalsWrong : ChangeSpec := { name := "relativeTotals", fn := fun _ => fun
  | [d1, d2, d3] => { results := [.lit (.bool false)], args := [d1, d2, d3] }
  | _ => none }
def RelativeTotalsWrongFalsely : Prop := relativeTotalsRow.holds Tryz.pinned (OpenSpec.ofChange relativeTotalsWrong)

/-- 'analemmalaw20.RelativeRounds': WHATEVER THE INPUT: true; the input reads as it did. -/
def relativeRoundsSpec : ChangeSpec := { name := "relativeRounds", fn := fun _ => fun
  | [d1, d2, d3] => { results := [.lit (.bool true)], args := [d1, d2, d3] }
  | _ => none }
def relativeRoundsRow : OpenClaim := { program := "ythoedmikfpbfnaagreat", sum := "d90a7ad84bf684aa18081669f7fb937854bef3af61f75b2f440754cb199c6c27", func := "analemma/analemmalaw20.RelativeRounds", spec := "relativeRounds", inPlace := ["math/bits.Sub64", "math/bits.Add64"], unfollowed := true, recurses := true, named := ["math/bits.divideError", "math/bits.overflowError"], apart := false }
def RelativeRoundsSaid : Prop := relativeRoundsRow.holds Tryz.pinned (OpenSpec.ofChange relativeRoundsSpec)

/-- ITS FALSE NEIGHBOUR: 'it returns false'. Refute it at one input. -/
def relativeRoundsWrong : ChangeSpec := { name := "relativeRounds", fn := fun _ => fun
  | [d1, d2, d3] => { results := [.lit (.bool false)], args := [d1, d2, d3] }
  | _ => none }
def RelativeRoundsWrongFalsely : Prop := relativeRoundsRow.holds Tryz.pinned (OpenSpec.ofChange relativeRoundsWrong)

/-- 'analemmalaw20.RelativeSigns': WHATEVER THE INPUT: true; the input reads as it did. -/
def relativeSignsSpec : ChangeSpec := { name := "relativeSigns", fn := fun _ => fun
  | [d1, d2, d3] => { results := [.lit (.bool true)], args := [d1, d2, d3] }
  | _ => none }
def relativeSignsRow : OpenClaim := { program := "ythoedmikfpbfnaagreat", sum := "d90a7ad84bf684aa18081669f7fb937854bef3af61f75b2f440754cb199c6c27", func := "analemma/analemmalaw20.RelativeSigns", spec := "relativeSigns", inPlace := ["math/bits.Sub64", "math/bits.Add64"], unfollowed := true, recurses := true, named := ["math/bits.divideError", "math/bits.overflowError"], apart := false }
def RelativeSignsSaid : Prop := relativeSignsRow.holds Tryz.pinned (OpenSpec.ofChange relativeSignsSpec)

/-- ITS FALSE NEIGHBOUR: 'it returns false'. Refute it at one input. -/
def relativeSignsWrong : ChangeSpec := { name := "relativeSigns", fn := fun _ => fun
  | [d1, d2, d3] => { results := [.lit (.bool false)], args := [d1, d2, d3] }
  | _ => none }
def RelativeSignsWrongFalsely : Prop := relativeSignsRow.holds Tryz.pinned (OpenSpec.ofChange relativeSignsWrong)

/- THE SECOND FORM. 'bulk': how many values and letters a reading holds, each counted each time it is reached (what is shared counts as often as it is met; a slice's spare places count too). A statement '..UptoSaid' is the law's where the arguments, and the package variables that the reading takes, are together of bulk at most 1048576: NARROWER than '..Said'. Prove '..Said' where nothing that the law and all that it calls make is longer than what came in: it says more and counts as full. Else prove '..UptoSaid'. A law counts once. -/
mutual
def uptoBulk {H : Type} : DataW H → Nat
  | .lit (.string bytes) => bytes.length + 1
  | .lit _ => 1
  | .nil => 1
  | .ptr d => uptoBulk d + 1
  | .slice elems spare => uptoBulkAll elems + uptoBulkAll spare + 1
  | .agg parts => uptoBulkAll parts + 1
  | .iface _ d => uptoBulk d + 1
  | .map entries => uptoBulkEntries entries + 1
  | .held _ => 1
def uptoBulkAll {H : Type} : List (DataW H) → Nat
  | [] => 0
  | d :: r => uptoBulk d + uptoBulkAll r
def uptoBulkEntries {H : Type} : List (Lit × DataW H) → Nat
  | [] => 0
  | x :: r => uptoBulkEntry x + uptoBulkEntries r
def uptoBulkEntry {H : Type} : Lit × DataW H → Nat
  | (.string bytes, d) => bytes.length + uptoBulk d + 1
  | (_, d) => uptoBulk d + 1
 end
def uptoSmall : (H : Type) → List (DataW H) → Bool := fun _ ds => decide (uptoBulkAll ds ≤ 1048576)
def OpenSpec.upto (s : _root_.Go.ChangeSpec) : _root_.Go.OpenSpec := { _root_.Go.OpenSpec.ofChange s with cond := some uptoSmall }

/-- 'analemmalaw20.RelativeMoves', WHERE WHAT IT READS IS OF BULK AT MOST 1048576: true; the input reads as it did. -/
def relativeMovesUptoRow : OpenClaim := { program := "ythoedmikfpbfnaagreat", sum := "d90a7ad84bf684aa18081669f7fb937854bef3af61f75b2f440754cb199c6c27", func := "analemma/analemmalaw20.RelativeMoves", spec := "relativeMoves", inPlace := ["math/bits.Sub64", "math/bits.Add64"], unfollowed := true, recurses := true, named := ["math/bits.divideError", "math/bits.overflowError"], apart := false, narrowed := true }
def RelativeMovesUptoSaid : Prop := relativeMovesUptoRow.holds Tryz.pinned (OpenSpec.upto relativeMovesSpec)

/-- 'analemmalaw20.RelativeTotals', WHERE WHAT IT READS IS OF BULK AT MOST 1048576: true; the input reads as it did. -/
def relativeTotalsUptoRow : OpenClaim := { program := "ythoedmikfpbfnaagreat", sum := "d90a7ad84bf684aa18081669f7fb937854bef3af61f75b2f440754cb199c6c27", func := "analemma/analemmalaw20.RelativeTotals", spec := "relativeTotals", inPlace := ["math/bits.Sub64", "math/bits.Add64"], unfollowed := true, recurses := true, named := ["math/bits.divideError", "math/bits.overflowError"], apart := false, narrowed := true }
def RelativeTotalsUptoSaid : Prop := relativeTotalsUptoRow.holds Tryz.pinned (OpenSpec.upto relativeTotalsSpec)

/-- 'analemmalaw20.RelativeRounds', WHERE WHAT IT READS IS OF BULK AT MOST 1048576: true; the input reads as it did. -/
def relativeRoundsUptoRow : OpenClaim := { program := "ythoedmikfpbfnaagreat", sum := "d90a7ad84bf684aa18081669f7fb937854bef3af61f75b2f440754cb199c6c27", func := "analemma/analemmalaw20.RelativeRounds", spec := "relativeRounds", inPlace := ["math/bits.Sub64", "math/bits.Add64"], unfollowed := true, recurses := true, named := ["math/bits.divideError", "math/bits.overflowError"], apart := false, narrowed := true }
def RelativeRoundsUptoSaid : Prop := relativeRoundsUptoRow.holds Tryz.pinned (OpenSpec.upto relativeRoundsSpec)

/-- 'analemmalaw20.RelativeSigns', WHERE WHAT IT READS IS OF BULK AT MOST 1048576: true; the input reads as it did. -/
def relativeSignsUptoRow : OpenClaim := { program := "ythoedmikfpbfnaagreat", sum := "d90a7ad84bf684aa18081669f7fb937854bef3af61f75b2f440754cb199c6c27", func := "analemma/analemmalaw20.RelativeSigns", spec := "relativeSigns", inPlace := ["math/bits.Sub64", "math/bits.Add64"], unfollowed := true, recurses := true, named := ["math/bits.divideError", "math/bits.overflowError"], apart := false, narrowed := true }
def RelativeSignsUptoSaid : Prop := relativeSignsUptoRow.holds Tryz.pinned (OpenSpec.upto relativeSignsSpec)

end Rows
end Go.Proofs.YthoedmikfpbfnaaGreat
