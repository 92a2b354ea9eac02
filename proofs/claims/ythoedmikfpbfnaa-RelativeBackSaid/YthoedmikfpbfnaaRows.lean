/-
  No cell of these rows narrows 'for every input' (looked for: loops, veiled, ifaces, maps, wideKeys, modest, calm, conditions, laid).
  DERIVED. THE GIVEN ROWS OF THIS SEAT. 2 by the template 'for every input the law returns true; each argument reads behind the call as it read before'; 0 by the template 'total and deterministic' (their statements: YthoedmikfpbfnaaTotals.lean).
  GIVEN WITH THE SEED: the statements are not yours to turn. If you find one false, say at which input.
  Laid BY PROGRAM, IN A SANDBOX (cutbox-rows.mjs): the forced cells as the released guide's own fill.sh prints them over the translation a4c231b1f55ae5d3… (all of the seat's roots in one cut). By AI agents, Wed Nov 11 2026. No macro, syntax, notation, axiom, sorry.
-/
import Derived.Test.YthoedmikfpbfnaaChecked
import GoSem.Claim
import GoSem.ClaimJoined
import GoSem.ClaimMapViews
import Derived.JoinedTies
import Derived.KernelRfl
namespace Go.Proofs.Ythoedmikfpbfnaa
/- THE CELL 'sum', in the pinned program and in every row, IS THE sha256 OF THE DUMP (.gsa) THAT YthoedmikfpbfnaaProg.lean LOADS. Nothing in Lean hashes anything: it is a label: what it is worth is what the hold of that sum in a sandbox is worth. -/
noncomputable def Try.pinned : Pinned := { name := "ythoedmikfpbfnaa", sum := "a4c231b1f55ae5d38c74f22a69215e1ca3ff16ef90fb1ec0d9d6700e0286920a", checked := Try.checked }
namespace Rows
def none {H : Type} : Left H := { results := [], args := [] }

/-- 'analemmalaw20.RelativeBack': WHATEVER THE INPUT: true; the input reads as it did. -/
def relativeBackSpec : ChangeSpec := { name := "relativeBack", fn := fun _ => fun
  | [d1, d2, d3] => { results := [.lit (.bool true)], args := [d1, d2, d3] }
  | _ => none }
def relativeBackRow : OpenClaim := { program := "ythoedmikfpbfnaa", sum := "a4c231b1f55ae5d38c74f22a69215e1ca3ff16ef90fb1ec0d9d6700e0286920a", func := "analemma/analemmalaw20.RelativeBack", spec := "relativeBack", inPlace := ["math/bits.Sub64", "math/bits.Add64"], unfollowed := true, recurses := true, named := ["math/bits.divideError", "math/bits.overflowError"], apart := false }
def RelativeBackSaid : Prop := relativeBackRow.holds Try.pinned (OpenSpec.ofChange relativeBackSpec)

/-- ITS FALSE NEIGHBOUR: 'it returns false'. Refute it at one input. -/
def relativeBackWrong : ChangeSpec := { name := "relativeBack", fn := fun _ => fun
  | [d1, d2, d3] => { results := [.lit (.bool false)], args := [d1, d2, d3] }
  | _ => none }
def RelativeBackWrongFalsely : Prop := relativeBackRow.holds Try.pinned (OpenSpec.ofChange relativeBackWrong)

/-- 'analemmalaw20.RelativeExact': WHATEVER THE INPUT: true; the input reads as it did. -/
def relativeExactSpec : ChangeSpec := { name := "relativeExact", fn := fun _ => fun
  | [d1, d2, d3, d4] => { results := [.lit (.bool true)], args := [d1, d2, d3, d4] }
  | _ => none }
def relativeExactRow : OpenClaim := { program := "ythoedmikfpbfnaa", sum := "a4c231b1f55ae5d38c74f22a69215e1ca3ff16ef90fb1ec0d9d6700e0286920a", func := "analemma/analemmalaw20.RelativeExact", spec := "relativeExact", inPlace := ["math/bits.Sub64", "math/bits.Add64"], unfollowed := true, recurses := true, named := ["math/bits.divideError", "math/bits.overflowError"], apart := false }
def RelativeExactSaid : Prop := relativeExactRow.holds Try.pinned (OpenSpec.ofChange relativeExactSpec)

/-- ITS FALSE NEIGHBOUR: 'it returns false'. Refute it at one input. -/
def relativeExactWrong : ChangeSpec := { name := "relativeExact", fn := fun _ => fun
  | [d1, d2, d3, d4] => { results := [.lit (.bool false)], args := [d1, d2, d3, d4] }
  | _ => none }
def RelativeExactWrongFalsely : Prop := relativeExactRow.holds Try.pinned (OpenSpec.ofChange relativeExactWrong)

/- THE SECOND FORM. 'bulk': how many values and letters a reading holds, each counted each time it is reached (what is shared counts as often as it is met; a slice's spare places count too). A statement '..UptoSaid' is the law's where the arguments, and the package variables that the reading takes, are together of bulk at most 1048576: NARROWER than '..Said'. Prove '..Said' where nothing that the law and all that it calls make is longer than what came in: it says more and counts as full. Else prove '..UptoSaid'. A law counts once. -/
mutual
def uptoBulk {H : Type} : DataW H → Nat
  | .lit (.string bytes) => bytes.length + 1
  | .lit _ => 1
  | .nil => 1
  | .ptr d => uptoBulk d + 1
  | .slice elems spare => uptoBulkAll elems + uptoBulkAll spare + 1
  | .agg parts => uptoBulkAll parts + 1
  | .iface _ d => uptoBulk d + 1
  | .map entries => uptoBulkEntries entries + 1
  | .held _ => 1
def uptoBulkAll {H : Type} : List (DataW H) → Nat
  | [] => 0
  | d :: r => uptoBulk d + uptoBulkAll r
def uptoBulkEntries {H : Type} : List (Lit × DataW H) → Nat
  | [] => 0
  | x :: r => uptoBulkEntry x + uptoBulkEntries r
def uptoBulkEntry {H : Type} : Lit × DataW H → Nat
  | (.string bytes, d) => bytes.length + uptoBulk d + 1
  | (_, d) => uptoBulk d + 1
 end
def uptoSmall : (H : Type) → List (DataW H) → Bool := fun _ ds => decide (uptoBulkAll ds ≤ 1048576)
def OpenSpec.upto (s : _root_.Go.ChangeSpec) : _root_.Go.OpenSpec := { _root_.Go.OpenSpec.ofChange s with cond := some uptoSmall }

/-- 'analemmalaw20.RelativeBack', WHERE WHAT IT READS IS OF BULK AT MOST 1048576: true; the input reads as it did. -/
def relativeBackUptoRow : OpenClaim := { program := "ythoedmikfpbfnaa", sum := "a4c231b1f55ae5d38c74f22a69215e1ca3ff16ef90fb1ec0d9d6700e0286920a", func := "analemma/analemmalaw20.RelativeBack", spec := "relativeBack", inPlace := ["math/bits.Sub64", "math/bits.Add64"], unfollowed := true, recurses := true, named := ["math/bits.divideError", "math/bits.overflowError"], apart := false, narrowed := true }
def RelativeBackUptoSaid : Prop := relativeBackUptoRow.holds Try.pinned (OpenSpec.upto relativeBackSpec)

/-- 'analemmalaw20.RelativeExact', WHERE WHAT IT READS IS OF BULK AT MOST 1048576: true; the input reads as it did. -/
def relativeExactUptoRow : OpenClaim := { program := "ythoedmikfpbfnaa", sum := "a4c231b1f55ae5d38c74f22a69215e1ca3ff16ef90fb1ec0d9d6700e0286920a", func := "analemma/analemmalaw20.RelativeExact", spec := "relativeExact", inPlace := ["math/bits.Sub64", "math/bits.Add64"], unfollowed := true, recurses := true, named := ["math/bits.divideError", "math/bits.overflowError"], apart := false, narrowed := true }
def RelativeExactUptoSaid : Prop := relativeExactUptoRow.holds Try.pinned (OpenSpec.upto relativeExactSpec)

end Rows
end Go.Proofs.Ythoedmikfpbfnaa
