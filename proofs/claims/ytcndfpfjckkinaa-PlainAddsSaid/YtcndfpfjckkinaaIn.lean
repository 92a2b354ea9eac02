/-
  What comes in: a wide number by its two halves, numbers by their bounds.
-/
import Derived.Test.YtcndfpfjckkinaaGc
import Derived.OpenShut
namespace Go.Proofs.Ytcndfpfjckkinaa
open Go Go.RowKit

theorem i64_in {n : Int} (h : (Lit.int .i64 n).wf = true) : I64 n := bounds_i64 h
theorem wide_in {a b : Int} (h : (Lit.int .i64 a).wf = true) (h' : (Lit.int .u64 b).wf = true) : ∃ n, W128 n ∧ a = hi n ∧ b = lo n := by
  obtain ⟨h1, h2⟩ := bounds_i64 h
  obtain ⟨h3, h4⟩ := bounds_u64 h'
  obtain ⟨e1, e2⟩ := of_hi_lo a b h3 (by omega)
  exact ⟨a * 18446744073709551616 + b, by unfold W128; omega, e1.symm, e2.symm⟩
end Go.Proofs.Ytcndfpfjckkinaa
