/-
  The law ClockRounds, walked.
-/
import Derived.Test.YtcndfpfjckkinaaCrd
import Derived.Test.YtcndfpfjckkinaaFx
import Derived.Test.YtcndfpfjckkinaaRis
set_option linter.unusedVariables false
set_option maxRecDepth 100000
namespace Go.Proofs.Ytcndfpfjckkinaa
open Go Go.RowKit Go.Ev

abbrev bad6 : Value := .tuple #[tv 0 0 0 0, .int .i64 0, .int .i64 1]
section
variable (h m s n i mode : Int)
theorem cr1 (k : ¬ tOk h m s n) : Fn 26 [] [tv h m s n, .int .i64 i, .int .i64 mode] bad6 := by
  refine fn_of Try.func26 rfl fun ww => ?_
  refine st_fn ent103 (fcnanos_no (h) (m) (s) (n) (by assumption)) sub0 (by kernel_rfl) ?_
  exact st_ret Try.func26 (by kernel_rfl)
theorem cr2 (k : tOk h m s n) (hi : i < 1) : Fn 26 [] [tv h m s n, .int .i64 i, .int .i64 mode] bad6 := by
  refine fn_of Try.func26 rfl fun ww => ?_
  refine st_fn ent103 (fcnanos_yes (h) (m) (s) (n) (by assumption)) sub0 (by kernel_rfl) ?_
  refine st_b 24 (show (decide (i < 1)) = true by exact decide_eq_true (by omega)) (by kernel_rfl) ?_
  exact st_ret Try.func26 (by kernel_rfl)
theorem cr3 (k : tOk h m s n) (hi : 1 ≤ i) (hj : 86400000000000 < i) : Fn 26 [] [tv h m s n, .int .i64 i, .int .i64 mode] bad6 := by
  refine fn_of Try.func26 rfl fun ww => ?_
  refine st_fn ent103 (fcnanos_yes (h) (m) (s) (n) (by assumption)) sub0 (by kernel_rfl) ?_
  refine st_b 24 (show (decide (i < 1)) = false by exact decide_eq_false (by omega)) (by kernel_rfl) ?_
  refine st_b 28 (show (decide (i > 86400000000000)) = true by exact decide_eq_true (by omega)) (by kernel_rfl) ?_
  exact st_ret Try.func26 (by kernel_rfl)
theorem zr1 (k : ¬ tOk h m s n) : Fn 27 [] [tv h m s n, .int .i64 i, .int .i64 mode] bad6 := by
  refine fn_of Try.func27 rfl fun ww => ?_
  refine st_fn ent107 (fzright_no (h) (m) (s) (n) (by assumption)) sub0 (by kernel_rfl) ?_
  exact st_ret Try.func27 (by kernel_rfl)
theorem zr2 (k : tOk h m s n) (hi : i < 1) : Fn 27 [] [tv h m s n, .int .i64 i, .int .i64 mode] bad6 := by
  refine fn_of Try.func27 rfl fun ww => ?_
  refine st_fn ent107 (fzright_yes (h) (m) (s) (n) (by assumption)) sub0 (by kernel_rfl) ?_
  refine st_b 18 (show (decide (i < 1)) = true by exact decide_eq_true (by omega)) (by kernel_rfl) ?_
  exact st_ret Try.func27 (by kernel_rfl)
theorem zr3 (k : tOk h m s n) (hi : 1 ≤ i) (hj : 86400000000000 < i) : Fn 27 [] [tv h m s n, .int .i64 i, .int .i64 mode] bad6 := by
  refine fn_of Try.func27 rfl fun ww => ?_
  refine st_fn ent107 (fzright_yes (h) (m) (s) (n) (by assumption)) sub0 (by kernel_rfl) ?_
  refine st_b 18 (show (decide (i < 1)) = false by exact decide_eq_false (by omega)) (by kernel_rfl) ?_
  refine st_b 22 (show (decide (i > 86400000000000)) = true by exact decide_eq_true (by omega)) (by kernel_rfl) ?_
  exact st_ret Try.func27 (by kernel_rfl)
theorem rounds_v (h' m' s' n' A B C D x e : Int) (h1 : Fn 26 [] [tv h m s n, .int .i64 i, .int .i64 mode] (.tuple #[tv A B C D, .int .i64 x, .int .i64 e])) (h2 : Fn 27 [] [tv h m s n, .int .i64 i, .int .i64 mode] (.tuple #[tv A B C D, .int .i64 x, .int .i64 e])) :
    Fn 3 [] [tv h m s n, tv h' m' s' n', .int .i64 i, .int .i64 mode] (.bool true) := by
  refine fn_of Try.func3 rfl fun ww => ?_
  refine st_fn ent26 (h1) sub0 (by kernel_rfl) ?_
  refine st_fn ent27 (h2) sub0 (by kernel_rfl) ?_
  refine st_fn ent28 (falive6) sub0 (by kernel_rfl) ?_
  refine st_b 35 (show (A == A && (B == B && (C == C && (D == D && true)))) = true by simp_all) (by kernel_rfl) ?_
  refine st_b 40 (show (x == x) = true by exact decide_eq_true (by omega)) (by kernel_rfl) ?_
  refine st_b 45 (show (e == e) = true by exact decide_eq_true (by omega)) (by kernel_rfl) ?_
  refine st_fn ent29 (fccmp (h) (m) (s) (n) (h') (m') (s') (n')) sub0 (by kernel_rfl) ?_
  refine st_fn ent30 (fzcmp4 (h) (m) (s) (n) (h') (m') (s') (n')) sub0 (by kernel_rfl) ?_
  exact st_retv Try.func3 (show Value.bool (cmp4 h m s n h' m' s' n' == cmp4 h m s n h' m' s' n') = _ by simp) (by kernel_rfl)
end
end Go.Proofs.Ytcndfpfjckkinaa
