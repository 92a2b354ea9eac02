/-
  The contracts of the layer of times, as the reckoner wants them.
-/
import Derived.Test.YtcndfpfjckkinaaFw
import Derived.Test.YtcndfpfjckkinaaLwAdd
set_option linter.unusedVariables false
namespace Go.Proofs.Ytcndfpfjckkinaa
open Go Go.RowKit Go.Ev

abbrev tv (h m s n : Int) : Value := .agg #[.int .i64 h, .int .i64 m, .int .i64 s, .int .i64 n]
theorem fcright_yes (h m s n : Int) (k : tOk h m s n) : Fn 177 [] [tv h m s n] (.bool true) := fn1 fun w => (cright h m s n w).mono fun e w' q => ⟨by rw [q.1, tOkB_yes k], q.2⟩
theorem fcright_no (h m s n : Int) (k : ¬ tOk h m s n) : Fn 177 [] [tv h m s n] (.bool false) := fn1 fun w => (cright h m s n w).mono fun e w' q => ⟨by rw [q.1, tOkB_no k], q.2⟩
theorem fzright_yes (h m s n : Int) (k : tOk h m s n) : Fn 107 [] [tv h m s n] (.bool true) := fn1 fun w => (zright h m s n w).mono fun e w' q => ⟨by rw [q.1, tOkB_yes k], q.2⟩
theorem fzright_no (h m s n : Int) (k : ¬ tOk h m s n) : Fn 107 [] [tv h m s n] (.bool false) := fn1 fun w => (zright h m s n w).mono fun e w' q => ⟨by rw [q.1, tOkB_no k], q.2⟩
theorem fcnanos_yes (h m s n : Int) (k : tOk h m s n) : Fn 103 [] [tv h m s n] (.tuple #[.int .i64 (tnan h m s n), .bool true]) := fn1 fun w => cnanos_yes h m s n w k
theorem fcnanos_no (h m s n : Int) (k : ¬ tOk h m s n) : Fn 103 [] [tv h m s n] (.tuple #[.int .i64 0, .bool false]) := fn1 fun w => cnanos_no h m s n w k
theorem fznanos (h m s n : Int) (k : tOk h m s n) : Fn 110 [] [tv h m s n] (.int .i64 (tnan h m s n)) := fn1 fun w => znanos h m s n w k
theorem fcof_yes (n : Int) (h0 : 0 ≤ n) (h1 : n < 86400000000000) : Fn 106 [] [.int .i64 n] (.tuple #[tv (tH n) (tM n) (tS n) (tN n), .bool true]) := fn1 fun w => cof_yes n w h0 h1
theorem fcof_no (n : Int) (h : n < 0 ∨ 86400000000000 ≤ n) : Fn 106 [] [.int .i64 n] (.tuple #[tv 0 0 0 0, .bool false]) := fn1 fun w => cof_no n w h
theorem fzof (n : Int) (h0 : 0 ≤ n) (h1 : n < 86400000000000) : Fn 113 [] [.int .i64 n] (tv (tH n) (tM n) (tS n) (tN n)) := fn1 fun w => zof n w h0 h1
theorem falive6 : Fn 28 [] [] (.bool true) := fn1 fun w => alive6 w
end Go.Proofs.Ytcndfpfjckkinaa
