/-
  More contracts of the first layers, as the reckoner wants them.
-/
import Derived.Test.YtcndfpfjckkinaaFw
set_option linter.unusedVariables false
namespace Go.Proofs.Ytcndfpfjckkinaa
open Go Go.RowKit Go.Ev

theorem wmul_f (m n : Int) (hm : I64 m) (hn : I64 n) : Fn 144 [] [.int .i64 m, .int .i64 n] (wv (m * n)) := fn1 fun w => wmul m n w hm hn
theorem dby_f (a n : Int) (ha : W128 a) (hn : 0 < n) (hI : I64 n) : Fn 120 [] [wv a, .int .i64 n] (.tuple #[wv (a.fdiv n), .int .i64 (a.fmod n), .int .i64 0]) := fn1 fun w => dby a n w ha hn hI
theorem wint_f (n : Int) (h : I64 n) : Fn 105 [] [wv n] (.tuple #[.int .i64 n, .bool true]) := fn1 fun w => (wint n w).mono fun e w' q => ⟨by rw [q.1, show t64 n = n from if_pos h, decide_eq_true h], q.2⟩
theorem wint_n (n : Int) (h : ¬ I64 n) : Fn 105 [] [wv n] (.tuple #[.int .i64 0, .bool false]) := fn1 fun w => (wint n w).mono fun e w' q => ⟨by rw [q.1, show t64 n = 0 from if_neg h, decide_eq_false h], q.2⟩
theorem fits_f (p : ZQ) (x : Int) (hb : Bits 1000 x) (h : I64 x) : Fn 111 [(p, x)] [zv p] (.tuple #[.int .i64 x, .bool true]) := fun w k => (fits_any _ _ _ _ x w (one_z k) hb).mono fun e w' q => ⟨by rw [q.1, show t64 x = x from if_pos h, decide_eq_true h], q.2⟩
theorem fits_n (p : ZQ) (x : Int) (hb : Bits 1000 x) (h : ¬ I64 x) : Fn 111 [(p, x)] [zv p] (.tuple #[.int .i64 0, .bool false]) := fun w k => (fits_any _ _ _ _ x w (one_z k) hb).mono fun e w' q => ⟨by rw [q.1, show t64 x = 0 from if_neg h, decide_eq_false h], q.2⟩
theorem fitw_f (p : ZQ) (x : Int) (hb : Bits 1000 x) (h : W128 x) : Fn 36 [(p, x)] [zv p] (.tuple #[wv x, .bool true]) := fun w k => (fitw_any _ _ _ _ x w (one_z k) hb).mono fun e w' q => ⟨by rw [q.1, thi_yes h, tlo_yes h, decide_eq_true h], q.2⟩
theorem fitw_n (p : ZQ) (x : Int) (hb : Bits 1000 x) (h : ¬ W128 x) : Fn 36 [(p, x)] [zv p] (.tuple #[.agg #[.int .i64 0, .int .u64 0], .bool false]) := fun w k => (fitw_any _ _ _ _ x w (one_z k) hb).mono fun e w' q => ⟨by rw [q.1, thi_no h, tlo_no h, decide_eq_false h], q.2⟩
end Go.Proofs.Ytcndfpfjckkinaa
