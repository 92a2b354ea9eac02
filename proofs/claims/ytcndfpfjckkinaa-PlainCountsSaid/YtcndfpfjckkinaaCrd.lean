/-
  Times held against each other, by the reference (for the law ClockRounds).
-/
import Derived.Test.YtcndfpfjckkinaaFc
import Derived.Test.YtcndfpfjckkinaaCkf
set_option linter.unusedVariables false
set_option maxRecDepth 100000
namespace Go.Proofs.Ytcndfpfjckkinaa
open Go Go.RowKit Go.Ev

theorem sign_t : Fn 117 [] [.bool true] (.int .i64 (-1)) := by
  refine fn_of Try.func117 rfl fun ww => ?_
  exact st_ret Try.func117 (by kernel_rfl)
theorem sign_f : Fn 117 [] [.bool false] (.int .i64 1) := by
  refine fn_of Try.func117 rfl fun ww => ?_
  exact st_ret Try.func117 (by kernel_rfl)
theorem sign_b (b : Bool) (x : Int) (h : (if b = true then -1 else 1) = x) : Fn 117 [] [.bool b] (.int .i64 x) := by
  cases b
  · rw [← h]; exact sign_f
  · rw [← h]; exact sign_t
theorem sg_cmp {a b : Int} (h : ¬ a = b) : (if decide (a < b) = true then (-1 : Int) else 1) = cmpI a b := by
  unfold cmpI
  by_cases k : a < b
  · rw [if_pos (decide_eq_true k), if_pos k]
  · rw [if_neg (by simpa using k), if_neg k, if_neg h]
theorem fccmp (h m s n h' m' s' n' : Int) : Fn 29 [] [tv h m s n, tv h' m' s' n'] (.int .i64 (cmp4 h m s n h' m' s' n')) := fn1 fun w => cCmp h m s n h' m' s' n' w
theorem fzcmp4 (h m s n h' m' s' n' : Int) : Fn 30 [] [tv h m s n, tv h' m' s' n'] (.int .i64 (cmp4 h m s n h' m' s' n')) := by
  by_cases k0 : h = h'
  · subst k0
    by_cases k1 : m = m'
    · subst k1
      by_cases k2 : s = s'
      · subst k2
        by_cases k3 : n = n'
        · subst k3
          have e : cmp4 h m s n h m s n = 0 := by unfold cmp4 cmpI; simp
          rw [e]
          refine fn_of Try.func30 rfl fun ww => ?_
          refine st_b 7 (show (h == h && (m == m && (s == s && (n == n && true)))) = true by simp_all) (by kernel_rfl) ?_
          exact st_ret Try.func30 (by kernel_rfl)
        · have hq : (h == h && (m == m && (s == s && (n == n' && true)))) = false := by simp [k3]
          have e : cmp4 h m s n h m s n' = cmpI n n' := by unfold cmp4; simp
          have hs := sign_b _ _ (sg_cmp k3)
          rw [e]
          refine fn_of Try.func30 rfl fun ww => ?_
          refine st_b 7 (show (h == h && (m == m && (s == s && (n == n' && true)))) = false by assumption) (by kernel_rfl) ?_
          refine st_b 12 (show (h != h) = false by exact bne_eq_false_iff_eq.2 (by omega)) (by kernel_rfl) ?_
          refine st_b 23 (show (m != m) = false by exact bne_eq_false_iff_eq.2 (by omega)) (by kernel_rfl) ?_
          refine st_b 34 (show (s != s) = false by exact bne_eq_false_iff_eq.2 (by omega)) (by kernel_rfl) ?_
          refine st_fn ent117 (hs) sub0 (by kernel_rfl) ?_
          exact st_ret Try.func30 (by kernel_rfl)
      · have hq : (h == h && (m == m && (s == s' && (n == n' && true)))) = false := by simp [k2]
        have e : cmp4 h m s n h m s' n' = cmpI s s' := by unfold cmp4; simp [k2]
        have hs := sign_b _ _ (sg_cmp k2)
        rw [e]
        refine fn_of Try.func30 rfl fun ww => ?_
        refine st_b 7 (show (h == h && (m == m && (s == s' && (n == n' && true)))) = false by assumption) (by kernel_rfl) ?_
        refine st_b 12 (show (h != h) = false by exact bne_eq_false_iff_eq.2 (by omega)) (by kernel_rfl) ?_
        refine st_b 23 (show (m != m) = false by exact bne_eq_false_iff_eq.2 (by omega)) (by kernel_rfl) ?_
        refine st_b 34 (show (s != s') = true by exact bne_iff_ne.2 (by omega)) (by kernel_rfl) ?_
        refine st_fn ent117 (hs) sub0 (by kernel_rfl) ?_
        exact st_ret Try.func30 (by kernel_rfl)
    · have hq : (h == h && (m == m' && (s == s' && (n == n' && true)))) = false := by simp [k1]
      have e : cmp4 h m s n h m' s' n' = cmpI m m' := by unfold cmp4; simp [k1]
      have hs := sign_b _ _ (sg_cmp k1)
      rw [e]
      refine fn_of Try.func30 rfl fun ww => ?_
      refine st_b 7 (show (h == h && (m == m' && (s == s' && (n == n' && true)))) = false by assumption) (by kernel_rfl) ?_
      refine st_b 12 (show (h != h) = false by exact bne_eq_false_iff_eq.2 (by omega)) (by kernel_rfl) ?_
      refine st_b 23 (show (m != m') = true by exact bne_iff_ne.2 (by omega)) (by kernel_rfl) ?_
      refine st_fn ent117 (hs) sub0 (by kernel_rfl) ?_
      exact st_ret Try.func30 (by kernel_rfl)
  · have hq : (h == h' && (m == m' && (s == s' && (n == n' && true)))) = false := by simp [k0]
    have e : cmp4 h m s n h' m' s' n' = cmpI h h' := by unfold cmp4; simp [k0]
    have hs := sign_b _ _ (sg_cmp k0)
    rw [e]
    refine fn_of Try.func30 rfl fun ww => ?_
    refine st_b 7 (show (h == h' && (m == m' && (s == s' && (n == n' && true)))) = false by assumption) (by kernel_rfl) ?_
    refine st_b 12 (show (h != h') = true by exact bne_iff_ne.2 (by omega)) (by kernel_rfl) ?_
    refine st_fn ent117 (hs) sub0 (by kernel_rfl) ?_
    exact st_ret Try.func30 (by kernel_rfl)
end Go.Proofs.Ytcndfpfjckkinaa
