/-
  divide.bare: less, down.
-/
import Derived.Test.YtmkddcmfofabbaaRfa
namespace Go.Proofs.Ytmkddcmfofabbaa
open Go Go.RowKit

theorem lt_hl (x y : Int) : (decide (hi x < hi y) || (hi x == hi y && decide (lo x < lo y))) = decide (x < y) := by
  have e1 := hi_lo x
  have e2 := hi_lo y
  have l1 := lo_bd x
  have l2 := lo_bd y
  rw [Bool.eq_iff_iff]
  simp only [Bool.or_eq_true, Bool.and_eq_true, decide_eq_true_eq, beq_iff_eq]
  generalize hi x = X at *
  generalize hi y = Y at *
  generalize lo x = x0 at *
  generalize lo y = y0 at *
  omega
set_option maxRecDepth 100000 in
set_option maxHeartbeats 1600000 in
theorem dless (x y : Int) (w : World) :
    Calls Try.prog 124 #[.agg #[.int .u64 (hi x), .int .u64 (lo x)], .agg #[.int .u64 (hi y), .int .u64 (lo y)]] w (fun e w' => e = .returned (.bool (decide (x < y))) ∧ w' = (w.alloc (.cells #[.int .u64 (hi x), .int .u64 (lo x)] 123)).alloc (.cells #[.int .u64 (hi y), .int .u64 (lo y)] 123)) := by
  have HE := Lib.hid (lt_hl x y)
  go_enter Try.func124, Try.ntmps124
  go_wp2
  all_goals
    have he := HE.out
    clear HE
    go_ret
    refine ⟨?_, by simp_all⟩
    rw [← he]
    clear he
    simp_all
set_option maxRecDepth 100000 in
set_option maxHeartbeats 1600000 in
theorem ddown (b : Int) (w : World) :
    Calls Try.prog 123 #[.agg #[.int .u64 (hi b), .int .u64 (lo b)]] w (fun e w' => e = .returned (.func (.func 137) #[] #[.pointer (some ⟨w.heap.size, 0, none⟩)]) ∧ w' = w.alloc (.cells #[.int .u64 (hi b), .int .u64 (lo b)] 123)) := by
  go_enter Try.func123, Try.ntmps123
  go_wp2
  go_ret
  exact ⟨rfl, rfl⟩
end Go.Proofs.Ytmkddcmfofabbaa
