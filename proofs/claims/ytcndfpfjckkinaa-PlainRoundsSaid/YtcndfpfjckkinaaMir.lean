/-
  The law RoundMirrors, walked.
-/
import Derived.Test.YtcndfpfjckkinaaAlv
set_option linter.unusedVariables false
set_option maxRecDepth 100000
namespace Go.Proofs.Ytcndfpfjckkinaa
open Go Go.RowKit Go.Ev

theorem to_yes (w d mode : Int) (hw : W128 w) (hd : W128 d) (h0 : 0 < d) (h1 : 1 ≤ mode) (h2 : mode ≤ 9) (y : Int) (hy : d * nearQ w d mode = y) (h : W128 y) : Fn 104 [] [wv w, wv d, .int .i64 mode] (.tuple #[wv y, .int .i64 0]) := by
  have := to_ok w d mode hw hd h0 h1 h2
  rw [hy, rtv_yes h] at this
  exact this
theorem to_over (w d mode : Int) (hw : W128 w) (hd : W128 d) (h0 : 0 < d) (h1 : 1 ≤ mode) (h2 : mode ≤ 9) (h : ¬ W128 (d * nearQ w d mode)) : Fn 104 [] [wv w, wv d, .int .i64 mode] (.tuple #[.agg #[.int .i64 0, .int .u64 0], .int .i64 2]) := by
  have := to_ok w d mode hw hd h0 h1 h2
  unfold rtv at this
  rw [thi_no h, tlo_no h, ter_no h] at this
  exact this
theorem up_mirror (mode : Int) (b e : Bool) (x : Int) (h1 : 1 ≤ mode) (h2 : mode ≤ 9) (hx : x = -1 ∨ x = 0 ∨ x = 1) : upB (mirI mode) (!b) (-x) (!e) = !upB mode b x e := by
  have hm : mode = 1 ∨ mode = 2 ∨ mode = 3 ∨ mode = 4 ∨ mode = 5 ∨ mode = 6 ∨ mode = 7 ∨ mode = 8 ∨ mode = 9 := by omega
  clear h1 h2
  rcases hm with rfl | rfl | rfl | rfl | rfl | rfl | rfl | rfl | rfl <;> rcases hx with rfl | rfl | rfl <;> cases b <;> cases e <;> rfl
theorem neg_div {w d : Int} (h0 : 0 < d) (hr : w.fmod d = 0) : (-w).fmod d = 0 ∧ (-w).fdiv d = -(w.fdiv d) := by
  have e := Int.mul_fdiv_add_fmod w d
  rw [hr] at e
  have e1 : -w = d * (-(w.fdiv d)) := by rw [Int.mul_neg]; omega
  generalize w.fdiv d = q at *
  rw [e1]
  exact ⟨by simp, by rw [Int.mul_fdiv_cancel_left _ (by omega)]⟩
theorem neg_div' {w d : Int} (h0 : 0 < d) (hr : w.fmod d ≠ 0) : (-w).fmod d = d - w.fmod d ∧ (-w).fdiv d = -(w.fdiv d) - 1 := by
  have e := Int.mul_fdiv_add_fmod w d
  have h1 := Int.fmod_eq_emod_of_nonneg w (show 0 ≤ d by omega)
  have h2 := Int.emod_nonneg w (show d ≠ 0 by omega)
  have h3 := Int.emod_lt_of_pos w h0
  have k1 := Int.fmod_eq_emod_of_nonneg (-w) (show 0 ≤ d by omega)
  have k4 := Int.fdiv_eq_ediv_of_nonneg (-w) (show 0 ≤ d by omega)
  have q : -w = (d - w.fmod d) + d * (-(w.fdiv d) - 1) := by rw [Int.mul_sub, Int.mul_neg]; omega
  have hb : 0 ≤ d - w.fmod d ∧ d - w.fmod d < d := by omega
  generalize w.fmod d = r at *
  generalize w.fdiv d = f at *
  rw [k1, k4, q]
  refine ⟨?_, ?_⟩
  · rw [Int.add_mul_emod_self_left, Int.emod_eq_of_lt hb.1 hb.2]
  · rw [Int.add_mul_ediv_left _ _ (by omega), Int.ediv_eq_zero_of_lt hb.1 hb.2]; omega
theorem nearQ_neg {w d mode : Int} (h0 : 0 < d) (h1 : 1 ≤ mode) (h2 : mode ≤ 9) : nearQ (-w) d (mirI mode) = -(nearQ w d mode) := by
  by_cases hr : w.fmod d = 0
  · obtain ⟨k1, k2⟩ := neg_div h0 hr
    unfold nearQ
    rw [if_pos k1, if_pos hr, k2]
  · obtain ⟨k1, k2⟩ := neg_div' h0 hr
    have h3 := Int.fmod_eq_emod_of_nonneg w (show 0 ≤ d by omega)
    have h4 := Int.emod_nonneg w (show d ≠ 0 by omega)
    have h5 := Int.emod_lt_of_pos w h0
    have hk : (-w).fmod d ≠ 0 := by omega
    have hw : w ≠ 0 := fun e => hr (by rw [e]; simp)
    have hu : upQ (-w) d (mirI mode) = !upQ w d mode := by
      unfold upQ
      rw [k1, k2]
      have e1 : decide (-w < 0) = !decide (w < 0) := by
        rw [Bool.eq_iff_iff]; simp only [decide_eq_true_eq, Bool.not_eq_true', decide_eq_false_iff_not]; omega
      have e2 : cmpI (d - w.fmod d) (d - (d - w.fmod d)) = -(cmpI (w.fmod d) (d - w.fmod d)) := by
        unfold cmpI; split <;> split <;> (try split) <;> (try split) <;> omega
      have e3 : decide ((-(w.fdiv d) - 1) % 2 = 0) = !decide (w.fdiv d % 2 = 0) := by
        rw [Bool.eq_iff_iff]; simp only [decide_eq_true_eq, Bool.not_eq_true', decide_eq_false_iff_not]; omega
      rw [e1, e2, e3]
      exact up_mirror mode _ _ _ h1 h2 (by unfold cmpI; split <;> (try split) <;> simp)
    unfold nearQ
    rw [if_neg hk, if_neg hr, hu, k2]
    cases upQ w d mode <;> simp <;> omega
theorem min_yes : (hi (-170141183460469231731687303715884105728) == -9223372036854775808 && (lo (-170141183460469231731687303715884105728) == 0 && true)) = true := by decide
theorem min_no {y : Int} (h : y ≠ -170141183460469231731687303715884105728) : (hi y == -9223372036854775808 && (lo y == 0 && true)) = false := by
  have e := hi_lo y
  cases k : (hi y == -9223372036854775808 && (lo y == 0 && true)) with
  | false => rfl
  | true =>
    simp only [Bool.and_true, Bool.and_eq_true, beq_iff_eq] at k
    omega
section
variable (w d mode : Int) (hw : W128 w) (hd : W128 d)
include hw hd
end
end Go.Proofs.Ytcndfpfjckkinaa
