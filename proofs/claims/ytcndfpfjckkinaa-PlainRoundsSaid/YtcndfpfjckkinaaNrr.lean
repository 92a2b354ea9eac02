/-
  The law RoundNear, walked.
-/
import Derived.Test.YtcndfpfjckkinaaRis
set_option linter.unusedVariables false
set_option maxRecDepth 100000
namespace Go.Proofs.Ytcndfpfjckkinaa
open Go Go.RowKit Go.Ev

/-- What is rounded lies near; it is a multiple; rounded again it stays. -/
theorem nearQ_near {w d mode : Int} (h0 : 0 < d) (h1 : 1 ≤ mode) (h2 : mode ≤ 9) : (d * nearQ w d mode - w).natAbs < d.natAbs ∧ (5 ≤ mode → (d * nearQ w d mode - w).natAbs + (d * nearQ w d mode - w).natAbs ≤ d.natAbs) := by
  have ew := Int.mul_fdiv_add_fmod w d
  have w1 := Int.fmod_eq_emod_of_nonneg w (show 0 ≤ d by omega)
  have w2 := Int.emod_nonneg w (show d ≠ 0 by omega)
  have w3 := Int.emod_lt_of_pos w h0
  by_cases hz : w.fmod d = 0
  · have e : d * nearQ w d mode = w := by unfold nearQ; rw [if_pos hz]; omega
    rw [e]
    omega
  · by_cases hu : upQ w d mode = true
    · have e : d * nearQ w d mode = w + (d - w.fmod d) := by unfold nearQ; rw [if_neg hz, if_pos hu, Int.mul_add]; omega
      rw [e]
      refine ⟨by omega, fun h5 => ?_⟩
      have hx : 0 ≤ cmpI (w.fmod d) (d - w.fmod d) := by
        have hm : mode = 5 ∨ mode = 6 ∨ mode = 7 ∨ mode = 8 ∨ mode = 9 := by omega
        unfold upQ at hu
        generalize cmpI (w.fmod d) (d - w.fmod d) = x at *
        apply Classical.byContradiction
        intro hneg
        have a1 : ¬ 0 < x := by omega
        have a2 : ¬ x = 0 := by omega
        rcases hm with rfl | rfl | rfl | rfl | rfl <;> simp [upB, halfB, a1, a2] at hu
      have : ¬ w.fmod d < d - w.fmod d := fun h => by rw [cmpI_lt h] at hx; omega
      omega
    · have e : d * nearQ w d mode = w - w.fmod d := by unfold nearQ; rw [if_neg hz, if_neg hu]; omega
      rw [e]
      refine ⟨by omega, fun h5 => ?_⟩
      have hx : cmpI (w.fmod d) (d - w.fmod d) ≤ 0 := by
        have hm : mode = 5 ∨ mode = 6 ∨ mode = 7 ∨ mode = 8 ∨ mode = 9 := by omega
        unfold upQ at hu
        generalize cmpI (w.fmod d) (d - w.fmod d) = x at *
        apply Classical.byContradiction
        intro hneg
        have a1 : 0 < x := by omega
        rcases hm with rfl | rfl | rfl | rfl | rfl <;> simp [upB, halfB, a1] at hu
      have : ¬ d - w.fmod d < w.fmod d := fun h => by rw [cmpI_gt h] at hx; omega
      omega
theorem nearQ_again {d k mode : Int} (h0 : 0 < d) : nearQ (d * k) d mode = k ∧ (d * k).fmod d = 0 := by
  have a : (d * k).fmod d = 0 := by simp
  refine ⟨?_, a⟩
  unfold nearQ
  rw [if_pos a, Int.mul_fdiv_cancel_left _ (by omega)]
end Go.Proofs.Ytcndfpfjckkinaa
