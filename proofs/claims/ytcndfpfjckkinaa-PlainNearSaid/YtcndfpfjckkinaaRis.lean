/-
  The law RoundRises, walked.
-/
import Derived.Test.YtcndfpfjckkinaaMir
set_option linter.unusedVariables false
set_option maxRecDepth 100000
namespace Go.Proofs.Ytcndfpfjckkinaa
open Go Go.RowKit Go.Ev

theorem up_mono (mode : Int) (b e : Bool) (x x' : Int) (h1 : 1 ≤ mode) (h2 : mode ≤ 9) (hx : x = -1 ∨ x = 0 ∨ x = 1) (hx' : x' = -1 ∨ x' = 0 ∨ x' = 1) (h : x ≤ x') (hu : upB mode b x e = true) : upB mode b x' e = true := by
  have hm : mode = 1 ∨ mode = 2 ∨ mode = 3 ∨ mode = 4 ∨ mode = 5 ∨ mode = 6 ∨ mode = 7 ∨ mode = 8 ∨ mode = 9 := by omega
  clear h1 h2
  rcases hm with rfl | rfl | rfl | rfl | rfl | rfl | rfl | rfl | rfl <;> rcases hx with rfl | rfl | rfl <;> rcases hx' with rfl | rfl | rfl <;> cases b <;> cases e <;> first | rfl | omega | cases hu
theorem cmpI_3 (a b : Int) : cmpI a b = -1 ∨ cmpI a b = 0 ∨ cmpI a b = 1 := by unfold cmpI; split <;> (try split) <;> simp
theorem nearQ_lo (x y m : Int) : x.fdiv y ≤ nearQ x y m := by unfold nearQ; split <;> (try split) <;> omega
theorem nearQ_hi (x y m : Int) : nearQ x y m ≤ x.fdiv y + 1 := by unfold nearQ; split <;> (try split) <;> omega
theorem nearQ_mono {v w d mode : Int} (h0 : 0 < d) (h1 : 1 ≤ mode) (h2 : mode ≤ 9) (h : v ≤ w) : nearQ v d mode ≤ nearQ w d mode := by
  have ev := Int.mul_fdiv_add_fmod v d
  have ew := Int.mul_fdiv_add_fmod w d
  have v1 := Int.fmod_eq_emod_of_nonneg v (show 0 ≤ d by omega)
  have v2 := Int.emod_nonneg v (show d ≠ 0 by omega)
  have v3 := Int.emod_lt_of_pos v h0
  have w1 := Int.fmod_eq_emod_of_nonneg w (show 0 ≤ d by omega)
  have w2 := Int.emod_nonneg w (show d ≠ 0 by omega)
  have w3 := Int.emod_lt_of_pos w h0
  have v4 := Int.fdiv_eq_ediv_of_nonneg v (show 0 ≤ d by omega)
  have w4 := Int.fdiv_eq_ediv_of_nonneg w (show 0 ≤ d by omega)
  have hq : v.fdiv d ≤ w.fdiv d := by rw [v4, w4]; exact Int.ediv_le_ediv h0 h
  by_cases hlt : v.fdiv d < w.fdiv d
  · have := nearQ_hi v d mode
    have := nearQ_lo w d mode
    omega
  · have hqe : v.fdiv d = w.fdiv d := by omega
    have hr : v.fmod d ≤ w.fmod d := by rw [hqe] at ev; omega
    by_cases hz : v.fmod d = 0
    · have : nearQ v d mode = v.fdiv d := by unfold nearQ; rw [if_pos hz]
      have := nearQ_lo w d mode
      omega
    · have hz' : w.fmod d ≠ 0 := by omega
      have hs : decide (v < 0) = decide (w < 0) := by
        by_cases a : w < 0
        · rw [decide_eq_true a, decide_eq_true (by omega)]
        · by_cases b : v < 0
          · have q1 : 0 ≤ w.fdiv d := by rw [w4]; exact Int.ediv_nonneg (by omega) (by omega)
            have q2 : v.fdiv d < 0 := by rw [v4]; exact Int.ediv_neg_of_neg_of_pos b h0
            omega
          · rw [decide_eq_false a, decide_eq_false b]
      have hu : upQ v d mode = true → upQ w d mode = true := by
        unfold upQ
        rw [hs, hqe]
        exact up_mono mode _ _ _ _ h1 h2 (cmpI_3 _ _) (cmpI_3 _ _) (by unfold cmpI; split <;> (try split) <;> (try split) <;> (try split) <;> omega)
      unfold nearQ
      rw [if_neg hz, if_neg hz', hqe]
      by_cases a : upQ v d mode = true
      · rw [if_pos a, if_pos (hu a)]
        exact Int.le_refl _
      · rw [if_neg a]
        split <;> omega
end Go.Proofs.Ytcndfpfjckkinaa
