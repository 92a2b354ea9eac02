/-
  The reference's Near for every mode; To of the reference; Mirror.
-/
import Derived.Test.YtcndfpfjckkinaaNear
set_option linter.unusedVariables false
set_option linter.unusedSimpArgs false
set_option maxRecDepth 100000
namespace Go.Proofs.Ytcndfpfjckkinaa
open Go Go.RowKit Go.Ev

theorem near_ok (p q : ZQ) (x y mode : Int) (hx : Bits 200 x) (hy : Bits 200 y) (h0 : 0 < y) (h1 : 1 ≤ mode) (h2 : mode ≤ 9) :
    FnZ 108 [(p, x), (q, y)] [zv p, zv q, .int .i64 mode] (fun z => .tuple #[zv z, .bool true]) (nearQ x y mode) := by
  have hne : y ≠ 0 := by omega
  by_cases hr : x.fmod y = 0
  · exact near_zero p q x y mode hx hy h0 h1 h2 hr (by unfold nearQ; rw [if_pos hr])
  · have hp : 0 < x.fmod y := by
      have h3 := Int.fmod_eq_emod_of_nonneg x (show 0 ≤ y by omega)
      have h4 := Int.emod_nonneg x hne
      omega
    have hc : cmpI (x.fmod y) 0 = 1 := cmpI_gt hp
    have hm : mode = 1 ∨ mode = 2 ∨ mode = 3 ∨ mode = 4 ∨ mode = 5 ∨ mode = 6 ∨ mode = 7 ∨ mode = 8 ∨ mode = 9 := by omega
    have hH : cmpI (x.fmod y + x.fmod y) y = -1 ∨ cmpI (x.fmod y + x.fmod y) y = 1 ∨ cmpI (x.fmod y + x.fmod y) y = 0 := by unfold cmpI; split <;> (try split) <;> simp
    have hE := half_cmp (x.fmod y) y
    clear h1 h2
    by_cases hs : x < 0
    · have hs1 : cmpI x 0 = -1 := cmpI_lt hs
      rcases hm with rfl | rfl | rfl | rfl | rfl | rfl | rfl | rfl | rfl
      · exact near_1n p q x y hx hy h0 hne hc hs1 (by simp [nearQ, hr, upQ, upB, halfB, ← hE, hs])
      · exact near_2n p q x y hx hy h0 hne hc hs1 (by simp [nearQ, hr, upQ, upB, halfB, ← hE, hs])
      · exact near_3n p q x y hx hy h0 hne hc hs1 (by simp [nearQ, hr, upQ, upB, halfB, ← hE, hs])
      · exact near_4n p q x y hx hy h0 hne hc hs1 (by simp [nearQ, hr, upQ, upB, halfB, ← hE, hs])
      · rcases hH with hh | hh | hh
        · exact near_5nl p q x y hx hy h0 hne hc hs1 hh (by simp [nearQ, hr, upQ, upB, halfB, ← hE, hs, hh])
        · exact near_5ng p q x y hx hy h0 hne hc hs1 hh (by simp [nearQ, hr, upQ, upB, halfB, ← hE, hs, hh])
        · exact near_5ne p q x y hx hy h0 hne hc hs1 hh (by simp [nearQ, hr, upQ, upB, halfB, ← hE, hs, hh])
      · rcases hH with hh | hh | hh
        · exact near_6nl p q x y hx hy h0 hne hc hs1 hh (by simp [nearQ, hr, upQ, upB, halfB, ← hE, hs, hh])
        · exact near_6ng p q x y hx hy h0 hne hc hs1 hh (by simp [nearQ, hr, upQ, upB, halfB, ← hE, hs, hh])
        · exact near_6ne p q x y hx hy h0 hne hc hs1 hh (by simp [nearQ, hr, upQ, upB, halfB, ← hE, hs, hh])
      · rcases hH with hh | hh | hh
        · exact near_7nl p q x y hx hy h0 hne hc hs1 hh (by simp [nearQ, hr, upQ, upB, halfB, ← hE, hs, hh])
        · exact near_7ng p q x y hx hy h0 hne hc hs1 hh (by simp [nearQ, hr, upQ, upB, halfB, ← hE, hs, hh])
        · exact near_7ne p q x y hx hy h0 hne hc hs1 hh (by simp [nearQ, hr, upQ, upB, halfB, ← hE, hs, hh])
      · rcases hH with hh | hh | hh
        · exact near_8nl p q x y hx hy h0 hne hc hs1 hh (by simp [nearQ, hr, upQ, upB, halfB, ← hE, hs, hh])
        · exact near_8ng p q x y hx hy h0 hne hc hs1 hh (by simp [nearQ, hr, upQ, upB, halfB, ← hE, hs, hh])
        · exact near_8ne p q x y hx hy h0 hne hc hs1 hh (by simp [nearQ, hr, upQ, upB, halfB, ← hE, hs, hh])
      · rcases hH with hh | hh | hh
        · exact near_9nl p q x y hx hy h0 hne hc hs1 hh (by simp [nearQ, hr, upQ, upB, halfB, ← hE, hs, hh])
        · exact near_9ng p q x y hx hy h0 hne hc hs1 hh (by simp [nearQ, hr, upQ, upB, halfB, ← hE, hs, hh])
        · by_cases hl : x.fdiv y = 0
          · exact near_9nez p q x y hx hy h0 hne hc hs1 hh hl (by simp [nearQ, hr, upQ, upB, halfB, ← hE, hs, hh, hl])
          · by_cases hpar : x.fdiv y % 2 = 0
            · exact near_9nee p q x y hx hy h0 hne hc hs1 hh hl hpar (by simp [nearQ, hr, upQ, upB, halfB, ← hE, hs, hh, hpar])
            · exact near_9neo p q x y hx hy h0 hne hc hs1 hh hl hpar (by simp [nearQ, hr, upQ, upB, halfB, ← hE, hs, hh, hpar])
    · have hs1 : 0 ≤ cmpI x 0 := by unfold cmpI; rw [if_neg hs]; split <;> omega
      rcases hm with rfl | rfl | rfl | rfl | rfl | rfl | rfl | rfl | rfl
      · exact near_1p p q x y hx hy h0 hne hc hs1 (by simp [nearQ, hr, upQ, upB, halfB, ← hE, hs])
      · exact near_2p p q x y hx hy h0 hne hc hs1 (by simp [nearQ, hr, upQ, upB, halfB, ← hE, hs])
      · exact near_3p p q x y hx hy h0 hne hc hs1 (by simp [nearQ, hr, upQ, upB, halfB, ← hE, hs])
      · exact near_4p p q x y hx hy h0 hne hc hs1 (by simp [nearQ, hr, upQ, upB, halfB, ← hE, hs])
      · rcases hH with hh | hh | hh
        · exact near_5pl p q x y hx hy h0 hne hc hs1 hh (by simp [nearQ, hr, upQ, upB, halfB, ← hE, hs, hh])
        · exact near_5pg p q x y hx hy h0 hne hc hs1 hh (by simp [nearQ, hr, upQ, upB, halfB, ← hE, hs, hh])
        · exact near_5pe p q x y hx hy h0 hne hc hs1 hh (by simp [nearQ, hr, upQ, upB, halfB, ← hE, hs, hh])
      · rcases hH with hh | hh | hh
        · exact near_6pl p q x y hx hy h0 hne hc hs1 hh (by simp [nearQ, hr, upQ, upB, halfB, ← hE, hs, hh])
        · exact near_6pg p q x y hx hy h0 hne hc hs1 hh (by simp [nearQ, hr, upQ, upB, halfB, ← hE, hs, hh])
        · exact near_6pe p q x y hx hy h0 hne hc hs1 hh (by simp [nearQ, hr, upQ, upB, halfB, ← hE, hs, hh])
      · rcases hH with hh | hh | hh
        · exact near_7pl p q x y hx hy h0 hne hc hs1 hh (by simp [nearQ, hr, upQ, upB, halfB, ← hE, hs, hh])
        · exact near_7pg p q x y hx hy h0 hne hc hs1 hh (by simp [nearQ, hr, upQ, upB, halfB, ← hE, hs, hh])
        · exact near_7pe p q x y hx hy h0 hne hc hs1 hh (by simp [nearQ, hr, upQ, upB, halfB, ← hE, hs, hh])
      · rcases hH with hh | hh | hh
        · exact near_8pl p q x y hx hy h0 hne hc hs1 hh (by simp [nearQ, hr, upQ, upB, halfB, ← hE, hs, hh])
        · exact near_8pg p q x y hx hy h0 hne hc hs1 hh (by simp [nearQ, hr, upQ, upB, halfB, ← hE, hs, hh])
        · exact near_8pe p q x y hx hy h0 hne hc hs1 hh (by simp [nearQ, hr, upQ, upB, halfB, ← hE, hs, hh])
      · rcases hH with hh | hh | hh
        · exact near_9pl p q x y hx hy h0 hne hc hs1 hh (by simp [nearQ, hr, upQ, upB, halfB, ← hE, hs, hh])
        · exact near_9pg p q x y hx hy h0 hne hc hs1 hh (by simp [nearQ, hr, upQ, upB, halfB, ← hE, hs, hh])
        · by_cases hl : x.fdiv y = 0
          · exact near_9pez p q x y hx hy h0 hne hc hs1 hh hl (by simp [nearQ, hr, upQ, upB, halfB, ← hE, hs, hh, hl])
          · by_cases hpar : x.fdiv y % 2 = 0
            · exact near_9pee p q x y hx hy h0 hne hc hs1 hh hl hpar (by simp [nearQ, hr, upQ, upB, halfB, ← hE, hs, hh, hpar])
            · exact near_9peo p q x y hx hy h0 hne hc hs1 hh hl hpar (by simp [nearQ, hr, upQ, upB, halfB, ← hE, hs, hh, hpar])
theorem nearQ_bits {x y mode : Int} (hx : Bits 200 x) (h0 : 0 < y) : Bits 202 (nearQ x y mode) := by
  have h1 : Bits 201 (x.fdiv y) := fdiv_b hx (by omega)
  have h2 : Bits 202 (x.fdiv y + 1) := h1.add (Bits.mono (l := 201) (show Bits 64 1 from (by unfold Bits; decide)) (by decide))
  unfold nearQ
  split
  · exact h1.mono (by decide)
  · split
    · exact h2
    · exact h1.mono (by decide)
theorem near_bad (p q : ZQ) (mode : Int) (h : mode < 1 ∨ 9 < mode) : Fn 108 [] [zv p, zv q, .int .i64 mode] (.tuple #[.agg #[.bool false, .slice none 0 0], .bool false]) := near_no p q 0 0 mode h
/-- The mirror of a mode. -/
def mirI (m : Int) : Int := if m = 1 then 2 else if m = 2 then 1 else if m = 5 then 6 else if m = 6 then 5 else m
end Go.Proofs.Ytcndfpfjckkinaa
