/-
  The reference's Near for every mode; To of the reference; Mirror.
-/
import Derived.Test.YtmkddcmfofabbaaNear
set_option linter.unusedVariables false
set_option linter.unusedSimpArgs false
set_option maxRecDepth 100000
namespace Go.Proofs.Ytmkddcmfofabbaa
open Go Go.RowKit Go.Ev

theorem near_ok (p q : ZQ) (x y mode : Int) (hx : Bits 200 x) (hy : Bits 200 y) (h0 : 0 < y) (h1 : 1 ≤ mode) (h2 : mode ≤ 9) :
    FnZ 118 [(p, x), (q, y)] [zv p, zv q, .int .i64 mode] (fun z => .tuple #[zv z, .bool true]) (nearQ x y mode) := by
  have hne : y ≠ 0 := by omega
  by_cases hr : x.fmod y = 0
  · exact near_zero p q x y mode hx hy h0 h1 h2 hr (by unfold nearQ; rw [if_pos hr])
  · have hp : 0 < x.fmod y := by
      have h3 := Int.fmod_eq_emod_of_nonneg x (show 0 ≤ y by omega)
      have h4 := Int.emod_nonneg x hne
      omega
    have hc : cmpI (x.fmod y) 0 = 1 := cmpI_gt hp
    have hm : mode = 1 ∨ mode = 2 ∨ mode = 3 ∨ mode = 4 ∨ mode = 5 ∨ mode = 6 ∨ mode = 7 ∨ mode = 8 ∨ mode = 9 := by omega
    have hH : cmpI (x.fmod y + x.fmod y) y = -1 ∨ cmpI (x.fmod y + x.fmod y) y = 1 ∨ cmpI (x.fmod y + x.fmod y) y = 0 := by unfold cmpI; split <;> (try split) <;> simp
    have hE := half_cmp (x.fmod y) y
    clear h1 h2
    by_cases hs : x < 0
    · have hs1 : cmpI x 0 = -1 := cmpI_lt hs
      rcases hm with rfl | rfl | rfl | rfl | rfl | rfl | rfl | rfl | rfl
      · exact near_1n p q x y hx hy h0 hne hc hs1 (by simp [nearQ, hr, upQ, upB, halfB, ← hE, hs])
      · exact near_2n p q x y hx hy h0 hne hc hs1 (by simp [nearQ, hr, upQ, upB, halfB, ← hE, hs])
      · exact near_3n p q x y hx hy h0 hne hc hs1 (by simp [nearQ, hr, upQ, upB, halfB, ← hE, hs])
      · exact near_4n p q x y hx hy h0 hne hc hs1 (by simp [nearQ, hr, upQ, upB, halfB, ← hE, hs])
      · rcases hH with hh | hh | hh
        · exact near_5nl p q x y hx hy h0 hne hc hs1 hh (by simp [nearQ, hr, upQ, upB, halfB, ← hE, hs, hh])
        · exact near_5ng p q x y hx hy h0 hne hc hs1 hh (by simp [nearQ, hr, upQ, upB, halfB, ← hE, hs, hh])
        · exact near_5ne p q x y hx hy h0 hne hc hs1 hh (by simp [nearQ, hr, upQ, upB, halfB, ← hE, hs, hh])
      · rcases hH with hh | hh | hh
        · exact near_6nl p q x y hx hy h0 hne hc hs1 hh (by simp [nearQ, hr, upQ, upB, halfB, ← hE, hs, hh])
        · exact near_6ng p q x y hx hy h0 hne hc hs1 hh (by simp [nearQ, hr, upQ, upB, halfB, ← hE, hs, hh])
        · exact near_6ne p q x y hx hy h0 hne hc hs1 hh (by simp [nearQ, hr, upQ, upB, halfB, ← hE, hs, hh])
      · rcases hH with hh | hh | hh
        · exact near_7nl p q x y hx hy h0 hne hc hs1 hh (by simp [nearQ, hr, upQ, upB, halfB, ← hE, hs, hh])
        · exact near_7ng p q x y hx hy h0 hne hc hs1 hh (by simp [nearQ, hr, upQ, upB, halfB, ← hE, hs, hh])
        · exact near_7ne p q x y hx hy h0 hne hc hs1 hh (by simp [nearQ, hr, upQ, upB, halfB, ← hE, hs, hh])
      · rcases hH with hh | hh | hh
        · exact near_8nl p q x y hx hy h0 hne hc hs1 hh (by simp [nearQ, hr, upQ, upB, halfB, ← hE, hs, hh])
        · exact near_8ng p q x y hx hy h0 hne hc hs1 hh (by simp [nearQ, hr, upQ, upB, halfB, ← hE, hs, hh])
        · exact near_8ne p q x y hx hy h0 hne hc hs1 hh (by simp [nearQ, hr, upQ, upB, halfB, ← hE, hs, hh])
      · rcases hH with hh | hh | hh
        · exact near_9nl p q x y hx hy h0 hne hc hs1 hh (by simp [nearQ, hr, upQ, upB, halfB, ← hE, hs, hh])
        · exact near_9ng p q x y hx hy h0 hne hc hs1 hh (by simp [nearQ, hr, upQ, upB, halfB, ← hE, hs, hh])
        · by_cases hl : x.fdiv y = 0
          · exact near_9nez p q x y hx hy h0 hne hc hs1 hh hl (by simp [nearQ, hr, upQ, upB, halfB, ← hE, hs, hh, hl])
          · by_cases hpar : x.fdiv y % 2 = 0
            · exact near_9nee p q x y hx hy h0 hne hc hs1 hh hl hpar (by simp [nearQ, hr, upQ, upB, halfB, ← hE, hs, hh, hpar])
            · exact near_9neo p q x y hx hy h0 hne hc hs1 hh hl hpar (by simp [nearQ, hr, upQ, upB, halfB, ← hE, hs, hh, hpar])
    · have hs1 : 0 ≤ cmpI x 0 := by unfold cmpI; rw [if_neg hs]; split <;> omega
      rcases hm with rfl | rfl | rfl | rfl | rfl | rfl | rfl | rfl | rfl
      · exact near_1p p q x y hx hy h0 hne hc hs1 (by simp [nearQ, hr, upQ, upB, halfB, ← hE, hs])
      · exact near_2p p q x y hx hy h0 hne hc hs1 (by simp [nearQ, hr, upQ, upB, halfB, ← hE, hs])
      · exact near_3p p q x y hx hy h0 hne hc hs1 (by simp [nearQ, hr, upQ, upB, halfB, ← hE, hs])
      · exact near_4p p q x y hx hy h0 hne hc hs1 (by simp [nearQ, hr, upQ, upB, halfB, ← hE, hs])
      · rcases hH with hh | hh | hh
        · exact near_5pl p q x y hx hy h0 hne hc hs1 hh (by simp [nearQ, hr, upQ, upB, halfB, ← hE, hs, hh])
        · exact near_5pg p q x y hx hy h0 hne hc hs1 hh (by simp [nearQ, hr, upQ, upB, halfB, ← hE, hs, hh])
        · exact near_5pe p q x y hx hy h0 hne hc hs1 hh (by simp [nearQ, hr, upQ, upB, halfB, ← hE, hs, hh])
      · rcases hH with hh | hh | hh
        · exact near_6pl p q x y hx hy h0 hne hc hs1 hh (by simp [nearQ, hr, upQ, upB, halfB, ← hE, hs, hh])
        · exact near_6pg p q x y hx hy h0 hne hc hs1 hh (by simp [nearQ, hr, upQ, upB, halfB, ← hE, hs, hh])
        · exact near_6pe p q x y hx hy h0 hne hc hs1 hh (by simp [nearQ, hr, upQ, upB, halfB, ← hE, hs, hh])
      · rcases hH with hh | hh | hh
        · exact near_7pl p q x y hx hy h0 hne hc hs1 hh (by simp [nearQ, hr, upQ, upB, halfB, ← hE, hs, hh])
        · exact near_7pg p q x y hx hy h0 hne hc hs1 hh (by simp [nearQ, hr, upQ, upB, halfB, ← hE, hs, hh])
        · exact near_7pe p q x y hx hy h0 hne hc hs1 hh (by simp [nearQ, hr, upQ, upB, halfB, ← hE, hs, hh])
      · rcases hH with hh | hh | hh
        · exact near_8pl p q x y hx hy h0 hne hc hs1 hh (by simp [nearQ, hr, upQ, upB, halfB, ← hE, hs, hh])
        · exact near_8pg p q x y hx hy h0 hne hc hs1 hh (by simp [nearQ, hr, upQ, upB, halfB, ← hE, hs, hh])
        · exact near_8pe p q x y hx hy h0 hne hc hs1 hh (by simp [nearQ, hr, upQ, upB, halfB, ← hE, hs, hh])
      · rcases hH with hh | hh | hh
        · exact near_9pl p q x y hx hy h0 hne hc hs1 hh (by simp [nearQ, hr, upQ, upB, halfB, ← hE, hs, hh])
        · exact near_9pg p q x y hx hy h0 hne hc hs1 hh (by simp [nearQ, hr, upQ, upB, halfB, ← hE, hs, hh])
        · by_cases hl : x.fdiv y = 0
          · exact near_9pez p q x y hx hy h0 hne hc hs1 hh hl (by simp [nearQ, hr, upQ, upB, halfB, ← hE, hs, hh, hl])
          · by_cases hpar : x.fdiv y % 2 = 0
            · exact near_9pee p q x y hx hy h0 hne hc hs1 hh hl hpar (by simp [nearQ, hr, upQ, upB, halfB, ← hE, hs, hh, hpar])
            · exact near_9peo p q x y hx hy h0 hne hc hs1 hh hl hpar (by simp [nearQ, hr, upQ, upB, halfB, ← hE, hs, hh, hpar])
theorem nearQ_bits {x y mode : Int} (hx : Bits 200 x) (h0 : 0 < y) : Bits 202 (nearQ x y mode) := by
  have h1 : Bits 201 (x.fdiv y) := fdiv_b hx (by omega)
  have h2 : Bits 202 (x.fdiv y + 1) := h1.add (Bits.mono (l := 201) (show Bits 64 1 from (by unfold Bits; decide)) (by decide))
  unfold nearQ
  split
  · exact h1.mono (by decide)
  · split
    · exact h2
    · exact h1.mono (by decide)
theorem near_bad (p q : ZQ) (mode : Int) (h : mode < 1 ∨ 9 < mode) : Fn 118 [] [zv p, zv q, .int .i64 mode] (.tuple #[.agg #[.bool false, .slice none 0 0], .bool false]) := near_no p q 0 0 mode h
theorem zto_arg1 (w d mode : Int) (hw : W128 w) (hd : W128 d) (hc : cmpI d 0 ≤ 0) : Fn 80 [] [wv w, wv d, .int .i64 mode] (.tuple #[.agg #[.int .i64 0, .int .u64 0], .int .i64 1]) := by
  refine fn_of Try.func80 rfl fun ww => ?_
  refine st_g ent35 (frof (d) (by assumption)) sub0 (by kernel_rfl) (fun zq0 => ?_)
  refine st_fn ent39 (fzsign (zq0) (d) (by exact Bits.fit hd.bits (by decide))) (subC 0 rfl sub0) (by kernel_rfl) ?_
  refine st_b 15 (show (decide (cmpI d 0 ≤ 0)) = true by exact decide_eq_true (by omega)) (by kernel_rfl) ?_
  exact st_ret Try.func80 (by kernel_rfl)
theorem zto_arg2 (w d mode : Int) (hw : W128 w) (hd : W128 d) (hc : cmpI d 0 = 1) (hm : mode < 1 ∨ 9 < mode) : Fn 80 [] [wv w, wv d, .int .i64 mode] (.tuple #[.agg #[.int .i64 0, .int .u64 0], .int .i64 1]) := by
  refine fn_of Try.func80 rfl fun ww => ?_
  refine st_g ent35 (frof (d) (by assumption)) sub0 (by kernel_rfl) (fun zq0 => ?_)
  refine st_fn ent39 (fzsign (zq0) (d) (by exact Bits.fit hd.bits (by decide))) (subC 0 rfl sub0) (by kernel_rfl) ?_
  refine st_b 15 (show (decide (cmpI d 0 ≤ 0)) = false by exact decide_eq_false (by omega)) (by kernel_rfl) ?_
  refine st_g ent35 (frof (w) (by assumption)) sub0 (by kernel_rfl) (fun zq2 => ?_)
  refine st_fn ent118 (near_bad (zq2) (zq0) (mode) (by assumption)) sub0 (by kernel_rfl) ?_
  exact st_ret Try.func80 (by kernel_rfl)
theorem zto_ok (w d mode : Int) (hw : W128 w) (hd : W128 d) (h0 : 0 < d) (h1 : 1 ≤ mode) (h2 : mode ≤ 9) : Fn 80 [] [wv w, wv d, .int .i64 mode] (rtv (d * nearQ w d mode)) := by
  have hc : cmpI d 0 = 1 := cmpI_gt h0
  have hx : Bits 200 w := hw.bits.mono (by decide)
  have hy : Bits 200 d := hd.bits.mono (by decide)
  have hn : Bits 202 (nearQ w d mode) := nearQ_bits hx h0
  rw [Int.mul_comm]
  refine fn_of Try.func80 rfl fun ww => ?_
  refine st_g ent35 (frof (d) (by assumption)) sub0 (by kernel_rfl) (fun zq0 => ?_)
  refine st_fn ent39 (fzsign (zq0) (d) (by exact Bits.fit hd.bits (by decide))) (subC 0 rfl sub0) (by kernel_rfl) ?_
  refine st_b 15 (show (decide (cmpI d 0 ≤ 0)) = false by exact decide_eq_false (by omega)) (by kernel_rfl) ?_
  refine st_g ent35 (frof (w) (by assumption)) sub0 (by kernel_rfl) (fun zq2 => ?_)
  refine st_g ent118 (near_ok (zq2) (zq0) (w) (d) (mode) (by exact Bits.mono hw.bits (by decide)) (by exact Bits.mono hd.bits (by decide)) (by assumption) (by assumption) (by assumption)) (subC 0 rfl (subC 1 rfl sub0)) (by kernel_rfl) (fun zq3 => ?_)
  refine st_g ent41 (fzmul (zq3) (zq0) (nearQ w d mode) (d) (by exact Bits.fit hn (by decide)) (by exact Bits.fit hd.bits (by decide))) (subC 0 rfl (subC 2 rfl sub0)) (by kernel_rfl) (fun zq4 => ?_)
  refine st_fn ent44 (frtold_any (zq4) (nearQ w d mode * d) (by exact Bits.mono (Bits.mul hn hd.bits) (by decide))) (subC 0 rfl sub0) (by kernel_rfl) ?_
  exact st_ret Try.func80 (by kernel_rfl)
/-- The mirror of a mode. -/
def mirI (m : Int) : Int := if m = 1 then 2 else if m = 2 then 1 else if m = 5 then 6 else if m = 6 then 5 else m
theorem mirror_fn (m : Int) : Fn 84 [] [.int .i64 m] (.int .i64 (mirI m)) := by
  by_cases h1 : m = 1
  · subst h1
    rw [show mirI 1 = 2 from rfl]
    refine fn_of Try.func84 rfl fun ww => ?_
    exact st_ret Try.func84 (by kernel_rfl)
  · by_cases h2 : m = 2
    · subst h2
      rw [show mirI 2 = 1 from rfl]
      refine fn_of Try.func84 rfl fun ww => ?_
      exact st_ret Try.func84 (by kernel_rfl)
    · by_cases h5 : m = 5
      · subst h5
        rw [show mirI 5 = 6 from rfl]
        refine fn_of Try.func84 rfl fun ww => ?_
        exact st_ret Try.func84 (by kernel_rfl)
      · by_cases h6 : m = 6
        · subst h6
          rw [show mirI 6 = 5 from rfl]
          refine fn_of Try.func84 rfl fun ww => ?_
          exact st_ret Try.func84 (by kernel_rfl)
        · have e : mirI m = m := by unfold mirI; rw [if_neg h1, if_neg h2, if_neg h5, if_neg h6]
          rw [e]
          refine fn_of Try.func84 rfl fun ww => ?_
          refine st_b 5 (show (m == 1) = false by exact decide_eq_false (by omega)) (by kernel_rfl) ?_
          refine st_b 7 (show (m == 2) = false by exact decide_eq_false (by omega)) (by kernel_rfl) ?_
          refine st_b 9 (show (m == 5) = false by exact decide_eq_false (by omega)) (by kernel_rfl) ?_
          refine st_b 11 (show (m == 6) = false by exact decide_eq_false (by omega)) (by kernel_rfl) ?_
          exact st_ret Try.func84 (by kernel_rfl)
end Go.Proofs.Ytmkddcmfofabbaa
