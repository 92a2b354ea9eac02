/-
  The law RoundRises, walked.
-/
import Derived.Test.YtmkddcmfofabbaaMir
set_option linter.unusedVariables false
set_option maxRecDepth 100000
namespace Go.Proofs.Ytmkddcmfofabbaa
open Go Go.RowKit Go.Ev

theorem up_mono (mode : Int) (b e : Bool) (x x' : Int) (h1 : 1 ≤ mode) (h2 : mode ≤ 9) (hx : x = -1 ∨ x = 0 ∨ x = 1) (hx' : x' = -1 ∨ x' = 0 ∨ x' = 1) (h : x ≤ x') (hu : upB mode b x e = true) : upB mode b x' e = true := by
  have hm : mode = 1 ∨ mode = 2 ∨ mode = 3 ∨ mode = 4 ∨ mode = 5 ∨ mode = 6 ∨ mode = 7 ∨ mode = 8 ∨ mode = 9 := by omega
  clear h1 h2
  rcases hm with rfl | rfl | rfl | rfl | rfl | rfl | rfl | rfl | rfl <;> rcases hx with rfl | rfl | rfl <;> rcases hx' with rfl | rfl | rfl <;> cases b <;> cases e <;> first | rfl | omega | cases hu
theorem cmpI_3 (a b : Int) : cmpI a b = -1 ∨ cmpI a b = 0 ∨ cmpI a b = 1 := by unfold cmpI; split <;> (try split) <;> simp
theorem nearQ_lo (x y m : Int) : x.fdiv y ≤ nearQ x y m := by unfold nearQ; split <;> (try split) <;> omega
theorem nearQ_hi (x y m : Int) : nearQ x y m ≤ x.fdiv y + 1 := by unfold nearQ; split <;> (try split) <;> omega
theorem nearQ_mono {v w d mode : Int} (h0 : 0 < d) (h1 : 1 ≤ mode) (h2 : mode ≤ 9) (h : v ≤ w) : nearQ v d mode ≤ nearQ w d mode := by
  have ev := Int.mul_fdiv_add_fmod v d
  have ew := Int.mul_fdiv_add_fmod w d
  have v1 := Int.fmod_eq_emod_of_nonneg v (show 0 ≤ d by omega)
  have v2 := Int.emod_nonneg v (show d ≠ 0 by omega)
  have v3 := Int.emod_lt_of_pos v h0
  have w1 := Int.fmod_eq_emod_of_nonneg w (show 0 ≤ d by omega)
  have w2 := Int.emod_nonneg w (show d ≠ 0 by omega)
  have w3 := Int.emod_lt_of_pos w h0
  have v4 := Int.fdiv_eq_ediv_of_nonneg v (show 0 ≤ d by omega)
  have w4 := Int.fdiv_eq_ediv_of_nonneg w (show 0 ≤ d by omega)
  have hq : v.fdiv d ≤ w.fdiv d := by rw [v4, w4]; exact Int.ediv_le_ediv h0 h
  by_cases hlt : v.fdiv d < w.fdiv d
  · have := nearQ_hi v d mode
    have := nearQ_lo w d mode
    omega
  · have hqe : v.fdiv d = w.fdiv d := by omega
    have hr : v.fmod d ≤ w.fmod d := by rw [hqe] at ev; omega
    by_cases hz : v.fmod d = 0
    · have : nearQ v d mode = v.fdiv d := by unfold nearQ; rw [if_pos hz]
      have := nearQ_lo w d mode
      omega
    · have hz' : w.fmod d ≠ 0 := by omega
      have hs : decide (v < 0) = decide (w < 0) := by
        by_cases a : w < 0
        · rw [decide_eq_true a, decide_eq_true (by omega)]
        · by_cases b : v < 0
          · have q1 : 0 ≤ w.fdiv d := by rw [w4]; exact Int.ediv_nonneg (by omega) (by omega)
            have q2 : v.fdiv d < 0 := by rw [v4]; exact Int.ediv_neg_of_neg_of_pos b h0
            omega
          · rw [decide_eq_false a, decide_eq_false b]
      have hu : upQ v d mode = true → upQ w d mode = true := by
        unfold upQ
        rw [hs, hqe]
        exact up_mono mode _ _ _ _ h1 h2 (cmpI_3 _ _) (cmpI_3 _ _) (by unfold cmpI; split <;> (try split) <;> (try split) <;> (try split) <;> omega)
      unfold nearQ
      rw [if_neg hz, if_neg hz', hqe]
      by_cases a : upQ v d mode = true
      · rw [if_pos a, if_pos (hu a)]
        exact Int.le_refl _
      · rw [if_neg a]
        split <;> omega
theorem ris_arg1 (v w d mode : Int) (hv : W128 v) (hw : W128 w) (hc : cmpI d 0 ≤ 0) : Fn 27 [] [wv v, wv w, wv d, .int .i64 mode] (.bool true) := by
  refine fn_of Try.func27 rfl fun ww => ?_
  refine st_fn ent79 (to_arg1 (v) (d) (mode) (by assumption)) sub0 (by kernel_rfl) ?_
  refine st_fn ent79 (to_arg1 (w) (d) (mode) (by assumption)) sub0 (by kernel_rfl) ?_
  refine st_fn ent81 (alive4) sub0 (by kernel_rfl) ?_
  exact st_ret Try.func27 (by kernel_rfl)
theorem ris_arg2 (v w d mode : Int) (hv : W128 v) (hw : W128 w) (hd : W128 d) (h0 : 0 < d) (hc : cmpI d 0 = 1) (hm : mode < 1 ∨ 9 < mode) : Fn 27 [] [wv v, wv w, wv d, .int .i64 mode] (.bool true) := by
  refine fn_of Try.func27 rfl fun ww => ?_
  refine st_fn ent79 (to_arg2 (v) (d) (mode) (by assumption) (by assumption) (by assumption) (by assumption) (by assumption)) sub0 (by kernel_rfl) ?_
  refine st_fn ent79 (to_arg2 (w) (d) (mode) (by assumption) (by assumption) (by assumption) (by assumption) (by assumption)) sub0 (by kernel_rfl) ?_
  refine st_fn ent81 (alive4) sub0 (by kernel_rfl) ?_
  exact st_ret Try.func27 (by kernel_rfl)
theorem ris_over1 (v w d mode : Int) (hv : W128 v) (hw : W128 w) (hd : W128 d) (h0 : 0 < d) (h1 : 1 ≤ mode) (h2 : mode ≤ 9) (h : ¬ W128 (d * nearQ v d mode)) : Fn 27 [] [wv v, wv w, wv d, .int .i64 mode] (.bool true) := by
  by_cases k : W128 (d * nearQ w d mode)
  · have hy := to_yes w d mode hw hd h0 h1 h2 _ rfl k
    refine fn_of Try.func27 rfl fun ww => ?_
    refine st_fn ent79 (to_over (v) (d) (mode) (by assumption) (by assumption) (by assumption) (by assumption) (by assumption) (by assumption)) sub0 (by kernel_rfl) ?_
    refine st_fn ent79 (hy) sub0 (by kernel_rfl) ?_
    refine st_fn ent81 (alive4) sub0 (by kernel_rfl) ?_
    exact st_ret Try.func27 (by kernel_rfl)
  · refine fn_of Try.func27 rfl fun ww => ?_
    refine st_fn ent79 (to_over (v) (d) (mode) (by assumption) (by assumption) (by assumption) (by assumption) (by assumption) (by assumption)) sub0 (by kernel_rfl) ?_
    refine st_fn ent79 (to_over (w) (d) (mode) (by assumption) (by assumption) (by assumption) (by assumption) (by assumption) (by assumption)) sub0 (by kernel_rfl) ?_
    refine st_fn ent81 (alive4) sub0 (by kernel_rfl) ?_
    exact st_ret Try.func27 (by kernel_rfl)
theorem ris_over2 (v w d mode : Int) (hv : W128 v) (hw : W128 w) (hd : W128 d) (h0 : 0 < d) (h1 : 1 ≤ mode) (h2 : mode ≤ 9) (k : W128 (d * nearQ v d mode)) (h : ¬ W128 (d * nearQ w d mode)) : Fn 27 [] [wv v, wv w, wv d, .int .i64 mode] (.bool true) := by
  have hy := to_yes v d mode hv hd h0 h1 h2 _ rfl k
  refine fn_of Try.func27 rfl fun ww => ?_
  refine st_fn ent79 (hy) sub0 (by kernel_rfl) ?_
  refine st_fn ent79 (to_over (w) (d) (mode) (by assumption) (by assumption) (by assumption) (by assumption) (by assumption) (by assumption)) sub0 (by kernel_rfl) ?_
  refine st_fn ent81 (alive4) sub0 (by kernel_rfl) ?_
  exact st_ret Try.func27 (by kernel_rfl)
theorem ris_ok (v w d mode y z : Int) (hy : Fn 79 [] [wv v, wv d, .int .i64 mode] (.tuple #[wv y, .int .i64 0])) (hz : Fn 79 [] [wv w, wv d, .int .i64 mode] (.tuple #[wv z, .int .i64 0]))
    (hc : (cmpI v w = -1 ∧ cmpI y z ≤ 0) ∨ (cmpI v w = 0 ∧ cmpI y z = 0) ∨ (cmpI v w = 1 ∧ 0 ≤ cmpI y z)) : Fn 27 [] [wv v, wv w, wv d, .int .i64 mode] (.bool true) := by
  rcases hc with ⟨a, b⟩ | ⟨a, b⟩ | ⟨a, b⟩
  · refine fn_of Try.func27 rfl fun ww => ?_
    refine st_fn ent79 (hy) sub0 (by kernel_rfl) ?_
    refine st_fn ent79 (hz) sub0 (by kernel_rfl) ?_
    refine st_fn ent36 (wcmp_fn (v) (w)) sub0 (by kernel_rfl) ?_
    refine st_fn ent36 (wcmp_fn (y) (z)) sub0 (by kernel_rfl) ?_
    refine st_fn ent81 (alive4) sub0 (by kernel_rfl) ?_
    refine st_b 45 (show (cmpI v w == 0) = false by exact decide_eq_false (by omega)) (by kernel_rfl) ?_
    refine st_b 52 (show (decide (cmpI v w < 0)) = true by exact decide_eq_true (by omega)) (by kernel_rfl) ?_
    refine st_b 55 (show (decide (cmpI y z ≤ 0)) = true by exact decide_eq_true (by omega)) (by kernel_rfl) ?_
    exact st_ret Try.func27 (by kernel_rfl)
  · refine fn_of Try.func27 rfl fun ww => ?_
    refine st_fn ent79 (hy) sub0 (by kernel_rfl) ?_
    refine st_fn ent79 (hz) sub0 (by kernel_rfl) ?_
    refine st_fn ent36 (wcmp_fn (v) (w)) sub0 (by kernel_rfl) ?_
    refine st_fn ent36 (wcmp_fn (y) (z)) sub0 (by kernel_rfl) ?_
    refine st_fn ent81 (alive4) sub0 (by kernel_rfl) ?_
    refine st_b 45 (show (cmpI v w == 0) = true by exact decide_eq_true (by omega)) (by kernel_rfl) ?_
    refine st_b 48 (show (cmpI y z == 0) = true by exact decide_eq_true (by omega)) (by kernel_rfl) ?_
    exact st_ret Try.func27 (by kernel_rfl)
  · refine fn_of Try.func27 rfl fun ww => ?_
    refine st_fn ent79 (hy) sub0 (by kernel_rfl) ?_
    refine st_fn ent79 (hz) sub0 (by kernel_rfl) ?_
    refine st_fn ent36 (wcmp_fn (v) (w)) sub0 (by kernel_rfl) ?_
    refine st_fn ent36 (wcmp_fn (y) (z)) sub0 (by kernel_rfl) ?_
    refine st_fn ent81 (alive4) sub0 (by kernel_rfl) ?_
    refine st_b 45 (show (cmpI v w == 0) = false by exact decide_eq_false (by omega)) (by kernel_rfl) ?_
    refine st_b 52 (show (decide (cmpI v w < 0)) = false by exact decide_eq_false (by omega)) (by kernel_rfl) ?_
    refine st_b 60 (show (decide (cmpI v w > 0)) = true by exact decide_eq_true (by omega)) (by kernel_rfl) ?_
    exact st_retv Try.func27 (show Value.bool (decide (cmpI y z ≥ 0)) = _ by simp_all) (by kernel_rfl)
theorem law_rises (v w d mode : Int) (W : World) (hv : W128 v) (hw : W128 w) (hd : W128 d) :
    Calls Try.prog 27 #[.agg #[.int .i64 (hi v), .int .u64 (lo v)], .agg #[.int .i64 (hi w), .int .u64 (lo w)], .agg #[.int .i64 (hi d), .int .u64 (lo d)], .int .i64 mode] W (fun e w' => e = .returned (.bool true) ∧ Ext W w') := by
  by_cases h0 : 0 < d
  · by_cases hm : 1 ≤ mode ∧ mode ≤ 9
    · obtain ⟨h1, h2⟩ := hm
      by_cases hy : W128 (d * nearQ v d mode)
      · by_cases hz : W128 (d * nearQ w d mode)
        · refine ris_ok v w d mode _ _ (to_yes v d mode hv hd h0 h1 h2 _ rfl hy) (to_yes w d mode hw hd h0 h1 h2 _ rfl hz) ?_ W (zall_nil W)
          have hmul : ∀ a b : Int, a ≤ b → d * a ≤ d * b := fun a b h => Int.mul_le_mul_of_nonneg_left h (by omega)
          by_cases hlt : v < w
          · left
            refine ⟨cmpI_lt hlt, ?_⟩
            have := hmul _ _ (nearQ_mono (d := d) (mode := mode) h0 h1 h2 (show v ≤ w by omega))
            unfold cmpI; split <;> (try split) <;> omega
          · by_cases he : v = w
            · right; left
              subst he
              exact ⟨by unfold cmpI; simp, by unfold cmpI; simp⟩
            · right; right
              refine ⟨cmpI_gt (by omega), ?_⟩
              have := hmul _ _ (nearQ_mono (d := d) (mode := mode) h0 h1 h2 (show w ≤ v by omega))
              unfold cmpI; split <;> (try split) <;> omega
        · exact ris_over2 v w d mode hv hw hd h0 h1 h2 hy hz W (zall_nil W)
      · exact ris_over1 v w d mode hv hw hd h0 h1 h2 hy W (zall_nil W)
    · exact ris_arg2 v w d mode hv hw hd h0 (cmpI_gt h0) (by omega) W (zall_nil W)
  · exact ris_arg1 v w d mode hv hw (by unfold cmpI; split <;> (try split) <;> omega) W (zall_nil W)
end Go.Proofs.Ytmkddcmfofabbaa
