/-
  The law RoundNear, walked.
-/
import Derived.Test.YtmkddcmfofabbaaRis
set_option linter.unusedVariables false
set_option maxRecDepth 100000
namespace Go.Proofs.Ytmkddcmfofabbaa
open Go Go.RowKit Go.Ev

/-- What is rounded lies near; it is a multiple; rounded again it stays. -/
theorem nearQ_near {w d mode : Int} (h0 : 0 < d) (h1 : 1 ≤ mode) (h2 : mode ≤ 9) : (d * nearQ w d mode - w).natAbs < d.natAbs ∧ (5 ≤ mode → (d * nearQ w d mode - w).natAbs + (d * nearQ w d mode - w).natAbs ≤ d.natAbs) := by
  have ew := Int.mul_fdiv_add_fmod w d
  have w1 := Int.fmod_eq_emod_of_nonneg w (show 0 ≤ d by omega)
  have w2 := Int.emod_nonneg w (show d ≠ 0 by omega)
  have w3 := Int.emod_lt_of_pos w h0
  by_cases hz : w.fmod d = 0
  · have e : d * nearQ w d mode = w := by unfold nearQ; rw [if_pos hz]; omega
    rw [e]
    omega
  · by_cases hu : upQ w d mode = true
    · have e : d * nearQ w d mode = w + (d - w.fmod d) := by unfold nearQ; rw [if_neg hz, if_pos hu, Int.mul_add]; omega
      rw [e]
      refine ⟨by omega, fun h5 => ?_⟩
      have hx : 0 ≤ cmpI (w.fmod d) (d - w.fmod d) := by
        have hm : mode = 5 ∨ mode = 6 ∨ mode = 7 ∨ mode = 8 ∨ mode = 9 := by omega
        unfold upQ at hu
        generalize cmpI (w.fmod d) (d - w.fmod d) = x at *
        apply Classical.byContradiction
        intro hneg
        have a1 : ¬ 0 < x := by omega
        have a2 : ¬ x = 0 := by omega
        rcases hm with rfl | rfl | rfl | rfl | rfl <;> simp [upB, halfB, a1, a2] at hu
      have : ¬ w.fmod d < d - w.fmod d := fun h => by rw [cmpI_lt h] at hx; omega
      omega
    · have e : d * nearQ w d mode = w - w.fmod d := by unfold nearQ; rw [if_neg hz, if_neg hu]; omega
      rw [e]
      refine ⟨by omega, fun h5 => ?_⟩
      have hx : cmpI (w.fmod d) (d - w.fmod d) ≤ 0 := by
        have hm : mode = 5 ∨ mode = 6 ∨ mode = 7 ∨ mode = 8 ∨ mode = 9 := by omega
        unfold upQ at hu
        generalize cmpI (w.fmod d) (d - w.fmod d) = x at *
        apply Classical.byContradiction
        intro hneg
        have a1 : 0 < x := by omega
        rcases hm with rfl | rfl | rfl | rfl | rfl <;> simp [upB, halfB, a1] at hu
      have : ¬ d - w.fmod d < w.fmod d := fun h => by rw [cmpI_gt h] at hx; omega
      omega
theorem nearQ_again {d k mode : Int} (h0 : 0 < d) : nearQ (d * k) d mode = k ∧ (d * k).fmod d = 0 := by
  have a : (d * k).fmod d = 0 := by simp
  refine ⟨?_, a⟩
  unfold nearQ
  rw [if_pos a, Int.mul_fdiv_cancel_left _ (by omega)]
theorem nrr_arg1 (w d mode : Int) (hc : cmpI d 0 ≤ 0) : Fn 26 [] [wv w, wv d, .int .i64 mode] (.bool true) := by
  refine fn_of Try.func26 rfl fun ww => ?_
  refine st_fn ent79 (to_arg1 (w) (d) (mode) (by assumption)) sub0 (by kernel_rfl) ?_
  refine st_fn ent81 (alive4) sub0 (by kernel_rfl) ?_
  exact st_ret Try.func26 (by kernel_rfl)
theorem nrr_arg2 (w d mode : Int) (hw : W128 w) (hd : W128 d) (h0 : 0 < d) (hc : cmpI d 0 = 1) (hm : mode < 1 ∨ 9 < mode) : Fn 26 [] [wv w, wv d, .int .i64 mode] (.bool true) := by
  refine fn_of Try.func26 rfl fun ww => ?_
  refine st_fn ent79 (to_arg2 (w) (d) (mode) (by assumption) (by assumption) (by assumption) (by assumption) (by assumption)) sub0 (by kernel_rfl) ?_
  refine st_fn ent81 (alive4) sub0 (by kernel_rfl) ?_
  exact st_ret Try.func26 (by kernel_rfl)
theorem nrr_over (w d mode : Int) (hw : W128 w) (hd : W128 d) (h0 : 0 < d) (h1 : 1 ≤ mode) (h2 : mode ≤ 9) (h : ¬ W128 (d * nearQ w d mode)) : Fn 26 [] [wv w, wv d, .int .i64 mode] (.bool true) := by
  refine fn_of Try.func26 rfl fun ww => ?_
  refine st_fn ent79 (to_over (w) (d) (mode) (by assumption) (by assumption) (by assumption) (by assumption) (by assumption) (by assumption)) sub0 (by kernel_rfl) ?_
  refine st_fn ent81 (alive4) sub0 (by kernel_rfl) ?_
  refine st_b 33 (show (decide (mode ≥ 1)) = true by exact decide_eq_true (by omega)) (by kernel_rfl) ?_
  exact st_retv Try.func26 (show Value.bool (decide (mode ≤ 9)) = _ by simp_all) (by kernel_rfl)
theorem nrr_ok (w d mode y : Int) (hw : W128 w) (hd : W128 d) (hne : d ≠ 0) (hy : W128 y) (h1 : 1 ≤ mode) (h2 : mode ≤ 9) (t1 : Fn 79 [] [wv w, wv d, .int .i64 mode] (.tuple #[wv y, .int .i64 0]))
    (t2 : Fn 79 [] [wv y, wv d, .int .i64 mode] (.tuple #[wv y, .int .i64 0])) (c1 : cmpI ((y - w).natAbs : Int) d = -1) (c2 : cmpI (y.fmod d) 0 = 0)
    (c3 : mode < 5 ∨ (5 ≤ mode ∧ cmpI (((y - w).natAbs : Int) + ((y - w).natAbs : Int)) d ≤ 0)) : Fn 26 [] [wv w, wv d, .int .i64 mode] (.bool true) := by
  rcases c3 with c3 | ⟨c3, c4⟩
  · refine fn_of Try.func26 rfl fun ww => ?_
    refine st_fn ent79 (t1) sub0 (by kernel_rfl) ?_
    refine st_g ent35 (frof (y) (by assumption)) sub0 (by kernel_rfl) (fun zq1 => ?_)
    refine st_g ent35 (frof (w) (by assumption)) sub0 (by kernel_rfl) (fun zq2 => ?_)
    refine st_g ent48 (fzsub (zq1) (zq2) (y) (w) (by exact Bits.fit hy.bits (by decide)) (by exact Bits.fit hw.bits (by decide))) (subC 1 rfl (subC 0 rfl sub0)) (by kernel_rfl) (fun zq3 => ?_)
    refine st_g ent64 (fzabs (zq3) (y - w) (by exact Bits.fit (Bits.sub (Bits.mono (l := 128) hy.bits (by decide)) (Bits.mono (l := 128) hw.bits (by decide))) (by decide))) (subC 0 rfl sub0) (by kernel_rfl) (fun zq4 => ?_)
    refine st_g ent35 (frof (d) (by assumption)) sub0 (by kernel_rfl) (fun zq5 => ?_)
    refine st_g ent35 (frof (y) (by assumption)) sub0 (by kernel_rfl) (fun zq6 => ?_)
    refine st_g ent85 (fzdiv (zq6) (zq5) (y) (d) (by exact Bits.mono hy.bits (by decide)) (by exact Bits.mono hd.bits (by decide)) (by assumption)) (subC 0 rfl (subC 1 rfl sub0)) (by kernel_rfl) (fun zq7 => ?_)
    refine st_fn ent37 (fzcmp (zq4) (zq5) ((↑(y - w).natAbs : Int)) (d) (by exact Bits.fit (Bits.abs (Bits.sub (Bits.mono (l := 128) hy.bits (by decide)) (Bits.mono (l := 128) hw.bits (by decide)))) (by decide)) (by exact Bits.fit hd.bits (by decide))) (subC 4 rfl (subC 3 rfl sub0)) (by kernel_rfl) ?_
    refine st_b 59 (show (decide (cmpI (↑(y - w).natAbs : Int) d ≥ 0)) = false by exact decide_eq_false (by omega)) (by kernel_rfl) ?_
    refine st_fn ent39 (fzsign (zq7.snd) (y.fmod d) (by exact Bits.fit (fmod_b hd.bits (by first | assumption | omega)) (by decide))) (subC 1 rfl sub0) (by kernel_rfl) ?_
    refine st_b 63 (show (cmpI (y.fmod d) 0 != 0) = false by exact bne_eq_false_iff_eq.2 (by omega)) (by kernel_rfl) ?_
    refine st_b 67 (show (decide (mode ≥ 5)) = false by exact decide_eq_false (by omega)) (by kernel_rfl) ?_
    refine st_fn ent79 (t2) sub0 (by kernel_rfl) ?_
    refine st_fn ent81 (alive4) sub0 (by kernel_rfl) ?_
    refine st_b 88 (show (hi y == hi y && (lo y == lo y && true)) = true by simp_all) (by kernel_rfl) ?_
    exact st_ret Try.func26 (by kernel_rfl)
  · refine fn_of Try.func26 rfl fun ww => ?_
    refine st_fn ent79 (t1) sub0 (by kernel_rfl) ?_
    refine st_g ent35 (frof (y) (by assumption)) sub0 (by kernel_rfl) (fun zq1 => ?_)
    refine st_g ent35 (frof (w) (by assumption)) sub0 (by kernel_rfl) (fun zq2 => ?_)
    refine st_g ent48 (fzsub (zq1) (zq2) (y) (w) (by exact Bits.fit hy.bits (by decide)) (by exact Bits.fit hw.bits (by decide))) (subC 1 rfl (subC 0 rfl sub0)) (by kernel_rfl) (fun zq3 => ?_)
    refine st_g ent64 (fzabs (zq3) (y - w) (by exact Bits.fit (Bits.sub (Bits.mono (l := 128) hy.bits (by decide)) (Bits.mono (l := 128) hw.bits (by decide))) (by decide))) (subC 0 rfl sub0) (by kernel_rfl) (fun zq4 => ?_)
    refine st_g ent35 (frof (d) (by assumption)) sub0 (by kernel_rfl) (fun zq5 => ?_)
    refine st_g ent35 (frof (y) (by assumption)) sub0 (by kernel_rfl) (fun zq6 => ?_)
    refine st_g ent85 (fzdiv (zq6) (zq5) (y) (d) (by exact Bits.mono hy.bits (by decide)) (by exact Bits.mono hd.bits (by decide)) (by assumption)) (subC 0 rfl (subC 1 rfl sub0)) (by kernel_rfl) (fun zq7 => ?_)
    refine st_fn ent37 (fzcmp (zq4) (zq5) ((↑(y - w).natAbs : Int)) (d) (by exact Bits.fit (Bits.abs (Bits.sub (Bits.mono (l := 128) hy.bits (by decide)) (Bits.mono (l := 128) hw.bits (by decide)))) (by decide)) (by exact Bits.fit hd.bits (by decide))) (subC 4 rfl (subC 3 rfl sub0)) (by kernel_rfl) ?_
    refine st_b 59 (show (decide (cmpI (↑(y - w).natAbs : Int) d ≥ 0)) = false by exact decide_eq_false (by omega)) (by kernel_rfl) ?_
    refine st_fn ent39 (fzsign (zq7.snd) (y.fmod d) (by exact Bits.fit (fmod_b hd.bits (by first | assumption | omega)) (by decide))) (subC 1 rfl sub0) (by kernel_rfl) ?_
    refine st_b 63 (show (cmpI (y.fmod d) 0 != 0) = false by exact bne_eq_false_iff_eq.2 (by omega)) (by kernel_rfl) ?_
    refine st_b 67 (show (decide (mode ≥ 5)) = true by exact decide_eq_true (by omega)) (by kernel_rfl) ?_
    refine st_g ent46 (fzadd (zq4) (zq4) ((↑(y - w).natAbs : Int)) ((↑(y - w).natAbs : Int)) (by exact Bits.fit (Bits.abs (Bits.sub (Bits.mono (l := 128) hy.bits (by decide)) (Bits.mono (l := 128) hw.bits (by decide)))) (by decide)) (by exact Bits.fit (Bits.abs (Bits.sub (Bits.mono (l := 128) hy.bits (by decide)) (Bits.mono (l := 128) hw.bits (by decide)))) (by decide))) (subC 4 rfl (subC 4 rfl sub0)) (by kernel_rfl) (fun zq10 => ?_)
    refine st_fn ent37 (fzcmp (zq10) (zq5) ((↑(y - w).natAbs : Int) + (↑(y - w).natAbs : Int)) (d) (by exact Bits.fit (Bits.add (Bits.mono (l := 129) (Bits.abs (Bits.sub (Bits.mono (l := 128) hy.bits (by decide)) (Bits.mono (l := 128) hw.bits (by decide)))) (by decide)) (Bits.mono (l := 129) (Bits.abs (Bits.sub (Bits.mono (l := 128) hy.bits (by decide)) (Bits.mono (l := 128) hw.bits (by decide)))) (by decide))) (by decide)) (by exact Bits.fit hd.bits (by decide))) (subC 0 rfl (subC 4 rfl sub0)) (by kernel_rfl) ?_
    refine st_b 74 (show (decide (cmpI ((↑(y - w).natAbs : Int) + (↑(y - w).natAbs : Int)) d > 0)) = false by exact decide_eq_false (by omega)) (by kernel_rfl) ?_
    refine st_fn ent79 (t2) sub0 (by kernel_rfl) ?_
    refine st_fn ent81 (alive4) sub0 (by kernel_rfl) ?_
    refine st_b 88 (show (hi y == hi y && (lo y == lo y && true)) = true by simp_all) (by kernel_rfl) ?_
    exact st_ret Try.func26 (by kernel_rfl)
theorem law_near (w d mode : Int) (W : World) (hw : W128 w) (hd : W128 d) :
    Calls Try.prog 26 #[.agg #[.int .i64 (hi w), .int .u64 (lo w)], .agg #[.int .i64 (hi d), .int .u64 (lo d)], .int .i64 mode] W (fun e w' => e = .returned (.bool true) ∧ Ext W w') := by
  by_cases h0 : 0 < d
  · by_cases hm : 1 ≤ mode ∧ mode ≤ 9
    · obtain ⟨h1, h2⟩ := hm
      by_cases hy : W128 (d * nearQ w d mode)
      · obtain ⟨n1, n2⟩ := nearQ_near (w := w) h0 h1 h2
        obtain ⟨a1, a2⟩ := nearQ_again (k := nearQ w d mode) (mode := mode) h0
        refine nrr_ok w d mode _ hw hd (by omega) hy h1 h2 (to_yes w d mode hw hd h0 h1 h2 _ rfl hy) (to_yes _ d mode hy hd h0 h1 h2 _ (by rw [a1]) hy) (cmpI_lt (by omega)) (by rw [a2]; rfl) ?_ W (zall_nil W)
        by_cases h5 : mode < 5
        · exact Or.inl h5
        · right
          have := n2 (by omega)
          refine ⟨by omega, ?_⟩
          unfold cmpI; split <;> (try split) <;> omega
      · exact nrr_over w d mode hw hd h0 h1 h2 hy W (zall_nil W)
    · exact nrr_arg2 w d mode hw hd h0 (cmpI_gt h0) (by omega) W (zall_nil W)
  · exact nrr_arg1 w d mode (by unfold cmpI; split <;> (try split) <;> omega) W (zall_nil W)
end Go.Proofs.Ytmkddcmfofabbaa
