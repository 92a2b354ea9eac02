/-
  The law RoundRatios, walked.
-/
import Derived.Test.YtmkddcmfofabbaaRtm
set_option linter.unusedVariables false
set_option linter.unusedSimpArgs false
set_option maxRecDepth 100000
namespace Go.Proofs.Ytmkddcmfofabbaa
open Go Go.RowKit Go.Ev

theorem ext_spec1 (n mode : Int) (hn : W128 n) (h1 : 1 ≤ mode) (h2 : mode ≤ 9) (hz : n ≠ 0) (hm : -170141183460469231731687303715884105728 < n) :
    Fn 119 [] [wv n, wv (-170141183460469231731687303715884105728), .int .i64 mode] (rtv (nearQ (-n) 170141183460469231731687303715884105728 mode)) := by
  by_cases k : n < 0
  · have h := ext_b2 n _ mode h1 h2 hn (by unfold W128 at *; omega) ((hi_neg n).2 k) rfl
    have e : cmpI (-n) (170141183460469231731687303715884105728 - (-n)) = cmpI (-n) 85070591730234615865843651857942052864 := by
      unfold cmpI; split <;> split <;> (try split) <;> (try split) <;> omega
    rw [small_pos (by omega) (by omega), e]
    split at h
    · rename_i c; rw [if_pos c, rtv_yes (by unfold W128; omega)]; exact h
    · rename_i c; rw [if_neg c, rtv0]; exact h
  · have h := ext_b1 n _ mode h1 h2 (by have := hi_neg n; omega) rfl (by rcases cmpI_3 n 85070591730234615865843651857942052864 with a | a | a <;> omega) (by rcases cmpI_3 n 85070591730234615865843651857942052864 with a | a | a <;> omega)
    have e : cmpI (170141183460469231731687303715884105728 - n) n = 0 - cmpI n 85070591730234615865843651857942052864 := by
      unfold cmpI; split <;> split <;> (try split) <;> (try split) <;> omega
    have hlt : n < 170141183460469231731687303715884105728 := by unfold W128 at hn; omega
    rw [small_neg (by omega) hlt, e]
    split at h
    · rename_i c; rw [if_pos c, rtv0]; exact h
    · rename_i c; rw [if_neg c, rtv_yes (by unfold W128; omega)]; exact h
theorem ext_spec2 (d mode : Int) (hd : W128 d) (h1 : 1 ≤ mode) (h2 : mode ≤ 9) (h0 : d < 0) (hm : -170141183460469231731687303715884105728 < d) (hg : Nat.gcd (-170141183460469231731687303715884105728 : Int).natAbs d.natAbs = 1) :
    Fn 119 [] [wv (-170141183460469231731687303715884105728), wv d, .int .i64 mode] (rtv (nearQ 170141183460469231731687303715884105728 (-d) mode)) := by
  have hn : W128 (-170141183460469231731687303715884105728) := by unfold W128; omega
  have hmin := min_no (y := d) (by omega)
  by_cases k : d = -1
  · subst k
    have e : nearQ 170141183460469231731687303715884105728 (-(-1)) mode = 170141183460469231731687303715884105728 := by
      unfold nearQ; rw [if_pos (by decide)]; decide
    rw [e, rtv_no (by unfold W128; omega)]
    exact ext_over _ _ mode hmin (dfloor_no _ _ hn hd (by omega) (by rw [show Int.fdiv (-170141183460469231731687303715884105728) (-1) = 170141183460469231731687303715884105728 by decide]; unfold W128; omega))
  · generalize hD : -d = D
    have hd' : d = -D := by omega
    have hD2 : 2 ≤ D := by omega
    have w1 := Int.fmod_eq_emod_of_nonneg 170141183460469231731687303715884105728 (show 0 ≤ D by omega)
    have w2 := Int.emod_nonneg 170141183460469231731687303715884105728 (show D ≠ 0 by omega)
    have w3 := Int.emod_lt_of_pos 170141183460469231731687303715884105728 (show 0 < D by omega)
    have w4 := Int.fdiv_eq_ediv_of_nonneg 170141183460469231731687303715884105728 (show 0 ≤ D by omega)
    have e1 : Int.fdiv (-170141183460469231731687303715884105728) d = Int.fdiv 170141183460469231731687303715884105728 D := by rw [hd', Int.neg_fdiv_neg]
    have e2 : Int.fmod (-170141183460469231731687303715884105728) d = -(Int.fmod 170141183460469231731687303715884105728 D) := by
      have a := Int.mul_fdiv_add_fmod (-170141183460469231731687303715884105728) d
      have b := Int.mul_fdiv_add_fmod 170141183460469231731687303715884105728 D
      rw [e1, hd', Int.neg_mul] at a
      rw [hd'] at *
      omega
    have hz : Int.fmod 170141183460469231731687303715884105728 D ≠ 0 := fun h => by
      have hdv : D ∣ 170141183460469231731687303715884105728 := Int.dvd_of_emod_eq_zero (by omega)
      have hnd : D.natAbs ∣ (-170141183460469231731687303715884105728 : Int).natAbs := by rw [Int.natAbs_neg]; exact Int.natAbs_dvd_natAbs.2 hdv
      have e3 : d.natAbs = D.natAbs := by omega
      rw [e3, Nat.gcd_eq_right hnd] at hg
      omega
    have hq0 : 0 ≤ Int.fdiv 170141183460469231731687303715884105728 D := by rw [w4]; exact Int.ediv_nonneg (by omega) (by omega)
    have hq1 : Int.fdiv 170141183460469231731687303715884105728 D < 170141183460469231731687303715884105728 := by
      rw [w4]; exact Int.ediv_lt_of_lt_mul (by omega) (by omega)
    have hf := dfloor_yes _ _ hn hd (by omega) (by rw [e1]; unfold W128; omega)
    rw [e1, e2] at hf
    have hn1 := wneg_yes (-(Int.fmod 170141183460469231731687303715884105728 D)) (by unfold W128 at *; omega) (by unfold W128 at *; omega)
    rw [Int.neg_neg] at hn1
    have hn2 := wneg_yes d hd (by unfold W128 at *; omega)
    rw [hD] at hn2
    have h := ext_a _ d _ _ _ D mode h1 h2 hmin hf hn1 hn2 (wz_no (by omega)) (by unfold W128 at *; omega) (by unfold W128 at *; omega) (by unfold W128 at *; omega) (by unfold W128; omega)
    have e4 : nearQ 170141183460469231731687303715884105728 D mode = if upB mode false (cmpI (Int.fmod 170141183460469231731687303715884105728 D) (D - Int.fmod 170141183460469231731687303715884105728 D)) (decide (Int.fdiv 170141183460469231731687303715884105728 D % 2 = 0)) = true then Int.fdiv 170141183460469231731687303715884105728 D + 1 else Int.fdiv 170141183460469231731687303715884105728 D := by
      unfold nearQ upQ
      rw [if_neg hz, decide_eq_false (show ¬ (170141183460469231731687303715884105728 : Int) < 0 by omega)]
    rw [e4]
    exact h
theorem ratio_any (n d mode : Int) (hn : W128 n) (hd : W128 d) (h0 : d ≠ 0) (h1 : 1 ≤ mode) (h2 : mode ≤ 9) : Fn 82 [] [wv n, wv d, .int .i64 mode] (rtv (nearQ (nN n d) (nD d) mode)) := by
  by_cases hk : fOk n d
  · have hq : 0 < frQ n d := by
      obtain ⟨G, X, Y, -, -, -, -, hYp, -, hQ⟩ := fr_scale n h0
      rw [hQ]; omega
    rw [near_fr n mode h0]
    exact rat_ok n d mode _ _ h1 h2 (frac_f n d hn hd hk) hk.2.1 hk.2.2 hq
  · have hf := frac_n n d hn hd h0 hk
    refine rat_ext n d mode .nilIface _ _ _ h1 h2 hf ?_
    rcases fr_over hn hd h0 hk with ⟨rfl, a, b⟩ | ⟨rfl, a, b, c⟩
    · exact ext_spec1 n mode hn h1 h2 a b
    · have e1 : nN (-170141183460469231731687303715884105728) d = 170141183460469231731687303715884105728 := by unfold nN; rw [if_pos a]; rfl
      have e2 : nD d = -d := by unfold nD; rw [if_pos a]
      rw [e1, e2]
      exact ext_spec2 d mode hd h1 h2 a b c
theorem zratio_any (n d mode : Int) (hn : W128 n) (hd : W128 d) (h0 : d ≠ 0) (h1 : 1 ≤ mode) (h2 : mode ≤ 9) : Fn 83 [] [wv n, wv d, .int .i64 mode] (rtv (nearQ (nN n d) (nD d) mode)) := by
  have b1 : Bits 200 n := hn.bits.mono (by decide)
  have b2 : Bits 200 d := hd.bits.mono (by decide)
  by_cases a : d < 0
  · have e1 : nN n d = -n := if_pos a
    have e2 : nD d = -d := if_pos a
    rw [e1, e2]
    exact zrat_neg n d mode hn hd a (by omega) h1 h2 b1.neg b2.neg (cmpI_lt a) (nearQ_bits b1.neg (by omega))
  · have e1 : nN n d = n := if_neg a
    have e2 : nD d = d := if_neg a
    rw [e1, e2]
    exact zrat_pos n d mode hn hd (by omega) h1 h2 b1 b2 (cmpI_gt (by omega)) (nearQ_bits b1 (by omega))
theorem law_ratios (n d mode : Int) (W : World) (hn : W128 n) (hd : W128 d) :
    Calls Try.prog 23 #[.agg #[.int .i64 (hi n), .int .u64 (lo n)], .agg #[.int .i64 (hi d), .int .u64 (lo d)], .int .i64 mode] W (fun e w' => e = .returned (.bool true) ∧ Ext W w') := by
  by_cases hm : 1 ≤ mode ∧ mode ≤ 9
  · by_cases h0 : d = 0
    · subst h0
      exact ratios_v n 0 mode 0 0 3 (rat_zero n mode hm.1 hm.2 (frac_z n hn)) (zrat_zero n mode hn hd hm.1 hm.2) W (zall_nil W)
    · exact ratios_v n d mode _ _ _ (ratio_any n d mode hn hd h0 hm.1 hm.2) (zratio_any n d mode hn hd h0 hm.1 hm.2) W (zall_nil W)
  · exact ratios_v n d mode 0 0 1 (rat_bad n d mode (by omega)) (zrat_bad n d mode hn hd (by omega)) W (zall_nil W)
end Go.Proofs.Ytmkddcmfofabbaa
