/-
  The law RoundAll, walked.
-/
import Derived.Test.YtmkddcmfofabbaaNrr
set_option linter.unusedVariables false
set_option maxRecDepth 100000
namespace Go.Proofs.Ytmkddcmfofabbaa
open Go Go.RowKit Go.Ev

theorem mir_cases (m : Int) : (m = 1 ∧ mirI m = 2) ∨ (m = 2 ∧ mirI m = 1) ∨ (m = 5 ∧ mirI m = 6) ∨ (m = 6 ∧ mirI m = 5) ∨ (m ≠ 1 ∧ m ≠ 2 ∧ m ≠ 5 ∧ m ≠ 6 ∧ mirI m = m) := by
  unfold mirI
  split
  · omega
  · split
    · omega
    · split
      · omega
      · split <;> omega
theorem all_1 (w d mode : Int) (hw : I64 w) (hd : I64 d) (h0 : 1 ≤ d) (Hw : W128 w) (Hd : W128 d) : Fn 24 [] [.int .i64 w, .int .i64 d, .int .i64 mode] (.bool true) := by
  have fm := mir_cases mode
  refine fn_of Try.func24 rfl fun ww => ?_
  refine st_b 14 (show (decide (d < 1)) = false by exact decide_eq_false (by omega)) (by kernel_rfl) ?_
  refine st_round (by kernel_rfl) ?_
  refine st_fn ent32 (wof_fn (w) (by assumption)) sub0 (by kernel_rfl) ?_
  refine st_fn ent32 (wof_fn (d) (by assumption)) sub0 (by kernel_rfl) ?_
  refine st_fn ent79 (to_ok (w) (d) (1) (by assumption) (by assumption) (by assumption) (by omega) (by omega)) sub0 (by kernel_rfl) ?_
  refine st_fn ent32 (wof_fn (w) (by assumption)) sub0 (by kernel_rfl) ?_
  refine st_fn ent32 (wof_fn (d) (by assumption)) sub0 (by kernel_rfl) ?_
  refine st_fn ent80 (zto_ok (w) (d) (1) (by assumption) (by assumption) (by assumption) (by omega) (by omega)) sub0 (by kernel_rfl) ?_
  refine st_b 43 (show (!(thi (d * nearQ w d 1) == thi (d * nearQ w d 1) && (tlo (d * nearQ w d 1) == tlo (d * nearQ w d 1) && true))) = false by simp_all) (by kernel_rfl) ?_
  refine st_b 47 (show (ter (d * nearQ w d 1) != ter (d * nearQ w d 1)) = false by exact bne_eq_false_iff_eq.2 (by omega)) (by kernel_rfl) ?_
  refine st_i 22 .i64 (x' := 1 + 1) (Go.IntWalk.i64_in _ (by omega)) (by kernel_rfl) ?_
  refine st_round (by kernel_rfl) ?_
  refine st_fn ent32 (wof_fn (w) (by assumption)) sub0 (by kernel_rfl) ?_
  refine st_fn ent32 (wof_fn (d) (by assumption)) sub0 (by kernel_rfl) ?_
  refine st_fn ent79 (to_ok (w) (d) (1 + 1) (by assumption) (by assumption) (by assumption) (by omega) (by omega)) sub0 (by kernel_rfl) ?_
  refine st_fn ent32 (wof_fn (w) (by assumption)) sub0 (by kernel_rfl) ?_
  refine st_fn ent32 (wof_fn (d) (by assumption)) sub0 (by kernel_rfl) ?_
  refine st_fn ent80 (zto_ok (w) (d) (1 + 1) (by assumption) (by assumption) (by assumption) (by omega) (by omega)) sub0 (by kernel_rfl) ?_
  refine st_b 43 (show (!(thi (d * nearQ w d (1 + 1)) == thi (d * nearQ w d (1 + 1)) && (tlo (d * nearQ w d (1 + 1)) == tlo (d * nearQ w d (1 + 1)) && true))) = false by simp_all) (by kernel_rfl) ?_
  refine st_b 47 (show (ter (d * nearQ w d (1 + 1)) != ter (d * nearQ w d (1 + 1))) = false by exact bne_eq_false_iff_eq.2 (by omega)) (by kernel_rfl) ?_
  refine st_i 22 .i64 (x' := 1 + 1 + 1) (Go.IntWalk.i64_in _ (by omega)) (by kernel_rfl) ?_
  refine st_round (by kernel_rfl) ?_
  refine st_fn ent32 (wof_fn (w) (by assumption)) sub0 (by kernel_rfl) ?_
  refine st_fn ent32 (wof_fn (d) (by assumption)) sub0 (by kernel_rfl) ?_
  refine st_fn ent79 (to_ok (w) (d) (1 + 1 + 1) (by assumption) (by assumption) (by assumption) (by omega) (by omega)) sub0 (by kernel_rfl) ?_
  refine st_fn ent32 (wof_fn (w) (by assumption)) sub0 (by kernel_rfl) ?_
  refine st_fn ent32 (wof_fn (d) (by assumption)) sub0 (by kernel_rfl) ?_
  refine st_fn ent80 (zto_ok (w) (d) (1 + 1 + 1) (by assumption) (by assumption) (by assumption) (by omega) (by omega)) sub0 (by kernel_rfl) ?_
  refine st_b 43 (show (!(thi (d * nearQ w d (1 + 1 + 1)) == thi (d * nearQ w d (1 + 1 + 1)) && (tlo (d * nearQ w d (1 + 1 + 1)) == tlo (d * nearQ w d (1 + 1 + 1)) && true))) = false by simp_all) (by kernel_rfl) ?_
  refine st_b 47 (show (ter (d * nearQ w d (1 + 1 + 1)) != ter (d * nearQ w d (1 + 1 + 1))) = false by exact bne_eq_false_iff_eq.2 (by omega)) (by kernel_rfl) ?_
  refine st_i 22 .i64 (x' := 1 + 1 + 1 + 1) (Go.IntWalk.i64_in _ (by omega)) (by kernel_rfl) ?_
  refine st_round (by kernel_rfl) ?_
  refine st_fn ent32 (wof_fn (w) (by assumption)) sub0 (by kernel_rfl) ?_
  refine st_fn ent32 (wof_fn (d) (by assumption)) sub0 (by kernel_rfl) ?_
  refine st_fn ent79 (to_ok (w) (d) (1 + 1 + 1 + 1) (by assumption) (by assumption) (by assumption) (by omega) (by omega)) sub0 (by kernel_rfl) ?_
  refine st_fn ent32 (wof_fn (w) (by assumption)) sub0 (by kernel_rfl) ?_
  refine st_fn ent32 (wof_fn (d) (by assumption)) sub0 (by kernel_rfl) ?_
  refine st_fn ent80 (zto_ok (w) (d) (1 + 1 + 1 + 1) (by assumption) (by assumption) (by assumption) (by omega) (by omega)) sub0 (by kernel_rfl) ?_
  refine st_b 43 (show (!(thi (d * nearQ w d (1 + 1 + 1 + 1)) == thi (d * nearQ w d (1 + 1 + 1 + 1)) && (tlo (d * nearQ w d (1 + 1 + 1 + 1)) == tlo (d * nearQ w d (1 + 1 + 1 + 1)) && true))) = false by simp_all) (by kernel_rfl) ?_
  refine st_b 47 (show (ter (d * nearQ w d (1 + 1 + 1 + 1)) != ter (d * nearQ w d (1 + 1 + 1 + 1))) = false by exact bne_eq_false_iff_eq.2 (by omega)) (by kernel_rfl) ?_
  refine st_i 22 .i64 (x' := 1 + 1 + 1 + 1 + 1) (Go.IntWalk.i64_in _ (by omega)) (by kernel_rfl) ?_
  refine st_round (by kernel_rfl) ?_
  refine st_fn ent32 (wof_fn (w) (by assumption)) sub0 (by kernel_rfl) ?_
  refine st_fn ent32 (wof_fn (d) (by assumption)) sub0 (by kernel_rfl) ?_
  refine st_fn ent79 (to_ok (w) (d) (1 + 1 + 1 + 1 + 1) (by assumption) (by assumption) (by assumption) (by omega) (by omega)) sub0 (by kernel_rfl) ?_
  refine st_fn ent32 (wof_fn (w) (by assumption)) sub0 (by kernel_rfl) ?_
  refine st_fn ent32 (wof_fn (d) (by assumption)) sub0 (by kernel_rfl) ?_
  refine st_fn ent80 (zto_ok (w) (d) (1 + 1 + 1 + 1 + 1) (by assumption) (by assumption) (by assumption) (by omega) (by omega)) sub0 (by kernel_rfl) ?_
  refine st_b 43 (show (!(thi (d * nearQ w d (1 + 1 + 1 + 1 + 1)) == thi (d * nearQ w d (1 + 1 + 1 + 1 + 1)) && (tlo (d * nearQ w d (1 + 1 + 1 + 1 + 1)) == tlo (d * nearQ w d (1 + 1 + 1 + 1 + 1)) && true))) = false by simp_all) (by kernel_rfl) ?_
  refine st_b 47 (show (ter (d * nearQ w d (1 + 1 + 1 + 1 + 1)) != ter (d * nearQ w d (1 + 1 + 1 + 1 + 1))) = false by exact bne_eq_false_iff_eq.2 (by omega)) (by kernel_rfl) ?_
  refine st_i 22 .i64 (x' := 1 + 1 + 1 + 1 + 1 + 1) (Go.IntWalk.i64_in _ (by omega)) (by kernel_rfl) ?_
  refine st_round (by kernel_rfl) ?_
  refine st_fn ent32 (wof_fn (w) (by assumption)) sub0 (by kernel_rfl) ?_
  refine st_fn ent32 (wof_fn (d) (by assumption)) sub0 (by kernel_rfl) ?_
  refine st_fn ent79 (to_ok (w) (d) (1 + 1 + 1 + 1 + 1 + 1) (by assumption) (by assumption) (by assumption) (by omega) (by omega)) sub0 (by kernel_rfl) ?_
  refine st_fn ent32 (wof_fn (w) (by assumption)) sub0 (by kernel_rfl) ?_
  refine st_fn ent32 (wof_fn (d) (by assumption)) sub0 (by kernel_rfl) ?_
  refine st_fn ent80 (zto_ok (w) (d) (1 + 1 + 1 + 1 + 1 + 1) (by assumption) (by assumption) (by assumption) (by omega) (by omega)) sub0 (by kernel_rfl) ?_
  refine st_b 43 (show (!(thi (d * nearQ w d (1 + 1 + 1 + 1 + 1 + 1)) == thi (d * nearQ w d (1 + 1 + 1 + 1 + 1 + 1)) && (tlo (d * nearQ w d (1 + 1 + 1 + 1 + 1 + 1)) == tlo (d * nearQ w d (1 + 1 + 1 + 1 + 1 + 1)) && true))) = false by simp_all) (by kernel_rfl) ?_
  refine st_b 47 (show (ter (d * nearQ w d (1 + 1 + 1 + 1 + 1 + 1)) != ter (d * nearQ w d (1 + 1 + 1 + 1 + 1 + 1))) = false by exact bne_eq_false_iff_eq.2 (by omega)) (by kernel_rfl) ?_
  refine st_i 22 .i64 (x' := 1 + 1 + 1 + 1 + 1 + 1 + 1) (Go.IntWalk.i64_in _ (by omega)) (by kernel_rfl) ?_
  refine st_round (by kernel_rfl) ?_
  refine st_fn ent32 (wof_fn (w) (by assumption)) sub0 (by kernel_rfl) ?_
  refine st_fn ent32 (wof_fn (d) (by assumption)) sub0 (by kernel_rfl) ?_
  refine st_fn ent79 (to_ok (w) (d) (1 + 1 + 1 + 1 + 1 + 1 + 1) (by assumption) (by assumption) (by assumption) (by omega) (by omega)) sub0 (by kernel_rfl) ?_
  refine st_fn ent32 (wof_fn (w) (by assumption)) sub0 (by kernel_rfl) ?_
  refine st_fn ent32 (wof_fn (d) (by assumption)) sub0 (by kernel_rfl) ?_
  refine st_fn ent80 (zto_ok (w) (d) (1 + 1 + 1 + 1 + 1 + 1 + 1) (by assumption) (by assumption) (by assumption) (by omega) (by omega)) sub0 (by kernel_rfl) ?_
  refine st_b 43 (show (!(thi (d * nearQ w d (1 + 1 + 1 + 1 + 1 + 1 + 1)) == thi (d * nearQ w d (1 + 1 + 1 + 1 + 1 + 1 + 1)) && (tlo (d * nearQ w d (1 + 1 + 1 + 1 + 1 + 1 + 1)) == tlo (d * nearQ w d (1 + 1 + 1 + 1 + 1 + 1 + 1)) && true))) = false by simp_all) (by kernel_rfl) ?_
  refine st_b 47 (show (ter (d * nearQ w d (1 + 1 + 1 + 1 + 1 + 1 + 1)) != ter (d * nearQ w d (1 + 1 + 1 + 1 + 1 + 1 + 1))) = false by exact bne_eq_false_iff_eq.2 (by omega)) (by kernel_rfl) ?_
  refine st_i 22 .i64 (x' := 1 + 1 + 1 + 1 + 1 + 1 + 1 + 1) (Go.IntWalk.i64_in _ (by omega)) (by kernel_rfl) ?_
  refine st_round (by kernel_rfl) ?_
  refine st_fn ent32 (wof_fn (w) (by assumption)) sub0 (by kernel_rfl) ?_
  refine st_fn ent32 (wof_fn (d) (by assumption)) sub0 (by kernel_rfl) ?_
  refine st_fn ent79 (to_ok (w) (d) (1 + 1 + 1 + 1 + 1 + 1 + 1 + 1) (by assumption) (by assumption) (by assumption) (by omega) (by omega)) sub0 (by kernel_rfl) ?_
  refine st_fn ent32 (wof_fn (w) (by assumption)) sub0 (by kernel_rfl) ?_
  refine st_fn ent32 (wof_fn (d) (by assumption)) sub0 (by kernel_rfl) ?_
  refine st_fn ent80 (zto_ok (w) (d) (1 + 1 + 1 + 1 + 1 + 1 + 1 + 1) (by assumption) (by assumption) (by assumption) (by omega) (by omega)) sub0 (by kernel_rfl) ?_
  refine st_b 43 (show (!(thi (d * nearQ w d (1 + 1 + 1 + 1 + 1 + 1 + 1 + 1)) == thi (d * nearQ w d (1 + 1 + 1 + 1 + 1 + 1 + 1 + 1)) && (tlo (d * nearQ w d (1 + 1 + 1 + 1 + 1 + 1 + 1 + 1)) == tlo (d * nearQ w d (1 + 1 + 1 + 1 + 1 + 1 + 1 + 1)) && true))) = false by simp_all) (by kernel_rfl) ?_
  refine st_b 47 (show (ter (d * nearQ w d (1 + 1 + 1 + 1 + 1 + 1 + 1 + 1)) != ter (d * nearQ w d (1 + 1 + 1 + 1 + 1 + 1 + 1 + 1))) = false by exact bne_eq_false_iff_eq.2 (by omega)) (by kernel_rfl) ?_
  refine st_i 22 .i64 (x' := 1 + 1 + 1 + 1 + 1 + 1 + 1 + 1 + 1) (Go.IntWalk.i64_in _ (by omega)) (by kernel_rfl) ?_
  refine st_round (by kernel_rfl) ?_
  refine st_fn ent32 (wof_fn (w) (by assumption)) sub0 (by kernel_rfl) ?_
  refine st_fn ent32 (wof_fn (d) (by assumption)) sub0 (by kernel_rfl) ?_
  refine st_fn ent79 (to_ok (w) (d) (1 + 1 + 1 + 1 + 1 + 1 + 1 + 1 + 1) (by assumption) (by assumption) (by assumption) (by omega) (by omega)) sub0 (by kernel_rfl) ?_
  refine st_fn ent32 (wof_fn (w) (by assumption)) sub0 (by kernel_rfl) ?_
  refine st_fn ent32 (wof_fn (d) (by assumption)) sub0 (by kernel_rfl) ?_
  refine st_fn ent80 (zto_ok (w) (d) (1 + 1 + 1 + 1 + 1 + 1 + 1 + 1 + 1) (by assumption) (by assumption) (by assumption) (by omega) (by omega)) sub0 (by kernel_rfl) ?_
  refine st_b 43 (show (!(thi (d * nearQ w d (1 + 1 + 1 + 1 + 1 + 1 + 1 + 1 + 1)) == thi (d * nearQ w d (1 + 1 + 1 + 1 + 1 + 1 + 1 + 1 + 1)) && (tlo (d * nearQ w d (1 + 1 + 1 + 1 + 1 + 1 + 1 + 1 + 1)) == tlo (d * nearQ w d (1 + 1 + 1 + 1 + 1 + 1 + 1 + 1 + 1)) && true))) = false by simp_all) (by kernel_rfl) ?_
  refine st_b 47 (show (ter (d * nearQ w d (1 + 1 + 1 + 1 + 1 + 1 + 1 + 1 + 1)) != ter (d * nearQ w d (1 + 1 + 1 + 1 + 1 + 1 + 1 + 1 + 1))) = false by exact bne_eq_false_iff_eq.2 (by omega)) (by kernel_rfl) ?_
  refine st_i 22 .i64 (x' := 1 + 1 + 1 + 1 + 1 + 1 + 1 + 1 + 1 + 1) (Go.IntWalk.i64_in _ (by omega)) (by kernel_rfl) ?_
  refine st_round (by kernel_rfl) ?_
  by_cases k52 : mode = 1
  · refine st_b 52 (beq_iff_eq.2 k52) (by kernel_rfl) ?_
    refine st_fn ent81 (alive4) sub0 (by kernel_rfl) ?_
    refine st_fn ent84 (mirror_fn (mode)) sub0 (by kernel_rfl) ?_
    exact st_retv Try.func24 (show Value.bool (mirI mode == 2) = _ by simp_all) (by kernel_rfl)
  · refine st_b 52 (beq_eq_false_iff_ne.2 k52) (by kernel_rfl) ?_
    by_cases k54 : mode = 2
    · refine st_b 54 (beq_iff_eq.2 k54) (by kernel_rfl) ?_
      refine st_fn ent81 (alive4) sub0 (by kernel_rfl) ?_
      refine st_fn ent84 (mirror_fn (mode)) sub0 (by kernel_rfl) ?_
      exact st_retv Try.func24 (show Value.bool (mirI mode == 1) = _ by simp_all) (by kernel_rfl)
    · refine st_b 54 (beq_eq_false_iff_ne.2 k54) (by kernel_rfl) ?_
      by_cases k56 : mode = 5
      · refine st_b 56 (beq_iff_eq.2 k56) (by kernel_rfl) ?_
        refine st_fn ent81 (alive4) sub0 (by kernel_rfl) ?_
        refine st_fn ent84 (mirror_fn (mode)) sub0 (by kernel_rfl) ?_
        exact st_retv Try.func24 (show Value.bool (mirI mode == 6) = _ by simp_all) (by kernel_rfl)
      · refine st_b 56 (beq_eq_false_iff_ne.2 k56) (by kernel_rfl) ?_
        by_cases k58 : mode = 6
        · refine st_b 58 (beq_iff_eq.2 k58) (by kernel_rfl) ?_
          refine st_fn ent81 (alive4) sub0 (by kernel_rfl) ?_
          refine st_fn ent84 (mirror_fn (mode)) sub0 (by kernel_rfl) ?_
          exact st_retv Try.func24 (show Value.bool (mirI mode == 5) = _ by simp_all) (by kernel_rfl)
        · refine st_b 58 (beq_eq_false_iff_ne.2 k58) (by kernel_rfl) ?_
          refine st_fn ent81 (alive4) sub0 (by kernel_rfl) ?_
          refine st_fn ent84 (mirror_fn (mode)) sub0 (by kernel_rfl) ?_
          exact st_retv Try.func24 (show Value.bool (mirI mode == mode) = _ by simp_all) (by kernel_rfl)
theorem all_2 (w i mode : Int) (hw : I64 w) (hi : I64 i) (i0 : -9223372036854775808 ≤ i) (i1 : i < 1) (t0 : -1000 < (i + 1).tmod 1000) (t1 : (i + 1).tmod 1000 < 1) (Hw : W128 w) (Hd : W128 (1 - (i + 1).tmod 1000)) : Fn 24 [] [.int .i64 w, .int .i64 i, .int .i64 mode] (.bool true) := by
  have fm := mir_cases mode
  refine fn_of Try.func24 rfl fun ww => ?_
  refine st_b 14 (show (decide (i < 1)) = true by exact decide_eq_true (by omega)) (by kernel_rfl) ?_
  refine st_i 16 .i64 (x' := i + 1) (Go.IntWalk.i64_in _ (by omega)) (by kernel_rfl) ?_
  refine st_i 18 .i64 (x' := 1 - (i + 1).tmod 1000) (Go.IntWalk.i64_in _ (by omega)) (by kernel_rfl) ?_
  refine st_round (by kernel_rfl) ?_
  refine st_fn ent32 (wof_fn (w) (by assumption)) sub0 (by kernel_rfl) ?_
  refine st_fn ent32 (wof_fn (1 - (i + 1).tmod 1000) (by (unfold I64; omega))) sub0 (by kernel_rfl) ?_
  refine st_fn ent79 (to_ok (w) (1 - (i + 1).tmod 1000) (1) (by assumption) (by assumption) (by omega) (by omega) (by omega)) sub0 (by kernel_rfl) ?_
  refine st_fn ent32 (wof_fn (w) (by assumption)) sub0 (by kernel_rfl) ?_
  refine st_fn ent32 (wof_fn (1 - (i + 1).tmod 1000) (by (unfold I64; omega))) sub0 (by kernel_rfl) ?_
  refine st_fn ent80 (zto_ok (w) (1 - (i + 1).tmod 1000) (1) (by assumption) (by assumption) (by omega) (by omega) (by omega)) sub0 (by kernel_rfl) ?_
  refine st_b 43 (show (!(thi ((1 - (i + 1).tmod 1000) * nearQ w (1 - (i + 1).tmod 1000) 1) == thi ((1 - (i + 1).tmod 1000) * nearQ w (1 - (i + 1).tmod 1000) 1) && (tlo ((1 - (i + 1).tmod 1000) * nearQ w (1 - (i + 1).tmod 1000) 1) == tlo ((1 - (i + 1).tmod 1000) * nearQ w (1 - (i + 1).tmod 1000) 1) && true))) = false by simp_all) (by kernel_rfl) ?_
  refine st_b 47 (show (ter ((1 - (i + 1).tmod 1000) * nearQ w (1 - (i + 1).tmod 1000) 1) != ter ((1 - (i + 1).tmod 1000) * nearQ w (1 - (i + 1).tmod 1000) 1)) = false by exact bne_eq_false_iff_eq.2 (by omega)) (by kernel_rfl) ?_
  refine st_i 22 .i64 (x' := 1 + 1) (Go.IntWalk.i64_in _ (by omega)) (by kernel_rfl) ?_
  refine st_round (by kernel_rfl) ?_
  refine st_fn ent32 (wof_fn (w) (by assumption)) sub0 (by kernel_rfl) ?_
  refine st_fn ent32 (wof_fn (1 - (i + 1).tmod 1000) (by (unfold I64; omega))) sub0 (by kernel_rfl) ?_
  refine st_fn ent79 (to_ok (w) (1 - (i + 1).tmod 1000) (1 + 1) (by assumption) (by assumption) (by omega) (by omega) (by omega)) sub0 (by kernel_rfl) ?_
  refine st_fn ent32 (wof_fn (w) (by assumption)) sub0 (by kernel_rfl) ?_
  refine st_fn ent32 (wof_fn (1 - (i + 1).tmod 1000) (by (unfold I64; omega))) sub0 (by kernel_rfl) ?_
  refine st_fn ent80 (zto_ok (w) (1 - (i + 1).tmod 1000) (1 + 1) (by assumption) (by assumption) (by omega) (by omega) (by omega)) sub0 (by kernel_rfl) ?_
  refine st_b 43 (show (!(thi ((1 - (i + 1).tmod 1000) * nearQ w (1 - (i + 1).tmod 1000) (1 + 1)) == thi ((1 - (i + 1).tmod 1000) * nearQ w (1 - (i + 1).tmod 1000) (1 + 1)) && (tlo ((1 - (i + 1).tmod 1000) * nearQ w (1 - (i + 1).tmod 1000) (1 + 1)) == tlo ((1 - (i + 1).tmod 1000) * nearQ w (1 - (i + 1).tmod 1000) (1 + 1)) && true))) = false by simp_all) (by kernel_rfl) ?_
  refine st_b 47 (show (ter ((1 - (i + 1).tmod 1000) * nearQ w (1 - (i + 1).tmod 1000) (1 + 1)) != ter ((1 - (i + 1).tmod 1000) * nearQ w (1 - (i + 1).tmod 1000) (1 + 1))) = false by exact bne_eq_false_iff_eq.2 (by omega)) (by kernel_rfl) ?_
  refine st_i 22 .i64 (x' := 1 + 1 + 1) (Go.IntWalk.i64_in _ (by omega)) (by kernel_rfl) ?_
  refine st_round (by kernel_rfl) ?_
  refine st_fn ent32 (wof_fn (w) (by assumption)) sub0 (by kernel_rfl) ?_
  refine st_fn ent32 (wof_fn (1 - (i + 1).tmod 1000) (by (unfold I64; omega))) sub0 (by kernel_rfl) ?_
  refine st_fn ent79 (to_ok (w) (1 - (i + 1).tmod 1000) (1 + 1 + 1) (by assumption) (by assumption) (by omega) (by omega) (by omega)) sub0 (by kernel_rfl) ?_
  refine st_fn ent32 (wof_fn (w) (by assumption)) sub0 (by kernel_rfl) ?_
  refine st_fn ent32 (wof_fn (1 - (i + 1).tmod 1000) (by (unfold I64; omega))) sub0 (by kernel_rfl) ?_
  refine st_fn ent80 (zto_ok (w) (1 - (i + 1).tmod 1000) (1 + 1 + 1) (by assumption) (by assumption) (by omega) (by omega) (by omega)) sub0 (by kernel_rfl) ?_
  refine st_b 43 (show (!(thi ((1 - (i + 1).tmod 1000) * nearQ w (1 - (i + 1).tmod 1000) (1 + 1 + 1)) == thi ((1 - (i + 1).tmod 1000) * nearQ w (1 - (i + 1).tmod 1000) (1 + 1 + 1)) && (tlo ((1 - (i + 1).tmod 1000) * nearQ w (1 - (i + 1).tmod 1000) (1 + 1 + 1)) == tlo ((1 - (i + 1).tmod 1000) * nearQ w (1 - (i + 1).tmod 1000) (1 + 1 + 1)) && true))) = false by simp_all) (by kernel_rfl) ?_
  refine st_b 47 (show (ter ((1 - (i + 1).tmod 1000) * nearQ w (1 - (i + 1).tmod 1000) (1 + 1 + 1)) != ter ((1 - (i + 1).tmod 1000) * nearQ w (1 - (i + 1).tmod 1000) (1 + 1 + 1))) = false by exact bne_eq_false_iff_eq.2 (by omega)) (by kernel_rfl) ?_
  refine st_i 22 .i64 (x' := 1 + 1 + 1 + 1) (Go.IntWalk.i64_in _ (by omega)) (by kernel_rfl) ?_
  refine st_round (by kernel_rfl) ?_
  refine st_fn ent32 (wof_fn (w) (by assumption)) sub0 (by kernel_rfl) ?_
  refine st_fn ent32 (wof_fn (1 - (i + 1).tmod 1000) (by (unfold I64; omega))) sub0 (by kernel_rfl) ?_
  refine st_fn ent79 (to_ok (w) (1 - (i + 1).tmod 1000) (1 + 1 + 1 + 1) (by assumption) (by assumption) (by omega) (by omega) (by omega)) sub0 (by kernel_rfl) ?_
  refine st_fn ent32 (wof_fn (w) (by assumption)) sub0 (by kernel_rfl) ?_
  refine st_fn ent32 (wof_fn (1 - (i + 1).tmod 1000) (by (unfold I64; omega))) sub0 (by kernel_rfl) ?_
  refine st_fn ent80 (zto_ok (w) (1 - (i + 1).tmod 1000) (1 + 1 + 1 + 1) (by assumption) (by assumption) (by omega) (by omega) (by omega)) sub0 (by kernel_rfl) ?_
  refine st_b 43 (show (!(thi ((1 - (i + 1).tmod 1000) * nearQ w (1 - (i + 1).tmod 1000) (1 + 1 + 1 + 1)) == thi ((1 - (i + 1).tmod 1000) * nearQ w (1 - (i + 1).tmod 1000) (1 + 1 + 1 + 1)) && (tlo ((1 - (i + 1).tmod 1000) * nearQ w (1 - (i + 1).tmod 1000) (1 + 1 + 1 + 1)) == tlo ((1 - (i + 1).tmod 1000) * nearQ w (1 - (i + 1).tmod 1000) (1 + 1 + 1 + 1)) && true))) = false by simp_all) (by kernel_rfl) ?_
  refine st_b 47 (show (ter ((1 - (i + 1).tmod 1000) * nearQ w (1 - (i + 1).tmod 1000) (1 + 1 + 1 + 1)) != ter ((1 - (i + 1).tmod 1000) * nearQ w (1 - (i + 1).tmod 1000) (1 + 1 + 1 + 1))) = false by exact bne_eq_false_iff_eq.2 (by omega)) (by kernel_rfl) ?_
  refine st_i 22 .i64 (x' := 1 + 1 + 1 + 1 + 1) (Go.IntWalk.i64_in _ (by omega)) (by kernel_rfl) ?_
  refine st_round (by kernel_rfl) ?_
  refine st_fn ent32 (wof_fn (w) (by assumption)) sub0 (by kernel_rfl) ?_
  refine st_fn ent32 (wof_fn (1 - (i + 1).tmod 1000) (by (unfold I64; omega))) sub0 (by kernel_rfl) ?_
  refine st_fn ent79 (to_ok (w) (1 - (i + 1).tmod 1000) (1 + 1 + 1 + 1 + 1) (by assumption) (by assumption) (by omega) (by omega) (by omega)) sub0 (by kernel_rfl) ?_
  refine st_fn ent32 (wof_fn (w) (by assumption)) sub0 (by kernel_rfl) ?_
  refine st_fn ent32 (wof_fn (1 - (i + 1).tmod 1000) (by (unfold I64; omega))) sub0 (by kernel_rfl) ?_
  refine st_fn ent80 (zto_ok (w) (1 - (i + 1).tmod 1000) (1 + 1 + 1 + 1 + 1) (by assumption) (by assumption) (by omega) (by omega) (by omega)) sub0 (by kernel_rfl) ?_
  refine st_b 43 (show (!(thi ((1 - (i + 1).tmod 1000) * nearQ w (1 - (i + 1).tmod 1000) (1 + 1 + 1 + 1 + 1)) == thi ((1 - (i + 1).tmod 1000) * nearQ w (1 - (i + 1).tmod 1000) (1 + 1 + 1 + 1 + 1)) && (tlo ((1 - (i + 1).tmod 1000) * nearQ w (1 - (i + 1).tmod 1000) (1 + 1 + 1 + 1 + 1)) == tlo ((1 - (i + 1).tmod 1000) * nearQ w (1 - (i + 1).tmod 1000) (1 + 1 + 1 + 1 + 1)) && true))) = false by simp_all) (by kernel_rfl) ?_
  refine st_b 47 (show (ter ((1 - (i + 1).tmod 1000) * nearQ w (1 - (i + 1).tmod 1000) (1 + 1 + 1 + 1 + 1)) != ter ((1 - (i + 1).tmod 1000) * nearQ w (1 - (i + 1).tmod 1000) (1 + 1 + 1 + 1 + 1))) = false by exact bne_eq_false_iff_eq.2 (by omega)) (by kernel_rfl) ?_
  refine st_i 22 .i64 (x' := 1 + 1 + 1 + 1 + 1 + 1) (Go.IntWalk.i64_in _ (by omega)) (by kernel_rfl) ?_
  refine st_round (by kernel_rfl) ?_
  refine st_fn ent32 (wof_fn (w) (by assumption)) sub0 (by kernel_rfl) ?_
  refine st_fn ent32 (wof_fn (1 - (i + 1).tmod 1000) (by (unfold I64; omega))) sub0 (by kernel_rfl) ?_
  refine st_fn ent79 (to_ok (w) (1 - (i + 1).tmod 1000) (1 + 1 + 1 + 1 + 1 + 1) (by assumption) (by assumption) (by omega) (by omega) (by omega)) sub0 (by kernel_rfl) ?_
  refine st_fn ent32 (wof_fn (w) (by assumption)) sub0 (by kernel_rfl) ?_
  refine st_fn ent32 (wof_fn (1 - (i + 1).tmod 1000) (by (unfold I64; omega))) sub0 (by kernel_rfl) ?_
  refine st_fn ent80 (zto_ok (w) (1 - (i + 1).tmod 1000) (1 + 1 + 1 + 1 + 1 + 1) (by assumption) (by assumption) (by omega) (by omega) (by omega)) sub0 (by kernel_rfl) ?_
  refine st_b 43 (show (!(thi ((1 - (i + 1).tmod 1000) * nearQ w (1 - (i + 1).tmod 1000) (1 + 1 + 1 + 1 + 1 + 1)) == thi ((1 - (i + 1).tmod 1000) * nearQ w (1 - (i + 1).tmod 1000) (1 + 1 + 1 + 1 + 1 + 1)) && (tlo ((1 - (i + 1).tmod 1000) * nearQ w (1 - (i + 1).tmod 1000) (1 + 1 + 1 + 1 + 1 + 1)) == tlo ((1 - (i + 1).tmod 1000) * nearQ w (1 - (i + 1).tmod 1000) (1 + 1 + 1 + 1 + 1 + 1)) && true))) = false by simp_all) (by kernel_rfl) ?_
  refine st_b 47 (show (ter ((1 - (i + 1).tmod 1000) * nearQ w (1 - (i + 1).tmod 1000) (1 + 1 + 1 + 1 + 1 + 1)) != ter ((1 - (i + 1).tmod 1000) * nearQ w (1 - (i + 1).tmod 1000) (1 + 1 + 1 + 1 + 1 + 1))) = false by exact bne_eq_false_iff_eq.2 (by omega)) (by kernel_rfl) ?_
  refine st_i 22 .i64 (x' := 1 + 1 + 1 + 1 + 1 + 1 + 1) (Go.IntWalk.i64_in _ (by omega)) (by kernel_rfl) ?_
  refine st_round (by kernel_rfl) ?_
  refine st_fn ent32 (wof_fn (w) (by assumption)) sub0 (by kernel_rfl) ?_
  refine st_fn ent32 (wof_fn (1 - (i + 1).tmod 1000) (by (unfold I64; omega))) sub0 (by kernel_rfl) ?_
  refine st_fn ent79 (to_ok (w) (1 - (i + 1).tmod 1000) (1 + 1 + 1 + 1 + 1 + 1 + 1) (by assumption) (by assumption) (by omega) (by omega) (by omega)) sub0 (by kernel_rfl) ?_
  refine st_fn ent32 (wof_fn (w) (by assumption)) sub0 (by kernel_rfl) ?_
  refine st_fn ent32 (wof_fn (1 - (i + 1).tmod 1000) (by (unfold I64; omega))) sub0 (by kernel_rfl) ?_
  refine st_fn ent80 (zto_ok (w) (1 - (i + 1).tmod 1000) (1 + 1 + 1 + 1 + 1 + 1 + 1) (by assumption) (by assumption) (by omega) (by omega) (by omega)) sub0 (by kernel_rfl) ?_
  refine st_b 43 (show (!(thi ((1 - (i + 1).tmod 1000) * nearQ w (1 - (i + 1).tmod 1000) (1 + 1 + 1 + 1 + 1 + 1 + 1)) == thi ((1 - (i + 1).tmod 1000) * nearQ w (1 - (i + 1).tmod 1000) (1 + 1 + 1 + 1 + 1 + 1 + 1)) && (tlo ((1 - (i + 1).tmod 1000) * nearQ w (1 - (i + 1).tmod 1000) (1 + 1 + 1 + 1 + 1 + 1 + 1)) == tlo ((1 - (i + 1).tmod 1000) * nearQ w (1 - (i + 1).tmod 1000) (1 + 1 + 1 + 1 + 1 + 1 + 1)) && true))) = false by simp_all) (by kernel_rfl) ?_
  refine st_b 47 (show (ter ((1 - (i + 1).tmod 1000) * nearQ w (1 - (i + 1).tmod 1000) (1 + 1 + 1 + 1 + 1 + 1 + 1)) != ter ((1 - (i + 1).tmod 1000) * nearQ w (1 - (i + 1).tmod 1000) (1 + 1 + 1 + 1 + 1 + 1 + 1))) = false by exact bne_eq_false_iff_eq.2 (by omega)) (by kernel_rfl) ?_
  refine st_i 22 .i64 (x' := 1 + 1 + 1 + 1 + 1 + 1 + 1 + 1) (Go.IntWalk.i64_in _ (by omega)) (by kernel_rfl) ?_
  refine st_round (by kernel_rfl) ?_
  refine st_fn ent32 (wof_fn (w) (by assumption)) sub0 (by kernel_rfl) ?_
  refine st_fn ent32 (wof_fn (1 - (i + 1).tmod 1000) (by (unfold I64; omega))) sub0 (by kernel_rfl) ?_
  refine st_fn ent79 (to_ok (w) (1 - (i + 1).tmod 1000) (1 + 1 + 1 + 1 + 1 + 1 + 1 + 1) (by assumption) (by assumption) (by omega) (by omega) (by omega)) sub0 (by kernel_rfl) ?_
  refine st_fn ent32 (wof_fn (w) (by assumption)) sub0 (by kernel_rfl) ?_
  refine st_fn ent32 (wof_fn (1 - (i + 1).tmod 1000) (by (unfold I64; omega))) sub0 (by kernel_rfl) ?_
  refine st_fn ent80 (zto_ok (w) (1 - (i + 1).tmod 1000) (1 + 1 + 1 + 1 + 1 + 1 + 1 + 1) (by assumption) (by assumption) (by omega) (by omega) (by omega)) sub0 (by kernel_rfl) ?_
  refine st_b 43 (show (!(thi ((1 - (i + 1).tmod 1000) * nearQ w (1 - (i + 1).tmod 1000) (1 + 1 + 1 + 1 + 1 + 1 + 1 + 1)) == thi ((1 - (i + 1).tmod 1000) * nearQ w (1 - (i + 1).tmod 1000) (1 + 1 + 1 + 1 + 1 + 1 + 1 + 1)) && (tlo ((1 - (i + 1).tmod 1000) * nearQ w (1 - (i + 1).tmod 1000) (1 + 1 + 1 + 1 + 1 + 1 + 1 + 1)) == tlo ((1 - (i + 1).tmod 1000) * nearQ w (1 - (i + 1).tmod 1000) (1 + 1 + 1 + 1 + 1 + 1 + 1 + 1)) && true))) = false by simp_all) (by kernel_rfl) ?_
  refine st_b 47 (show (ter ((1 - (i + 1).tmod 1000) * nearQ w (1 - (i + 1).tmod 1000) (1 + 1 + 1 + 1 + 1 + 1 + 1 + 1)) != ter ((1 - (i + 1).tmod 1000) * nearQ w (1 - (i + 1).tmod 1000) (1 + 1 + 1 + 1 + 1 + 1 + 1 + 1))) = false by exact bne_eq_false_iff_eq.2 (by omega)) (by kernel_rfl) ?_
  refine st_i 22 .i64 (x' := 1 + 1 + 1 + 1 + 1 + 1 + 1 + 1 + 1) (Go.IntWalk.i64_in _ (by omega)) (by kernel_rfl) ?_
  refine st_round (by kernel_rfl) ?_
  refine st_fn ent32 (wof_fn (w) (by assumption)) sub0 (by kernel_rfl) ?_
  refine st_fn ent32 (wof_fn (1 - (i + 1).tmod 1000) (by (unfold I64; omega))) sub0 (by kernel_rfl) ?_
  refine st_fn ent79 (to_ok (w) (1 - (i + 1).tmod 1000) (1 + 1 + 1 + 1 + 1 + 1 + 1 + 1 + 1) (by assumption) (by assumption) (by omega) (by omega) (by omega)) sub0 (by kernel_rfl) ?_
  refine st_fn ent32 (wof_fn (w) (by assumption)) sub0 (by kernel_rfl) ?_
  refine st_fn ent32 (wof_fn (1 - (i + 1).tmod 1000) (by (unfold I64; omega))) sub0 (by kernel_rfl) ?_
  refine st_fn ent80 (zto_ok (w) (1 - (i + 1).tmod 1000) (1 + 1 + 1 + 1 + 1 + 1 + 1 + 1 + 1) (by assumption) (by assumption) (by omega) (by omega) (by omega)) sub0 (by kernel_rfl) ?_
  refine st_b 43 (show (!(thi ((1 - (i + 1).tmod 1000) * nearQ w (1 - (i + 1).tmod 1000) (1 + 1 + 1 + 1 + 1 + 1 + 1 + 1 + 1)) == thi ((1 - (i + 1).tmod 1000) * nearQ w (1 - (i + 1).tmod 1000) (1 + 1 + 1 + 1 + 1 + 1 + 1 + 1 + 1)) && (tlo ((1 - (i + 1).tmod 1000) * nearQ w (1 - (i + 1).tmod 1000) (1 + 1 + 1 + 1 + 1 + 1 + 1 + 1 + 1)) == tlo ((1 - (i + 1).tmod 1000) * nearQ w (1 - (i + 1).tmod 1000) (1 + 1 + 1 + 1 + 1 + 1 + 1 + 1 + 1)) && true))) = false by simp_all) (by kernel_rfl) ?_
  refine st_b 47 (show (ter ((1 - (i + 1).tmod 1000) * nearQ w (1 - (i + 1).tmod 1000) (1 + 1 + 1 + 1 + 1 + 1 + 1 + 1 + 1)) != ter ((1 - (i + 1).tmod 1000) * nearQ w (1 - (i + 1).tmod 1000) (1 + 1 + 1 + 1 + 1 + 1 + 1 + 1 + 1))) = false by exact bne_eq_false_iff_eq.2 (by omega)) (by kernel_rfl) ?_
  refine st_i 22 .i64 (x' := 1 + 1 + 1 + 1 + 1 + 1 + 1 + 1 + 1 + 1) (Go.IntWalk.i64_in _ (by omega)) (by kernel_rfl) ?_
  refine st_round (by kernel_rfl) ?_
  by_cases k52 : mode = 1
  · refine st_b 52 (beq_iff_eq.2 k52) (by kernel_rfl) ?_
    refine st_fn ent81 (alive4) sub0 (by kernel_rfl) ?_
    refine st_fn ent84 (mirror_fn (mode)) sub0 (by kernel_rfl) ?_
    exact st_retv Try.func24 (show Value.bool (mirI mode == 2) = _ by simp_all) (by kernel_rfl)
  · refine st_b 52 (beq_eq_false_iff_ne.2 k52) (by kernel_rfl) ?_
    by_cases k54 : mode = 2
    · refine st_b 54 (beq_iff_eq.2 k54) (by kernel_rfl) ?_
      refine st_fn ent81 (alive4) sub0 (by kernel_rfl) ?_
      refine st_fn ent84 (mirror_fn (mode)) sub0 (by kernel_rfl) ?_
      exact st_retv Try.func24 (show Value.bool (mirI mode == 1) = _ by simp_all) (by kernel_rfl)
    · refine st_b 54 (beq_eq_false_iff_ne.2 k54) (by kernel_rfl) ?_
      by_cases k56 : mode = 5
      · refine st_b 56 (beq_iff_eq.2 k56) (by kernel_rfl) ?_
        refine st_fn ent81 (alive4) sub0 (by kernel_rfl) ?_
        refine st_fn ent84 (mirror_fn (mode)) sub0 (by kernel_rfl) ?_
        exact st_retv Try.func24 (show Value.bool (mirI mode == 6) = _ by simp_all) (by kernel_rfl)
      · refine st_b 56 (beq_eq_false_iff_ne.2 k56) (by kernel_rfl) ?_
        by_cases k58 : mode = 6
        · refine st_b 58 (beq_iff_eq.2 k58) (by kernel_rfl) ?_
          refine st_fn ent81 (alive4) sub0 (by kernel_rfl) ?_
          refine st_fn ent84 (mirror_fn (mode)) sub0 (by kernel_rfl) ?_
          exact st_retv Try.func24 (show Value.bool (mirI mode == 5) = _ by simp_all) (by kernel_rfl)
        · refine st_b 58 (beq_eq_false_iff_ne.2 k58) (by kernel_rfl) ?_
          refine st_fn ent81 (alive4) sub0 (by kernel_rfl) ?_
          refine st_fn ent84 (mirror_fn (mode)) sub0 (by kernel_rfl) ?_
          exact st_retv Try.func24 (show Value.bool (mirI mode == mode) = _ by simp_all) (by kernel_rfl)
theorem all_3 (w mode : Int) (hw : I64 w) (Hw : W128 w) : Fn 24 [] [.int .i64 w, .int .i64 0, .int .i64 mode] (.bool true) := by
  have fm := mir_cases mode
  have H0 : W128 0 := by unfold W128; omega
  refine fn_of Try.func24 rfl fun ww => ?_
  refine st_i 16 .i64 (x' := 0 + 1) (Go.IntWalk.i64_in _ (by omega)) (by kernel_rfl) ?_
  refine st_i 18 IntKind.i64 ((by decide : IntKind.i64.wrap (1 - Int.tmod (0 + 1) 1000) = 0)) (by kernel_rfl) ?_
  refine st_round (by kernel_rfl) ?_
  refine st_fn ent32 (wof_fn (w) (by assumption)) sub0 (by kernel_rfl) ?_
  refine st_fn ent32 (wof_fn (0) (by (unfold I64; omega))) sub0 (by kernel_rfl) ?_
  refine st_fn ent79 (to_arg1 (w) (0) (1) (by decide)) sub0 (by kernel_rfl) ?_
  refine st_fn ent32 (wof_fn (w) (by assumption)) sub0 (by kernel_rfl) ?_
  refine st_fn ent32 (wof_fn (0) (by (unfold I64; omega))) sub0 (by kernel_rfl) ?_
  refine st_fn ent80 (zto_arg1 (w) (0) (1) (by assumption) (by assumption) (by decide)) sub0 (by kernel_rfl) ?_
  refine st_i 22 .i64 (x' := 1 + 1) (Go.IntWalk.i64_in _ (by omega)) (by kernel_rfl) ?_
  refine st_round (by kernel_rfl) ?_
  refine st_fn ent32 (wof_fn (w) (by assumption)) sub0 (by kernel_rfl) ?_
  refine st_fn ent32 (wof_fn (0) (by (unfold I64; omega))) sub0 (by kernel_rfl) ?_
  refine st_fn ent79 (to_arg1 (w) (0) (1 + 1) (by decide)) sub0 (by kernel_rfl) ?_
  refine st_fn ent32 (wof_fn (w) (by assumption)) sub0 (by kernel_rfl) ?_
  refine st_fn ent32 (wof_fn (0) (by (unfold I64; omega))) sub0 (by kernel_rfl) ?_
  refine st_fn ent80 (zto_arg1 (w) (0) (1 + 1) (by assumption) (by assumption) (by decide)) sub0 (by kernel_rfl) ?_
  refine st_i 22 .i64 (x' := 1 + 1 + 1) (Go.IntWalk.i64_in _ (by omega)) (by kernel_rfl) ?_
  refine st_round (by kernel_rfl) ?_
  refine st_fn ent32 (wof_fn (w) (by assumption)) sub0 (by kernel_rfl) ?_
  refine st_fn ent32 (wof_fn (0) (by (unfold I64; omega))) sub0 (by kernel_rfl) ?_
  refine st_fn ent79 (to_arg1 (w) (0) (1 + 1 + 1) (by decide)) sub0 (by kernel_rfl) ?_
  refine st_fn ent32 (wof_fn (w) (by assumption)) sub0 (by kernel_rfl) ?_
  refine st_fn ent32 (wof_fn (0) (by (unfold I64; omega))) sub0 (by kernel_rfl) ?_
  refine st_fn ent80 (zto_arg1 (w) (0) (1 + 1 + 1) (by assumption) (by assumption) (by decide)) sub0 (by kernel_rfl) ?_
  refine st_i 22 .i64 (x' := 1 + 1 + 1 + 1) (Go.IntWalk.i64_in _ (by omega)) (by kernel_rfl) ?_
  refine st_round (by kernel_rfl) ?_
  refine st_fn ent32 (wof_fn (w) (by assumption)) sub0 (by kernel_rfl) ?_
  refine st_fn ent32 (wof_fn (0) (by (unfold I64; omega))) sub0 (by kernel_rfl) ?_
  refine st_fn ent79 (to_arg1 (w) (0) (1 + 1 + 1 + 1) (by decide)) sub0 (by kernel_rfl) ?_
  refine st_fn ent32 (wof_fn (w) (by assumption)) sub0 (by kernel_rfl) ?_
  refine st_fn ent32 (wof_fn (0) (by (unfold I64; omega))) sub0 (by kernel_rfl) ?_
  refine st_fn ent80 (zto_arg1 (w) (0) (1 + 1 + 1 + 1) (by assumption) (by assumption) (by decide)) sub0 (by kernel_rfl) ?_
  refine st_i 22 .i64 (x' := 1 + 1 + 1 + 1 + 1) (Go.IntWalk.i64_in _ (by omega)) (by kernel_rfl) ?_
  refine st_round (by kernel_rfl) ?_
  refine st_fn ent32 (wof_fn (w) (by assumption)) sub0 (by kernel_rfl) ?_
  refine st_fn ent32 (wof_fn (0) (by (unfold I64; omega))) sub0 (by kernel_rfl) ?_
  refine st_fn ent79 (to_arg1 (w) (0) (1 + 1 + 1 + 1 + 1) (by decide)) sub0 (by kernel_rfl) ?_
  refine st_fn ent32 (wof_fn (w) (by assumption)) sub0 (by kernel_rfl) ?_
  refine st_fn ent32 (wof_fn (0) (by (unfold I64; omega))) sub0 (by kernel_rfl) ?_
  refine st_fn ent80 (zto_arg1 (w) (0) (1 + 1 + 1 + 1 + 1) (by assumption) (by assumption) (by decide)) sub0 (by kernel_rfl) ?_
  refine st_i 22 .i64 (x' := 1 + 1 + 1 + 1 + 1 + 1) (Go.IntWalk.i64_in _ (by omega)) (by kernel_rfl) ?_
  refine st_round (by kernel_rfl) ?_
  refine st_fn ent32 (wof_fn (w) (by assumption)) sub0 (by kernel_rfl) ?_
  refine st_fn ent32 (wof_fn (0) (by (unfold I64; omega))) sub0 (by kernel_rfl) ?_
  refine st_fn ent79 (to_arg1 (w) (0) (1 + 1 + 1 + 1 + 1 + 1) (by decide)) sub0 (by kernel_rfl) ?_
  refine st_fn ent32 (wof_fn (w) (by assumption)) sub0 (by kernel_rfl) ?_
  refine st_fn ent32 (wof_fn (0) (by (unfold I64; omega))) sub0 (by kernel_rfl) ?_
  refine st_fn ent80 (zto_arg1 (w) (0) (1 + 1 + 1 + 1 + 1 + 1) (by assumption) (by assumption) (by decide)) sub0 (by kernel_rfl) ?_
  refine st_i 22 .i64 (x' := 1 + 1 + 1 + 1 + 1 + 1 + 1) (Go.IntWalk.i64_in _ (by omega)) (by kernel_rfl) ?_
  refine st_round (by kernel_rfl) ?_
  refine st_fn ent32 (wof_fn (w) (by assumption)) sub0 (by kernel_rfl) ?_
  refine st_fn ent32 (wof_fn (0) (by (unfold I64; omega))) sub0 (by kernel_rfl) ?_
  refine st_fn ent79 (to_arg1 (w) (0) (1 + 1 + 1 + 1 + 1 + 1 + 1) (by decide)) sub0 (by kernel_rfl) ?_
  refine st_fn ent32 (wof_fn (w) (by assumption)) sub0 (by kernel_rfl) ?_
  refine st_fn ent32 (wof_fn (0) (by (unfold I64; omega))) sub0 (by kernel_rfl) ?_
  refine st_fn ent80 (zto_arg1 (w) (0) (1 + 1 + 1 + 1 + 1 + 1 + 1) (by assumption) (by assumption) (by decide)) sub0 (by kernel_rfl) ?_
  refine st_i 22 .i64 (x' := 1 + 1 + 1 + 1 + 1 + 1 + 1 + 1) (Go.IntWalk.i64_in _ (by omega)) (by kernel_rfl) ?_
  refine st_round (by kernel_rfl) ?_
  refine st_fn ent32 (wof_fn (w) (by assumption)) sub0 (by kernel_rfl) ?_
  refine st_fn ent32 (wof_fn (0) (by (unfold I64; omega))) sub0 (by kernel_rfl) ?_
  refine st_fn ent79 (to_arg1 (w) (0) (1 + 1 + 1 + 1 + 1 + 1 + 1 + 1) (by decide)) sub0 (by kernel_rfl) ?_
  refine st_fn ent32 (wof_fn (w) (by assumption)) sub0 (by kernel_rfl) ?_
  refine st_fn ent32 (wof_fn (0) (by (unfold I64; omega))) sub0 (by kernel_rfl) ?_
  refine st_fn ent80 (zto_arg1 (w) (0) (1 + 1 + 1 + 1 + 1 + 1 + 1 + 1) (by assumption) (by assumption) (by decide)) sub0 (by kernel_rfl) ?_
  refine st_i 22 .i64 (x' := 1 + 1 + 1 + 1 + 1 + 1 + 1 + 1 + 1) (Go.IntWalk.i64_in _ (by omega)) (by kernel_rfl) ?_
  refine st_round (by kernel_rfl) ?_
  refine st_fn ent32 (wof_fn (w) (by assumption)) sub0 (by kernel_rfl) ?_
  refine st_fn ent32 (wof_fn (0) (by (unfold I64; omega))) sub0 (by kernel_rfl) ?_
  refine st_fn ent79 (to_arg1 (w) (0) (1 + 1 + 1 + 1 + 1 + 1 + 1 + 1 + 1) (by decide)) sub0 (by kernel_rfl) ?_
  refine st_fn ent32 (wof_fn (w) (by assumption)) sub0 (by kernel_rfl) ?_
  refine st_fn ent32 (wof_fn (0) (by (unfold I64; omega))) sub0 (by kernel_rfl) ?_
  refine st_fn ent80 (zto_arg1 (w) (0) (1 + 1 + 1 + 1 + 1 + 1 + 1 + 1 + 1) (by assumption) (by assumption) (by decide)) sub0 (by kernel_rfl) ?_
  refine st_i 22 .i64 (x' := 1 + 1 + 1 + 1 + 1 + 1 + 1 + 1 + 1 + 1) (Go.IntWalk.i64_in _ (by omega)) (by kernel_rfl) ?_
  refine st_round (by kernel_rfl) ?_
  by_cases k52 : mode = 1
  · refine st_b 52 (beq_iff_eq.2 k52) (by kernel_rfl) ?_
    refine st_fn ent81 (alive4) sub0 (by kernel_rfl) ?_
    refine st_fn ent84 (mirror_fn (mode)) sub0 (by kernel_rfl) ?_
    exact st_retv Try.func24 (show Value.bool (mirI mode == 2) = _ by simp_all) (by kernel_rfl)
  · refine st_b 52 (beq_eq_false_iff_ne.2 k52) (by kernel_rfl) ?_
    by_cases k54 : mode = 2
    · refine st_b 54 (beq_iff_eq.2 k54) (by kernel_rfl) ?_
      refine st_fn ent81 (alive4) sub0 (by kernel_rfl) ?_
      refine st_fn ent84 (mirror_fn (mode)) sub0 (by kernel_rfl) ?_
      exact st_retv Try.func24 (show Value.bool (mirI mode == 1) = _ by simp_all) (by kernel_rfl)
    · refine st_b 54 (beq_eq_false_iff_ne.2 k54) (by kernel_rfl) ?_
      by_cases k56 : mode = 5
      · refine st_b 56 (beq_iff_eq.2 k56) (by kernel_rfl) ?_
        refine st_fn ent81 (alive4) sub0 (by kernel_rfl) ?_
        refine st_fn ent84 (mirror_fn (mode)) sub0 (by kernel_rfl) ?_
        exact st_retv Try.func24 (show Value.bool (mirI mode == 6) = _ by simp_all) (by kernel_rfl)
      · refine st_b 56 (beq_eq_false_iff_ne.2 k56) (by kernel_rfl) ?_
        by_cases k58 : mode = 6
        · refine st_b 58 (beq_iff_eq.2 k58) (by kernel_rfl) ?_
          refine st_fn ent81 (alive4) sub0 (by kernel_rfl) ?_
          refine st_fn ent84 (mirror_fn (mode)) sub0 (by kernel_rfl) ?_
          exact st_retv Try.func24 (show Value.bool (mirI mode == 5) = _ by simp_all) (by kernel_rfl)
        · refine st_b 58 (beq_eq_false_iff_ne.2 k58) (by kernel_rfl) ?_
          refine st_fn ent81 (alive4) sub0 (by kernel_rfl) ?_
          refine st_fn ent84 (mirror_fn (mode)) sub0 (by kernel_rfl) ?_
          exact st_retv Try.func24 (show Value.bool (mirI mode == mode) = _ by simp_all) (by kernel_rfl)
theorem law_all (w i mode : Int) (W : World) (hw : I64 w) (hi : I64 i) :
    Calls Try.prog 24 #[.int .i64 w, .int .i64 i, .int .i64 mode] W (fun e w' => e = .returned (.bool true) ∧ Ext W w') := by
  by_cases h1 : 1 ≤ i
  · exact all_1 w i mode hw hi h1 hw.w hi.w W (zall_nil W)
  · by_cases h0 : i = 0
    · subst h0; exact all_3 w mode hw hw.w W (zall_nil W)
    · have e := Int.neg_tmod (-(i + 1)) 1000
      rw [Int.neg_neg] at e
      have e2 := Int.tmod_eq_emod_of_nonneg (a := -(i + 1)) (b := 1000) (by omega)
      have := Int.emod_nonneg (-(i + 1)) (show (1000 : Int) ≠ 0 by omega)
      have := Int.emod_lt_of_pos (-(i + 1)) (show (0 : Int) < 1000 by omega)
      exact all_2 w i mode hw hi hi.1 (by omega) (by omega) (by omega) hw.w (by unfold W128; omega) W (zall_nil W)
end Go.Proofs.Ytmkddcmfofabbaa
