/-
  The law ClockCounts, walked.
-/
import Derived.Test.YtmkddcmfofabbaaFc
set_option linter.unusedVariables false
set_option maxRecDepth 100000
namespace Go.Proofs.Ytmkddcmfofabbaa
open Go Go.RowKit Go.Ev

theorem counts_fn (h m s n x : Int) : Fn 17 [] [tv h m s n, .int .i64 x] (.bool true) := by
  by_cases k : tOk h m s n
  · by_cases hx0 : 0 ≤ x
    · by_cases hx1 : x < 86400000000000
      · refine fn_of Try.func17 rfl fun w => ?_
        refine st_fn ent67 (fcnanos_yes (h) (m) (s) (n) (by assumption)) sub0 (by kernel_rfl) ?_
        refine st_fn ent68 (fzright_yes (h) (m) (s) (n) (by assumption)) sub0 (by kernel_rfl) ?_
        refine st_fn ent69 (fcof_yes (x) (by assumption) (by assumption)) sub0 (by kernel_rfl) ?_
        refine st_b 24 (show (decide (x ≥ 0)) = true by exact decide_eq_true (by omega)) (by kernel_rfl) ?_
        refine st_b 27 (show (decide (x < 86400000000000)) = true by exact decide_eq_true (by omega)) (by kernel_rfl) ?_
        refine st_fn ent70 (fznanos (h) (m) (s) (n) (by assumption)) sub0 (by kernel_rfl) ?_
        refine st_b 41 (show (tnan h m s n != tnan h m s n) = false by exact bne_eq_false_iff_eq.2 (by omega)) (by kernel_rfl) ?_
        refine st_fn ent71 (fzof (x) (by assumption) (by assumption)) sub0 (by kernel_rfl) ?_
        refine st_b 59 (show (!(tH x == tH x && (tM x == tM x && (tS x == tS x && (tN x == tN x && true))))) = false by simp_all) (by kernel_rfl) ?_
        refine st_fn ent72 (falive6) sub0 (by kernel_rfl) ?_
        refine st_fn ent73 (fcright_yes (h) (m) (s) (n) (by assumption)) sub0 (by kernel_rfl) ?_
        exact st_ret Try.func17 (by kernel_rfl)
      · refine fn_of Try.func17 rfl fun w => ?_
        refine st_fn ent67 (fcnanos_yes (h) (m) (s) (n) (by assumption)) sub0 (by kernel_rfl) ?_
        refine st_fn ent68 (fzright_yes (h) (m) (s) (n) (by assumption)) sub0 (by kernel_rfl) ?_
        refine st_fn ent69 (fcof_no (x) (by omega)) sub0 (by kernel_rfl) ?_
        refine st_b 24 (show (decide (x ≥ 0)) = true by exact decide_eq_true (by omega)) (by kernel_rfl) ?_
        refine st_b 27 (show (decide (x < 86400000000000)) = false by exact decide_eq_false (by omega)) (by kernel_rfl) ?_
        refine st_fn ent70 (fznanos (h) (m) (s) (n) (by assumption)) sub0 (by kernel_rfl) ?_
        refine st_b 41 (show (tnan h m s n != tnan h m s n) = false by exact bne_eq_false_iff_eq.2 (by omega)) (by kernel_rfl) ?_
        refine st_fn ent72 (falive6) sub0 (by kernel_rfl) ?_
        refine st_fn ent73 (fcright_yes (h) (m) (s) (n) (by assumption)) sub0 (by kernel_rfl) ?_
        exact st_ret Try.func17 (by kernel_rfl)
    · refine fn_of Try.func17 rfl fun w => ?_
      refine st_fn ent67 (fcnanos_yes (h) (m) (s) (n) (by assumption)) sub0 (by kernel_rfl) ?_
      refine st_fn ent68 (fzright_yes (h) (m) (s) (n) (by assumption)) sub0 (by kernel_rfl) ?_
      refine st_fn ent69 (fcof_no (x) (by omega)) sub0 (by kernel_rfl) ?_
      refine st_b 24 (show (decide (x ≥ 0)) = false by exact decide_eq_false (by omega)) (by kernel_rfl) ?_
      refine st_fn ent70 (fznanos (h) (m) (s) (n) (by assumption)) sub0 (by kernel_rfl) ?_
      refine st_b 41 (show (tnan h m s n != tnan h m s n) = false by exact bne_eq_false_iff_eq.2 (by omega)) (by kernel_rfl) ?_
      refine st_fn ent72 (falive6) sub0 (by kernel_rfl) ?_
      refine st_fn ent73 (fcright_yes (h) (m) (s) (n) (by assumption)) sub0 (by kernel_rfl) ?_
      exact st_ret Try.func17 (by kernel_rfl)
  · by_cases hx0 : 0 ≤ x
    · by_cases hx1 : x < 86400000000000
      · refine fn_of Try.func17 rfl fun w => ?_
        refine st_fn ent67 (fcnanos_no (h) (m) (s) (n) (by assumption)) sub0 (by kernel_rfl) ?_
        refine st_fn ent68 (fzright_no (h) (m) (s) (n) (by assumption)) sub0 (by kernel_rfl) ?_
        refine st_fn ent69 (fcof_yes (x) (by assumption) (by assumption)) sub0 (by kernel_rfl) ?_
        refine st_b 24 (show (decide (x ≥ 0)) = true by exact decide_eq_true (by omega)) (by kernel_rfl) ?_
        refine st_b 27 (show (decide (x < 86400000000000)) = true by exact decide_eq_true (by omega)) (by kernel_rfl) ?_
        refine st_fn ent71 (fzof (x) (by assumption) (by assumption)) sub0 (by kernel_rfl) ?_
        refine st_b 59 (show (!(tH x == tH x && (tM x == tM x && (tS x == tS x && (tN x == tN x && true))))) = false by simp_all) (by kernel_rfl) ?_
        refine st_fn ent72 (falive6) sub0 (by kernel_rfl) ?_
        refine st_fn ent73 (fcright_no (h) (m) (s) (n) (by assumption)) sub0 (by kernel_rfl) ?_
        exact st_ret Try.func17 (by kernel_rfl)
      · refine fn_of Try.func17 rfl fun w => ?_
        refine st_fn ent67 (fcnanos_no (h) (m) (s) (n) (by assumption)) sub0 (by kernel_rfl) ?_
        refine st_fn ent68 (fzright_no (h) (m) (s) (n) (by assumption)) sub0 (by kernel_rfl) ?_
        refine st_fn ent69 (fcof_no (x) (by omega)) sub0 (by kernel_rfl) ?_
        refine st_b 24 (show (decide (x ≥ 0)) = true by exact decide_eq_true (by omega)) (by kernel_rfl) ?_
        refine st_b 27 (show (decide (x < 86400000000000)) = false by exact decide_eq_false (by omega)) (by kernel_rfl) ?_
        refine st_fn ent72 (falive6) sub0 (by kernel_rfl) ?_
        refine st_fn ent73 (fcright_no (h) (m) (s) (n) (by assumption)) sub0 (by kernel_rfl) ?_
        exact st_ret Try.func17 (by kernel_rfl)
    · refine fn_of Try.func17 rfl fun w => ?_
      refine st_fn ent67 (fcnanos_no (h) (m) (s) (n) (by assumption)) sub0 (by kernel_rfl) ?_
      refine st_fn ent68 (fzright_no (h) (m) (s) (n) (by assumption)) sub0 (by kernel_rfl) ?_
      refine st_fn ent69 (fcof_no (x) (by omega)) sub0 (by kernel_rfl) ?_
      refine st_b 24 (show (decide (x ≥ 0)) = false by exact decide_eq_false (by omega)) (by kernel_rfl) ?_
      refine st_fn ent72 (falive6) sub0 (by kernel_rfl) ?_
      refine st_fn ent73 (fcright_no (h) (m) (s) (n) (by assumption)) sub0 (by kernel_rfl) ?_
      exact st_ret Try.func17 (by kernel_rfl)
theorem law_counts (h m s n x : Int) (w : World) : Calls Try.prog 17 #[.agg #[.int .i64 h, .int .i64 m, .int .i64 s, .int .i64 n], .int .i64 x] w (fun e w' => e = .returned (.bool true) ∧ Ext w w') := counts_fn h m s n x w (zall_nil w)
end Go.Proofs.Ytmkddcmfofabbaa
