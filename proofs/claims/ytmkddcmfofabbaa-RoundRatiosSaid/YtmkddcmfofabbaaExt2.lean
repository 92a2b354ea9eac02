/-
  round.extreme; the law RoundRatios by its two calls.
-/
import Derived.Test.YtmkddcmfofabbaaRat
set_option linter.unusedVariables false
set_option maxRecDepth 100000
namespace Go.Proofs.Ytmkddcmfofabbaa
open Go Go.RowKit Go.Ev

abbrev zz : Value := .agg #[.int .i64 0, .int .u64 0]
theorem ext_over (n d mode : Int) (hm : (hi d == -9223372036854775808 && (lo d == 0 && true)) = false) (hf : Fn 56 [] [wv n, wv d] (.tuple #[zz, zz, .int .i64 2])) : Fn 119 [] [wv n, wv d, .int .i64 mode] (.tuple #[zz, .int .i64 2]) := by
  have hm' : (!(hi d == -9223372036854775808 && (lo d == 0 && true))) = true := by rw [hm]; rfl
  refine fn_of Try.func119 rfl fun ww => ?_
  refine st_b 25 (show (!(hi d == -9223372036854775808 && (lo d == 0 && true))) = true by assumption) (by kernel_rfl) ?_
  refine st_fn ent56 (hf) sub0 (by kernel_rfl) ?_
  exact st_ret Try.func119 (by kernel_rfl)
theorem ext_a (n d q r' r D mode : Int) (h1 : 1 ≤ mode) (h2 : mode ≤ 9) (hm : (hi d == -9223372036854775808 && (lo d == 0 && true)) = false) (hf : Fn 56 [] [wv n, wv d] (.tuple #[wv q, wv r', .int .i64 0]))
    (hn1 : Fn 49 [] [wv r'] (.tuple #[wv r, .int .i64 0])) (hn2 : Fn 49 [] [wv d] (.tuple #[wv D, .int .i64 0])) (hz : (hi r' == 0 && (lo r' == 0 && true)) = false) (hr : W128 r) (hD : W128 D) (hl : W128 (D - r)) (hq : W128 q) :
    Fn 119 [] [wv n, wv d, .int .i64 mode] (rtv (if upB mode false (cmpI r (D - r)) (decide (q % 2 = 0)) = true then q + 1 else q)) := by
  have hm' : (!(hi d == -9223372036854775808 && (lo d == 0 && true))) = true := by rw [hm]; rfl
  by_cases hu : upB mode false (cmpI r (D - r)) (decide (q % 2 = 0)) = true
  · rw [if_pos hu]
    refine fn_of Try.func119 rfl fun ww => ?_
    refine st_b 25 (show (!(hi d == -9223372036854775808 && (lo d == 0 && true))) = true by assumption) (by kernel_rfl) ?_
    refine st_fn ent56 (hf) sub0 (by kernel_rfl) ?_
    refine st_b 38 (show (hi r' == 0 && (lo r' == 0 && true)) = false by assumption) (by kernel_rfl) ?_
    refine st_fn ent49 (hn1) sub0 (by kernel_rfl) ?_
    refine st_fn ent49 (hn2) sub0 (by kernel_rfl) ?_
    refine st_fn ent117 (between_fn (q) (r) (D) (false) (by assumption) (by assumption) (by assumption)) sub0 (by kernel_rfl) ?_
    refine st_fn ent116 (up_t (mode) (false) (cmpI r (D - r)) (decide (q % 2 = 0)) (by assumption) (by assumption) (by assumption)) sub0 (by kernel_rfl) ?_
    refine st_fn ent32 (wof_fn (1) (by (unfold I64; omega))) sub0 (by kernel_rfl) ?_
    refine st_fn ent45 (wadd_any (q) (1) (by assumption) (by (unfold W128; omega))) sub0 (by kernel_rfl) ?_
    exact st_ret Try.func119 (by kernel_rfl)
  · have hu' : upB mode false (cmpI r (D - r)) (decide (q % 2 = 0)) = false := (Bool.not_eq_true _).mp hu
    rw [if_neg hu, rtv_yes hq]
    refine fn_of Try.func119 rfl fun ww => ?_
    refine st_b 25 (show (!(hi d == -9223372036854775808 && (lo d == 0 && true))) = true by assumption) (by kernel_rfl) ?_
    refine st_fn ent56 (hf) sub0 (by kernel_rfl) ?_
    refine st_b 38 (show (hi r' == 0 && (lo r' == 0 && true)) = false by assumption) (by kernel_rfl) ?_
    refine st_fn ent49 (hn1) sub0 (by kernel_rfl) ?_
    refine st_fn ent49 (hn2) sub0 (by kernel_rfl) ?_
    refine st_fn ent117 (between_fn (q) (r) (D) (false) (by assumption) (by assumption) (by assumption)) sub0 (by kernel_rfl) ?_
    refine st_fn ent116 (up_f (mode) (false) (cmpI r (D - r)) (decide (q % 2 = 0)) (by assumption) (by assumption) (by assumption)) sub0 (by kernel_rfl) ?_
    exact st_ret Try.func119 (by kernel_rfl)
theorem wcmp_c (n : Int) : Fn 36 [] [wv n, .agg #[.int .i64 4611686018427387904, .int .u64 0]] (.int .i64 (cmpI n 85070591730234615865843651857942052864)) := by
  have e : wv 85070591730234615865843651857942052864 = .agg #[.int .i64 4611686018427387904, .int .u64 0] := by rfl
  have := wcmp_fn n 85070591730234615865843651857942052864
  rw [e] at this
  exact this
theorem ext_b1 (n x mode : Int) (h1 : 1 ≤ mode) (h2 : mode ≤ 9) (hn : 0 ≤ hi n) (hx : cmpI n 85070591730234615865843651857942052864 = x) (x0 : -1 ≤ x) (x1 : x ≤ 1) :
    Fn 119 [] [wv n, wv (-170141183460469231731687303715884105728), .int .i64 mode] (if upB mode true (0 - x) false = true then .tuple #[zz, .int .i64 0] else .tuple #[wv (-1), .int .i64 0]) := by
  have hm := min_yes
  have hc : Fn 36 [] [wv n, .agg #[.int .i64 4611686018427387904, .int .u64 0]] (.int .i64 x) := hx ▸ wcmp_c n
  clear hx
  by_cases hu : upB mode true (0 - x) false = true
  · rw [if_pos hu]
    refine fn_of Try.func119 rfl fun ww => ?_
    refine st_b 70 (show (decide (hi n ≥ 0)) = true by exact decide_eq_true (by omega)) (by kernel_rfl) ?_
    refine st_fn ent36 (hc) sub0 (by kernel_rfl) ?_
    refine st_i 86 .i64 (x' := 0 - x) (Go.IntWalk.i64_in _ (by omega)) (by kernel_rfl) ?_
    refine st_fn ent116 (up_t (mode) (true) (0 - x) (false) (by assumption) (by assumption) (by assumption)) sub0 (by kernel_rfl) ?_
    exact st_ret Try.func119 (by kernel_rfl)
  · have hu' : upB mode true (0 - x) false = false := (Bool.not_eq_true _).mp hu
    rw [if_neg hu]
    refine fn_of Try.func119 rfl fun ww => ?_
    refine st_b 70 (show (decide (hi n ≥ 0)) = true by exact decide_eq_true (by omega)) (by kernel_rfl) ?_
    refine st_fn ent36 (hc) sub0 (by kernel_rfl) ?_
    refine st_i 86 .i64 (x' := 0 - x) (Go.IntWalk.i64_in _ (by omega)) (by kernel_rfl) ?_
    refine st_fn ent116 (up_f (mode) (true) (0 - x) (false) (by assumption) (by assumption) (by assumption)) sub0 (by kernel_rfl) ?_
    refine st_fn ent32 (wof_fn (-1) (by (unfold I64; omega))) sub0 (by kernel_rfl) ?_
    exact st_ret Try.func119 (by kernel_rfl)
theorem ext_b2 (n x mode : Int) (h1 : 1 ≤ mode) (h2 : mode ≤ 9) (hW : W128 n) (hW' : W128 (-n)) (hn : hi n < 0) (hx : cmpI (-n) 85070591730234615865843651857942052864 = x) :
    Fn 119 [] [wv n, wv (-170141183460469231731687303715884105728), .int .i64 mode] (if upB mode false x true = true then .tuple #[wv 1, .int .i64 0] else .tuple #[zz, .int .i64 0]) := by
  have hm := min_yes
  have hc : Fn 36 [] [wv (-n), .agg #[.int .i64 4611686018427387904, .int .u64 0]] (.int .i64 x) := hx ▸ wcmp_c (-n)
  clear hx
  by_cases hu : upB mode false x true = true
  · rw [if_pos hu]
    refine fn_of Try.func119 rfl fun ww => ?_
    refine st_b 70 (show (decide (hi n ≥ 0)) = false by exact decide_eq_false (by omega)) (by kernel_rfl) ?_
    refine st_fn ent49 (wneg_yes (n) (by assumption) (by assumption)) sub0 (by kernel_rfl) ?_
    refine st_fn ent36 (hc) sub0 (by kernel_rfl) ?_
    refine st_fn ent116 (up_t (mode) (false) (x) (true) (by assumption) (by assumption) (by assumption)) sub0 (by kernel_rfl) ?_
    refine st_fn ent32 (wof_fn (1) (by (unfold I64; omega))) sub0 (by kernel_rfl) ?_
    exact st_ret Try.func119 (by kernel_rfl)
  · have hu' : upB mode false x true = false := (Bool.not_eq_true _).mp hu
    rw [if_neg hu]
    refine fn_of Try.func119 rfl fun ww => ?_
    refine st_b 70 (show (decide (hi n ≥ 0)) = false by exact decide_eq_false (by omega)) (by kernel_rfl) ?_
    refine st_fn ent49 (wneg_yes (n) (by assumption) (by assumption)) sub0 (by kernel_rfl) ?_
    refine st_fn ent36 (hc) sub0 (by kernel_rfl) ?_
    refine st_fn ent116 (up_f (mode) (false) (x) (true) (by assumption) (by assumption) (by assumption)) sub0 (by kernel_rfl) ?_
    exact st_ret Try.func119 (by kernel_rfl)
theorem ratios_v (n d mode a b c : Int) (h1 : Fn 82 [] [wv n, wv d, .int .i64 mode] (.tuple #[.agg #[.int .i64 a, .int .u64 b], .int .i64 c])) (h2 : Fn 83 [] [wv n, wv d, .int .i64 mode] (.tuple #[.agg #[.int .i64 a, .int .u64 b], .int .i64 c])) :
    Fn 23 [] [wv n, wv d, .int .i64 mode] (.bool true) := by
  refine fn_of Try.func23 rfl fun ww => ?_
  refine st_fn ent82 (h1) sub0 (by kernel_rfl) ?_
  refine st_fn ent83 (h2) sub0 (by kernel_rfl) ?_
  refine st_fn ent81 (alive4) sub0 (by kernel_rfl) ?_
  refine st_b 29 (show (a == a && (b == b && true)) = true by simp_all) (by kernel_rfl) ?_
  exact st_retv Try.func23 (show Value.bool (c == c) = _ by simp) (by kernel_rfl)
end Go.Proofs.Ytmkddcmfofabbaa
