/-
  The days of the calendar: what the program and the reference answer of layer 5 (its parts that other layers use).
-/
import Derived.Test.YtcndfpfjckkinaaFw
import Derived.Test.YtcndfpfjckkinaaCal
set_option linter.unusedVariables false
set_option maxRecDepth 100000
namespace Go.Proofs.Ytcndfpfjckkinaa
open Go Go.RowKit Go.Ev

abbrev dv (y m d : Int) : Value := .agg #[.int .i64 y, .int .i64 m, .int .i64 d]
theorem i_eq {x x' : Int} (h : x = x') : Value.int .i64 x = .int .i64 x' := by rw [h]
theorem b_eq {x x' : Bool} (h : x = x') : Value.bool x = .bool x' := by rw [h]
theorem ii_eq {x y x' y' : Int} (h : x = x') (k : y = y') : Value.tuple #[.int .i64 x, .int .i64 y] = .tuple #[.int .i64 x', .int .i64 y'] := by rw [h, k]
theorem ib_eq {x x' : Int} {b : Bool} (h : x = x') : Value.tuple #[.int .i64 x, .bool b] = .tuple #[.int .i64 x', .bool b] := by rw [h]
theorem d_eq {y m d y' m' d' : Int} (h : y = y') (k : m = m') (l : d = d') : dv y m d = dv y' m' d' := by rw [h, k, l]
theorem db_eq {y m d y' m' d' : Int} {b : Bool} (h : y = y') (k : m = m') (l : d = d') : Value.tuple #[dv y m d, .bool b] = .tuple #[dv y' m' d', .bool b] := by rw [h, k, l]
theorem tmod0 (a b : Int) : (a.tmod b == 0) = decide (a % b = 0) := by
  rw [Bool.eq_iff_iff, beq_iff_eq, decide_eq_true_iff]
  constructor
  · intro h; exact Int.emod_eq_zero_of_dvd (Int.dvd_of_tmod_eq_zero h)
  · intro h; exact Int.tmod_eq_zero_of_dvd (Int.dvd_of_emod_eq_zero h)
theorem tmod1 (a b : Int) : (a.tmod b != 0) = !decide (a % b = 0) := by
  rw [bne, tmod0]
theorem zleap (y : Int) : Fn 223 [] [.int .i64 y] (.bool (decide (leap y))) := by
  by_cases h4 : y % 400 = 0
  · have b4 : (y.tmod 400 == 0) = true := by rw [tmod0]; simp [h4]
    have e : decide (leap y) = true := by simp [leap, h4]; omega
    rw [e]
    refine fn_of Try.func223 rfl fun ww => ?_
    refine st_b 5 (show (y.tmod 400 == 0) = true by assumption) (by kernel_rfl) ?_
    exact st_ret Try.func223 (by kernel_rfl)
  · have b4 : (y.tmod 400 == 0) = false := by rw [tmod0]; simp [h4]
    by_cases h1 : y % 100 = 0
    · have b1 : (y.tmod 100 == 0) = true := by rw [tmod0]; simp [h1]
      have e : decide (leap y) = false := by simp [leap, h4, h1]
      rw [e]
      refine fn_of Try.func223 rfl fun ww => ?_
      refine st_b 5 (show (y.tmod 400 == 0) = false by assumption) (by kernel_rfl) ?_
      refine st_b 8 (show (y.tmod 100 == 0) = true by assumption) (by kernel_rfl) ?_
      exact st_ret Try.func223 (by kernel_rfl)
    · have b1 : (y.tmod 100 == 0) = false := by rw [tmod0]; simp [h1]
      have e : decide (leap y) = (y.tmod 4 == 0) := by rw [tmod0]; simp [leap, h1]
      rw [e]
      refine fn_of Try.func223 rfl fun ww => ?_
      refine st_b 5 (show (y.tmod 400 == 0) = false by assumption) (by kernel_rfl) ?_
      refine st_b 8 (show (y.tmod 100 == 0) = false by assumption) (by kernel_rfl) ?_
      exact st_ret Try.func223 (by kernel_rfl)
theorem cleap (y : Int) : Fn 206 [] [.int .i64 y] (.bool (decide (leap y))) := by
  by_cases h4 : y % 4 = 0
  · have b4 : (y.tmod 4 == 0) = true := by rw [tmod0]; simp [h4]
    by_cases h1 : y % 100 = 0
    · have b1 : (y.tmod 100 != 0) = false := by rw [tmod1]; simp [h1]
      have e : decide (leap y) = (y.tmod 400 == 0) := by rw [tmod0]; simp [leap, h4, h1]
      rw [e]
      refine fn_of Try.func206 rfl fun ww => ?_
      refine st_b 5 (show (y.tmod 4 == 0) = true by assumption) (by kernel_rfl) ?_
      refine st_b 9 (show (y.tmod 100 != 0) = false by assumption) (by kernel_rfl) ?_
      exact st_ret Try.func206 (by kernel_rfl)
    · have b1 : (y.tmod 100 != 0) = true := by rw [tmod1]; simp [h1]
      have e : decide (leap y) = true := by simp [leap, h4, h1]
      rw [e]
      refine fn_of Try.func206 rfl fun ww => ?_
      refine st_b 5 (show (y.tmod 4 == 0) = true by assumption) (by kernel_rfl) ?_
      refine st_b 9 (show (y.tmod 100 != 0) = true by assumption) (by kernel_rfl) ?_
      exact st_ret Try.func206 (by kernel_rfl)
  · have b4 : (y.tmod 4 == 0) = false := by rw [tmod0]; simp [h4]
    have e : decide (leap y) = false := by simp [leap, h4]
    rw [e]
    refine fn_of Try.func206 rfl fun ww => ?_
    refine st_b 5 (show (y.tmod 4 == 0) = false by assumption) (by kernel_rfl) ?_
    exact st_ret Try.func206 (by kernel_rfl)
theorem zleap_yes {y : Int} (h : leap y) : Fn 223 [] [.int .i64 y] (.bool true) := by have := zleap y; rwa [decide_eq_true h] at this
theorem zleap_no {y : Int} (h : ¬ leap y) : Fn 223 [] [.int .i64 y] (.bool false) := by have := zleap y; rwa [decide_eq_false h] at this
theorem cleap_yes {y : Int} (h : leap y) : Fn 206 [] [.int .i64 y] (.bool true) := by have := cleap y; rwa [decide_eq_true h] at this
theorem cleap_no {y : Int} (h : ¬ leap y) : Fn 206 [] [.int .i64 y] (.bool false) := by have := cleap y; rwa [decide_eq_false h] at this
theorem zdown400 (a : Int) (ha : -1000000000000 ≤ a) (hb : a ≤ 1000000000000) : Fn 188 [] [.int .i64 a, .int .i64 400] (.int .i64 (a / 400)) := by
  by_cases h : 0 ≤ a
  · have e : a.tdiv 400 = a / 400 := tdiv_nn h
    refine fn_of Try.func188 rfl fun ww => ?_
    refine st_i 8 .i64 (x' := a.tdiv 400) (Go.IntWalk.i64_in _ (by omega)) (by kernel_rfl) ?_
    refine st_i 11 .i64 (x' := a.tdiv 400 * 400) (Go.IntWalk.i64_in _ (by omega)) (by kernel_rfl) ?_
    refine st_b 13 (show (decide (a.tdiv 400 * 400 > a)) = false by exact decide_eq_false (by omega)) (by kernel_rfl) ?_
    exact st_retv Try.func188 (show Value.int IntKind.i64 (a.tdiv 400) = _ by (refine i_eq ?_; omega)) (by kernel_rfl)
  · have e : a.tdiv 400 = -((-a) / 400) := tdiv_lit (by omega)
    refine fn_of Try.func188 rfl fun ww => ?_
    refine st_i 8 .i64 (x' := a.tdiv 400) (Go.IntWalk.i64_in _ (by omega)) (by kernel_rfl) ?_
    refine st_i 11 .i64 (x' := a.tdiv 400 * 400) (Go.IntWalk.i64_in _ (by omega)) (by kernel_rfl) ?_
    by_cases k13 : a.tdiv 400 * 400 > a
    · refine st_b 13 (decide_eq_true k13) (by kernel_rfl) ?_
      refine st_i 15 .i64 (x' := a.tdiv 400 - 1) (Go.IntWalk.i64_in _ (by omega)) (by kernel_rfl) ?_
      exact st_retv Try.func188 (show Value.int IntKind.i64 (a.tdiv 400 - 1) = _ by (refine i_eq ?_; omega)) (by kernel_rfl)
    · refine st_b 13 (decide_eq_false k13) (by kernel_rfl) ?_
      exact st_retv Try.func188 (show Value.int IntKind.i64 (a.tdiv 400) = _ by (refine i_eq ?_; omega)) (by kernel_rfl)
theorem cfloor400 (a : Int) (ha : -1000000000000 ≤ a) (hb : a ≤ 1000000000000) : Fn 186 [] [.int .i64 a, .int .i64 400] (.tuple #[.int .i64 (a / 400), .int .i64 (a % 400)]) := by
  by_cases h : 0 ≤ a
  · have e : a.tdiv 400 = a / 400 := tdiv_nn h
    have e2 : a.tmod 400 = a % 400 := tmod_nn h
    refine fn_of Try.func186 rfl fun ww => ?_
    refine st_i 10 .i64 (x' := a.tdiv 400) (Go.IntWalk.i64_in _ (by omega)) (by kernel_rfl) ?_
    refine st_b 15 (show (decide (a.tmod 400 < 0)) = false by exact decide_eq_false (by omega)) (by kernel_rfl) ?_
    exact st_retv Try.func186 (show Value.tuple #[Value.int IntKind.i64 (a.tdiv 400), Value.int IntKind.i64 (a.tmod 400)] = _ by (refine ii_eq ?_ ?_ <;> omega)) (by kernel_rfl)
  · have e : a.tdiv 400 = -((-a) / 400) := tdiv_lit (by omega)
    have e2 : a.tmod 400 = -((-a) % 400) := tmod_lit (by omega)
    refine fn_of Try.func186 rfl fun ww => ?_
    refine st_i 10 .i64 (x' := a.tdiv 400) (Go.IntWalk.i64_in _ (by omega)) (by kernel_rfl) ?_
    by_cases k15 : a.tmod 400 < 0
    · refine st_b 15 (decide_eq_true k15) (by kernel_rfl) ?_
      refine st_i 17 .i64 (x' := a.tdiv 400 - 1) (Go.IntWalk.i64_in _ (by omega)) (by kernel_rfl) ?_
      refine st_i 20 .i64 (x' := a.tmod 400 + 400) (Go.IntWalk.i64_in _ (by omega)) (by kernel_rfl) ?_
      exact st_retv Try.func186 (show Value.tuple #[Value.int IntKind.i64 (a.tdiv 400 - 1), Value.int IntKind.i64 (a.tmod 400 + 400)] = _ by (refine ii_eq ?_ ?_ <;> omega)) (by kernel_rfl)
    · refine st_b 15 (decide_eq_false k15) (by kernel_rfl) ?_
      exact st_retv Try.func186 (show Value.tuple #[Value.int IntKind.i64 (a.tdiv 400), Value.int IntKind.i64 (a.tmod 400)] = _ by (refine ii_eq ?_ ?_ <;> omega)) (by kernel_rfl)
theorem zdown146097 (a : Int) (ha : -1000000000000 ≤ a) (hb : a ≤ 1000000000000) : Fn 188 [] [.int .i64 a, .int .i64 146097] (.int .i64 (a / 146097)) := by
  by_cases h : 0 ≤ a
  · have e : a.tdiv 146097 = a / 146097 := tdiv_nn h
    refine fn_of Try.func188 rfl fun ww => ?_
    refine st_i 8 .i64 (x' := a.tdiv 146097) (Go.IntWalk.i64_in _ (by omega)) (by kernel_rfl) ?_
    refine st_i 11 .i64 (x' := a.tdiv 146097 * 146097) (Go.IntWalk.i64_in _ (by omega)) (by kernel_rfl) ?_
    refine st_b 13 (show (decide (a.tdiv 146097 * 146097 > a)) = false by exact decide_eq_false (by omega)) (by kernel_rfl) ?_
    exact st_retv Try.func188 (show Value.int IntKind.i64 (a.tdiv 146097) = _ by (refine i_eq ?_; omega)) (by kernel_rfl)
  · have e : a.tdiv 146097 = -((-a) / 146097) := tdiv_lit (by omega)
    refine fn_of Try.func188 rfl fun ww => ?_
    refine st_i 8 .i64 (x' := a.tdiv 146097) (Go.IntWalk.i64_in _ (by omega)) (by kernel_rfl) ?_
    refine st_i 11 .i64 (x' := a.tdiv 146097 * 146097) (Go.IntWalk.i64_in _ (by omega)) (by kernel_rfl) ?_
    by_cases k13 : a.tdiv 146097 * 146097 > a
    · refine st_b 13 (decide_eq_true k13) (by kernel_rfl) ?_
      refine st_i 15 .i64 (x' := a.tdiv 146097 - 1) (Go.IntWalk.i64_in _ (by omega)) (by kernel_rfl) ?_
      exact st_retv Try.func188 (show Value.int IntKind.i64 (a.tdiv 146097 - 1) = _ by (refine i_eq ?_; omega)) (by kernel_rfl)
    · refine st_b 13 (decide_eq_false k13) (by kernel_rfl) ?_
      exact st_retv Try.func188 (show Value.int IntKind.i64 (a.tdiv 146097) = _ by (refine i_eq ?_; omega)) (by kernel_rfl)
theorem cfloor146097 (a : Int) (ha : -1000000000000 ≤ a) (hb : a ≤ 1000000000000) : Fn 186 [] [.int .i64 a, .int .i64 146097] (.tuple #[.int .i64 (a / 146097), .int .i64 (a % 146097)]) := by
  by_cases h : 0 ≤ a
  · have e : a.tdiv 146097 = a / 146097 := tdiv_nn h
    have e2 : a.tmod 146097 = a % 146097 := tmod_nn h
    refine fn_of Try.func186 rfl fun ww => ?_
    refine st_i 10 .i64 (x' := a.tdiv 146097) (Go.IntWalk.i64_in _ (by omega)) (by kernel_rfl) ?_
    refine st_b 15 (show (decide (a.tmod 146097 < 0)) = false by exact decide_eq_false (by omega)) (by kernel_rfl) ?_
    exact st_retv Try.func186 (show Value.tuple #[Value.int IntKind.i64 (a.tdiv 146097), Value.int IntKind.i64 (a.tmod 146097)] = _ by (refine ii_eq ?_ ?_ <;> omega)) (by kernel_rfl)
  · have e : a.tdiv 146097 = -((-a) / 146097) := tdiv_lit (by omega)
    have e2 : a.tmod 146097 = -((-a) % 146097) := tmod_lit (by omega)
    refine fn_of Try.func186 rfl fun ww => ?_
    refine st_i 10 .i64 (x' := a.tdiv 146097) (Go.IntWalk.i64_in _ (by omega)) (by kernel_rfl) ?_
    by_cases k15 : a.tmod 146097 < 0
    · refine st_b 15 (decide_eq_true k15) (by kernel_rfl) ?_
      refine st_i 17 .i64 (x' := a.tdiv 146097 - 1) (Go.IntWalk.i64_in _ (by omega)) (by kernel_rfl) ?_
      refine st_i 20 .i64 (x' := a.tmod 146097 + 146097) (Go.IntWalk.i64_in _ (by omega)) (by kernel_rfl) ?_
      exact st_retv Try.func186 (show Value.tuple #[Value.int IntKind.i64 (a.tdiv 146097 - 1), Value.int IntKind.i64 (a.tmod 146097 + 146097)] = _ by (refine ii_eq ?_ ?_ <;> omega)) (by kernel_rfl)
    · refine st_b 15 (decide_eq_false k15) (by kernel_rfl) ?_
      exact st_retv Try.func186 (show Value.tuple #[Value.int IntKind.i64 (a.tdiv 146097), Value.int IntKind.i64 (a.tmod 146097)] = _ by (refine ii_eq ?_ ?_ <;> omega)) (by kernel_rfl)
theorem zmonth (y m : Int) : Fn 184 [] [.int .i64 y, .int .i64 m] (.int .i64 (mlen y m)) := by
  by_cases h1 : 1 ≤ m ∧ m ≤ 12
  · rcases months h1.1 h1.2 with h | h | h | h | h | h | h | h | h | h | h | h <;> subst h
    · rw [show mlen y 1 = 31 from rfl]
      refine fn_of Try.func184 rfl fun ww => ?_
      exact st_ret Try.func184 (by kernel_rfl)
    · by_cases hl : leap y
      · rw [show mlen y 2 = 29 by simp [mlen, hl]]
        refine fn_of Try.func184 rfl fun ww => ?_
        refine st_fn ent223 (zleap_yes (by assumption)) sub0 (by kernel_rfl) ?_
        exact st_ret Try.func184 (by kernel_rfl)
      · rw [show mlen y 2 = 28 by simp [mlen, hl]]
        refine fn_of Try.func184 rfl fun ww => ?_
        refine st_fn ent223 (zleap_no (by assumption)) sub0 (by kernel_rfl) ?_
        exact st_ret Try.func184 (by kernel_rfl)
    · rw [show mlen y 3 = 31 from rfl]
      refine fn_of Try.func184 rfl fun ww => ?_
      exact st_ret Try.func184 (by kernel_rfl)
    · rw [show mlen y 4 = 30 from rfl]
      refine fn_of Try.func184 rfl fun ww => ?_
      exact st_ret Try.func184 (by kernel_rfl)
    · rw [show mlen y 5 = 31 from rfl]
      refine fn_of Try.func184 rfl fun ww => ?_
      exact st_ret Try.func184 (by kernel_rfl)
    · rw [show mlen y 6 = 30 from rfl]
      refine fn_of Try.func184 rfl fun ww => ?_
      exact st_ret Try.func184 (by kernel_rfl)
    · rw [show mlen y 7 = 31 from rfl]
      refine fn_of Try.func184 rfl fun ww => ?_
      exact st_ret Try.func184 (by kernel_rfl)
    · rw [show mlen y 8 = 31 from rfl]
      refine fn_of Try.func184 rfl fun ww => ?_
      exact st_ret Try.func184 (by kernel_rfl)
    · rw [show mlen y 9 = 30 from rfl]
      refine fn_of Try.func184 rfl fun ww => ?_
      exact st_ret Try.func184 (by kernel_rfl)
    · rw [show mlen y 10 = 31 from rfl]
      refine fn_of Try.func184 rfl fun ww => ?_
      exact st_ret Try.func184 (by kernel_rfl)
    · rw [show mlen y 11 = 30 from rfl]
      refine fn_of Try.func184 rfl fun ww => ?_
      exact st_ret Try.func184 (by kernel_rfl)
    · rw [show mlen y 12 = 31 from rfl]
      refine fn_of Try.func184 rfl fun ww => ?_
      exact st_ret Try.func184 (by kernel_rfl)
  · rw [mlen_no (by omega)]
    by_cases h2 : m < 1
    · refine fn_of Try.func184 rfl fun ww => ?_
      refine st_b 7 (show (m == 1) = false by exact decide_eq_false (by omega)) (by kernel_rfl) ?_
      refine st_b 8 (show (m == 3) = false by exact decide_eq_false (by omega)) (by kernel_rfl) ?_
      refine st_b 9 (show (m == 5) = false by exact decide_eq_false (by omega)) (by kernel_rfl) ?_
      refine st_b 10 (show (m == 7) = false by exact decide_eq_false (by omega)) (by kernel_rfl) ?_
      refine st_b 11 (show (m == 8) = false by exact decide_eq_false (by omega)) (by kernel_rfl) ?_
      refine st_b 12 (show (m == 10) = false by exact decide_eq_false (by omega)) (by kernel_rfl) ?_
      refine st_b 13 (show (m == 12) = false by exact decide_eq_false (by omega)) (by kernel_rfl) ?_
      refine st_b 15 (show (m == 4) = false by exact decide_eq_false (by omega)) (by kernel_rfl) ?_
      refine st_b 16 (show (m == 6) = false by exact decide_eq_false (by omega)) (by kernel_rfl) ?_
      refine st_b 17 (show (m == 9) = false by exact decide_eq_false (by omega)) (by kernel_rfl) ?_
      refine st_b 18 (show (m == 11) = false by exact decide_eq_false (by omega)) (by kernel_rfl) ?_
      refine st_b 20 (show (m == 2) = false by exact decide_eq_false (by omega)) (by kernel_rfl) ?_
      exact st_ret Try.func184 (by kernel_rfl)
    · have h3 : 12 < m := by omega
      refine fn_of Try.func184 rfl fun ww => ?_
      refine st_b 7 (show (m == 1) = false by exact decide_eq_false (by omega)) (by kernel_rfl) ?_
      refine st_b 8 (show (m == 3) = false by exact decide_eq_false (by omega)) (by kernel_rfl) ?_
      refine st_b 9 (show (m == 5) = false by exact decide_eq_false (by omega)) (by kernel_rfl) ?_
      refine st_b 10 (show (m == 7) = false by exact decide_eq_false (by omega)) (by kernel_rfl) ?_
      refine st_b 11 (show (m == 8) = false by exact decide_eq_false (by omega)) (by kernel_rfl) ?_
      refine st_b 12 (show (m == 10) = false by exact decide_eq_false (by omega)) (by kernel_rfl) ?_
      refine st_b 13 (show (m == 12) = false by exact decide_eq_false (by omega)) (by kernel_rfl) ?_
      refine st_b 15 (show (m == 4) = false by exact decide_eq_false (by omega)) (by kernel_rfl) ?_
      refine st_b 16 (show (m == 6) = false by exact decide_eq_false (by omega)) (by kernel_rfl) ?_
      refine st_b 17 (show (m == 9) = false by exact decide_eq_false (by omega)) (by kernel_rfl) ?_
      refine st_b 18 (show (m == 11) = false by exact decide_eq_false (by omega)) (by kernel_rfl) ?_
      refine st_b 20 (show (m == 2) = false by exact decide_eq_false (by omega)) (by kernel_rfl) ?_
      exact st_ret Try.func184 (by kernel_rfl)
theorem cmonth (y m : Int) : Fn 158 [] [.int .i64 y, .int .i64 m] (.int .i64 (mlen y m)) := by
  by_cases h1 : 1 ≤ m ∧ m ≤ 12
  · rcases months h1.1 h1.2 with h | h | h | h | h | h | h | h | h | h | h | h <;> subst h
    · rw [show mlen y 1 = 31 from rfl]
      refine fn_of Try.func158 rfl fun ww => ?_
      exact st_ret Try.func158 (by kernel_rfl)
    · by_cases hl : leap y
      · rw [show mlen y 2 = 29 by simp [mlen, hl]]
        refine fn_of Try.func158 rfl fun ww => ?_
        refine st_fn ent206 (cleap_yes (by assumption)) sub0 (by kernel_rfl) ?_
        exact st_ret Try.func158 (by kernel_rfl)
      · rw [show mlen y 2 = 28 by simp [mlen, hl]]
        refine fn_of Try.func158 rfl fun ww => ?_
        refine st_fn ent206 (cleap_no (by assumption)) sub0 (by kernel_rfl) ?_
        exact st_ret Try.func158 (by kernel_rfl)
    · rw [show mlen y 3 = 31 from rfl]
      refine fn_of Try.func158 rfl fun ww => ?_
      exact st_ret Try.func158 (by kernel_rfl)
    · rw [show mlen y 4 = 30 from rfl]
      refine fn_of Try.func158 rfl fun ww => ?_
      exact st_ret Try.func158 (by kernel_rfl)
    · rw [show mlen y 5 = 31 from rfl]
      refine fn_of Try.func158 rfl fun ww => ?_
      exact st_ret Try.func158 (by kernel_rfl)
    · rw [show mlen y 6 = 30 from rfl]
      refine fn_of Try.func158 rfl fun ww => ?_
      exact st_ret Try.func158 (by kernel_rfl)
    · rw [show mlen y 7 = 31 from rfl]
      refine fn_of Try.func158 rfl fun ww => ?_
      exact st_ret Try.func158 (by kernel_rfl)
    · rw [show mlen y 8 = 31 from rfl]
      refine fn_of Try.func158 rfl fun ww => ?_
      exact st_ret Try.func158 (by kernel_rfl)
    · rw [show mlen y 9 = 30 from rfl]
      refine fn_of Try.func158 rfl fun ww => ?_
      exact st_ret Try.func158 (by kernel_rfl)
    · rw [show mlen y 10 = 31 from rfl]
      refine fn_of Try.func158 rfl fun ww => ?_
      exact st_ret Try.func158 (by kernel_rfl)
    · rw [show mlen y 11 = 30 from rfl]
      refine fn_of Try.func158 rfl fun ww => ?_
      exact st_ret Try.func158 (by kernel_rfl)
    · rw [show mlen y 12 = 31 from rfl]
      refine fn_of Try.func158 rfl fun ww => ?_
      exact st_ret Try.func158 (by kernel_rfl)
  · rw [mlen_no (by omega)]
    by_cases h2 : m < 1
    · refine fn_of Try.func158 rfl fun ww => ?_
      refine st_b 9 (show (decide (m < 1)) = true by exact decide_eq_true (by omega)) (by kernel_rfl) ?_
      exact st_ret Try.func158 (by kernel_rfl)
    · have h3 : 12 < m := by omega
      refine fn_of Try.func158 rfl fun ww => ?_
      refine st_b 9 (show (decide (m < 1)) = false by exact decide_eq_false (by omega)) (by kernel_rfl) ?_
      refine st_b 12 (show (decide (m > 12)) = true by exact decide_eq_true (by omega)) (by kernel_rfl) ?_
      exact st_ret Try.func158 (by kernel_rfl)
theorem zyear (y : Int) : Fn 189 [] [.int .i64 y] (.int .i64 (ylen y)) := by
  by_cases hl : leap y
  · rw [show ylen y = 366 by simp [ylen, hl]]
    refine fn_of Try.func189 rfl fun ww => ?_
    refine st_fn ent223 (zleap_yes (by assumption)) sub0 (by kernel_rfl) ?_
    exact st_ret Try.func189 (by kernel_rfl)
  · rw [show ylen y = 365 by simp [ylen, hl]]
    refine fn_of Try.func189 rfl fun ww => ?_
    refine st_fn ent223 (zleap_no (by assumption)) sub0 (by kernel_rfl) ?_
    exact st_ret Try.func189 (by kernel_rfl)
theorem ccount (y m d : Int) (y0 : -300000 ≤ y) (y1 : y ≤ 300000) (m1 : 1 ≤ m) (m2 : m ≤ 12) (d0 : -1000 ≤ d) (d1 : d ≤ 1000) : Fn 205 [] [dv y m d] (.int .i64 (dnum y m d)) := by
  by_cases hm : m ≤ 2
  · have e := count_lo (y := y) (m := m) (d := d) (c := (y - 1) / 400) (r := (y - 1) % 400) m1 hm (by omega) (by omega) (by omega)
    have t4 : ((y - 1) % 400).tdiv 4 = ((y - 1) % 400) / 4 := tdiv_nn (by omega)
    have t1 : ((y - 1) % 400).tdiv 100 = ((y - 1) % 400) / 100 := tdiv_nn (by omega)
    have t5 : (153 * (m - 3 + 12) + 2).tdiv 5 = (153 * (m + 9) + 2) / 5 := by rw [tdiv_nn (by omega)]; congr 2; omega
    refine fn_of Try.func205 rfl fun ww => ?_
    refine st_i 10 .i64 (x' := m - 3) (Go.IntWalk.i64_in _ (by omega)) (by kernel_rfl) ?_
    refine st_b 12 (show (decide (m - 3 < 0)) = true by exact decide_eq_true (by omega)) (by kernel_rfl) ?_
    refine st_i 14 .i64 (x' := y - 1) (Go.IntWalk.i64_in _ (by omega)) (by kernel_rfl) ?_
    refine st_i 16 .i64 (x' := m - 3 + 12) (Go.IntWalk.i64_in _ (by omega)) (by kernel_rfl) ?_
    refine st_fn ent186 (cfloor400 (y - 1) (by omega) (by omega)) sub0 (by kernel_rfl) ?_
    refine st_i 23 .i64 (x' := (y - 1) / 400 * 146097) (Go.IntWalk.i64_in _ (by omega)) (by kernel_rfl) ?_
    refine st_i 25 .i64 (x' := (y - 1) % 400 * 365) (Go.IntWalk.i64_in _ (by omega)) (by kernel_rfl) ?_
    refine st_i 26 .i64 (x' := (y - 1) / 400 * 146097 + (y - 1) % 400 * 365) (Go.IntWalk.i64_in _ (by omega)) (by kernel_rfl) ?_
    refine st_i 28 .i64 (x' := ((y - 1) % 400).tdiv 4) (Go.IntWalk.i64_in _ (by omega)) (by kernel_rfl) ?_
    refine st_i 29 .i64 (x' := (y - 1) / 400 * 146097 + (y - 1) % 400 * 365 + ((y - 1) % 400).tdiv 4) (Go.IntWalk.i64_in _ (by omega)) (by kernel_rfl) ?_
    refine st_i 31 .i64 (x' := ((y - 1) % 400).tdiv 100) (Go.IntWalk.i64_in _ (by omega)) (by kernel_rfl) ?_
    refine st_i 32 .i64 (x' := (y - 1) / 400 * 146097 + (y - 1) % 400 * 365 + ((y - 1) % 400).tdiv 4 - ((y - 1) % 400).tdiv 100) (Go.IntWalk.i64_in _ (by omega)) (by kernel_rfl) ?_
    refine st_i 34 .i64 (x' := 153 * (m - 3 + 12)) (Go.IntWalk.i64_in _ (by omega)) (by kernel_rfl) ?_
    refine st_i 35 .i64 (x' := 153 * (m - 3 + 12) + 2) (Go.IntWalk.i64_in _ (by omega)) (by kernel_rfl) ?_
    refine st_i 36 .i64 (x' := (153 * (m - 3 + 12) + 2).tdiv 5) (Go.IntWalk.i64_in _ (by omega)) (by kernel_rfl) ?_
    refine st_i 37 .i64 (x' := (y - 1) / 400 * 146097 + (y - 1) % 400 * 365 + ((y - 1) % 400).tdiv 4 - ((y - 1) % 400).tdiv 100 + (153 * (m - 3 + 12) + 2).tdiv 5) (Go.IntWalk.i64_in _ (by omega)) (by kernel_rfl) ?_
    refine st_i 40 .i64 (x' := (y - 1) / 400 * 146097 + (y - 1) % 400 * 365 + ((y - 1) % 400).tdiv 4 - ((y - 1) % 400).tdiv 100 + (153 * (m - 3 + 12) + 2).tdiv 5 + d) (Go.IntWalk.i64_in _ (by omega)) (by kernel_rfl) ?_
    refine st_i 41 .i64 (x' := (y - 1) / 400 * 146097 + (y - 1) % 400 * 365 + ((y - 1) % 400).tdiv 4 - ((y - 1) % 400).tdiv 100 + (153 * (m - 3 + 12) + 2).tdiv 5 + d - 1) (Go.IntWalk.i64_in _ (by omega)) (by kernel_rfl) ?_
    refine st_i 42 .i64 (x' := (y - 1) / 400 * 146097 + (y - 1) % 400 * 365 + ((y - 1) % 400).tdiv 4 - ((y - 1) % 400).tdiv 100 + (153 * (m - 3 + 12) + 2).tdiv 5 + d - 1 - 719468) (Go.IntWalk.i64_in _ (by omega)) (by kernel_rfl) ?_
    exact st_retv Try.func205 (show Value.int IntKind.i64 ((y - 1) / 400 * 146097 + (y - 1) % 400 * 365 + ((y - 1) % 400).tdiv 4 - ((y - 1) % 400).tdiv 100 + (153 * (m - 3 + 12) + 2).tdiv 5 + d - 1 - 719468) = _ by (refine i_eq ?_; omega)) (by kernel_rfl)
  · have e := count_hi (y := y) (m := m) (d := d) (c := y / 400) (r := y % 400) (by omega) m2 (by omega) (by omega) (by omega)
    have t4 : (y % 400).tdiv 4 = (y % 400) / 4 := tdiv_nn (by omega)
    have t1 : (y % 400).tdiv 100 = (y % 400) / 100 := tdiv_nn (by omega)
    have t5 : (153 * (m - 3) + 2).tdiv 5 = (153 * (m - 3) + 2) / 5 := tdiv_nn (by omega)
    refine fn_of Try.func205 rfl fun ww => ?_
    refine st_i 10 .i64 (x' := m - 3) (Go.IntWalk.i64_in _ (by omega)) (by kernel_rfl) ?_
    refine st_b 12 (show (decide (m - 3 < 0)) = false by exact decide_eq_false (by omega)) (by kernel_rfl) ?_
    refine st_fn ent186 (cfloor400 (y) (by omega) (by omega)) sub0 (by kernel_rfl) ?_
    refine st_i 23 .i64 (x' := y / 400 * 146097) (Go.IntWalk.i64_in _ (by omega)) (by kernel_rfl) ?_
    refine st_i 25 .i64 (x' := y % 400 * 365) (Go.IntWalk.i64_in _ (by omega)) (by kernel_rfl) ?_
    refine st_i 26 .i64 (x' := y / 400 * 146097 + y % 400 * 365) (Go.IntWalk.i64_in _ (by omega)) (by kernel_rfl) ?_
    refine st_i 28 .i64 (x' := (y % 400).tdiv 4) (Go.IntWalk.i64_in _ (by omega)) (by kernel_rfl) ?_
    refine st_i 29 .i64 (x' := y / 400 * 146097 + y % 400 * 365 + (y % 400).tdiv 4) (Go.IntWalk.i64_in _ (by omega)) (by kernel_rfl) ?_
    refine st_i 31 .i64 (x' := (y % 400).tdiv 100) (Go.IntWalk.i64_in _ (by omega)) (by kernel_rfl) ?_
    refine st_i 32 .i64 (x' := y / 400 * 146097 + y % 400 * 365 + (y % 400).tdiv 4 - (y % 400).tdiv 100) (Go.IntWalk.i64_in _ (by omega)) (by kernel_rfl) ?_
    refine st_i 34 .i64 (x' := 153 * (m - 3)) (Go.IntWalk.i64_in _ (by omega)) (by kernel_rfl) ?_
    refine st_i 35 .i64 (x' := 153 * (m - 3) + 2) (Go.IntWalk.i64_in _ (by omega)) (by kernel_rfl) ?_
    refine st_i 36 .i64 (x' := (153 * (m - 3) + 2).tdiv 5) (Go.IntWalk.i64_in _ (by omega)) (by kernel_rfl) ?_
    refine st_i 37 .i64 (x' := y / 400 * 146097 + y % 400 * 365 + (y % 400).tdiv 4 - (y % 400).tdiv 100 + (153 * (m - 3) + 2).tdiv 5) (Go.IntWalk.i64_in _ (by omega)) (by kernel_rfl) ?_
    refine st_i 40 .i64 (x' := y / 400 * 146097 + y % 400 * 365 + (y % 400).tdiv 4 - (y % 400).tdiv 100 + (153 * (m - 3) + 2).tdiv 5 + d) (Go.IntWalk.i64_in _ (by omega)) (by kernel_rfl) ?_
    refine st_i 41 .i64 (x' := y / 400 * 146097 + y % 400 * 365 + (y % 400).tdiv 4 - (y % 400).tdiv 100 + (153 * (m - 3) + 2).tdiv 5 + d - 1) (Go.IntWalk.i64_in _ (by omega)) (by kernel_rfl) ?_
    refine st_i 42 .i64 (x' := y / 400 * 146097 + y % 400 * 365 + (y % 400).tdiv 4 - (y % 400).tdiv 100 + (153 * (m - 3) + 2).tdiv 5 + d - 1 - 719468) (Go.IntWalk.i64_in _ (by omega)) (by kernel_rfl) ?_
    exact st_retv Try.func205 (show Value.int IntKind.i64 (y / 400 * 146097 + y % 400 * 365 + (y % 400).tdiv 4 - (y % 400).tdiv 100 + (153 * (m - 3) + 2).tdiv 5 + d - 1 - 719468) = _ by (refine i_eq ?_; omega)) (by kernel_rfl)
end Go.Proofs.Ytcndfpfjckkinaa
