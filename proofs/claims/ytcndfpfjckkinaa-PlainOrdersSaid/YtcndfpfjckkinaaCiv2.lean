/-
  Days and their numbers, as the program reckons them.
-/
import Derived.Test.YtcndfpfjckkinaaCiv
import Derived.Test.YtcndfpfjckkinaaPla
import Derived.Test.YtcndfpfjckkinaaCkf
set_option linter.unusedVariables false
set_option maxRecDepth 100000
namespace Go.Proofs.Ytcndfpfjckkinaa
open Go Go.RowKit Go.Ev

abbrev nod : Value := .tuple #[.int .i64 0, .bool false]
section
variable (y m d : Int)
theorem cdays_yes (k : dOk y m d) : Fn 152 [] [dv y m d] (.tuple #[.int .i64 (dnum y m d), .bool true]) := by
  have hy := dOk_year k
  obtain ⟨⟨k1, k2, k3, k4⟩, k5, k6⟩ := k
  have k7 := (mlen_ge (y := y) k1 k2).2
  refine fn_of Try.func152 rfl fun ww => ?_
  refine st_b 7 (show (decide (y < -271821)) = false by exact decide_eq_false (by omega)) (by kernel_rfl) ?_
  refine st_b 11 (show (decide (y > 275760)) = false by exact decide_eq_false (by omega)) (by kernel_rfl) ?_
  refine st_b 16 (show (decide (d < 1)) = false by exact decide_eq_false (by omega)) (by kernel_rfl) ?_
  refine st_fn ent158 (cmonth (y) (m)) sub0 (by kernel_rfl) ?_
  refine st_b 26 (show (decide (d > mlen y m)) = false by exact decide_eq_false (by omega)) (by kernel_rfl) ?_
  refine st_fn ent205 (ccount (y) (m) (d) (by omega) (by omega) (by assumption) (by assumption) (by omega) (by omega)) sub0 (by kernel_rfl) ?_
  refine st_b 31 (show (decide (dnum y m d < -100000001)) = false by exact decide_eq_false (by omega)) (by kernel_rfl) ?_
  refine st_b 34 (show (decide (dnum y m d > 100000000)) = false by exact decide_eq_false (by omega)) (by kernel_rfl) ?_
  exact st_ret Try.func152 (by kernel_rfl)
theorem cdays_no (k : ¬ dOk y m d) : Fn 152 [] [dv y m d] nod := by
  by_cases h1 : y < -271821
  · refine fn_of Try.func152 rfl fun ww => ?_
    refine st_b 7 (show (decide (y < -271821)) = true by exact decide_eq_true (by omega)) (by kernel_rfl) ?_
    exact st_ret Try.func152 (by kernel_rfl)
  · by_cases h2 : 275760 < y
    · refine fn_of Try.func152 rfl fun ww => ?_
      refine st_b 7 (show (decide (y < -271821)) = false by exact decide_eq_false (by omega)) (by kernel_rfl) ?_
      refine st_b 11 (show (decide (y > 275760)) = true by exact decide_eq_true (by omega)) (by kernel_rfl) ?_
      exact st_ret Try.func152 (by kernel_rfl)
    · by_cases h3 : d < 1
      · refine fn_of Try.func152 rfl fun ww => ?_
        refine st_b 7 (show (decide (y < -271821)) = false by exact decide_eq_false (by omega)) (by kernel_rfl) ?_
        refine st_b 11 (show (decide (y > 275760)) = false by exact decide_eq_false (by omega)) (by kernel_rfl) ?_
        refine st_b 16 (show (decide (d < 1)) = true by exact decide_eq_true (by omega)) (by kernel_rfl) ?_
        exact st_ret Try.func152 (by kernel_rfl)
      · by_cases h4 : mlen y m < d
        · refine fn_of Try.func152 rfl fun ww => ?_
          refine st_b 7 (show (decide (y < -271821)) = false by exact decide_eq_false (by omega)) (by kernel_rfl) ?_
          refine st_b 11 (show (decide (y > 275760)) = false by exact decide_eq_false (by omega)) (by kernel_rfl) ?_
          refine st_b 16 (show (decide (d < 1)) = false by exact decide_eq_false (by omega)) (by kernel_rfl) ?_
          refine st_fn ent158 (cmonth (y) (m)) sub0 (by kernel_rfl) ?_
          refine st_b 26 (show (decide (d > mlen y m)) = true by exact decide_eq_true (by omega)) (by kernel_rfl) ?_
          exact st_ret Try.func152 (by kernel_rfl)
        · have h5 : 1 ≤ m := by
            apply Classical.byContradiction; intro q; have := mlen_no (y := y) (m := m) (by omega); omega
          have h6 : m ≤ 12 := by
            apply Classical.byContradiction; intro q; have := mlen_no (y := y) (m := m) (by omega); omega
          have h7 := (mlen_ge (y := y) h5 h6).2
          have h8 : ¬ (-100000001 ≤ dnum y m d ∧ dnum y m d ≤ 100000000) := fun q => k ⟨⟨h5, h6, by omega, by omega⟩, q.1, q.2⟩
          by_cases h9 : dnum y m d < -100000001
          · refine fn_of Try.func152 rfl fun ww => ?_
            refine st_b 7 (show (decide (y < -271821)) = false by exact decide_eq_false (by omega)) (by kernel_rfl) ?_
            refine st_b 11 (show (decide (y > 275760)) = false by exact decide_eq_false (by omega)) (by kernel_rfl) ?_
            refine st_b 16 (show (decide (d < 1)) = false by exact decide_eq_false (by omega)) (by kernel_rfl) ?_
            refine st_fn ent158 (cmonth (y) (m)) sub0 (by kernel_rfl) ?_
            refine st_b 26 (show (decide (d > mlen y m)) = false by exact decide_eq_false (by omega)) (by kernel_rfl) ?_
            refine st_fn ent205 (ccount (y) (m) (d) (by omega) (by omega) (by assumption) (by assumption) (by omega) (by omega)) sub0 (by kernel_rfl) ?_
            refine st_b 31 (show (decide (dnum y m d < -100000001)) = true by exact decide_eq_true (by omega)) (by kernel_rfl) ?_
            exact st_ret Try.func152 (by kernel_rfl)
          · have h10 : 100000000 < dnum y m d := by omega
            refine fn_of Try.func152 rfl fun ww => ?_
            refine st_b 7 (show (decide (y < -271821)) = false by exact decide_eq_false (by omega)) (by kernel_rfl) ?_
            refine st_b 11 (show (decide (y > 275760)) = false by exact decide_eq_false (by omega)) (by kernel_rfl) ?_
            refine st_b 16 (show (decide (d < 1)) = false by exact decide_eq_false (by omega)) (by kernel_rfl) ?_
            refine st_fn ent158 (cmonth (y) (m)) sub0 (by kernel_rfl) ?_
            refine st_b 26 (show (decide (d > mlen y m)) = false by exact decide_eq_false (by omega)) (by kernel_rfl) ?_
            refine st_fn ent205 (ccount (y) (m) (d) (by omega) (by omega) (by assumption) (by assumption) (by omega) (by omega)) sub0 (by kernel_rfl) ?_
            refine st_b 31 (show (decide (dnum y m d < -100000001)) = false by exact decide_eq_false (by omega)) (by kernel_rfl) ?_
            refine st_b 34 (show (decide (dnum y m d > 100000000)) = true by exact decide_eq_true (by omega)) (by kernel_rfl) ?_
            exact st_ret Try.func152 (by kernel_rfl)
theorem cright5_yes (k : dOk y m d) : Fn 162 [] [dv y m d] (.bool true) := by
  refine fn_of Try.func162 rfl fun ww => ?_
  refine st_fn ent152 (cdays_yes (y) (m) (d) (by assumption)) sub0 (by kernel_rfl) ?_
  exact st_ret Try.func162 (by kernel_rfl)
theorem cright5_no (k : ¬ dOk y m d) : Fn 162 [] [dv y m d] (.bool false) := by
  refine fn_of Try.func162 rfl fun ww => ?_
  refine st_fn ent152 (cdays_no (y) (m) (d) (by assumption)) sub0 (by kernel_rfl) ?_
  exact st_ret Try.func162 (by kernel_rfl)
theorem fcompare (a b : Int) : Fn 116 [] [.int .i64 a, .int .i64 b] (.int .i64 (cmpI a b)) := fn1 fun w => (ccompare a b w).mono fun e w' q => ⟨q.1, q.2 ▸ Ext.refl w⟩
end
section
variable (n : Int)
theorem cof5_no (k : n < -100000001 ∨ 100000000 < n) : Fn 121 [] [.int .i64 n] (.tuple #[dv 0 0 0, .bool false]) := by
  by_cases h : n < -100000001
  · refine fn_of Try.func121 rfl fun ww => ?_
    refine st_b 10 (show (decide (n < -100000001)) = true by exact decide_eq_true (by omega)) (by kernel_rfl) ?_
    exact st_ret Try.func121 (by kernel_rfl)
  · have h' : 100000000 < n := by omega
    refine fn_of Try.func121 rfl fun ww => ?_
    refine st_b 10 (show (decide (n < -100000001)) = false by exact decide_eq_false (by omega)) (by kernel_rfl) ?_
    refine st_b 13 (show (decide (n > 100000000)) = true by exact decide_eq_true (by omega)) (by kernel_rfl) ?_
    exact st_ret Try.func121 (by kernel_rfl)
theorem cof5_yes (k0 : -100000001 ≤ n) (k1 : n ≤ 100000000) : Fn 121 [] [.int .i64 n] (.tuple #[dv (dY n) (dM n) (dD n), .bool true]) := by
  have hD := fD_in n
  obtain ⟨y0, y1, y2, y3⟩ := fY_in (Y := fY n) hD.1 hD.2 (by unfold fY fG; rfl)
  have t1 : (fD n).tdiv 1460 = fD n / 1460 := tdiv_nn hD.1
  have t2 : (fD n).tdiv 36524 = fD n / 36524 := tdiv_nn hD.1
  have t3 : (fD n).tdiv 146096 = fD n / 146096 := tdiv_nn hD.1
  have t4 : (fD n - fD n / 1460 + fD n / 36524 - fD n / 146096).tdiv 365 = fY n := by rw [tdiv_nn (by omega)]; rfl
  have t5 : (fY n).tdiv 4 = fY n / 4 := tdiv_nn (by omega)
  have t6 : (fY n).tdiv 100 = fY n / 100 := tdiv_nn (by omega)
  have r0 : 0 ≤ fR n := by unfold fR fS at *; omega
  obtain ⟨r1, r2⟩ := fR_in (R := fR n) y0 y1 rfl y3
  have hm := fM_in r0 r1
  have t7 : (5 * fR n + 2).tdiv 153 = fM n := by rw [tdiv_nn (by omega)]; rfl
  have m0 : 0 ≤ fM n ∧ fM n ≤ 11 := hm
  have t8 : (153 * fM n + 2).tdiv 5 = (153 * fM n + 2) / 5 := tdiv_nn (by omega)
  have hE : -700 ≤ fE n ∧ fE n ≤ 700 := by unfold fE; omega
  have hf : Fn 186 [] [.int .i64 (n + 719468), .int .i64 146097] (.tuple #[.int .i64 (fE n), .int .i64 (fD n)]) := cfloor146097 _ (by omega) (by omega)
  refine fn_of Try.func121 rfl fun ww => ?_
  refine st_b 10 (show (decide (n < -100000001)) = false by exact decide_eq_false (by omega)) (by kernel_rfl) ?_
  refine st_b 13 (show (decide (n > 100000000)) = false by exact decide_eq_false (by omega)) (by kernel_rfl) ?_
  refine st_i 18 .i64 (x' := n + 719468) (Go.IntWalk.i64_in _ (by omega)) (by kernel_rfl) ?_
  refine st_fn ent186 (hf) sub0 (by kernel_rfl) ?_
  refine st_i 24 IntKind.i64 ((Go.IntWalk.i64_in _ (by omega)).trans (t1)) (by kernel_rfl) ?_
  refine st_i 25 .i64 (x' := fD n - fD n / 1460) (Go.IntWalk.i64_in _ (by omega)) (by kernel_rfl) ?_
  refine st_i 27 IntKind.i64 ((Go.IntWalk.i64_in _ (by omega)).trans (t2)) (by kernel_rfl) ?_
  refine st_i 28 .i64 (x' := fD n - fD n / 1460 + fD n / 36524) (Go.IntWalk.i64_in _ (by omega)) (by kernel_rfl) ?_
  refine st_i 30 IntKind.i64 ((Go.IntWalk.i64_in _ (by omega)).trans (t3)) (by kernel_rfl) ?_
  refine st_i 31 .i64 (x' := fD n - fD n / 1460 + fD n / 36524 - fD n / 146096) (Go.IntWalk.i64_in _ (by omega)) (by kernel_rfl) ?_
  refine st_i 32 IntKind.i64 ((Go.IntWalk.i64_in _ (by omega)).trans (t4)) (by kernel_rfl) ?_
  refine st_i 35 .i64 (x' := 365 * fY n) (Go.IntWalk.i64_in _ (by omega)) (by kernel_rfl) ?_
  refine st_i 37 IntKind.i64 ((Go.IntWalk.i64_in _ (by omega)).trans (t5)) (by kernel_rfl) ?_
  refine st_i 38 .i64 (x' := 365 * fY n + fY n / 4) (Go.IntWalk.i64_in _ (by omega)) (by kernel_rfl) ?_
  refine st_i 40 IntKind.i64 ((Go.IntWalk.i64_in _ (by omega)).trans (t6)) (by kernel_rfl) ?_
  refine st_i 41 .i64 (x' := 365 * fY n + fY n / 4 - fY n / 100) (Go.IntWalk.i64_in _ (by omega)) (by kernel_rfl) ?_
  refine st_i 42 IntKind.i64 ((Go.IntWalk.i64_in _ (by omega)).trans ((rfl : _ = fR n))) (by kernel_rfl) ?_
  refine st_i 44 .i64 (x' := 5 * fR n) (Go.IntWalk.i64_in _ (by omega)) (by kernel_rfl) ?_
  refine st_i 45 .i64 (x' := 5 * fR n + 2) (Go.IntWalk.i64_in _ (by omega)) (by kernel_rfl) ?_
  refine st_i 46 IntKind.i64 ((Go.IntWalk.i64_in _ (by omega)).trans (t7)) (by kernel_rfl) ?_
  refine st_i 49 .i64 (x' := 400 * fE n) (Go.IntWalk.i64_in _ (by omega)) (by kernel_rfl) ?_
  refine st_i 50 .i64 (x' := fY n + 400 * fE n) (Go.IntWalk.i64_in _ (by omega)) (by kernel_rfl) ?_
  refine st_i 52 .i64 (x' := fM n + 3) (Go.IntWalk.i64_in _ (by omega)) (by kernel_rfl) ?_
  refine st_i 55 .i64 (x' := 153 * fM n) (Go.IntWalk.i64_in _ (by omega)) (by kernel_rfl) ?_
  refine st_i 56 .i64 (x' := 153 * fM n + 2) (Go.IntWalk.i64_in _ (by omega)) (by kernel_rfl) ?_
  refine st_i 57 IntKind.i64 ((Go.IntWalk.i64_in _ (by omega)).trans (t8)) (by kernel_rfl) ?_
  refine st_i 58 .i64 (x' := fR n - (153 * fM n + 2) / 5) (Go.IntWalk.i64_in _ (by omega)) (by kernel_rfl) ?_
  refine st_i 59 .i64 (x' := fR n - (153 * fM n + 2) / 5 + 1) (Go.IntWalk.i64_in _ (by omega)) (by kernel_rfl) ?_
  by_cases k63 : fM n + 3 > 12
  · refine st_b 63 (decide_eq_true k63) (by kernel_rfl) ?_
    refine st_i 66 .i64 (x' := fY n + 400 * fE n + 1) (Go.IntWalk.i64_in _ (by omega)) (by kernel_rfl) ?_
    refine st_i 69 .i64 (x' := fM n + 3 - 12) (Go.IntWalk.i64_in _ (by omega)) (by kernel_rfl) ?_
    exact st_retv Try.func121 (show Value.tuple #[Value.agg { toList := [Value.int IntKind.i64 (fY n + 400 * fE n + 1), Value.int IntKind.i64 (fM n + 3 - 12), Value.int IntKind.i64 (fR n - (153 * fM n + 2) / 5 + 1)] }, Value.bool true] = _ by (refine db_eq ?_ ?_ ?_ <;> simp only [dY, dM, dD] <;> split <;> omega)) (by kernel_rfl)
  · refine st_b 63 (decide_eq_false k63) (by kernel_rfl) ?_
    exact st_retv Try.func121 (show Value.tuple #[Value.agg { toList := [Value.int IntKind.i64 (fY n + 400 * fE n), Value.int IntKind.i64 (fM n + 3), Value.int IntKind.i64 (fR n - (153 * fM n + 2) / 5 + 1)] }, Value.bool true] = _ by (refine db_eq ?_ ?_ ?_ <;> simp only [dY, dM, dD] <;> split <;> omega)) (by kernel_rfl)
end
section
variable (y m d n : Int)
theorem caddd_arg (k : ¬ dOk y m d) : Fn 132 [] [dv y m d, .int .i64 n] (.tuple #[dv 0 0 0, .int .i64 1]) := by
  refine fn_of Try.func132 rfl fun ww => ?_
  refine st_fn ent152 (cdays_no (y) (m) (d) (by assumption)) sub0 (by kernel_rfl) ?_
  exact st_ret Try.func132 (by kernel_rfl)
theorem caddd_yes (k : dOk y m d) (k0 : -100000001 ≤ dnum y m d + n) (k1 : dnum y m d + n ≤ 100000000) : Fn 132 [] [dv y m d, .int .i64 n] (.tuple #[dv (dY (dnum y m d + n)) (dM (dnum y m d + n)) (dD (dnum y m d + n)), .int .i64 0]) := by
  have k2 := k.2
  refine fn_of Try.func132 rfl fun ww => ?_
  refine st_fn ent152 (cdays_yes (y) (m) (d) (by assumption)) sub0 (by kernel_rfl) ?_
  refine st_b 20 (show (decide (n < -4294967296)) = false by exact decide_eq_false (by omega)) (by kernel_rfl) ?_
  refine st_b 23 (show (decide (n > 4294967296)) = false by exact decide_eq_false (by omega)) (by kernel_rfl) ?_
  refine st_i 29 .i64 (x' := dnum y m d + n) (Go.IntWalk.i64_in _ (by omega)) (by kernel_rfl) ?_
  refine st_fn ent121 (cof5_yes (dnum y m d + n) (by assumption) (by assumption)) sub0 (by kernel_rfl) ?_
  exact st_ret Try.func132 (by kernel_rfl)
theorem caddd_no (k : dOk y m d) (kn : dnum y m d + n < -100000001 ∨ 100000000 < dnum y m d + n) : Fn 132 [] [dv y m d, .int .i64 n] (.tuple #[dv 0 0 0, .int .i64 4]) := by
  have k2 := k.2
  by_cases h1 : n < -4294967296
  · refine fn_of Try.func132 rfl fun ww => ?_
    refine st_fn ent152 (cdays_yes (y) (m) (d) (by assumption)) sub0 (by kernel_rfl) ?_
    refine st_b 20 (show (decide (n < -4294967296)) = true by exact decide_eq_true (by omega)) (by kernel_rfl) ?_
    exact st_ret Try.func132 (by kernel_rfl)
  · by_cases h2 : 4294967296 < n
    · refine fn_of Try.func132 rfl fun ww => ?_
      refine st_fn ent152 (cdays_yes (y) (m) (d) (by assumption)) sub0 (by kernel_rfl) ?_
      refine st_b 20 (show (decide (n < -4294967296)) = false by exact decide_eq_false (by omega)) (by kernel_rfl) ?_
      refine st_b 23 (show (decide (n > 4294967296)) = true by exact decide_eq_true (by omega)) (by kernel_rfl) ?_
      exact st_ret Try.func132 (by kernel_rfl)
    · refine fn_of Try.func132 rfl fun ww => ?_
      refine st_fn ent152 (cdays_yes (y) (m) (d) (by assumption)) sub0 (by kernel_rfl) ?_
      refine st_b 20 (show (decide (n < -4294967296)) = false by exact decide_eq_false (by omega)) (by kernel_rfl) ?_
      refine st_b 23 (show (decide (n > 4294967296)) = false by exact decide_eq_false (by omega)) (by kernel_rfl) ?_
      refine st_i 29 .i64 (x' := dnum y m d + n) (Go.IntWalk.i64_in _ (by omega)) (by kernel_rfl) ?_
      refine st_fn ent121 (cof5_no (dnum y m d + n) (by assumption)) sub0 (by kernel_rfl) ?_
      exact st_ret Try.func132 (by kernel_rfl)
variable (y' m' d' : Int)
theorem cor_1 (a b c : Int) (h : a ≠ 0) : FnR 166 [.int .i64 a, .int .i64 b, .int .i64 c] 3 3 (.int .i64 a) := by
  refine fnR_of Try.func166 rfl fun ww kk => ?_
  refine st_round (by kernel_rfl) ?_
  refine st_idx (fun w _ => indexAtS_run (T := 45) (kd := IntKind.i64) (i := 0) (n := 0) (off := 0) (k := kk) (len := 3) (cap := 3) (by kernel_rfl)) (by kernel_rfl) ?_
  refine st_ldrow 0 rfl (by kernel_rfl) ?_
  refine st_b 14 (show (a != 0) = true by exact bne_iff_ne.2 (by omega)) (by kernel_rfl) ?_
  exact st_ret Try.func166 (by kernel_rfl)
theorem cor_2 (a b c : Int) (h0 : a = 0) (h : b ≠ 0) : FnR 166 [.int .i64 a, .int .i64 b, .int .i64 c] 3 3 (.int .i64 b) := by
  subst h0
  refine fnR_of Try.func166 rfl fun ww kk => ?_
  refine st_round (by kernel_rfl) ?_
  refine st_idx (fun w _ => indexAtS_run (T := 45) (kd := IntKind.i64) (i := 0) (n := 0) (off := 0) (k := kk) (len := 3) (cap := 3) (by kernel_rfl)) (by kernel_rfl) ?_
  refine st_ldrow 0 rfl (by kernel_rfl) ?_
  refine st_i 16 .i64 (x' := 0 + 1) (Go.IntWalk.i64_in _ (by omega)) (by kernel_rfl) ?_
  refine st_round (by kernel_rfl) ?_
  refine st_idx (fun w _ => indexAtS_run (T := 45) (kd := IntKind.i64) (i := 0 + 1) (n := 0) (off := 1) (k := kk) (len := 3) (cap := 3) (by kernel_rfl)) (by kernel_rfl) ?_
  refine st_ldrow 1 rfl (by kernel_rfl) ?_
  refine st_b 14 (show (b != 0) = true by exact bne_iff_ne.2 (by omega)) (by kernel_rfl) ?_
  exact st_ret Try.func166 (by kernel_rfl)
theorem cor_3 (a b c : Int) (h0 : a = 0) (h1 : b = 0) : FnR 166 [.int .i64 a, .int .i64 b, .int .i64 c] 3 3 (.int .i64 c) := by
  subst h0
  subst h1
  by_cases h : c = 0
  · subst h
    refine fnR_of Try.func166 rfl fun ww kk => ?_
    refine st_round (by kernel_rfl) ?_
    refine st_idx (fun w _ => indexAtS_run (T := 45) (kd := IntKind.i64) (i := 0) (n := 0) (off := 0) (k := kk) (len := 3) (cap := 3) (by kernel_rfl)) (by kernel_rfl) ?_
    refine st_ldrow 0 rfl (by kernel_rfl) ?_
    refine st_i 16 .i64 (x' := 0 + 1) (Go.IntWalk.i64_in _ (by omega)) (by kernel_rfl) ?_
    refine st_round (by kernel_rfl) ?_
    refine st_idx (fun w _ => indexAtS_run (T := 45) (kd := IntKind.i64) (i := 0 + 1) (n := 0) (off := 1) (k := kk) (len := 3) (cap := 3) (by kernel_rfl)) (by kernel_rfl) ?_
    refine st_ldrow 1 rfl (by kernel_rfl) ?_
    refine st_i 16 .i64 (x' := 0 + 1 + 1) (Go.IntWalk.i64_in _ (by omega)) (by kernel_rfl) ?_
    refine st_round (by kernel_rfl) ?_
    refine st_idx (fun w _ => indexAtS_run (T := 45) (kd := IntKind.i64) (i := 0 + 1 + 1) (n := 0) (off := 2) (k := kk) (len := 3) (cap := 3) (by kernel_rfl)) (by kernel_rfl) ?_
    refine st_ldrow 2 rfl (by kernel_rfl) ?_
    refine st_i 16 .i64 (x' := 0 + 1 + 1 + 1) (Go.IntWalk.i64_in _ (by omega)) (by kernel_rfl) ?_
    refine st_round (by kernel_rfl) ?_
    exact st_ret Try.func166 (by kernel_rfl)
  · refine fnR_of Try.func166 rfl fun ww kk => ?_
    refine st_round (by kernel_rfl) ?_
    refine st_idx (fun w _ => indexAtS_run (T := 45) (kd := IntKind.i64) (i := 0) (n := 0) (off := 0) (k := kk) (len := 3) (cap := 3) (by kernel_rfl)) (by kernel_rfl) ?_
    refine st_ldrow 0 rfl (by kernel_rfl) ?_
    refine st_i 16 .i64 (x' := 0 + 1) (Go.IntWalk.i64_in _ (by omega)) (by kernel_rfl) ?_
    refine st_round (by kernel_rfl) ?_
    refine st_idx (fun w _ => indexAtS_run (T := 45) (kd := IntKind.i64) (i := 0 + 1) (n := 0) (off := 1) (k := kk) (len := 3) (cap := 3) (by kernel_rfl)) (by kernel_rfl) ?_
    refine st_ldrow 1 rfl (by kernel_rfl) ?_
    refine st_i 16 .i64 (x' := 0 + 1 + 1) (Go.IntWalk.i64_in _ (by omega)) (by kernel_rfl) ?_
    refine st_round (by kernel_rfl) ?_
    refine st_idx (fun w _ => indexAtS_run (T := 45) (kd := IntKind.i64) (i := 0 + 1 + 1) (n := 0) (off := 2) (k := kk) (len := 3) (cap := 3) (by kernel_rfl)) (by kernel_rfl) ?_
    refine st_ldrow 2 rfl (by kernel_rfl) ?_
    refine st_b 14 (show (c != 0) = true by exact bne_iff_ne.2 (by omega)) (by kernel_rfl) ?_
    exact st_ret Try.func166 (by kernel_rfl)
theorem ccmp5 : Fn 98 [] [dv y m d, dv y' m' d'] (.int .i64 (cmp3 y m d y' m' d')) := by
  by_cases e1 : y = y'
  · subst e1
    have z1 : cmpI y y = 0 := cmpI_0.2 rfl
    by_cases e2 : m = m'
    · subst e2
      have z2 : cmpI m m = 0 := cmpI_0.2 rfl
      have h1 := cor_3 (cmpI y y) (cmpI m m) (cmpI d d') z1 z2
      have e : cmp3 y m d y m d' = cmpI d d' := by unfold cmp3; simp
      rw [e]
      refine fn_of Try.func98 rfl fun ww => ?_
      refine st_fn ent116 (fcompare (y) (y)) sub0 (by kernel_rfl) ?_
      refine st_fn ent116 (fcompare (m) (m)) sub0 (by kernel_rfl) ?_
      refine st_fn ent116 (fcompare (d) (d')) sub0 (by kernel_rfl) ?_
      refine st_row (b := 2) ent166 (h1) (by kernel_rfl) (by kernel_rfl) ?_
      exact st_ret Try.func98 (by kernel_rfl)
    · have z2 : cmpI m m' ≠ 0 := fun q => e2 (cmpI_0.1 q)
      have h1 := cor_2 (cmpI y y) (cmpI m m') (cmpI d d') z1 z2
      have e : cmp3 y m d y m' d' = cmpI m m' := by unfold cmp3; simp [e2]
      rw [e]
      refine fn_of Try.func98 rfl fun ww => ?_
      refine st_fn ent116 (fcompare (y) (y)) sub0 (by kernel_rfl) ?_
      refine st_fn ent116 (fcompare (m) (m')) sub0 (by kernel_rfl) ?_
      refine st_fn ent116 (fcompare (d) (d')) sub0 (by kernel_rfl) ?_
      refine st_row (b := 2) ent166 (h1) (by kernel_rfl) (by kernel_rfl) ?_
      exact st_ret Try.func98 (by kernel_rfl)
  · have z1 : cmpI y y' ≠ 0 := fun q => e1 (cmpI_0.1 q)
    have h1 := cor_1 (cmpI y y') (cmpI m m') (cmpI d d') z1
    have e : cmp3 y m d y' m' d' = cmpI y y' := by unfold cmp3; simp [e1]
    rw [e]
    refine fn_of Try.func98 rfl fun ww => ?_
    refine st_fn ent116 (fcompare (y) (y')) sub0 (by kernel_rfl) ?_
    refine st_fn ent116 (fcompare (m) (m')) sub0 (by kernel_rfl) ?_
    refine st_fn ent116 (fcompare (d) (d')) sub0 (by kernel_rfl) ?_
    refine st_row (b := 2) ent166 (h1) (by kernel_rfl) (by kernel_rfl) ?_
    exact st_ret Try.func98 (by kernel_rfl)
end
end Go.Proofs.Ytcndfpfjckkinaa
