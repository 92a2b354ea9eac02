/-
  Texts joined: Cur, Cur2, Chainy, Fc, Plc, Cub, Dud, Duz, Upa, Dfr, Due, Dul, Duh. Each says at its head what it shows.
-/
import Derived.Test.YtccllfegnijpiaaPCc
section
/-
  What lies between two days: what the reference answers of layer 19.
-/
set_option linter.unusedVariables false
set_option linter.unusedSimpArgs false
set_option maxRecDepth 100000
namespace Go.Proofs.Ytccllfegnijpiaa
open Go Go.RowKit Go.Ev

section
variable (y m d a b t T : Int)
theorem zlater (hT : (y + a) * 12 + (m - 1) + b = T) (y0 : -10000000 ≤ y) (y1 : y ≤ 10000000) (m1 : 1 ≤ m) (m2 : m ≤ 12) (a0 : -1000000000000 ≤ a) (a1 : a ≤ 1000000000000) (b0 : -1000000000000 ≤ b) (b1 : b ≤ 1000000000000) : Fn 80 [] [dv y m d, .int .i64 a, .int .i64 b] (dv (lY T) (lM T) d) := by
  obtain ⟨t, ht⟩ : ∃ t, m - 1 + b = t := ⟨_, rfl⟩
  have hb : -10000000000000 ≤ t ∧ t ≤ 10000000000000 := by omega
  have hT' : (y + a) * 12 + t = T := by omega
  by_cases h : 0 ≤ t
  · have e1 : t.tdiv 12 = t / 12 := tdiv_nn h
    have e2 : t.tmod 12 = t % 12 := tmod_nn h
    by_cases h2 : t ≤ 11
    · refine fn_of Try.func80 rfl fun ww => ?_
      refine st_i 12 .i64 (x' := m - 1) (Go.IntWalk.i64_in _ (by omega)) (by kernel_rfl) ?_
      refine st_i 14 IntKind.i64 (x := IntKind.i64.wrap (m - 1 + b)) ((Go.IntWalk.i64_in (m - 1 + b) (by omega)).trans (ht)) (by kernel_rfl) ?_
      refine st_i 18 .i64 (x' := y + a) (Go.IntWalk.i64_in _ (by omega)) (by kernel_rfl) ?_
      refine st_round (by kernel_rfl) ?_
      refine st_b 20 (show (decide (t > 11)) = false by exact decide_eq_false (by omega)) (by kernel_rfl) ?_
      refine st_b 23 (show (decide (t < 0)) = false by exact decide_eq_false (by omega)) (by kernel_rfl) ?_
      refine st_i 45 .i64 (x' := t + 1) (Go.IntWalk.i64_in _ (by omega)) (by kernel_rfl) ?_
      exact st_retv Try.func80 (show Value.agg #[Value.int IntKind.i64 (y + a), Value.int IntKind.i64 (t + 1), Value.int IntKind.i64 d] = _ by (refine d_eq ?_ ?_ rfl <;> simp only [lY, lM] <;> omega)) (by kernel_rfl)
    · refine fn_of Try.func80 rfl fun ww => ?_
      refine st_i 12 .i64 (x' := m - 1) (Go.IntWalk.i64_in _ (by omega)) (by kernel_rfl) ?_
      refine st_i 14 IntKind.i64 (x := IntKind.i64.wrap (m - 1 + b)) ((Go.IntWalk.i64_in (m - 1 + b) (by omega)).trans (ht)) (by kernel_rfl) ?_
      refine st_i 18 .i64 (x' := y + a) (Go.IntWalk.i64_in _ (by omega)) (by kernel_rfl) ?_
      refine st_round (by kernel_rfl) ?_
      refine st_b 20 (show (decide (t > 11)) = true by exact decide_eq_true (by omega)) (by kernel_rfl) ?_
      refine st_i 26 .i64 (x' := t.tdiv 12) (Go.IntWalk.i64_in _ (by omega)) (by kernel_rfl) ?_
      refine st_b 28 (show (decide (t < 0)) = false by exact decide_eq_false (by omega)) (by kernel_rfl) ?_
      refine st_i 38 .i64 (x' := 12 * t.tdiv 12) (Go.IntWalk.i64_in _ (by omega)) (by kernel_rfl) ?_
      refine st_i 39 .i64 (x' := t - 12 * t.tdiv 12) (Go.IntWalk.i64_in _ (by omega)) (by kernel_rfl) ?_
      refine st_i 42 .i64 (x' := y + a + t.tdiv 12) (Go.IntWalk.i64_in _ (by omega)) (by kernel_rfl) ?_
      refine st_round (by kernel_rfl) ?_
      refine st_b 20 (show (decide (t - 12 * t.tdiv 12 > 11)) = false by exact decide_eq_false (by omega)) (by kernel_rfl) ?_
      refine st_b 23 (show (decide (t - 12 * t.tdiv 12 < 0)) = false by exact decide_eq_false (by omega)) (by kernel_rfl) ?_
      refine st_i 45 .i64 (x' := t - 12 * t.tdiv 12 + 1) (Go.IntWalk.i64_in _ (by omega)) (by kernel_rfl) ?_
      exact st_retv Try.func80 (show Value.agg #[Value.int IntKind.i64 (y + a + t.tdiv 12), Value.int IntKind.i64 (t - 12 * t.tdiv 12 + 1), Value.int IntKind.i64 d] = _ by (refine d_eq ?_ ?_ rfl <;> simp only [lY, lM] <;> omega)) (by kernel_rfl)
  · have e1 : t.tdiv 12 = -((-t) / 12) := tdiv_lit (by omega)
    have e2 : t.tmod 12 = -((-t) % 12) := tmod_lit (by omega)
    by_cases h2 : t % 12 = 0
    · refine fn_of Try.func80 rfl fun ww => ?_
      refine st_i 12 .i64 (x' := m - 1) (Go.IntWalk.i64_in _ (by omega)) (by kernel_rfl) ?_
      refine st_i 14 IntKind.i64 (x := IntKind.i64.wrap (m - 1 + b)) ((Go.IntWalk.i64_in (m - 1 + b) (by omega)).trans (ht)) (by kernel_rfl) ?_
      refine st_i 18 .i64 (x' := y + a) (Go.IntWalk.i64_in _ (by omega)) (by kernel_rfl) ?_
      refine st_round (by kernel_rfl) ?_
      refine st_b 20 (show (decide (t > 11)) = false by exact decide_eq_false (by omega)) (by kernel_rfl) ?_
      refine st_b 23 (show (decide (t < 0)) = true by exact decide_eq_true (by omega)) (by kernel_rfl) ?_
      refine st_i 26 .i64 (x' := t.tdiv 12) (Go.IntWalk.i64_in _ (by omega)) (by kernel_rfl) ?_
      refine st_b 28 (show (decide (t < 0)) = true by exact decide_eq_true (by omega)) (by kernel_rfl) ?_
      refine st_b 32 (show (t.tmod 12 != 0) = false by exact bne_eq_false_iff_eq.2 (by omega)) (by kernel_rfl) ?_
      refine st_i 38 .i64 (x' := 12 * t.tdiv 12) (Go.IntWalk.i64_in _ (by omega)) (by kernel_rfl) ?_
      refine st_i 39 .i64 (x' := t - 12 * t.tdiv 12) (Go.IntWalk.i64_in _ (by omega)) (by kernel_rfl) ?_
      refine st_i 42 .i64 (x' := y + a + t.tdiv 12) (Go.IntWalk.i64_in _ (by omega)) (by kernel_rfl) ?_
      refine st_round (by kernel_rfl) ?_
      refine st_b 20 (show (decide (t - 12 * t.tdiv 12 > 11)) = false by exact decide_eq_false (by omega)) (by kernel_rfl) ?_
      refine st_b 23 (show (decide (t - 12 * t.tdiv 12 < 0)) = false by exact decide_eq_false (by omega)) (by kernel_rfl) ?_
      refine st_i 45 .i64 (x' := t - 12 * t.tdiv 12 + 1) (Go.IntWalk.i64_in _ (by omega)) (by kernel_rfl) ?_
      exact st_retv Try.func80 (show Value.agg #[Value.int IntKind.i64 (y + a + t.tdiv 12), Value.int IntKind.i64 (t - 12 * t.tdiv 12 + 1), Value.int IntKind.i64 d] = _ by (refine d_eq ?_ ?_ rfl <;> simp only [lY, lM] <;> omega)) (by kernel_rfl)
    · refine fn_of Try.func80 rfl fun ww => ?_
      refine st_i 12 .i64 (x' := m - 1) (Go.IntWalk.i64_in _ (by omega)) (by kernel_rfl) ?_
      refine st_i 14 IntKind.i64 (x := IntKind.i64.wrap (m - 1 + b)) ((Go.IntWalk.i64_in (m - 1 + b) (by omega)).trans (ht)) (by kernel_rfl) ?_
      refine st_i 18 .i64 (x' := y + a) (Go.IntWalk.i64_in _ (by omega)) (by kernel_rfl) ?_
      refine st_round (by kernel_rfl) ?_
      refine st_b 20 (show (decide (t > 11)) = false by exact decide_eq_false (by omega)) (by kernel_rfl) ?_
      refine st_b 23 (show (decide (t < 0)) = true by exact decide_eq_true (by omega)) (by kernel_rfl) ?_
      refine st_i 26 .i64 (x' := t.tdiv 12) (Go.IntWalk.i64_in _ (by omega)) (by kernel_rfl) ?_
      refine st_b 28 (show (decide (t < 0)) = true by exact decide_eq_true (by omega)) (by kernel_rfl) ?_
      refine st_b 32 (show (t.tmod 12 != 0) = true by exact bne_iff_ne.2 (by omega)) (by kernel_rfl) ?_
      refine st_i 35 .i64 (x' := t.tdiv 12 - 1) (Go.IntWalk.i64_in _ (by omega)) (by kernel_rfl) ?_
      refine st_i 38 .i64 (x' := 12 * (t.tdiv 12 - 1)) (Go.IntWalk.i64_in _ (by omega)) (by kernel_rfl) ?_
      refine st_i 39 .i64 (x' := t - 12 * (t.tdiv 12 - 1)) (Go.IntWalk.i64_in _ (by omega)) (by kernel_rfl) ?_
      refine st_i 42 .i64 (x' := y + a + (t.tdiv 12 - 1)) (Go.IntWalk.i64_in _ (by omega)) (by kernel_rfl) ?_
      refine st_round (by kernel_rfl) ?_
      refine st_b 20 (show (decide (t - 12 * (t.tdiv 12 - 1) > 11)) = false by exact decide_eq_false (by omega)) (by kernel_rfl) ?_
      refine st_b 23 (show (decide (t - 12 * (t.tdiv 12 - 1) < 0)) = false by exact decide_eq_false (by omega)) (by kernel_rfl) ?_
      refine st_i 45 .i64 (x' := t - 12 * (t.tdiv 12 - 1) + 1) (Go.IntWalk.i64_in _ (by omega)) (by kernel_rfl) ?_
      exact st_retv Try.func80 (show Value.agg #[Value.int IntKind.i64 (y + a + (t.tdiv 12 - 1)), Value.int IntKind.i64 (t - 12 * (t.tdiv 12 - 1) + 1), Value.int IntKind.i64 d] = _ by (refine d_eq ?_ ?_ rfl <;> simp only [lY, lM] <;> omega)) (by kernel_rfl)
end
section
variable (s y m d y' m' d' A B C : Int)
theorem zbey_n (hs : s = 1 ∨ s = -1) (e : cmp3 y' m' d' y m d = s) (k : cmp3 A B C y' m' d' ≠ s) : Fn 79 [] [dv y m d, dv y' m' d', dv A B C] (.bool false) := by
  have k1 := zcmp5 y' m' d' y m d
  rw [e] at k1
  have k2 := zcmp5 A B C y' m' d'
  have tr := cmp3_tri A B C y' m' d'
  generalize cmp3 A B C y' m' d' = u at *
  rcases hs with rfl | rfl
  · refine fn_of Try.func79 rfl fun ww => ?_
    refine st_fn ent78 (k1) sub0 (by kernel_rfl) ?_
    refine st_fn ent78 (k2) sub0 (by kernel_rfl) ?_
    exact st_retv Try.func79 (show Value.bool (decide (u > 0)) = _ by (refine b_eq (decide_eq_false ?_); omega)) (by kernel_rfl)
  · refine fn_of Try.func79 rfl fun ww => ?_
    refine st_fn ent78 (k1) sub0 (by kernel_rfl) ?_
    refine st_fn ent78 (k2) sub0 (by kernel_rfl) ?_
    exact st_retv Try.func79 (show Value.bool (decide (u < 0)) = _ by (refine b_eq (decide_eq_false ?_); omega)) (by kernel_rfl)
theorem zbey_y (hs : s = 1 ∨ s = -1) (e : cmp3 y' m' d' y m d = s) (k : cmp3 A B C y' m' d' = s) : Fn 79 [] [dv y m d, dv y' m' d', dv A B C] (.bool true) := by
  have k1 := zcmp5 y' m' d' y m d
  rw [e] at k1
  have k2 := zcmp5 A B C y' m' d'
  rw [k] at k2
  clear k e
  rcases hs with rfl | rfl
  · refine fn_of Try.func79 rfl fun ww => ?_
    refine st_fn ent78 (k1) sub0 (by kernel_rfl) ?_
    refine st_fn ent78 (k2) sub0 (by kernel_rfl) ?_
    exact st_ret Try.func79 (by kernel_rfl)
  · refine fn_of Try.func79 rfl fun ww => ?_
    refine st_fn ent78 (k1) sub0 (by kernel_rfl) ?_
    refine st_fn ent78 (k2) sub0 (by kernel_rfl) ?_
    exact st_ret Try.func79 (by kernel_rfl)
theorem zreg_cy (m1 : 1 ≤ m) (m2 : m ≤ 12) (d1 : 1 ≤ d) (k : dOk y m (cD y m d)) : Fn 81 [] [.int .i64 y, .int .i64 m, .int .i64 d, .int .i64 1] (.tuple #[dv y m (cD y m d), .int .i64 0]) := by
  have kc := zmonth y m
  obtain ⟨l, hl⟩ : ∃ l, l = mlen y m := ⟨_, rfl⟩
  have hc : cD y m d = if l < d then l else d := by rw [hl]; rfl
  rw [hc] at k ⊢
  rw [← hl] at kc
  by_cases q : l < d
  · rw [if_pos q] at k ⊢
    refine fn_of Try.func81 rfl fun ww => ?_
    refine st_b 41 (show (decide (m < 1)) = false by exact decide_eq_false (by omega)) (by kernel_rfl) ?_
    refine st_b 43 (show (decide (m > 12)) = false by exact decide_eq_false (by omega)) (by kernel_rfl) ?_
    refine st_b 45 (show (decide (d < 1)) = false by exact decide_eq_false (by omega)) (by kernel_rfl) ?_
    refine st_fn ent127 (kc) sub0 (by kernel_rfl) ?_
    refine st_b 50 (show (decide (d > l)) = true by exact decide_eq_true (by omega)) (by kernel_rfl) ?_
    refine st_fn ent127 (kc) sub0 (by kernel_rfl) ?_
    refine st_fn ent129 (zright5_yes (y) (m) (l) (by assumption)) sub0 (by kernel_rfl) ?_
    exact st_ret Try.func81 (by kernel_rfl)
  · rw [if_neg q] at k ⊢
    refine fn_of Try.func81 rfl fun ww => ?_
    refine st_b 41 (show (decide (m < 1)) = false by exact decide_eq_false (by omega)) (by kernel_rfl) ?_
    refine st_b 43 (show (decide (m > 12)) = false by exact decide_eq_false (by omega)) (by kernel_rfl) ?_
    refine st_b 45 (show (decide (d < 1)) = false by exact decide_eq_false (by omega)) (by kernel_rfl) ?_
    refine st_fn ent127 (kc) sub0 (by kernel_rfl) ?_
    refine st_b 50 (show (decide (d > l)) = false by exact decide_eq_false (by omega)) (by kernel_rfl) ?_
    refine st_fn ent129 (zright5_yes (y) (m) (d) (by assumption)) sub0 (by kernel_rfl) ?_
    exact st_ret Try.func81 (by kernel_rfl)
end
section
variable (y m d y' m' d' L : Int)
theorem zunt_a (k : ¬ (dOk y m d ∧ dOk y' m' d' ∧ 1 ≤ L ∧ L ≤ 4)) : Fn 26 [] [dv y m d, dv y' m' d', .int .i64 L] (.tuple #[du0, .int .i64 1]) := by
  by_cases k1 : dOk y m d
  · have ld1 := zdays_yes y m d k1
    by_cases k2 : dOk y' m' d'
    · have ld2 := zdays_yes y' m' d' k2
      by_cases l : L < 1
      · clear k k1 k2
        refine fn_of Try.func26 rfl fun ww => ?_
        refine st_fn ent77 (ld1) sub0 (by kernel_rfl) ?_
        refine st_fn ent77 (ld2) sub0 (by kernel_rfl) ?_
        refine st_b 40 (show (decide (L < 1)) = true by exact decide_eq_true (by omega)) (by kernel_rfl) ?_
        exact st_ret Try.func26 (by kernel_rfl)
      · have l2 : 4 < L := by
          rcases Int.lt_or_le 4 L with q | q
          · exact q
          · exact absurd ⟨k1, k2, by omega, q⟩ k
        clear k k1 k2
        refine fn_of Try.func26 rfl fun ww => ?_
        refine st_fn ent77 (ld1) sub0 (by kernel_rfl) ?_
        refine st_fn ent77 (ld2) sub0 (by kernel_rfl) ?_
        refine st_b 40 (show (decide (L < 1)) = false by exact decide_eq_false (by omega)) (by kernel_rfl) ?_
        refine st_b 44 (show (decide (L > 4)) = true by exact decide_eq_true (by omega)) (by kernel_rfl) ?_
        exact st_ret Try.func26 (by kernel_rfl)
    · have ld2 := zdays_no y' m' d' k2
      clear k k1 k2
      refine fn_of Try.func26 rfl fun ww => ?_
      refine st_fn ent77 (ld1) sub0 (by kernel_rfl) ?_
      refine st_fn ent77 (ld2) sub0 (by kernel_rfl) ?_
      exact st_ret Try.func26 (by kernel_rfl)
  · have ld1 := zdays_no y m d k1
    by_cases k2 : dOk y' m' d'
    · have ld2 := zdays_yes y' m' d' k2
      clear k k1 k2
      refine fn_of Try.func26 rfl fun ww => ?_
      refine st_fn ent77 (ld1) sub0 (by kernel_rfl) ?_
      refine st_fn ent77 (ld2) sub0 (by kernel_rfl) ?_
      exact st_ret Try.func26 (by kernel_rfl)
    · have ld2 := zdays_no y' m' d' k2
      clear k k1 k2
      refine fn_of Try.func26 rfl fun ww => ?_
      refine st_fn ent77 (ld1) sub0 (by kernel_rfl) ?_
      refine st_fn ent77 (ld2) sub0 (by kernel_rfl) ?_
      exact st_ret Try.func26 (by kernel_rfl)
theorem zunt_3 (h : dOk y m d) (h' : dOk y' m' d') : Fn 26 [] [dv y m d, dv y' m' d', .int .i64 3] (.tuple #[duv 0 0 ((dnum y' m' d' - dnum y m d).tdiv 7) ((dnum y' m' d' - dnum y m d).tmod 7) 0 0 0 0, .int .i64 0]) := by
  have ld1 := zdays_yes y m d h
  have ld2 := zdays_yes y' m' d' h'
  have b1 := h.2
  have b2 := h'.2
  generalize dnum y m d = n at *
  generalize dnum y' m' d' = n' at *
  have tt := td (n' - n) 7 (by omega)
  clear h h'
  refine fn_of Try.func26 rfl fun ww => ?_
  refine st_fn ent77 (ld1) sub0 (by kernel_rfl) ?_
  refine st_fn ent77 (ld2) sub0 (by kernel_rfl) ?_
  refine st_i 57 .i64 (x' := n' - n) (Go.IntWalk.i64_in _ (by omega)) (by kernel_rfl) ?_
  refine st_i 58 .i64 (x' := (n' - n).tdiv 7) (Go.IntWalk.i64_in _ (by omega)) (by kernel_rfl) ?_
  refine st_i 61 .i64 (x' := n' - n) (Go.IntWalk.i64_in _ (by omega)) (by kernel_rfl) ?_
  exact st_ret Try.func26 (by kernel_rfl)
theorem zunt_4 (h : dOk y m d) (h' : dOk y' m' d') : Fn 26 [] [dv y m d, dv y' m' d', .int .i64 4] (.tuple #[duv 0 0 0 (dnum y' m' d' - dnum y m d) 0 0 0 0, .int .i64 0]) := by
  have ld1 := zdays_yes y m d h
  have ld2 := zdays_yes y' m' d' h'
  have b1 := h.2
  have b2 := h'.2
  generalize dnum y m d = n at *
  generalize dnum y' m' d' = n' at *
  clear h h'
  refine fn_of Try.func26 rfl fun ww => ?_
  refine st_fn ent77 (ld1) sub0 (by kernel_rfl) ?_
  refine st_fn ent77 (ld2) sub0 (by kernel_rfl) ?_
  refine st_i 51 .i64 (x' := n' - n) (Go.IntWalk.i64_in _ (by omega)) (by kernel_rfl) ?_
  exact st_ret Try.func26 (by kernel_rfl)
theorem zunt_0 (L : Int) (l : L = 1 ∨ L = 2) (h : dOk y m d) (h' : dOk y' m' d') (e : cmp3 y' m' d' y m d = 0) : Fn 26 [] [dv y m d, dv y' m' d', .int .i64 L] (.tuple #[du0, .int .i64 0]) := by
  have ld1 := zdays_yes y m d h
  have ld2 := zdays_yes y' m' d' h'
  have cc := zcmp5 y' m' d' y m d
  rw [e] at cc
  clear h h' e
  rcases l with rfl | rfl
  · refine fn_of Try.func26 rfl fun ww => ?_
    refine st_fn ent77 (ld1) sub0 (by kernel_rfl) ?_
    refine st_fn ent77 (ld2) sub0 (by kernel_rfl) ?_
    refine st_fn ent78 (cc) sub0 (by kernel_rfl) ?_
    exact st_ret Try.func26 (by kernel_rfl)
  · refine fn_of Try.func26 rfl fun ww => ?_
    refine st_fn ent77 (ld1) sub0 (by kernel_rfl) ?_
    refine st_fn ent77 (ld2) sub0 (by kernel_rfl) ?_
    refine st_fn ent78 (cc) sub0 (by kernel_rfl) ?_
    exact st_ret Try.func26 (by kernel_rfl)
theorem sBd {s x n : Int} (hs : s = 1 ∨ s = -1) (h : -n ≤ x ∧ x ≤ n) : -n ≤ s * x ∧ s * x ≤ n := by rcases hs with rfl | rfl <;> omega
theorem mM_gap {s : Int} (hs : s = 1 ∨ s = -1) : mM s y m d y' m' d' ≤ s * (ymi y' m' - ymi y m) ∧ s * (ymi y' m' - ymi y m) ≤ mM s y m d y' m' d' + 1 := by
  rcases hs with rfl | rfl
  · unfold mM; rw [if_pos rfl]; split <;> omega
  · unfold mM; rw [if_neg (by omega)]; split <;> omega
theorem zunt_1 (s N T : Int) (h : dOk y m d) (h' : dOk y' m' d') (hs : s = 1 ∨ s = -1) (e : cmp3 y' m' d' y m d = s) (hN : mM s y m d y' m' d' = N) (hT : ymi y m + s * N = T) :
    Fn 26 [] [dv y m d, dv y' m' d', .int .i64 1] (.tuple #[duv (s * (N / 12)) (s * (N - 12 * (N / 12))) 0 (dnum y' m' d' - dnum (lY T) (lM T) (cD (lY T) (lM T) d)) 0 0 0 0, .int .i64 0]) := by
  have ld1 := zdays_yes y m d h
  have ld2 := zdays_yes y' m' d' h'
  have yy := dOk_year h
  have yy' := dOk_year h'
  have n0 := mM_pos h.1.1 h.1.2.1 h'.1.1 h'.1.2.1 hs e
  have n1 := mM_le (y := y) (y' := y') (d := d) (d' := d') h.1.1 h.1.2.1 h'.1.1 h'.1.2.1 hs
  have gp := mM_gap y m d y' m' d' hs
  have fi := fits_iff (s := s) (y := y) (m := m) (d := d) (y' := y') (m' := m') (d' := d') h.1.1 h.1.2.1 h'.1.1 h'.1.2.1 hs
  rw [hN] at n0 n1 gp fi
  have n2 : N ≤ 10000000 := by
    rcases hs with rfl | rfl
    · rw [if_pos rfl] at n1; omega
    · rw [if_neg (by omega)] at n1; omega
  have m1 := h.1.1
  have m2 := h.1.2.1
  have m1' := h'.1.1
  have m2' := h'.1.2.1
  obtain ⟨K, hK⟩ : ∃ K, N / 12 = K := ⟨_, rfl⟩
  obtain ⟨M, hM⟩ : ∃ M, N - 12 * K = M := ⟨_, rfl⟩
  have hK2 : 0 ≤ K ∧ 12 * K ≤ N ∧ N < 12 * K + 12 ∧ 0 ≤ M ∧ M ≤ 11 ∧ 12 * K + M = N := by omega
  have la1 : ∀ k : Int, 0 ≤ k → k ≤ 10000000 → Fn 80 [] [dv y m d, .int .i64 (s * (k + 1)), .int .i64 0] (dv (lY (ymi y m + s * (12 * (k + 1)))) (lM (ymi y m + s * (12 * (k + 1)))) d) := fun k k0 k1 =>
    zlater y m d (s * (k + 1)) 0 _ (by unfold ymi; rcases hs with rfl | rfl <;> omega) (by omega) (by omega) m1 m2 (by rcases hs with rfl | rfl <;> omega) (by rcases hs with rfl | rfl <;> omega) (by omega) (by omega)
  have lbn1 : ∀ k : Int, 12 * (k + 1) ≤ N → Fn 79 [] [dv y m d, dv y' m' d', dv (lY (ymi y m + s * (12 * (k + 1)))) (lM (ymi y m + s * (12 * (k + 1)))) d] (.bool false) := fun k q => zbey_n s y m d y' m' d' _ _ _ hs e ((fi _).2 q)
  have lby1 : ∀ k : Int, N < 12 * (k + 1) → Fn 79 [] [dv y m d, dv y' m' d', dv (lY (ymi y m + s * (12 * (k + 1)))) (lM (ymi y m + s * (12 * (k + 1)))) d] (.bool true) := fun k q => zbey_y s y m d y' m' d' _ _ _ hs e (Classical.byContradiction fun z => by have := (fi _).1 z; omega)
  have la2 : Fn 80 [] [dv y m d, .int .i64 (s * K), .int .i64 0] (dv (y + s * K) m d) := by
    have := zlater y m d (s * K) 0 (ymi (y + s * K) m) (by unfold ymi; omega) (by omega) (by omega) m1 m2 (by rcases hs with rfl | rfl <;> omega) (by rcases hs with rfl | rfl <;> omega) (by omega) (by omega)
    rwa [(l_ymi m1 m2).1, (l_ymi m1 m2).2] at this
  have la3 : ∀ k : Int, 0 ≤ k → k ≤ 10000000 → Fn 80 [] [dv y m d, .int .i64 (s * K), .int .i64 (s * (k + 1))] (dv (lY (ymi y m + s * (12 * K + (k + 1)))) (lM (ymi y m + s * (12 * K + (k + 1)))) d) := fun k k0 k1 =>
    zlater y m d (s * K) (s * (k + 1)) _ (by unfold ymi; rcases hs with rfl | rfl <;> omega) (by omega) (by omega) m1 m2 (by rcases hs with rfl | rfl <;> omega) (by rcases hs with rfl | rfl <;> omega) (by rcases hs with rfl | rfl <;> omega) (by rcases hs with rfl | rfl <;> omega)
  have lbn3 : ∀ k : Int, 12 * K + (k + 1) ≤ N → Fn 79 [] [dv y m d, dv y' m' d', dv (lY (ymi y m + s * (12 * K + (k + 1)))) (lM (ymi y m + s * (12 * K + (k + 1)))) d] (.bool false) := fun k q => zbey_n s y m d y' m' d' _ _ _ hs e ((fi _).2 q)
  have lby3 : ∀ k : Int, N < 12 * K + (k + 1) → Fn 79 [] [dv y m d, dv y' m' d', dv (lY (ymi y m + s * (12 * K + (k + 1)))) (lM (ymi y m + s * (12 * K + (k + 1)))) d] (.bool true) := fun k q => zbey_y s y m d y' m' d' _ _ _ hs e (Classical.byContradiction fun z => by have := (fi _).1 z; omega)
  have la4 : Fn 80 [] [dv y m d, .int .i64 (s * K), .int .i64 (s * M)] (dv (lY T) (lM T) d) :=
    zlater y m d (s * K) (s * M) T (by unfold ymi at hT; rcases hs with rfl | rfl <;> omega) (by omega) (by omega) m1 m2 (by rcases hs with rfl | rfl <;> omega) (by rcases hs with rfl | rfl <;> omega) (by rcases hs with rfl | rfl <;> omega) (by rcases hs with rfl | rfl <;> omega)
  have fo := (from_ok h h' hs e).1
  unfold fD' fY' fM' at fo
  rw [hN, hT] at fo
  have lr := zreg_cy (lY T) (lM T) d (ymi_l T).2.1 (ymi_l T).2.2 h.1.2.2.1 fo
  have ld3 := zdays_yes (lY T) (lM T) (cD (lY T) (lM T) d) fo
  have b1 := fo.2
  have b2 := h'.2
  have cc := zcmp5 y' m' d' y m d
  rw [e] at cc
  generalize dnum y' m' d' = n' at *
  generalize dnum (lY T) (lM T) (cD (lY T) (lM T) d) = n'' at *
  obtain ⟨D, hD⟩ : ∃ D, s * (y' - y) = D := ⟨_, rfl⟩
  obtain ⟨D2, hD2⟩ : ∃ D2, s * (12 * (y' - (y + s * K)) + m' - m) = D2 := ⟨_, rfl⟩
  have f1 : 0 ≤ D ∧ D ≤ 1000000 ∧ 12 * (D - 1) ≤ N := by
    unfold ymi at gp
    rcases hs with rfl | rfl <;> omega
  have f2 : N - 12 * K ≤ D2 ∧ D2 ≤ N - 12 * K + 1 := by
    unfold ymi at gp
    rcases hs with rfl | rfl <;> omega
  have sK : -1000000 ≤ s * K ∧ s * K ≤ 1000000 := sBd hs (by omega)
  have sM : -1000000 ≤ s * M ∧ s * M ≤ 1000000 := sBd hs (by omega)
  have sU : ∀ k : Int, 0 ≤ k → k ≤ 100000000 → -1000000000 ≤ s * (k + 1) ∧ s * (k + 1) ≤ 1000000000 := fun k k0 k1 => sBd hs (by omega)
  have s0 : s ≠ 0 := by rcases hs with rfl | rfl <;> omega
  rw [hK, hM]
  clear h h' e hN hT fo n1 gp fi hK hM hs
  by_cases c0 : 0 < D
  · obtain ⟨k0, hk0⟩ : ∃ k0, D - 1 = k0 := ⟨_, rfl⟩
    by_cases c1 : 0 < D2
    · obtain ⟨k1, hk1⟩ : ∃ k1, D2 - 1 = k1 := ⟨_, rfl⟩
      refine fn_of Try.func26 rfl fun ww => ?_
      refine st_fn ent77 (ld1) sub0 (by kernel_rfl) ?_
      refine st_fn ent77 (ld2) sub0 (by kernel_rfl) ?_
      refine st_fn ent78 (cc) sub0 (by kernel_rfl) ?_
      refine st_b 69 (show (s == 0) = false by exact decide_eq_false (by omega)) (by kernel_rfl) ?_
      refine st_i 78 .i64 (x' := y' - y) (Go.IntWalk.i64_in _ (by omega)) (by kernel_rfl) ?_
      refine st_i 79 IntKind.i64 (x := IntKind.i64.wrap (s * (y' - y))) ((Go.IntWalk.i64_in (s * (y' - y)) (by omega)).trans (hD)) (by kernel_rfl) ?_
      refine st_b 81 (show (decide (D > 0)) = true by exact decide_eq_true (by omega)) (by kernel_rfl) ?_
      refine st_i 83 IntKind.i64 (x := IntKind.i64.wrap (D - 1)) ((Go.IntWalk.i64_in (D - 1) (by omega)).trans (hk0)) (by kernel_rfl) ?_
      refine st_forget [0, 1, 2, 3, 4, 5, 6, 7, 8, 9, 10, 11, 12, 13, 14, 15, 16, 17, 18, 19, 20, 21, 22, 23, 24, 25, 26, 27, 28, 29, 30, 31, 32, 33, 34, 35, 36, 37, 38, 39, 40, 41, 42, 43, 44, 45, 46, 47, 48, 49, 50, 51, 52, 53, 54, 55, 56, 57, 58, 59, 60, 61, 62, 63, 64, 65, 66, 67, 68, 69, 70, 71, 72, 73, 74, 75, 76, 77, 78, 79, 80, 81, 82, 83, 96, 97, 98, 99, 100, 101, 102, 103, 104, 105, 106, 107, 108, 109, 110, 111, 112, 113, 114, 115, 116, 117, 118, 119, 120, 121, 122, 123, 124, 125, 126, 127, 128, 129, 130, 131, 132, 133, 134, 135, 136, 137, 138, 139, 140, 141, 142, 143, 144, 145, 146, 147, 148, 149, 150, 151, 152, 153, 154, 155, 156, 157, 158, 159, 160, 161, 162, 163, 164, 165] (by kernel_rfl) ?_
      refine st_loop (X := Int) (fun x => ([SV.val (Value.agg #[Value.int IntKind.i64 y, Value.int IntKind.i64 m, Value.int IntKind.i64 d]), SV.val (Value.agg #[Value.int IntKind.i64 y', Value.int IntKind.i64 m', Value.int IntKind.i64 d']), SV.val (Value.int IntKind.i64 1), SV.ptr 0 0, SV.ptr 1 0, SV.val (Value.tuple #[]), SV.ptr 2 0, SV.val (Value.int IntKind.i64 0), SV.val (Value.int IntKind.i64 (dnum y m d)), SV.val (Value.bool true), SV.val (Value.int IntKind.i64 n'), SV.val (Value.bool true), SV.ptr 3 0, SV.val (Value.int IntKind.i64 s), .val (.int .i64 x), SV.val (Value.tuple #[]), SV.val (Value.tuple #[]), SV.val (Value.tuple #[]), SV.val (Value.tuple #[]), SV.val (Value.tuple #[]), SV.val (Value.tuple #[]), SV.val (Value.tuple #[]), SV.val (Value.tuple #[Value.int IntKind.i64 (dnum y m d), Value.bool true]), SV.val (Value.agg #[Value.int IntKind.i64 y, Value.int IntKind.i64 m, Value.int IntKind.i64 d]), SV.val (Value.tuple #[Value.int IntKind.i64 (dnum y m d), Value.bool true]), SV.val (Value.int IntKind.i64 (dnum y m d)), SV.val (Value.bool true), SV.val (Value.tuple #[Value.int IntKind.i64 n', Value.bool true]), SV.val (Value.agg #[Value.int IntKind.i64 y', Value.int IntKind.i64 m', Value.int IntKind.i64 d']), SV.val (Value.tuple #[Value.int IntKind.i64 n', Value.bool true]), SV.val (Value.int IntKind.i64 n'), SV.val (Value.bool true), SV.val (Value.bool true), SV.val (Value.bool false), SV.val (Value.bool false), SV.val (Value.bool true), SV.val (Value.bool false), SV.val (Value.bool false), SV.val (Value.bool false), SV.val (Value.int IntKind.i64 1), SV.val (Value.bool false), SV.val (Value.bool false), SV.val (Value.bool false), SV.val (Value.int IntKind.i64 1), SV.val (Value.bool false), SV.val (Value.bool false), SV.val (Value.tuple #[]), SV.val (Value.int IntKind.i64 1), SV.val (Value.bool false), SV.val (Value.tuple #[]), SV.val (Value.tuple #[]), SV.val (Value.tuple #[]), SV.val (Value.tuple #[]), SV.val (Value.int IntKind.i64 1), SV.val (Value.bool false), SV.val (Value.tuple #[]), SV.val (Value.tuple #[]), SV.val (Value.tuple #[]), SV.val (Value.tuple #[]), SV.val (Value.tuple #[]), SV.val (Value.tuple #[]), SV.val (Value.tuple #[]), SV.val (Value.tuple #[]), SV.val (Value.tuple #[]), SV.val (Value.agg #[Value.int IntKind.i64 0, Value.int IntKind.i64 0, Value.int IntKind.i64 0, Value.int IntKind.i64 0, Value.int IntKind.i64 0, Value.int IntKind.i64 0, Value.int IntKind.i64 0, Value.int IntKind.i64 0]), SV.val (Value.agg #[Value.int IntKind.i64 y', Value.int IntKind.i64 m', Value.int IntKind.i64 d']), SV.val (Value.agg #[Value.int IntKind.i64 y, Value.int IntKind.i64 m, Value.int IntKind.i64 d]), SV.val (Value.int IntKind.i64 s), SV.val (Value.int IntKind.i64 s), SV.val (Value.bool false), SV.val (Value.tuple #[]), SV.val (Value.int IntKind.i64 1), SV.val (Value.bool true), SV.val (Value.int IntKind.i64 s), SV.ptr 1 0, SV.val (Value.int IntKind.i64 y'), SV.ptr 0 0, SV.val (Value.int IntKind.i64 y), SV.val (Value.int IntKind.i64 (y' - y)), SV.val (Value.int IntKind.i64 D), SV.val (Value.int IntKind.i64 D), SV.val (Value.bool true), SV.val (Value.int IntKind.i64 D), SV.val (Value.int IntKind.i64 k0), .any, .any, .any, .any, .any, .any, .any, .any, .any, .any, .any, .any, SV.val (Value.tuple #[]), SV.val (Value.tuple #[]), SV.val (Value.tuple #[]), SV.val (Value.tuple #[]), SV.val (Value.tuple #[]), SV.val (Value.tuple #[]), SV.val (Value.tuple #[]), SV.val (Value.tuple #[]), SV.val (Value.tuple #[]), SV.val (Value.tuple #[]), SV.val (Value.tuple #[]), SV.val (Value.tuple #[]), SV.val (Value.tuple #[]), SV.val (Value.tuple #[]), SV.val (Value.tuple #[]), SV.val (Value.tuple #[]), SV.val (Value.tuple #[]), SV.val (Value.tuple #[]), SV.val (Value.tuple #[]), SV.val (Value.tuple #[]), SV.val (Value.tuple #[]), SV.val (Value.tuple #[]), SV.val (Value.tuple #[]), SV.val (Value.tuple #[]), SV.val (Value.tuple #[]), SV.val (Value.tuple #[]), SV.val (Value.tuple #[]), SV.val (Value.tuple #[]), SV.val (Value.tuple #[]), SV.val (Value.tuple #[]), SV.val (Value.tuple #[]), SV.val (Value.tuple #[]), SV.val (Value.tuple #[]), SV.val (Value.tuple #[]), SV.val (Value.tuple #[]), SV.val (Value.tuple #[]), SV.val (Value.tuple #[]), SV.val (Value.tuple #[]), SV.val (Value.tuple #[]), SV.val (Value.tuple #[]), SV.val (Value.tuple #[]), SV.val (Value.tuple #[]), SV.val (Value.tuple #[]), SV.val (Value.tuple #[]), SV.val (Value.tuple #[]), SV.val (Value.tuple #[]), SV.val (Value.tuple #[]), SV.val (Value.tuple #[]), SV.val (Value.tuple #[]), SV.val (Value.tuple #[]), SV.val (Value.tuple #[]), SV.val (Value.tuple #[]), SV.val (Value.tuple #[]), SV.val (Value.tuple #[]), SV.val (Value.tuple #[]), SV.val (Value.tuple #[]), SV.val (Value.tuple #[]), SV.val (Value.tuple #[]), SV.val (Value.tuple #[]), SV.val (Value.tuple #[]), SV.val (Value.tuple #[]), SV.val (Value.tuple #[]), SV.val (Value.tuple #[]), SV.val (Value.tuple #[]), SV.val (Value.tuple #[]), SV.val (Value.tuple #[]), SV.val (Value.tuple #[]), SV.val (Value.tuple #[]), SV.val (Value.tuple #[]), SV.val (Value.tuple #[])], [⟨[SV.val (Value.int IntKind.i64 y), SV.val (Value.int IntKind.i64 m), SV.val (Value.int IntKind.i64 d)], 50⟩, ⟨[SV.val (Value.int IntKind.i64 y'), SV.val (Value.int IntKind.i64 m'), SV.val (Value.int IntKind.i64 d')], 50⟩, ⟨[SV.val (Value.int IntKind.i64 0), SV.val (Value.int IntKind.i64 0), SV.val (Value.int IntKind.i64 0), SV.val (Value.int IntKind.i64 0), SV.val (Value.int IntKind.i64 0), SV.val (Value.int IntKind.i64 0), SV.val (Value.int IntKind.i64 0), SV.val (Value.int IntKind.i64 0)], 41⟩, ⟨[SV.val (Value.int IntKind.i64 0), SV.val (Value.int IntKind.i64 0), SV.val (Value.int IntKind.i64 0), SV.val (Value.int IntKind.i64 0), SV.val (Value.int IntKind.i64 0), SV.val (Value.int IntKind.i64 0), SV.val (Value.int IntKind.i64 0), SV.val (Value.int IntKind.i64 0)], 41⟩])) (fun _ => _) (fun k => 0 ≤ k ∧ 12 * k ≤ N) (fun k => (N - k).toNat) (k0) (by kernel_rfl) (by kernel_rfl) Sub.refl (by first | omega | (simp; omega) | assumption | simp_all) (fun y0 px0 back0 => ?_)
      ((by_cases q0 : 12 * (y0 + 1) ≤ N) <;> have sU0 := sU y0 (by omega) (by omega) <;> have ek0 : ¬ 12 * (y0 + 1) ≤ N → s * y0 = s * K := fun q => by rw [show y0 = K by omega])
      · have _hh := True.intro
        refine st_i 89 .i64 (x' := y0 + 1) (Go.IntWalk.i64_in _ (by omega)) (by kernel_rfl) ?_
        refine st_i 90 .i64 (x' := s * (y0 + 1)) (Go.IntWalk.i64_in _ (by omega)) (by kernel_rfl) ?_
        refine st_fn ent80 (la1 (y0) (by omega) (by omega)) sub0 (by kernel_rfl) ?_
        refine st_fn ent79 (lbn1 (y0) (by assumption)) sub0 (by kernel_rfl) ?_
        refine st_i 95 .i64 (x' := y0 + 1) (Go.IntWalk.i64_in _ (by omega)) (by kernel_rfl) ?_
        refine st_forget [0, 1, 2, 3, 4, 5, 6, 7, 8, 9, 10, 11, 12, 13, 14, 15, 16, 17, 18, 19, 20, 21, 22, 23, 24, 25, 26, 27, 28, 29, 30, 31, 32, 33, 34, 35, 36, 37, 38, 39, 40, 41, 42, 43, 44, 45, 46, 47, 48, 49, 50, 51, 52, 53, 54, 55, 56, 57, 58, 59, 60, 61, 62, 63, 64, 65, 66, 67, 68, 69, 70, 71, 72, 73, 74, 75, 76, 77, 78, 79, 80, 81, 82, 83, 96, 97, 98, 99, 100, 101, 102, 103, 104, 105, 106, 107, 108, 109, 110, 111, 112, 113, 114, 115, 116, 117, 118, 119, 120, 121, 122, 123, 124, 125, 126, 127, 128, 129, 130, 131, 132, 133, 134, 135, 136, 137, 138, 139, 140, 141, 142, 143, 144, 145, 146, 147, 148, 149, 150, 151, 152, 153, 154, 155, 156, 157, 158, 159, 160, 161, 162, 163, 164, 165] (by kernel_rfl) ?_
        exact st_back back0 (y0 + 1) (by first | omega | (simp only []; omega) | (simp; omega)) (by first | omega | (simp only []; omega) | (simp; omega) | assumption | simp_all) (fun p hp => by first | exact hp | simp_all) (by kernel_rfl) (by kernel_rfl) (by kernel_rfl)
      · have _hh := True.intro
        refine st_i 89 .i64 (x' := y0 + 1) (Go.IntWalk.i64_in _ (by omega)) (by kernel_rfl) ?_
        refine st_i 90 .i64 (x' := s * (y0 + 1)) (Go.IntWalk.i64_in _ (by omega)) (by kernel_rfl) ?_
        refine st_fn ent80 (la1 (y0) (by omega) (by omega)) sub0 (by kernel_rfl) ?_
        refine st_fn ent79 (lby1 (y0) (by omega)) sub0 (by kernel_rfl) ?_
        refine st_i 98 IntKind.i64 (x := IntKind.i64.wrap (s * y0)) ((Go.IntWalk.i64_in (s * y0) (by omega)).trans ((ek0 q0))) (by kernel_rfl) ?_
        refine st_fn ent80 (la2) sub0 (by kernel_rfl) ?_
        refine st_i 109 .i64 (x' := y' - (y + s * K)) (Go.IntWalk.i64_in _ (by omega)) (by kernel_rfl) ?_
        refine st_i 110 .i64 (x' := 12 * (y' - (y + s * K))) (Go.IntWalk.i64_in _ (by omega)) (by kernel_rfl) ?_
        refine st_i 113 .i64 (x' := 12 * (y' - (y + s * K)) + m') (Go.IntWalk.i64_in _ (by omega)) (by kernel_rfl) ?_
        refine st_i 116 .i64 (x' := 12 * (y' - (y + s * K)) + m' - m) (Go.IntWalk.i64_in _ (by omega)) (by kernel_rfl) ?_
        refine st_i 117 IntKind.i64 (x := IntKind.i64.wrap (s * (12 * (y' - (y + s * K)) + m' - m))) ((Go.IntWalk.i64_in (s * (12 * (y' - (y + s * K)) + m' - m)) (by omega)).trans (hD2)) (by kernel_rfl) ?_
        refine st_b 119 (show (decide (D2 > 0)) = true by exact decide_eq_true (by omega)) (by kernel_rfl) ?_
        refine st_i 121 IntKind.i64 (x := IntKind.i64.wrap (D2 - 1)) ((Go.IntWalk.i64_in (D2 - 1) (by omega)).trans (hk1)) (by kernel_rfl) ?_
        refine st_forget [0, 1, 2, 3, 4, 5, 6, 7, 8, 9, 10, 11, 12, 13, 14, 15, 16, 17, 18, 19, 20, 21, 22, 23, 24, 25, 26, 27, 28, 29, 30, 31, 32, 33, 34, 35, 36, 37, 38, 39, 40, 41, 42, 43, 44, 45, 46, 47, 48, 49, 50, 51, 52, 53, 54, 55, 56, 57, 58, 59, 60, 61, 62, 63, 64, 65, 66, 67, 68, 69, 70, 71, 72, 73, 74, 75, 76, 77, 78, 79, 80, 81, 82, 83, 84, 85, 86, 87, 88, 89, 90, 91, 92, 93, 94, 95, 96, 97, 98, 99, 100, 101, 102, 103, 104, 105, 106, 107, 108, 109, 110, 111, 112, 113, 114, 115, 116, 117, 118, 119, 120, 121, 136, 137, 138, 139, 140, 141, 142, 143, 144, 145, 146, 147, 148, 149, 150, 151, 152, 153, 154, 155, 156, 157, 158, 159, 160, 161, 162, 163, 164, 165] (by kernel_rfl) ?_
        refine st_loop (X := Int) (fun x => ([SV.val (Value.agg #[Value.int IntKind.i64 y, Value.int IntKind.i64 m, Value.int IntKind.i64 d]), SV.val (Value.agg #[Value.int IntKind.i64 y', Value.int IntKind.i64 m', Value.int IntKind.i64 d']), SV.val (Value.int IntKind.i64 1), SV.ptr 0 0, SV.ptr 1 0, SV.val (Value.tuple #[]), SV.ptr 2 0, SV.val (Value.int IntKind.i64 0), SV.val (Value.int IntKind.i64 (dnum y m d)), SV.val (Value.bool true), SV.val (Value.int IntKind.i64 n'), SV.val (Value.bool true), SV.ptr 3 0, SV.val (Value.int IntKind.i64 s), SV.val (Value.int IntKind.i64 y0), SV.ptr 4 0, .val (.int .i64 x), SV.val (Value.tuple #[]), SV.val (Value.tuple #[]), SV.val (Value.tuple #[]), SV.val (Value.tuple #[]), SV.val (Value.tuple #[]), SV.val (Value.tuple #[Value.int IntKind.i64 (dnum y m d), Value.bool true]), SV.val (Value.agg #[Value.int IntKind.i64 y, Value.int IntKind.i64 m, Value.int IntKind.i64 d]), SV.val (Value.tuple #[Value.int IntKind.i64 (dnum y m d), Value.bool true]), SV.val (Value.int IntKind.i64 (dnum y m d)), SV.val (Value.bool true), SV.val (Value.tuple #[Value.int IntKind.i64 n', Value.bool true]), SV.val (Value.agg #[Value.int IntKind.i64 y', Value.int IntKind.i64 m', Value.int IntKind.i64 d']), SV.val (Value.tuple #[Value.int IntKind.i64 n', Value.bool true]), SV.val (Value.int IntKind.i64 n'), SV.val (Value.bool true), SV.val (Value.bool true), SV.val (Value.bool false), SV.val (Value.bool false), SV.val (Value.bool true), SV.val (Value.bool false), SV.val (Value.bool false), SV.val (Value.bool false), SV.val (Value.int IntKind.i64 1), SV.val (Value.bool false), SV.val (Value.bool false), SV.val (Value.bool false), SV.val (Value.int IntKind.i64 1), SV.val (Value.bool false), SV.val (Value.bool false), SV.val (Value.tuple #[]), SV.val (Value.int IntKind.i64 1), SV.val (Value.bool false), SV.val (Value.tuple #[]), SV.val (Value.tuple #[]), SV.val (Value.tuple #[]), SV.val (Value.tuple #[]), SV.val (Value.int IntKind.i64 1), SV.val (Value.bool false), SV.val (Value.tuple #[]), SV.val (Value.tuple #[]), SV.val (Value.tuple #[]), SV.val (Value.tuple #[]), SV.val (Value.tuple #[]), SV.val (Value.tuple #[]), SV.val (Value.tuple #[]), SV.val (Value.tuple #[]), SV.val (Value.tuple #[]), SV.val (Value.agg #[Value.int IntKind.i64 0, Value.int IntKind.i64 0, Value.int IntKind.i64 0, Value.int IntKind.i64 0, Value.int IntKind.i64 0, Value.int IntKind.i64 0, Value.int IntKind.i64 0, Value.int IntKind.i64 0]), SV.val (Value.agg #[Value.int IntKind.i64 y', Value.int IntKind.i64 m', Value.int IntKind.i64 d']), SV.val (Value.agg #[Value.int IntKind.i64 y, Value.int IntKind.i64 m, Value.int IntKind.i64 d]), SV.val (Value.int IntKind.i64 s), SV.val (Value.int IntKind.i64 s), SV.val (Value.bool false), SV.val (Value.tuple #[]), SV.val (Value.int IntKind.i64 1), SV.val (Value.bool true), SV.val (Value.int IntKind.i64 s), SV.ptr 1 0, SV.val (Value.int IntKind.i64 y'), SV.ptr 0 0, SV.val (Value.int IntKind.i64 y), SV.val (Value.int IntKind.i64 (y' - y)), SV.val (Value.int IntKind.i64 D), SV.val (Value.int IntKind.i64 D), SV.val (Value.bool true), SV.val (Value.int IntKind.i64 D), SV.val (Value.int IntKind.i64 k0), SV.val (Value.agg #[Value.int IntKind.i64 y, Value.int IntKind.i64 m, Value.int IntKind.i64 d]), SV.val (Value.agg #[Value.int IntKind.i64 y', Value.int IntKind.i64 m', Value.int IntKind.i64 d']), SV.val (Value.agg #[Value.int IntKind.i64 y, Value.int IntKind.i64 m, Value.int IntKind.i64 d]), SV.val (Value.int IntKind.i64 s), SV.val (Value.int IntKind.i64 y0), SV.val (Value.int IntKind.i64 (y0 + 1)), SV.val (Value.int IntKind.i64 (s * (y0 + 1))), SV.val (Value.agg #[Value.int IntKind.i64 (lY (ymi y m + s * (12 * (y0 + 1)))), Value.int IntKind.i64 (lM (ymi y m + s * (12 * (y0 + 1)))), Value.int IntKind.i64 d]), SV.val (Value.bool true), SV.val (Value.bool false), SV.any, SV.any, SV.val (Value.int IntKind.i64 s), SV.val (Value.int IntKind.i64 y0), SV.val (Value.int IntKind.i64 (s * K)), SV.ptr 3 0, SV.val (Value.agg #[Value.int IntKind.i64 y, Value.int IntKind.i64 m, Value.int IntKind.i64 d]), SV.ptr 3 0, SV.val (Value.int IntKind.i64 (s * K)), SV.val (Value.agg #[Value.int IntKind.i64 (y + s * K), Value.int IntKind.i64 m, Value.int IntKind.i64 d]), SV.val (Value.int IntKind.i64 s), SV.ptr 1 0, SV.val (Value.int IntKind.i64 y'), SV.ptr 4 0, SV.val (Value.int IntKind.i64 (y + s * K)), SV.val (Value.int IntKind.i64 (y' - (y + s * K))), SV.val (Value.int IntKind.i64 (12 * (y' - (y + s * K)))), SV.ptr 1 1, SV.val (Value.int IntKind.i64 m'), SV.val (Value.int IntKind.i64 (12 * (y' - (y + s * K)) + m')), SV.ptr 4 1, SV.val (Value.int IntKind.i64 m), SV.val (Value.int IntKind.i64 (12 * (y' - (y + s * K)) + m' - m)), SV.val (Value.int IntKind.i64 D2), SV.val (Value.int IntKind.i64 D2), SV.val (Value.bool true), SV.val (Value.int IntKind.i64 D2), SV.val (Value.int IntKind.i64 k1), .any, .any, .any, .any, .any, .any, .any, .any, .any, .any, .any, .any, .any, .any, SV.val (Value.tuple #[]), SV.val (Value.tuple #[]), SV.val (Value.tuple #[]), SV.val (Value.tuple #[]), SV.val (Value.tuple #[]), SV.val (Value.tuple #[]), SV.val (Value.tuple #[]), SV.val (Value.tuple #[]), SV.val (Value.tuple #[]), SV.val (Value.tuple #[]), SV.val (Value.tuple #[]), SV.val (Value.tuple #[]), SV.val (Value.tuple #[]), SV.val (Value.tuple #[]), SV.val (Value.tuple #[]), SV.val (Value.tuple #[]), SV.val (Value.tuple #[]), SV.val (Value.tuple #[]), SV.val (Value.tuple #[]), SV.val (Value.tuple #[]), SV.val (Value.tuple #[]), SV.val (Value.tuple #[]), SV.val (Value.tuple #[]), SV.val (Value.tuple #[]), SV.val (Value.tuple #[]), SV.val (Value.tuple #[]), SV.val (Value.tuple #[]), SV.val (Value.tuple #[]), SV.val (Value.tuple #[]), SV.val (Value.tuple #[])], [⟨[SV.val (Value.int IntKind.i64 y), SV.val (Value.int IntKind.i64 m), SV.val (Value.int IntKind.i64 d)], 50⟩, ⟨[SV.val (Value.int IntKind.i64 y'), SV.val (Value.int IntKind.i64 m'), SV.val (Value.int IntKind.i64 d')], 50⟩, ⟨[SV.val (Value.int IntKind.i64 0), SV.val (Value.int IntKind.i64 0), SV.val (Value.int IntKind.i64 0), SV.val (Value.int IntKind.i64 0), SV.val (Value.int IntKind.i64 0), SV.val (Value.int IntKind.i64 0), SV.val (Value.int IntKind.i64 0), SV.val (Value.int IntKind.i64 0)], 41⟩, ⟨[SV.val (Value.int IntKind.i64 (s * K)), SV.val (Value.int IntKind.i64 0), SV.val (Value.int IntKind.i64 0), SV.val (Value.int IntKind.i64 0), SV.val (Value.int IntKind.i64 0), SV.val (Value.int IntKind.i64 0), SV.val (Value.int IntKind.i64 0), SV.val (Value.int IntKind.i64 0)], 41⟩, ⟨[SV.val (Value.int IntKind.i64 (y + s * K)), SV.val (Value.int IntKind.i64 m), SV.val (Value.int IntKind.i64 d)], 50⟩])) (fun _ => _) (fun k => 0 ≤ k ∧ 12 * K + k ≤ N) (fun k => (N - k).toNat) (k1) (by kernel_rfl) (by kernel_rfl) Sub.refl (by first | omega | (simp; omega) | assumption | simp_all) (fun y1 px1 back1 => ?_)
        ((by_cases q1 : 12 * K + (y1 + 1) ≤ N) <;> have sU1 := sU y1 (by omega) (by omega) <;> have ek1 : ¬ 12 * K + (y1 + 1) ≤ N → s * y1 = s * M := fun q => by rw [show y1 = M by omega])
        · have _hh := True.intro
          refine st_i 129 .i64 (x' := y1 + 1) (Go.IntWalk.i64_in _ (by omega)) (by kernel_rfl) ?_
          refine st_i 130 .i64 (x' := s * (y1 + 1)) (Go.IntWalk.i64_in _ (by omega)) (by kernel_rfl) ?_
          refine st_fn ent80 (la3 (y1) (by omega) (by omega)) sub0 (by kernel_rfl) ?_
          refine st_fn ent79 (lbn3 (y1) (by assumption)) sub0 (by kernel_rfl) ?_
          refine st_i 135 .i64 (x' := y1 + 1) (Go.IntWalk.i64_in _ (by omega)) (by kernel_rfl) ?_
          refine st_forget [0, 1, 2, 3, 4, 5, 6, 7, 8, 9, 10, 11, 12, 13, 14, 15, 16, 17, 18, 19, 20, 21, 22, 23, 24, 25, 26, 27, 28, 29, 30, 31, 32, 33, 34, 35, 36, 37, 38, 39, 40, 41, 42, 43, 44, 45, 46, 47, 48, 49, 50, 51, 52, 53, 54, 55, 56, 57, 58, 59, 60, 61, 62, 63, 64, 65, 66, 67, 68, 69, 70, 71, 72, 73, 74, 75, 76, 77, 78, 79, 80, 81, 82, 83, 84, 85, 86, 87, 88, 89, 90, 91, 92, 93, 94, 95, 96, 97, 98, 99, 100, 101, 102, 103, 104, 105, 106, 107, 108, 109, 110, 111, 112, 113, 114, 115, 116, 117, 118, 119, 120, 121, 136, 137, 138, 139, 140, 141, 142, 143, 144, 145, 146, 147, 148, 149, 150, 151, 152, 153, 154, 155, 156, 157, 158, 159, 160, 161, 162, 163, 164, 165] (by kernel_rfl) ?_
          exact st_back back1 (y1 + 1) (by first | omega | (simp only []; omega) | (simp; omega)) (by first | omega | (simp only []; omega) | (simp; omega) | assumption | simp_all) (fun p hp => by first | exact hp | simp_all) (by kernel_rfl) (by kernel_rfl) (by kernel_rfl)
        · have _hh := True.intro
          refine st_i 129 .i64 (x' := y1 + 1) (Go.IntWalk.i64_in _ (by omega)) (by kernel_rfl) ?_
          refine st_i 130 .i64 (x' := s * (y1 + 1)) (Go.IntWalk.i64_in _ (by omega)) (by kernel_rfl) ?_
          refine st_fn ent80 (la3 (y1) (by omega) (by omega)) sub0 (by kernel_rfl) ?_
          refine st_fn ent79 (lby3 (y1) (by omega)) sub0 (by kernel_rfl) ?_
          refine st_i 138 IntKind.i64 (x := IntKind.i64.wrap (s * y1)) ((Go.IntWalk.i64_in (s * y1) (by omega)).trans ((ek1 q1))) (by kernel_rfl) ?_
          refine st_fn ent80 (la4) sub0 (by kernel_rfl) ?_
          refine st_fn ent81 (lr) sub0 (by kernel_rfl) ?_
          refine st_fn ent77 (ld3) sub0 (by kernel_rfl) ?_
          refine st_i 163 .i64 (x' := n' - n'') (Go.IntWalk.i64_in _ (by omega)) (by kernel_rfl) ?_
          exact st_ret Try.func26 (by kernel_rfl)
    · obtain ⟨k1, hk1⟩ : ∃ k1, k1 = D2 := ⟨_, rfl⟩
      refine fn_of Try.func26 rfl fun ww => ?_
      refine st_fn ent77 (ld1) sub0 (by kernel_rfl) ?_
      refine st_fn ent77 (ld2) sub0 (by kernel_rfl) ?_
      refine st_fn ent78 (cc) sub0 (by kernel_rfl) ?_
      refine st_b 69 (show (s == 0) = false by exact decide_eq_false (by omega)) (by kernel_rfl) ?_
      refine st_i 78 .i64 (x' := y' - y) (Go.IntWalk.i64_in _ (by omega)) (by kernel_rfl) ?_
      refine st_i 79 IntKind.i64 (x := IntKind.i64.wrap (s * (y' - y))) ((Go.IntWalk.i64_in (s * (y' - y)) (by omega)).trans (hD)) (by kernel_rfl) ?_
      refine st_b 81 (show (decide (D > 0)) = true by exact decide_eq_true (by omega)) (by kernel_rfl) ?_
      refine st_i 83 IntKind.i64 (x := IntKind.i64.wrap (D - 1)) ((Go.IntWalk.i64_in (D - 1) (by omega)).trans (hk0)) (by kernel_rfl) ?_
      refine st_forget [0, 1, 2, 3, 4, 5, 6, 7, 8, 9, 10, 11, 12, 13, 14, 15, 16, 17, 18, 19, 20, 21, 22, 23, 24, 25, 26, 27, 28, 29, 30, 31, 32, 33, 34, 35, 36, 37, 38, 39, 40, 41, 42, 43, 44, 45, 46, 47, 48, 49, 50, 51, 52, 53, 54, 55, 56, 57, 58, 59, 60, 61, 62, 63, 64, 65, 66, 67, 68, 69, 70, 71, 72, 73, 74, 75, 76, 77, 78, 79, 80, 81, 82, 83, 96, 97, 98, 99, 100, 101, 102, 103, 104, 105, 106, 107, 108, 109, 110, 111, 112, 113, 114, 115, 116, 117, 118, 119, 120, 121, 122, 123, 124, 125, 126, 127, 128, 129, 130, 131, 132, 133, 134, 135, 136, 137, 138, 139, 140, 141, 142, 143, 144, 145, 146, 147, 148, 149, 150, 151, 152, 153, 154, 155, 156, 157, 158, 159, 160, 161, 162, 163, 164, 165] (by kernel_rfl) ?_
      refine st_loop (X := Int) (fun x => ([SV.val (Value.agg #[Value.int IntKind.i64 y, Value.int IntKind.i64 m, Value.int IntKind.i64 d]), SV.val (Value.agg #[Value.int IntKind.i64 y', Value.int IntKind.i64 m', Value.int IntKind.i64 d']), SV.val (Value.int IntKind.i64 1), SV.ptr 0 0, SV.ptr 1 0, SV.val (Value.tuple #[]), SV.ptr 2 0, SV.val (Value.int IntKind.i64 0), SV.val (Value.int IntKind.i64 (dnum y m d)), SV.val (Value.bool true), SV.val (Value.int IntKind.i64 n'), SV.val (Value.bool true), SV.ptr 3 0, SV.val (Value.int IntKind.i64 s), .val (.int .i64 x), SV.val (Value.tuple #[]), SV.val (Value.tuple #[]), SV.val (Value.tuple #[]), SV.val (Value.tuple #[]), SV.val (Value.tuple #[]), SV.val (Value.tuple #[]), SV.val (Value.tuple #[]), SV.val (Value.tuple #[Value.int IntKind.i64 (dnum y m d), Value.bool true]), SV.val (Value.agg #[Value.int IntKind.i64 y, Value.int IntKind.i64 m, Value.int IntKind.i64 d]), SV.val (Value.tuple #[Value.int IntKind.i64 (dnum y m d), Value.bool true]), SV.val (Value.int IntKind.i64 (dnum y m d)), SV.val (Value.bool true), SV.val (Value.tuple #[Value.int IntKind.i64 n', Value.bool true]), SV.val (Value.agg #[Value.int IntKind.i64 y', Value.int IntKind.i64 m', Value.int IntKind.i64 d']), SV.val (Value.tuple #[Value.int IntKind.i64 n', Value.bool true]), SV.val (Value.int IntKind.i64 n'), SV.val (Value.bool true), SV.val (Value.bool true), SV.val (Value.bool false), SV.val (Value.bool false), SV.val (Value.bool true), SV.val (Value.bool false), SV.val (Value.bool false), SV.val (Value.bool false), SV.val (Value.int IntKind.i64 1), SV.val (Value.bool false), SV.val (Value.bool false), SV.val (Value.bool false), SV.val (Value.int IntKind.i64 1), SV.val (Value.bool false), SV.val (Value.bool false), SV.val (Value.tuple #[]), SV.val (Value.int IntKind.i64 1), SV.val (Value.bool false), SV.val (Value.tuple #[]), SV.val (Value.tuple #[]), SV.val (Value.tuple #[]), SV.val (Value.tuple #[]), SV.val (Value.int IntKind.i64 1), SV.val (Value.bool false), SV.val (Value.tuple #[]), SV.val (Value.tuple #[]), SV.val (Value.tuple #[]), SV.val (Value.tuple #[]), SV.val (Value.tuple #[]), SV.val (Value.tuple #[]), SV.val (Value.tuple #[]), SV.val (Value.tuple #[]), SV.val (Value.tuple #[]), SV.val (Value.agg #[Value.int IntKind.i64 0, Value.int IntKind.i64 0, Value.int IntKind.i64 0, Value.int IntKind.i64 0, Value.int IntKind.i64 0, Value.int IntKind.i64 0, Value.int IntKind.i64 0, Value.int IntKind.i64 0]), SV.val (Value.agg #[Value.int IntKind.i64 y', Value.int IntKind.i64 m', Value.int IntKind.i64 d']), SV.val (Value.agg #[Value.int IntKind.i64 y, Value.int IntKind.i64 m, Value.int IntKind.i64 d]), SV.val (Value.int IntKind.i64 s), SV.val (Value.int IntKind.i64 s), SV.val (Value.bool false), SV.val (Value.tuple #[]), SV.val (Value.int IntKind.i64 1), SV.val (Value.bool true), SV.val (Value.int IntKind.i64 s), SV.ptr 1 0, SV.val (Value.int IntKind.i64 y'), SV.ptr 0 0, SV.val (Value.int IntKind.i64 y), SV.val (Value.int IntKind.i64 (y' - y)), SV.val (Value.int IntKind.i64 D), SV.val (Value.int IntKind.i64 D), SV.val (Value.bool true), SV.val (Value.int IntKind.i64 D), SV.val (Value.int IntKind.i64 k0), .any, .any, .any, .any, .any, .any, .any, .any, .any, .any, .any, .any, SV.val (Value.tuple #[]), SV.val (Value.tuple #[]), SV.val (Value.tuple #[]), SV.val (Value.tuple #[]), SV.val (Value.tuple #[]), SV.val (Value.tuple #[]), SV.val (Value.tuple #[]), SV.val (Value.tuple #[]), SV.val (Value.tuple #[]), SV.val (Value.tuple #[]), SV.val (Value.tuple #[]), SV.val (Value.tuple #[]), SV.val (Value.tuple #[]), SV.val (Value.tuple #[]), SV.val (Value.tuple #[]), SV.val (Value.tuple #[]), SV.val (Value.tuple #[]), SV.val (Value.tuple #[]), SV.val (Value.tuple #[]), SV.val (Value.tuple #[]), SV.val (Value.tuple #[]), SV.val (Value.tuple #[]), SV.val (Value.tuple #[]), SV.val (Value.tuple #[]), SV.val (Value.tuple #[]), SV.val (Value.tuple #[]), SV.val (Value.tuple #[]), SV.val (Value.tuple #[]), SV.val (Value.tuple #[]), SV.val (Value.tuple #[]), SV.val (Value.tuple #[]), SV.val (Value.tuple #[]), SV.val (Value.tuple #[]), SV.val (Value.tuple #[]), SV.val (Value.tuple #[]), SV.val (Value.tuple #[]), SV.val (Value.tuple #[]), SV.val (Value.tuple #[]), SV.val (Value.tuple #[]), SV.val (Value.tuple #[]), SV.val (Value.tuple #[]), SV.val (Value.tuple #[]), SV.val (Value.tuple #[]), SV.val (Value.tuple #[]), SV.val (Value.tuple #[]), SV.val (Value.tuple #[]), SV.val (Value.tuple #[]), SV.val (Value.tuple #[]), SV.val (Value.tuple #[]), SV.val (Value.tuple #[]), SV.val (Value.tuple #[]), SV.val (Value.tuple #[]), SV.val (Value.tuple #[]), SV.val (Value.tuple #[]), SV.val (Value.tuple #[]), SV.val (Value.tuple #[]), SV.val (Value.tuple #[]), SV.val (Value.tuple #[]), SV.val (Value.tuple #[]), SV.val (Value.tuple #[]), SV.val (Value.tuple #[]), SV.val (Value.tuple #[]), SV.val (Value.tuple #[]), SV.val (Value.tuple #[]), SV.val (Value.tuple #[]), SV.val (Value.tuple #[]), SV.val (Value.tuple #[]), SV.val (Value.tuple #[]), SV.val (Value.tuple #[]), SV.val (Value.tuple #[])], [⟨[SV.val (Value.int IntKind.i64 y), SV.val (Value.int IntKind.i64 m), SV.val (Value.int IntKind.i64 d)], 50⟩, ⟨[SV.val (Value.int IntKind.i64 y'), SV.val (Value.int IntKind.i64 m'), SV.val (Value.int IntKind.i64 d')], 50⟩, ⟨[SV.val (Value.int IntKind.i64 0), SV.val (Value.int IntKind.i64 0), SV.val (Value.int IntKind.i64 0), SV.val (Value.int IntKind.i64 0), SV.val (Value.int IntKind.i64 0), SV.val (Value.int IntKind.i64 0), SV.val (Value.int IntKind.i64 0), SV.val (Value.int IntKind.i64 0)], 41⟩, ⟨[SV.val (Value.int IntKind.i64 0), SV.val (Value.int IntKind.i64 0), SV.val (Value.int IntKind.i64 0), SV.val (Value.int IntKind.i64 0), SV.val (Value.int IntKind.i64 0), SV.val (Value.int IntKind.i64 0), SV.val (Value.int IntKind.i64 0), SV.val (Value.int IntKind.i64 0)], 41⟩])) (fun _ => _) (fun k => 0 ≤ k ∧ 12 * k ≤ N) (fun k => (N - k).toNat) (k0) (by kernel_rfl) (by kernel_rfl) Sub.refl (by first | omega | (simp; omega) | assumption | simp_all) (fun y0 px0 back0 => ?_)
      ((by_cases q0 : 12 * (y0 + 1) ≤ N) <;> have sU0 := sU y0 (by omega) (by omega) <;> have ek0 : ¬ 12 * (y0 + 1) ≤ N → s * y0 = s * K := fun q => by rw [show y0 = K by omega])
      · have _hh := True.intro
        refine st_i 89 .i64 (x' := y0 + 1) (Go.IntWalk.i64_in _ (by omega)) (by kernel_rfl) ?_
        refine st_i 90 .i64 (x' := s * (y0 + 1)) (Go.IntWalk.i64_in _ (by omega)) (by kernel_rfl) ?_
        refine st_fn ent80 (la1 (y0) (by omega) (by omega)) sub0 (by kernel_rfl) ?_
        refine st_fn ent79 (lbn1 (y0) (by assumption)) sub0 (by kernel_rfl) ?_
        refine st_i 95 .i64 (x' := y0 + 1) (Go.IntWalk.i64_in _ (by omega)) (by kernel_rfl) ?_
        refine st_forget [0, 1, 2, 3, 4, 5, 6, 7, 8, 9, 10, 11, 12, 13, 14, 15, 16, 17, 18, 19, 20, 21, 22, 23, 24, 25, 26, 27, 28, 29, 30, 31, 32, 33, 34, 35, 36, 37, 38, 39, 40, 41, 42, 43, 44, 45, 46, 47, 48, 49, 50, 51, 52, 53, 54, 55, 56, 57, 58, 59, 60, 61, 62, 63, 64, 65, 66, 67, 68, 69, 70, 71, 72, 73, 74, 75, 76, 77, 78, 79, 80, 81, 82, 83, 96, 97, 98, 99, 100, 101, 102, 103, 104, 105, 106, 107, 108, 109, 110, 111, 112, 113, 114, 115, 116, 117, 118, 119, 120, 121, 122, 123, 124, 125, 126, 127, 128, 129, 130, 131, 132, 133, 134, 135, 136, 137, 138, 139, 140, 141, 142, 143, 144, 145, 146, 147, 148, 149, 150, 151, 152, 153, 154, 155, 156, 157, 158, 159, 160, 161, 162, 163, 164, 165] (by kernel_rfl) ?_
        exact st_back back0 (y0 + 1) (by first | omega | (simp only []; omega) | (simp; omega)) (by first | omega | (simp only []; omega) | (simp; omega) | assumption | simp_all) (fun p hp => by first | exact hp | simp_all) (by kernel_rfl) (by kernel_rfl) (by kernel_rfl)
      · have _hh := True.intro
        refine st_i 89 .i64 (x' := y0 + 1) (Go.IntWalk.i64_in _ (by omega)) (by kernel_rfl) ?_
        refine st_i 90 .i64 (x' := s * (y0 + 1)) (Go.IntWalk.i64_in _ (by omega)) (by kernel_rfl) ?_
        refine st_fn ent80 (la1 (y0) (by omega) (by omega)) sub0 (by kernel_rfl) ?_
        refine st_fn ent79 (lby1 (y0) (by omega)) sub0 (by kernel_rfl) ?_
        refine st_i 98 IntKind.i64 (x := IntKind.i64.wrap (s * y0)) ((Go.IntWalk.i64_in (s * y0) (by omega)).trans ((ek0 q0))) (by kernel_rfl) ?_
        refine st_fn ent80 (la2) sub0 (by kernel_rfl) ?_
        refine st_i 109 .i64 (x' := y' - (y + s * K)) (Go.IntWalk.i64_in _ (by omega)) (by kernel_rfl) ?_
        refine st_i 110 .i64 (x' := 12 * (y' - (y + s * K))) (Go.IntWalk.i64_in _ (by omega)) (by kernel_rfl) ?_
        refine st_i 113 .i64 (x' := 12 * (y' - (y + s * K)) + m') (Go.IntWalk.i64_in _ (by omega)) (by kernel_rfl) ?_
        refine st_i 116 .i64 (x' := 12 * (y' - (y + s * K)) + m' - m) (Go.IntWalk.i64_in _ (by omega)) (by kernel_rfl) ?_
        refine st_i 117 IntKind.i64 (x := IntKind.i64.wrap (s * (12 * (y' - (y + s * K)) + m' - m))) ((Go.IntWalk.i64_in (s * (12 * (y' - (y + s * K)) + m' - m)) (by omega)).trans ((hD2.trans hk1.symm))) (by kernel_rfl) ?_
        refine st_b 119 (show (decide (k1 > 0)) = false by exact decide_eq_false (by omega)) (by kernel_rfl) ?_
        refine st_forget [0, 1, 2, 3, 4, 5, 6, 7, 8, 9, 10, 11, 12, 13, 14, 15, 16, 17, 18, 19, 20, 21, 22, 23, 24, 25, 26, 27, 28, 29, 30, 31, 32, 33, 34, 35, 36, 37, 38, 39, 40, 41, 42, 43, 44, 45, 46, 47, 48, 49, 50, 51, 52, 53, 54, 55, 56, 57, 58, 59, 60, 61, 62, 63, 64, 65, 66, 67, 68, 69, 70, 71, 72, 73, 74, 75, 76, 77, 78, 79, 80, 81, 82, 83, 84, 85, 86, 87, 88, 89, 90, 91, 92, 93, 94, 95, 96, 97, 98, 99, 100, 101, 102, 103, 104, 105, 106, 107, 108, 109, 110, 111, 112, 113, 114, 115, 116, 117, 118, 119, 120, 121, 136, 137, 138, 139, 140, 141, 142, 143, 144, 145, 146, 147, 148, 149, 150, 151, 152, 153, 154, 155, 156, 157, 158, 159, 160, 161, 162, 163, 164, 165] (by kernel_rfl) ?_
        refine st_loop (X := Int) (fun x => ([SV.val (Value.agg #[Value.int IntKind.i64 y, Value.int IntKind.i64 m, Value.int IntKind.i64 d]), SV.val (Value.agg #[Value.int IntKind.i64 y', Value.int IntKind.i64 m', Value.int IntKind.i64 d']), SV.val (Value.int IntKind.i64 1), SV.ptr 0 0, SV.ptr 1 0, SV.val (Value.tuple #[]), SV.ptr 2 0, SV.val (Value.int IntKind.i64 0), SV.val (Value.int IntKind.i64 (dnum y m d)), SV.val (Value.bool true), SV.val (Value.int IntKind.i64 n'), SV.val (Value.bool true), SV.ptr 3 0, SV.val (Value.int IntKind.i64 s), SV.val (Value.int IntKind.i64 y0), SV.ptr 4 0, .val (.int .i64 x), SV.val (Value.tuple #[]), SV.val (Value.tuple #[]), SV.val (Value.tuple #[]), SV.val (Value.tuple #[]), SV.val (Value.tuple #[]), SV.val (Value.tuple #[Value.int IntKind.i64 (dnum y m d), Value.bool true]), SV.val (Value.agg #[Value.int IntKind.i64 y, Value.int IntKind.i64 m, Value.int IntKind.i64 d]), SV.val (Value.tuple #[Value.int IntKind.i64 (dnum y m d), Value.bool true]), SV.val (Value.int IntKind.i64 (dnum y m d)), SV.val (Value.bool true), SV.val (Value.tuple #[Value.int IntKind.i64 n', Value.bool true]), SV.val (Value.agg #[Value.int IntKind.i64 y', Value.int IntKind.i64 m', Value.int IntKind.i64 d']), SV.val (Value.tuple #[Value.int IntKind.i64 n', Value.bool true]), SV.val (Value.int IntKind.i64 n'), SV.val (Value.bool true), SV.val (Value.bool true), SV.val (Value.bool false), SV.val (Value.bool false), SV.val (Value.bool true), SV.val (Value.bool false), SV.val (Value.bool false), SV.val (Value.bool false), SV.val (Value.int IntKind.i64 1), SV.val (Value.bool false), SV.val (Value.bool false), SV.val (Value.bool false), SV.val (Value.int IntKind.i64 1), SV.val (Value.bool false), SV.val (Value.bool false), SV.val (Value.tuple #[]), SV.val (Value.int IntKind.i64 1), SV.val (Value.bool false), SV.val (Value.tuple #[]), SV.val (Value.tuple #[]), SV.val (Value.tuple #[]), SV.val (Value.tuple #[]), SV.val (Value.int IntKind.i64 1), SV.val (Value.bool false), SV.val (Value.tuple #[]), SV.val (Value.tuple #[]), SV.val (Value.tuple #[]), SV.val (Value.tuple #[]), SV.val (Value.tuple #[]), SV.val (Value.tuple #[]), SV.val (Value.tuple #[]), SV.val (Value.tuple #[]), SV.val (Value.tuple #[]), SV.val (Value.agg #[Value.int IntKind.i64 0, Value.int IntKind.i64 0, Value.int IntKind.i64 0, Value.int IntKind.i64 0, Value.int IntKind.i64 0, Value.int IntKind.i64 0, Value.int IntKind.i64 0, Value.int IntKind.i64 0]), SV.val (Value.agg #[Value.int IntKind.i64 y', Value.int IntKind.i64 m', Value.int IntKind.i64 d']), SV.val (Value.agg #[Value.int IntKind.i64 y, Value.int IntKind.i64 m, Value.int IntKind.i64 d]), SV.val (Value.int IntKind.i64 s), SV.val (Value.int IntKind.i64 s), SV.val (Value.bool false), SV.val (Value.tuple #[]), SV.val (Value.int IntKind.i64 1), SV.val (Value.bool true), SV.val (Value.int IntKind.i64 s), SV.ptr 1 0, SV.val (Value.int IntKind.i64 y'), SV.ptr 0 0, SV.val (Value.int IntKind.i64 y), SV.val (Value.int IntKind.i64 (y' - y)), SV.val (Value.int IntKind.i64 D), SV.val (Value.int IntKind.i64 D), SV.val (Value.bool true), SV.val (Value.int IntKind.i64 D), SV.val (Value.int IntKind.i64 k0), SV.val (Value.agg #[Value.int IntKind.i64 y, Value.int IntKind.i64 m, Value.int IntKind.i64 d]), SV.val (Value.agg #[Value.int IntKind.i64 y', Value.int IntKind.i64 m', Value.int IntKind.i64 d']), SV.val (Value.agg #[Value.int IntKind.i64 y, Value.int IntKind.i64 m, Value.int IntKind.i64 d]), SV.val (Value.int IntKind.i64 s), SV.val (Value.int IntKind.i64 y0), SV.val (Value.int IntKind.i64 (y0 + 1)), SV.val (Value.int IntKind.i64 (s * (y0 + 1))), SV.val (Value.agg #[Value.int IntKind.i64 (lY (ymi y m + s * (12 * (y0 + 1)))), Value.int IntKind.i64 (lM (ymi y m + s * (12 * (y0 + 1)))), Value.int IntKind.i64 d]), SV.val (Value.bool true), SV.val (Value.bool false), SV.any, SV.any, SV.val (Value.int IntKind.i64 s), SV.val (Value.int IntKind.i64 y0), SV.val (Value.int IntKind.i64 (s * K)), SV.ptr 3 0, SV.val (Value.agg #[Value.int IntKind.i64 y, Value.int IntKind.i64 m, Value.int IntKind.i64 d]), SV.ptr 3 0, SV.val (Value.int IntKind.i64 (s * K)), SV.val (Value.agg #[Value.int IntKind.i64 (y + s * K), Value.int IntKind.i64 m, Value.int IntKind.i64 d]), SV.val (Value.int IntKind.i64 s), SV.ptr 1 0, SV.val (Value.int IntKind.i64 y'), SV.ptr 4 0, SV.val (Value.int IntKind.i64 (y + s * K)), SV.val (Value.int IntKind.i64 (y' - (y + s * K))), SV.val (Value.int IntKind.i64 (12 * (y' - (y + s * K)))), SV.ptr 1 1, SV.val (Value.int IntKind.i64 m'), SV.val (Value.int IntKind.i64 (12 * (y' - (y + s * K)) + m')), SV.ptr 4 1, SV.val (Value.int IntKind.i64 m), SV.val (Value.int IntKind.i64 (12 * (y' - (y + s * K)) + m' - m)), SV.val (Value.int IntKind.i64 k1), SV.val (Value.int IntKind.i64 k1), SV.val (Value.bool false), SV.val (Value.tuple #[]), SV.val (Value.tuple #[]), .any, .any, .any, .any, .any, .any, .any, .any, .any, .any, .any, .any, .any, .any, SV.val (Value.tuple #[]), SV.val (Value.tuple #[]), SV.val (Value.tuple #[]), SV.val (Value.tuple #[]), SV.val (Value.tuple #[]), SV.val (Value.tuple #[]), SV.val (Value.tuple #[]), SV.val (Value.tuple #[]), SV.val (Value.tuple #[]), SV.val (Value.tuple #[]), SV.val (Value.tuple #[]), SV.val (Value.tuple #[]), SV.val (Value.tuple #[]), SV.val (Value.tuple #[]), SV.val (Value.tuple #[]), SV.val (Value.tuple #[]), SV.val (Value.tuple #[]), SV.val (Value.tuple #[]), SV.val (Value.tuple #[]), SV.val (Value.tuple #[]), SV.val (Value.tuple #[]), SV.val (Value.tuple #[]), SV.val (Value.tuple #[]), SV.val (Value.tuple #[]), SV.val (Value.tuple #[]), SV.val (Value.tuple #[]), SV.val (Value.tuple #[]), SV.val (Value.tuple #[]), SV.val (Value.tuple #[]), SV.val (Value.tuple #[])], [⟨[SV.val (Value.int IntKind.i64 y), SV.val (Value.int IntKind.i64 m), SV.val (Value.int IntKind.i64 d)], 50⟩, ⟨[SV.val (Value.int IntKind.i64 y'), SV.val (Value.int IntKind.i64 m'), SV.val (Value.int IntKind.i64 d')], 50⟩, ⟨[SV.val (Value.int IntKind.i64 0), SV.val (Value.int IntKind.i64 0), SV.val (Value.int IntKind.i64 0), SV.val (Value.int IntKind.i64 0), SV.val (Value.int IntKind.i64 0), SV.val (Value.int IntKind.i64 0), SV.val (Value.int IntKind.i64 0), SV.val (Value.int IntKind.i64 0)], 41⟩, ⟨[SV.val (Value.int IntKind.i64 (s * K)), SV.val (Value.int IntKind.i64 0), SV.val (Value.int IntKind.i64 0), SV.val (Value.int IntKind.i64 0), SV.val (Value.int IntKind.i64 0), SV.val (Value.int IntKind.i64 0), SV.val (Value.int IntKind.i64 0), SV.val (Value.int IntKind.i64 0)], 41⟩, ⟨[SV.val (Value.int IntKind.i64 (y + s * K)), SV.val (Value.int IntKind.i64 m), SV.val (Value.int IntKind.i64 d)], 50⟩])) (fun _ => _) (fun k => 0 ≤ k ∧ 12 * K + k ≤ N) (fun k => (N - k).toNat) (k1) (by kernel_rfl) (by kernel_rfl) Sub.refl (by first | omega | (simp; omega) | assumption | simp_all) (fun y1 px1 back1 => ?_)
        ((by_cases q1 : 12 * K + (y1 + 1) ≤ N) <;> have sU1 := sU y1 (by omega) (by omega) <;> have ek1 : ¬ 12 * K + (y1 + 1) ≤ N → s * y1 = s * M := fun q => by rw [show y1 = M by omega])
        · have _hh := True.intro
          refine st_i 129 .i64 (x' := y1 + 1) (Go.IntWalk.i64_in _ (by omega)) (by kernel_rfl) ?_
          refine st_i 130 .i64 (x' := s * (y1 + 1)) (Go.IntWalk.i64_in _ (by omega)) (by kernel_rfl) ?_
          refine st_fn ent80 (la3 (y1) (by omega) (by omega)) sub0 (by kernel_rfl) ?_
          refine st_fn ent79 (lbn3 (y1) (by assumption)) sub0 (by kernel_rfl) ?_
          refine st_i 135 .i64 (x' := y1 + 1) (Go.IntWalk.i64_in _ (by omega)) (by kernel_rfl) ?_
          refine st_forget [0, 1, 2, 3, 4, 5, 6, 7, 8, 9, 10, 11, 12, 13, 14, 15, 16, 17, 18, 19, 20, 21, 22, 23, 24, 25, 26, 27, 28, 29, 30, 31, 32, 33, 34, 35, 36, 37, 38, 39, 40, 41, 42, 43, 44, 45, 46, 47, 48, 49, 50, 51, 52, 53, 54, 55, 56, 57, 58, 59, 60, 61, 62, 63, 64, 65, 66, 67, 68, 69, 70, 71, 72, 73, 74, 75, 76, 77, 78, 79, 80, 81, 82, 83, 84, 85, 86, 87, 88, 89, 90, 91, 92, 93, 94, 95, 96, 97, 98, 99, 100, 101, 102, 103, 104, 105, 106, 107, 108, 109, 110, 111, 112, 113, 114, 115, 116, 117, 118, 119, 120, 121, 136, 137, 138, 139, 140, 141, 142, 143, 144, 145, 146, 147, 148, 149, 150, 151, 152, 153, 154, 155, 156, 157, 158, 159, 160, 161, 162, 163, 164, 165] (by kernel_rfl) ?_
          exact st_back back1 (y1 + 1) (by first | omega | (simp only []; omega) | (simp; omega)) (by first | omega | (simp only []; omega) | (simp; omega) | assumption | simp_all) (fun p hp => by first | exact hp | simp_all) (by kernel_rfl) (by kernel_rfl) (by kernel_rfl)
        · have _hh := True.intro
          refine st_i 129 .i64 (x' := y1 + 1) (Go.IntWalk.i64_in _ (by omega)) (by kernel_rfl) ?_
          refine st_i 130 .i64 (x' := s * (y1 + 1)) (Go.IntWalk.i64_in _ (by omega)) (by kernel_rfl) ?_
          refine st_fn ent80 (la3 (y1) (by omega) (by omega)) sub0 (by kernel_rfl) ?_
          refine st_fn ent79 (lby3 (y1) (by omega)) sub0 (by kernel_rfl) ?_
          refine st_i 138 IntKind.i64 (x := IntKind.i64.wrap (s * y1)) ((Go.IntWalk.i64_in (s * y1) (by omega)).trans ((ek1 q1))) (by kernel_rfl) ?_
          refine st_fn ent80 (la4) sub0 (by kernel_rfl) ?_
          refine st_fn ent81 (lr) sub0 (by kernel_rfl) ?_
          refine st_fn ent77 (ld3) sub0 (by kernel_rfl) ?_
          refine st_i 163 .i64 (x' := n' - n'') (Go.IntWalk.i64_in _ (by omega)) (by kernel_rfl) ?_
          exact st_ret Try.func26 (by kernel_rfl)
  · obtain ⟨k0, hk0⟩ : ∃ k0, k0 = D := ⟨_, rfl⟩
    by_cases c1 : 0 < D2
    · obtain ⟨k1, hk1⟩ : ∃ k1, D2 - 1 = k1 := ⟨_, rfl⟩
      refine fn_of Try.func26 rfl fun ww => ?_
      refine st_fn ent77 (ld1) sub0 (by kernel_rfl) ?_
      refine st_fn ent77 (ld2) sub0 (by kernel_rfl) ?_
      refine st_fn ent78 (cc) sub0 (by kernel_rfl) ?_
      refine st_b 69 (show (s == 0) = false by exact decide_eq_false (by omega)) (by kernel_rfl) ?_
      refine st_i 78 .i64 (x' := y' - y) (Go.IntWalk.i64_in _ (by omega)) (by kernel_rfl) ?_
      refine st_i 79 IntKind.i64 (x := IntKind.i64.wrap (s * (y' - y))) ((Go.IntWalk.i64_in (s * (y' - y)) (by omega)).trans ((hD.trans hk0.symm))) (by kernel_rfl) ?_
      refine st_b 81 (show (decide (k0 > 0)) = false by exact decide_eq_false (by omega)) (by kernel_rfl) ?_
      refine st_forget [0, 1, 2, 3, 4, 5, 6, 7, 8, 9, 10, 11, 12, 13, 14, 15, 16, 17, 18, 19, 20, 21, 22, 23, 24, 25, 26, 27, 28, 29, 30, 31, 32, 33, 34, 35, 36, 37, 38, 39, 40, 41, 42, 43, 44, 45, 46, 47, 48, 49, 50, 51, 52, 53, 54, 55, 56, 57, 58, 59, 60, 61, 62, 63, 64, 65, 66, 67, 68, 69, 70, 71, 72, 73, 74, 75, 76, 77, 78, 79, 80, 81, 82, 83, 96, 97, 98, 99, 100, 101, 102, 103, 104, 105, 106, 107, 108, 109, 110, 111, 112, 113, 114, 115, 116, 117, 118, 119, 120, 121, 122, 123, 124, 125, 126, 127, 128, 129, 130, 131, 132, 133, 134, 135, 136, 137, 138, 139, 140, 141, 142, 143, 144, 145, 146, 147, 148, 149, 150, 151, 152, 153, 154, 155, 156, 157, 158, 159, 160, 161, 162, 163, 164, 165] (by kernel_rfl) ?_
      refine st_loop (X := Int) (fun x => ([SV.val (Value.agg #[Value.int IntKind.i64 y, Value.int IntKind.i64 m, Value.int IntKind.i64 d]), SV.val (Value.agg #[Value.int IntKind.i64 y', Value.int IntKind.i64 m', Value.int IntKind.i64 d']), SV.val (Value.int IntKind.i64 1), SV.ptr 0 0, SV.ptr 1 0, SV.val (Value.tuple #[]), SV.ptr 2 0, SV.val (Value.int IntKind.i64 0), SV.val (Value.int IntKind.i64 (dnum y m d)), SV.val (Value.bool true), SV.val (Value.int IntKind.i64 n'), SV.val (Value.bool true), SV.ptr 3 0, SV.val (Value.int IntKind.i64 s), .val (.int .i64 x), SV.val (Value.tuple #[]), SV.val (Value.tuple #[]), SV.val (Value.tuple #[]), SV.val (Value.tuple #[]), SV.val (Value.tuple #[]), SV.val (Value.tuple #[]), SV.val (Value.tuple #[]), SV.val (Value.tuple #[Value.int IntKind.i64 (dnum y m d), Value.bool true]), SV.val (Value.agg #[Value.int IntKind.i64 y, Value.int IntKind.i64 m, Value.int IntKind.i64 d]), SV.val (Value.tuple #[Value.int IntKind.i64 (dnum y m d), Value.bool true]), SV.val (Value.int IntKind.i64 (dnum y m d)), SV.val (Value.bool true), SV.val (Value.tuple #[Value.int IntKind.i64 n', Value.bool true]), SV.val (Value.agg #[Value.int IntKind.i64 y', Value.int IntKind.i64 m', Value.int IntKind.i64 d']), SV.val (Value.tuple #[Value.int IntKind.i64 n', Value.bool true]), SV.val (Value.int IntKind.i64 n'), SV.val (Value.bool true), SV.val (Value.bool true), SV.val (Value.bool false), SV.val (Value.bool false), SV.val (Value.bool true), SV.val (Value.bool false), SV.val (Value.bool false), SV.val (Value.bool false), SV.val (Value.int IntKind.i64 1), SV.val (Value.bool false), SV.val (Value.bool false), SV.val (Value.bool false), SV.val (Value.int IntKind.i64 1), SV.val (Value.bool false), SV.val (Value.bool false), SV.val (Value.tuple #[]), SV.val (Value.int IntKind.i64 1), SV.val (Value.bool false), SV.val (Value.tuple #[]), SV.val (Value.tuple #[]), SV.val (Value.tuple #[]), SV.val (Value.tuple #[]), SV.val (Value.int IntKind.i64 1), SV.val (Value.bool false), SV.val (Value.tuple #[]), SV.val (Value.tuple #[]), SV.val (Value.tuple #[]), SV.val (Value.tuple #[]), SV.val (Value.tuple #[]), SV.val (Value.tuple #[]), SV.val (Value.tuple #[]), SV.val (Value.tuple #[]), SV.val (Value.tuple #[]), SV.val (Value.agg #[Value.int IntKind.i64 0, Value.int IntKind.i64 0, Value.int IntKind.i64 0, Value.int IntKind.i64 0, Value.int IntKind.i64 0, Value.int IntKind.i64 0, Value.int IntKind.i64 0, Value.int IntKind.i64 0]), SV.val (Value.agg #[Value.int IntKind.i64 y', Value.int IntKind.i64 m', Value.int IntKind.i64 d']), SV.val (Value.agg #[Value.int IntKind.i64 y, Value.int IntKind.i64 m, Value.int IntKind.i64 d]), SV.val (Value.int IntKind.i64 s), SV.val (Value.int IntKind.i64 s), SV.val (Value.bool false), SV.val (Value.tuple #[]), SV.val (Value.int IntKind.i64 1), SV.val (Value.bool true), SV.val (Value.int IntKind.i64 s), SV.ptr 1 0, SV.val (Value.int IntKind.i64 y'), SV.ptr 0 0, SV.val (Value.int IntKind.i64 y), SV.val (Value.int IntKind.i64 (y' - y)), SV.val (Value.int IntKind.i64 k0), SV.val (Value.int IntKind.i64 k0), SV.val (Value.bool false), SV.val (Value.tuple #[]), SV.val (Value.tuple #[]), .any, .any, .any, .any, .any, .any, .any, .any, .any, .any, .any, .any, SV.val (Value.tuple #[]), SV.val (Value.tuple #[]), SV.val (Value.tuple #[]), SV.val (Value.tuple #[]), SV.val (Value.tuple #[]), SV.val (Value.tuple #[]), SV.val (Value.tuple #[]), SV.val (Value.tuple #[]), SV.val (Value.tuple #[]), SV.val (Value.tuple #[]), SV.val (Value.tuple #[]), SV.val (Value.tuple #[]), SV.val (Value.tuple #[]), SV.val (Value.tuple #[]), SV.val (Value.tuple #[]), SV.val (Value.tuple #[]), SV.val (Value.tuple #[]), SV.val (Value.tuple #[]), SV.val (Value.tuple #[]), SV.val (Value.tuple #[]), SV.val (Value.tuple #[]), SV.val (Value.tuple #[]), SV.val (Value.tuple #[]), SV.val (Value.tuple #[]), SV.val (Value.tuple #[]), SV.val (Value.tuple #[]), SV.val (Value.tuple #[]), SV.val (Value.tuple #[]), SV.val (Value.tuple #[]), SV.val (Value.tuple #[]), SV.val (Value.tuple #[]), SV.val (Value.tuple #[]), SV.val (Value.tuple #[]), SV.val (Value.tuple #[]), SV.val (Value.tuple #[]), SV.val (Value.tuple #[]), SV.val (Value.tuple #[]), SV.val (Value.tuple #[]), SV.val (Value.tuple #[]), SV.val (Value.tuple #[]), SV.val (Value.tuple #[]), SV.val (Value.tuple #[]), SV.val (Value.tuple #[]), SV.val (Value.tuple #[]), SV.val (Value.tuple #[]), SV.val (Value.tuple #[]), SV.val (Value.tuple #[]), SV.val (Value.tuple #[]), SV.val (Value.tuple #[]), SV.val (Value.tuple #[]), SV.val (Value.tuple #[]), SV.val (Value.tuple #[]), SV.val (Value.tuple #[]), SV.val (Value.tuple #[]), SV.val (Value.tuple #[]), SV.val (Value.tuple #[]), SV.val (Value.tuple #[]), SV.val (Value.tuple #[]), SV.val (Value.tuple #[]), SV.val (Value.tuple #[]), SV.val (Value.tuple #[]), SV.val (Value.tuple #[]), SV.val (Value.tuple #[]), SV.val (Value.tuple #[]), SV.val (Value.tuple #[]), SV.val (Value.tuple #[]), SV.val (Value.tuple #[]), SV.val (Value.tuple #[]), SV.val (Value.tuple #[]), SV.val (Value.tuple #[])], [⟨[SV.val (Value.int IntKind.i64 y), SV.val (Value.int IntKind.i64 m), SV.val (Value.int IntKind.i64 d)], 50⟩, ⟨[SV.val (Value.int IntKind.i64 y'), SV.val (Value.int IntKind.i64 m'), SV.val (Value.int IntKind.i64 d')], 50⟩, ⟨[SV.val (Value.int IntKind.i64 0), SV.val (Value.int IntKind.i64 0), SV.val (Value.int IntKind.i64 0), SV.val (Value.int IntKind.i64 0), SV.val (Value.int IntKind.i64 0), SV.val (Value.int IntKind.i64 0), SV.val (Value.int IntKind.i64 0), SV.val (Value.int IntKind.i64 0)], 41⟩, ⟨[SV.val (Value.int IntKind.i64 0), SV.val (Value.int IntKind.i64 0), SV.val (Value.int IntKind.i64 0), SV.val (Value.int IntKind.i64 0), SV.val (Value.int IntKind.i64 0), SV.val (Value.int IntKind.i64 0), SV.val (Value.int IntKind.i64 0), SV.val (Value.int IntKind.i64 0)], 41⟩])) (fun _ => _) (fun k => 0 ≤ k ∧ 12 * k ≤ N) (fun k => (N - k).toNat) (k0) (by kernel_rfl) (by kernel_rfl) Sub.refl (by first | omega | (simp; omega) | assumption | simp_all) (fun y0 px0 back0 => ?_)
      ((by_cases q0 : 12 * (y0 + 1) ≤ N) <;> have sU0 := sU y0 (by omega) (by omega) <;> have ek0 : ¬ 12 * (y0 + 1) ≤ N → s * y0 = s * K := fun q => by rw [show y0 = K by omega])
      · have _hh := True.intro
        refine st_i 89 .i64 (x' := y0 + 1) (Go.IntWalk.i64_in _ (by omega)) (by kernel_rfl) ?_
        refine st_i 90 .i64 (x' := s * (y0 + 1)) (Go.IntWalk.i64_in _ (by omega)) (by kernel_rfl) ?_
        refine st_fn ent80 (la1 (y0) (by omega) (by omega)) sub0 (by kernel_rfl) ?_
        refine st_fn ent79 (lbn1 (y0) (by assumption)) sub0 (by kernel_rfl) ?_
        refine st_i 95 .i64 (x' := y0 + 1) (Go.IntWalk.i64_in _ (by omega)) (by kernel_rfl) ?_
        refine st_forget [0, 1, 2, 3, 4, 5, 6, 7, 8, 9, 10, 11, 12, 13, 14, 15, 16, 17, 18, 19, 20, 21, 22, 23, 24, 25, 26, 27, 28, 29, 30, 31, 32, 33, 34, 35, 36, 37, 38, 39, 40, 41, 42, 43, 44, 45, 46, 47, 48, 49, 50, 51, 52, 53, 54, 55, 56, 57, 58, 59, 60, 61, 62, 63, 64, 65, 66, 67, 68, 69, 70, 71, 72, 73, 74, 75, 76, 77, 78, 79, 80, 81, 82, 83, 96, 97, 98, 99, 100, 101, 102, 103, 104, 105, 106, 107, 108, 109, 110, 111, 112, 113, 114, 115, 116, 117, 118, 119, 120, 121, 122, 123, 124, 125, 126, 127, 128, 129, 130, 131, 132, 133, 134, 135, 136, 137, 138, 139, 140, 141, 142, 143, 144, 145, 146, 147, 148, 149, 150, 151, 152, 153, 154, 155, 156, 157, 158, 159, 160, 161, 162, 163, 164, 165] (by kernel_rfl) ?_
        exact st_back back0 (y0 + 1) (by first | omega | (simp only []; omega) | (simp; omega)) (by first | omega | (simp only []; omega) | (simp; omega) | assumption | simp_all) (fun p hp => by first | exact hp | simp_all) (by kernel_rfl) (by kernel_rfl) (by kernel_rfl)
      · have _hh := True.intro
        refine st_i 89 .i64 (x' := y0 + 1) (Go.IntWalk.i64_in _ (by omega)) (by kernel_rfl) ?_
        refine st_i 90 .i64 (x' := s * (y0 + 1)) (Go.IntWalk.i64_in _ (by omega)) (by kernel_rfl) ?_
        refine st_fn ent80 (la1 (y0) (by omega) (by omega)) sub0 (by kernel_rfl) ?_
        refine st_fn ent79 (lby1 (y0) (by omega)) sub0 (by kernel_rfl) ?_
        refine st_i 98 IntKind.i64 (x := IntKind.i64.wrap (s * y0)) ((Go.IntWalk.i64_in (s * y0) (by omega)).trans ((ek0 q0))) (by kernel_rfl) ?_
        refine st_fn ent80 (la2) sub0 (by kernel_rfl) ?_
        refine st_i 109 .i64 (x' := y' - (y + s * K)) (Go.IntWalk.i64_in _ (by omega)) (by kernel_rfl) ?_
        refine st_i 110 .i64 (x' := 12 * (y' - (y + s * K))) (Go.IntWalk.i64_in _ (by omega)) (by kernel_rfl) ?_
        refine st_i 113 .i64 (x' := 12 * (y' - (y + s * K)) + m') (Go.IntWalk.i64_in _ (by omega)) (by kernel_rfl) ?_
        refine st_i 116 .i64 (x' := 12 * (y' - (y + s * K)) + m' - m) (Go.IntWalk.i64_in _ (by omega)) (by kernel_rfl) ?_
        refine st_i 117 IntKind.i64 (x := IntKind.i64.wrap (s * (12 * (y' - (y + s * K)) + m' - m))) ((Go.IntWalk.i64_in (s * (12 * (y' - (y + s * K)) + m' - m)) (by omega)).trans (hD2)) (by kernel_rfl) ?_
        refine st_b 119 (show (decide (D2 > 0)) = true by exact decide_eq_true (by omega)) (by kernel_rfl) ?_
        refine st_i 121 IntKind.i64 (x := IntKind.i64.wrap (D2 - 1)) ((Go.IntWalk.i64_in (D2 - 1) (by omega)).trans (hk1)) (by kernel_rfl) ?_
        refine st_forget [0, 1, 2, 3, 4, 5, 6, 7, 8, 9, 10, 11, 12, 13, 14, 15, 16, 17, 18, 19, 20, 21, 22, 23, 24, 25, 26, 27, 28, 29, 30, 31, 32, 33, 34, 35, 36, 37, 38, 39, 40, 41, 42, 43, 44, 45, 46, 47, 48, 49, 50, 51, 52, 53, 54, 55, 56, 57, 58, 59, 60, 61, 62, 63, 64, 65, 66, 67, 68, 69, 70, 71, 72, 73, 74, 75, 76, 77, 78, 79, 80, 81, 82, 83, 84, 85, 86, 87, 88, 89, 90, 91, 92, 93, 94, 95, 96, 97, 98, 99, 100, 101, 102, 103, 104, 105, 106, 107, 108, 109, 110, 111, 112, 113, 114, 115, 116, 117, 118, 119, 120, 121, 136, 137, 138, 139, 140, 141, 142, 143, 144, 145, 146, 147, 148, 149, 150, 151, 152, 153, 154, 155, 156, 157, 158, 159, 160, 161, 162, 163, 164, 165] (by kernel_rfl) ?_
        refine st_loop (X := Int) (fun x => ([SV.val (Value.agg #[Value.int IntKind.i64 y, Value.int IntKind.i64 m, Value.int IntKind.i64 d]), SV.val (Value.agg #[Value.int IntKind.i64 y', Value.int IntKind.i64 m', Value.int IntKind.i64 d']), SV.val (Value.int IntKind.i64 1), SV.ptr 0 0, SV.ptr 1 0, SV.val (Value.tuple #[]), SV.ptr 2 0, SV.val (Value.int IntKind.i64 0), SV.val (Value.int IntKind.i64 (dnum y m d)), SV.val (Value.bool true), SV.val (Value.int IntKind.i64 n'), SV.val (Value.bool true), SV.ptr 3 0, SV.val (Value.int IntKind.i64 s), SV.val (Value.int IntKind.i64 y0), SV.ptr 4 0, .val (.int .i64 x), SV.val (Value.tuple #[]), SV.val (Value.tuple #[]), SV.val (Value.tuple #[]), SV.val (Value.tuple #[]), SV.val (Value.tuple #[]), SV.val (Value.tuple #[Value.int IntKind.i64 (dnum y m d), Value.bool true]), SV.val (Value.agg #[Value.int IntKind.i64 y, Value.int IntKind.i64 m, Value.int IntKind.i64 d]), SV.val (Value.tuple #[Value.int IntKind.i64 (dnum y m d), Value.bool true]), SV.val (Value.int IntKind.i64 (dnum y m d)), SV.val (Value.bool true), SV.val (Value.tuple #[Value.int IntKind.i64 n', Value.bool true]), SV.val (Value.agg #[Value.int IntKind.i64 y', Value.int IntKind.i64 m', Value.int IntKind.i64 d']), SV.val (Value.tuple #[Value.int IntKind.i64 n', Value.bool true]), SV.val (Value.int IntKind.i64 n'), SV.val (Value.bool true), SV.val (Value.bool true), SV.val (Value.bool false), SV.val (Value.bool false), SV.val (Value.bool true), SV.val (Value.bool false), SV.val (Value.bool false), SV.val (Value.bool false), SV.val (Value.int IntKind.i64 1), SV.val (Value.bool false), SV.val (Value.bool false), SV.val (Value.bool false), SV.val (Value.int IntKind.i64 1), SV.val (Value.bool false), SV.val (Value.bool false), SV.val (Value.tuple #[]), SV.val (Value.int IntKind.i64 1), SV.val (Value.bool false), SV.val (Value.tuple #[]), SV.val (Value.tuple #[]), SV.val (Value.tuple #[]), SV.val (Value.tuple #[]), SV.val (Value.int IntKind.i64 1), SV.val (Value.bool false), SV.val (Value.tuple #[]), SV.val (Value.tuple #[]), SV.val (Value.tuple #[]), SV.val (Value.tuple #[]), SV.val (Value.tuple #[]), SV.val (Value.tuple #[]), SV.val (Value.tuple #[]), SV.val (Value.tuple #[]), SV.val (Value.tuple #[]), SV.val (Value.agg #[Value.int IntKind.i64 0, Value.int IntKind.i64 0, Value.int IntKind.i64 0, Value.int IntKind.i64 0, Value.int IntKind.i64 0, Value.int IntKind.i64 0, Value.int IntKind.i64 0, Value.int IntKind.i64 0]), SV.val (Value.agg #[Value.int IntKind.i64 y', Value.int IntKind.i64 m', Value.int IntKind.i64 d']), SV.val (Value.agg #[Value.int IntKind.i64 y, Value.int IntKind.i64 m, Value.int IntKind.i64 d]), SV.val (Value.int IntKind.i64 s), SV.val (Value.int IntKind.i64 s), SV.val (Value.bool false), SV.val (Value.tuple #[]), SV.val (Value.int IntKind.i64 1), SV.val (Value.bool true), SV.val (Value.int IntKind.i64 s), SV.ptr 1 0, SV.val (Value.int IntKind.i64 y'), SV.ptr 0 0, SV.val (Value.int IntKind.i64 y), SV.val (Value.int IntKind.i64 (y' - y)), SV.val (Value.int IntKind.i64 k0), SV.val (Value.int IntKind.i64 k0), SV.val (Value.bool false), SV.val (Value.tuple #[]), SV.val (Value.tuple #[]), SV.val (Value.agg #[Value.int IntKind.i64 y, Value.int IntKind.i64 m, Value.int IntKind.i64 d]), SV.val (Value.agg #[Value.int IntKind.i64 y', Value.int IntKind.i64 m', Value.int IntKind.i64 d']), SV.val (Value.agg #[Value.int IntKind.i64 y, Value.int IntKind.i64 m, Value.int IntKind.i64 d]), SV.val (Value.int IntKind.i64 s), SV.val (Value.int IntKind.i64 y0), SV.val (Value.int IntKind.i64 (y0 + 1)), SV.val (Value.int IntKind.i64 (s * (y0 + 1))), SV.val (Value.agg #[Value.int IntKind.i64 (lY (ymi y m + s * (12 * (y0 + 1)))), Value.int IntKind.i64 (lM (ymi y m + s * (12 * (y0 + 1)))), Value.int IntKind.i64 d]), SV.val (Value.bool true), SV.val (Value.bool false), SV.any, SV.any, SV.val (Value.int IntKind.i64 s), SV.val (Value.int IntKind.i64 y0), SV.val (Value.int IntKind.i64 (s * K)), SV.ptr 3 0, SV.val (Value.agg #[Value.int IntKind.i64 y, Value.int IntKind.i64 m, Value.int IntKind.i64 d]), SV.ptr 3 0, SV.val (Value.int IntKind.i64 (s * K)), SV.val (Value.agg #[Value.int IntKind.i64 (y + s * K), Value.int IntKind.i64 m, Value.int IntKind.i64 d]), SV.val (Value.int IntKind.i64 s), SV.ptr 1 0, SV.val (Value.int IntKind.i64 y'), SV.ptr 4 0, SV.val (Value.int IntKind.i64 (y + s * K)), SV.val (Value.int IntKind.i64 (y' - (y + s * K))), SV.val (Value.int IntKind.i64 (12 * (y' - (y + s * K)))), SV.ptr 1 1, SV.val (Value.int IntKind.i64 m'), SV.val (Value.int IntKind.i64 (12 * (y' - (y + s * K)) + m')), SV.ptr 4 1, SV.val (Value.int IntKind.i64 m), SV.val (Value.int IntKind.i64 (12 * (y' - (y + s * K)) + m' - m)), SV.val (Value.int IntKind.i64 D2), SV.val (Value.int IntKind.i64 D2), SV.val (Value.bool true), SV.val (Value.int IntKind.i64 D2), SV.val (Value.int IntKind.i64 k1), .any, .any, .any, .any, .any, .any, .any, .any, .any, .any, .any, .any, .any, .any, SV.val (Value.tuple #[]), SV.val (Value.tuple #[]), SV.val (Value.tuple #[]), SV.val (Value.tuple #[]), SV.val (Value.tuple #[]), SV.val (Value.tuple #[]), SV.val (Value.tuple #[]), SV.val (Value.tuple #[]), SV.val (Value.tuple #[]), SV.val (Value.tuple #[]), SV.val (Value.tuple #[]), SV.val (Value.tuple #[]), SV.val (Value.tuple #[]), SV.val (Value.tuple #[]), SV.val (Value.tuple #[]), SV.val (Value.tuple #[]), SV.val (Value.tuple #[]), SV.val (Value.tuple #[]), SV.val (Value.tuple #[]), SV.val (Value.tuple #[]), SV.val (Value.tuple #[]), SV.val (Value.tuple #[]), SV.val (Value.tuple #[]), SV.val (Value.tuple #[]), SV.val (Value.tuple #[]), SV.val (Value.tuple #[]), SV.val (Value.tuple #[]), SV.val (Value.tuple #[]), SV.val (Value.tuple #[]), SV.val (Value.tuple #[])], [⟨[SV.val (Value.int IntKind.i64 y), SV.val (Value.int IntKind.i64 m), SV.val (Value.int IntKind.i64 d)], 50⟩, ⟨[SV.val (Value.int IntKind.i64 y'), SV.val (Value.int IntKind.i64 m'), SV.val (Value.int IntKind.i64 d')], 50⟩, ⟨[SV.val (Value.int IntKind.i64 0), SV.val (Value.int IntKind.i64 0), SV.val (Value.int IntKind.i64 0), SV.val (Value.int IntKind.i64 0), SV.val (Value.int IntKind.i64 0), SV.val (Value.int IntKind.i64 0), SV.val (Value.int IntKind.i64 0), SV.val (Value.int IntKind.i64 0)], 41⟩, ⟨[SV.val (Value.int IntKind.i64 (s * K)), SV.val (Value.int IntKind.i64 0), SV.val (Value.int IntKind.i64 0), SV.val (Value.int IntKind.i64 0), SV.val (Value.int IntKind.i64 0), SV.val (Value.int IntKind.i64 0), SV.val (Value.int IntKind.i64 0), SV.val (Value.int IntKind.i64 0)], 41⟩, ⟨[SV.val (Value.int IntKind.i64 (y + s * K)), SV.val (Value.int IntKind.i64 m), SV.val (Value.int IntKind.i64 d)], 50⟩])) (fun _ => _) (fun k => 0 ≤ k ∧ 12 * K + k ≤ N) (fun k => (N - k).toNat) (k1) (by kernel_rfl) (by kernel_rfl) Sub.refl (by first | omega | (simp; omega) | assumption | simp_all) (fun y1 px1 back1 => ?_)
        ((by_cases q1 : 12 * K + (y1 + 1) ≤ N) <;> have sU1 := sU y1 (by omega) (by omega) <;> have ek1 : ¬ 12 * K + (y1 + 1) ≤ N → s * y1 = s * M := fun q => by rw [show y1 = M by omega])
        · have _hh := True.intro
          refine st_i 129 .i64 (x' := y1 + 1) (Go.IntWalk.i64_in _ (by omega)) (by kernel_rfl) ?_
          refine st_i 130 .i64 (x' := s * (y1 + 1)) (Go.IntWalk.i64_in _ (by omega)) (by kernel_rfl) ?_
          refine st_fn ent80 (la3 (y1) (by omega) (by omega)) sub0 (by kernel_rfl) ?_
          refine st_fn ent79 (lbn3 (y1) (by assumption)) sub0 (by kernel_rfl) ?_
          refine st_i 135 .i64 (x' := y1 + 1) (Go.IntWalk.i64_in _ (by omega)) (by kernel_rfl) ?_
          refine st_forget [0, 1, 2, 3, 4, 5, 6, 7, 8, 9, 10, 11, 12, 13, 14, 15, 16, 17, 18, 19, 20, 21, 22, 23, 24, 25, 26, 27, 28, 29, 30, 31, 32, 33, 34, 35, 36, 37, 38, 39, 40, 41, 42, 43, 44, 45, 46, 47, 48, 49, 50, 51, 52, 53, 54, 55, 56, 57, 58, 59, 60, 61, 62, 63, 64, 65, 66, 67, 68, 69, 70, 71, 72, 73, 74, 75, 76, 77, 78, 79, 80, 81, 82, 83, 84, 85, 86, 87, 88, 89, 90, 91, 92, 93, 94, 95, 96, 97, 98, 99, 100, 101, 102, 103, 104, 105, 106, 107, 108, 109, 110, 111, 112, 113, 114, 115, 116, 117, 118, 119, 120, 121, 136, 137, 138, 139, 140, 141, 142, 143, 144, 145, 146, 147, 148, 149, 150, 151, 152, 153, 154, 155, 156, 157, 158, 159, 160, 161, 162, 163, 164, 165] (by kernel_rfl) ?_
          exact st_back back1 (y1 + 1) (by first | omega | (simp only []; omega) | (simp; omega)) (by first | omega | (simp only []; omega) | (simp; omega) | assumption | simp_all) (fun p hp => by first | exact hp | simp_all) (by kernel_rfl) (by kernel_rfl) (by kernel_rfl)
        · have _hh := True.intro
          refine st_i 129 .i64 (x' := y1 + 1) (Go.IntWalk.i64_in _ (by omega)) (by kernel_rfl) ?_
          refine st_i 130 .i64 (x' := s * (y1 + 1)) (Go.IntWalk.i64_in _ (by omega)) (by kernel_rfl) ?_
          refine st_fn ent80 (la3 (y1) (by omega) (by omega)) sub0 (by kernel_rfl) ?_
          refine st_fn ent79 (lby3 (y1) (by omega)) sub0 (by kernel_rfl) ?_
          refine st_i 138 IntKind.i64 (x := IntKind.i64.wrap (s * y1)) ((Go.IntWalk.i64_in (s * y1) (by omega)).trans ((ek1 q1))) (by kernel_rfl) ?_
          refine st_fn ent80 (la4) sub0 (by kernel_rfl) ?_
          refine st_fn ent81 (lr) sub0 (by kernel_rfl) ?_
          refine st_fn ent77 (ld3) sub0 (by kernel_rfl) ?_
          refine st_i 163 .i64 (x' := n' - n'') (Go.IntWalk.i64_in _ (by omega)) (by kernel_rfl) ?_
          exact st_ret Try.func26 (by kernel_rfl)
    · obtain ⟨k1, hk1⟩ : ∃ k1, k1 = D2 := ⟨_, rfl⟩
      refine fn_of Try.func26 rfl fun ww => ?_
      refine st_fn ent77 (ld1) sub0 (by kernel_rfl) ?_
      refine st_fn ent77 (ld2) sub0 (by kernel_rfl) ?_
      refine st_fn ent78 (cc) sub0 (by kernel_rfl) ?_
      refine st_b 69 (show (s == 0) = false by exact decide_eq_false (by omega)) (by kernel_rfl) ?_
      refine st_i 78 .i64 (x' := y' - y) (Go.IntWalk.i64_in _ (by omega)) (by kernel_rfl) ?_
      refine st_i 79 IntKind.i64 (x := IntKind.i64.wrap (s * (y' - y))) ((Go.IntWalk.i64_in (s * (y' - y)) (by omega)).trans ((hD.trans hk0.symm))) (by kernel_rfl) ?_
      refine st_b 81 (show (decide (k0 > 0)) = false by exact decide_eq_false (by omega)) (by kernel_rfl) ?_
      refine st_forget [0, 1, 2, 3, 4, 5, 6, 7, 8, 9, 10, 11, 12, 13, 14, 15, 16, 17, 18, 19, 20, 21, 22, 23, 24, 25, 26, 27, 28, 29, 30, 31, 32, 33, 34, 35, 36, 37, 38, 39, 40, 41, 42, 43, 44, 45, 46, 47, 48, 49, 50, 51, 52, 53, 54, 55, 56, 57, 58, 59, 60, 61, 62, 63, 64, 65, 66, 67, 68, 69, 70, 71, 72, 73, 74, 75, 76, 77, 78, 79, 80, 81, 82, 83, 96, 97, 98, 99, 100, 101, 102, 103, 104, 105, 106, 107, 108, 109, 110, 111, 112, 113, 114, 115, 116, 117, 118, 119, 120, 121, 122, 123, 124, 125, 126, 127, 128, 129, 130, 131, 132, 133, 134, 135, 136, 137, 138, 139, 140, 141, 142, 143, 144, 145, 146, 147, 148, 149, 150, 151, 152, 153, 154, 155, 156, 157, 158, 159, 160, 161, 162, 163, 164, 165] (by kernel_rfl) ?_
      refine st_loop (X := Int) (fun x => ([SV.val (Value.agg #[Value.int IntKind.i64 y, Value.int IntKind.i64 m, Value.int IntKind.i64 d]), SV.val (Value.agg #[Value.int IntKind.i64 y', Value.int IntKind.i64 m', Value.int IntKind.i64 d']), SV.val (Value.int IntKind.i64 1), SV.ptr 0 0, SV.ptr 1 0, SV.val (Value.tuple #[]), SV.ptr 2 0, SV.val (Value.int IntKind.i64 0), SV.val (Value.int IntKind.i64 (dnum y m d)), SV.val (Value.bool true), SV.val (Value.int IntKind.i64 n'), SV.val (Value.bool true), SV.ptr 3 0, SV.val (Value.int IntKind.i64 s), .val (.int .i64 x), SV.val (Value.tuple #[]), SV.val (Value.tuple #[]), SV.val (Value.tuple #[]), SV.val (Value.tuple #[]), SV.val (Value.tuple #[]), SV.val (Value.tuple #[]), SV.val (Value.tuple #[]), SV.val (Value.tuple #[Value.int IntKind.i64 (dnum y m d), Value.bool true]), SV.val (Value.agg #[Value.int IntKind.i64 y, Value.int IntKind.i64 m, Value.int IntKind.i64 d]), SV.val (Value.tuple #[Value.int IntKind.i64 (dnum y m d), Value.bool true]), SV.val (Value.int IntKind.i64 (dnum y m d)), SV.val (Value.bool true), SV.val (Value.tuple #[Value.int IntKind.i64 n', Value.bool true]), SV.val (Value.agg #[Value.int IntKind.i64 y', Value.int IntKind.i64 m', Value.int IntKind.i64 d']), SV.val (Value.tuple #[Value.int IntKind.i64 n', Value.bool true]), SV.val (Value.int IntKind.i64 n'), SV.val (Value.bool true), SV.val (Value.bool true), SV.val (Value.bool false), SV.val (Value.bool false), SV.val (Value.bool true), SV.val (Value.bool false), SV.val (Value.bool false), SV.val (Value.bool false), SV.val (Value.int IntKind.i64 1), SV.val (Value.bool false), SV.val (Value.bool false), SV.val (Value.bool false), SV.val (Value.int IntKind.i64 1), SV.val (Value.bool false), SV.val (Value.bool false), SV.val (Value.tuple #[]), SV.val (Value.int IntKind.i64 1), SV.val (Value.bool false), SV.val (Value.tuple #[]), SV.val (Value.tuple #[]), SV.val (Value.tuple #[]), SV.val (Value.tuple #[]), SV.val (Value.int IntKind.i64 1), SV.val (Value.bool false), SV.val (Value.tuple #[]), SV.val (Value.tuple #[]), SV.val (Value.tuple #[]), SV.val (Value.tuple #[]), SV.val (Value.tuple #[]), SV.val (Value.tuple #[]), SV.val (Value.tuple #[]), SV.val (Value.tuple #[]), SV.val (Value.tuple #[]), SV.val (Value.agg #[Value.int IntKind.i64 0, Value.int IntKind.i64 0, Value.int IntKind.i64 0, Value.int IntKind.i64 0, Value.int IntKind.i64 0, Value.int IntKind.i64 0, Value.int IntKind.i64 0, Value.int IntKind.i64 0]), SV.val (Value.agg #[Value.int IntKind.i64 y', Value.int IntKind.i64 m', Value.int IntKind.i64 d']), SV.val (Value.agg #[Value.int IntKind.i64 y, Value.int IntKind.i64 m, Value.int IntKind.i64 d]), SV.val (Value.int IntKind.i64 s), SV.val (Value.int IntKind.i64 s), SV.val (Value.bool false), SV.val (Value.tuple #[]), SV.val (Value.int IntKind.i64 1), SV.val (Value.bool true), SV.val (Value.int IntKind.i64 s), SV.ptr 1 0, SV.val (Value.int IntKind.i64 y'), SV.ptr 0 0, SV.val (Value.int IntKind.i64 y), SV.val (Value.int IntKind.i64 (y' - y)), SV.val (Value.int IntKind.i64 k0), SV.val (Value.int IntKind.i64 k0), SV.val (Value.bool false), SV.val (Value.tuple #[]), SV.val (Value.tuple #[]), .any, .any, .any, .any, .any, .any, .any, .any, .any, .any, .any, .any, SV.val (Value.tuple #[]), SV.val (Value.tuple #[]), SV.val (Value.tuple #[]), SV.val (Value.tuple #[]), SV.val (Value.tuple #[]), SV.val (Value.tuple #[]), SV.val (Value.tuple #[]), SV.val (Value.tuple #[]), SV.val (Value.tuple #[]), SV.val (Value.tuple #[]), SV.val (Value.tuple #[]), SV.val (Value.tuple #[]), SV.val (Value.tuple #[]), SV.val (Value.tuple #[]), SV.val (Value.tuple #[]), SV.val (Value.tuple #[]), SV.val (Value.tuple #[]), SV.val (Value.tuple #[]), SV.val (Value.tuple #[]), SV.val (Value.tuple #[]), SV.val (Value.tuple #[]), SV.val (Value.tuple #[]), SV.val (Value.tuple #[]), SV.val (Value.tuple #[]), SV.val (Value.tuple #[]), SV.val (Value.tuple #[]), SV.val (Value.tuple #[]), SV.val (Value.tuple #[]), SV.val (Value.tuple #[]), SV.val (Value.tuple #[]), SV.val (Value.tuple #[]), SV.val (Value.tuple #[]), SV.val (Value.tuple #[]), SV.val (Value.tuple #[]), SV.val (Value.tuple #[]), SV.val (Value.tuple #[]), SV.val (Value.tuple #[]), SV.val (Value.tuple #[]), SV.val (Value.tuple #[]), SV.val (Value.tuple #[]), SV.val (Value.tuple #[]), SV.val (Value.tuple #[]), SV.val (Value.tuple #[]), SV.val (Value.tuple #[]), SV.val (Value.tuple #[]), SV.val (Value.tuple #[]), SV.val (Value.tuple #[]), SV.val (Value.tuple #[]), SV.val (Value.tuple #[]), SV.val (Value.tuple #[]), SV.val (Value.tuple #[]), SV.val (Value.tuple #[]), SV.val (Value.tuple #[]), SV.val (Value.tuple #[]), SV.val (Value.tuple #[]), SV.val (Value.tuple #[]), SV.val (Value.tuple #[]), SV.val (Value.tuple #[]), SV.val (Value.tuple #[]), SV.val (Value.tuple #[]), SV.val (Value.tuple #[]), SV.val (Value.tuple #[]), SV.val (Value.tuple #[]), SV.val (Value.tuple #[]), SV.val (Value.tuple #[]), SV.val (Value.tuple #[]), SV.val (Value.tuple #[]), SV.val (Value.tuple #[]), SV.val (Value.tuple #[]), SV.val (Value.tuple #[])], [⟨[SV.val (Value.int IntKind.i64 y), SV.val (Value.int IntKind.i64 m), SV.val (Value.int IntKind.i64 d)], 50⟩, ⟨[SV.val (Value.int IntKind.i64 y'), SV.val (Value.int IntKind.i64 m'), SV.val (Value.int IntKind.i64 d')], 50⟩, ⟨[SV.val (Value.int IntKind.i64 0), SV.val (Value.int IntKind.i64 0), SV.val (Value.int IntKind.i64 0), SV.val (Value.int IntKind.i64 0), SV.val (Value.int IntKind.i64 0), SV.val (Value.int IntKind.i64 0), SV.val (Value.int IntKind.i64 0), SV.val (Value.int IntKind.i64 0)], 41⟩, ⟨[SV.val (Value.int IntKind.i64 0), SV.val (Value.int IntKind.i64 0), SV.val (Value.int IntKind.i64 0), SV.val (Value.int IntKind.i64 0), SV.val (Value.int IntKind.i64 0), SV.val (Value.int IntKind.i64 0), SV.val (Value.int IntKind.i64 0), SV.val (Value.int IntKind.i64 0)], 41⟩])) (fun _ => _) (fun k => 0 ≤ k ∧ 12 * k ≤ N) (fun k => (N - k).toNat) (k0) (by kernel_rfl) (by kernel_rfl) Sub.refl (by first | omega | (simp; omega) | assumption | simp_all) (fun y0 px0 back0 => ?_)
      ((by_cases q0 : 12 * (y0 + 1) ≤ N) <;> have sU0 := sU y0 (by omega) (by omega) <;> have ek0 : ¬ 12 * (y0 + 1) ≤ N → s * y0 = s * K := fun q => by rw [show y0 = K by omega])
      · have _hh := True.intro
        refine st_i 89 .i64 (x' := y0 + 1) (Go.IntWalk.i64_in _ (by omega)) (by kernel_rfl) ?_
        refine st_i 90 .i64 (x' := s * (y0 + 1)) (Go.IntWalk.i64_in _ (by omega)) (by kernel_rfl) ?_
        refine st_fn ent80 (la1 (y0) (by omega) (by omega)) sub0 (by kernel_rfl) ?_
        refine st_fn ent79 (lbn1 (y0) (by assumption)) sub0 (by kernel_rfl) ?_
        refine st_i 95 .i64 (x' := y0 + 1) (Go.IntWalk.i64_in _ (by omega)) (by kernel_rfl) ?_
        refine st_forget [0, 1, 2, 3, 4, 5, 6, 7, 8, 9, 10, 11, 12, 13, 14, 15, 16, 17, 18, 19, 20, 21, 22, 23, 24, 25, 26, 27, 28, 29, 30, 31, 32, 33, 34, 35, 36, 37, 38, 39, 40, 41, 42, 43, 44, 45, 46, 47, 48, 49, 50, 51, 52, 53, 54, 55, 56, 57, 58, 59, 60, 61, 62, 63, 64, 65, 66, 67, 68, 69, 70, 71, 72, 73, 74, 75, 76, 77, 78, 79, 80, 81, 82, 83, 96, 97, 98, 99, 100, 101, 102, 103, 104, 105, 106, 107, 108, 109, 110, 111, 112, 113, 114, 115, 116, 117, 118, 119, 120, 121, 122, 123, 124, 125, 126, 127, 128, 129, 130, 131, 132, 133, 134, 135, 136, 137, 138, 139, 140, 141, 142, 143, 144, 145, 146, 147, 148, 149, 150, 151, 152, 153, 154, 155, 156, 157, 158, 159, 160, 161, 162, 163, 164, 165] (by kernel_rfl) ?_
        exact st_back back0 (y0 + 1) (by first | omega | (simp only []; omega) | (simp; omega)) (by first | omega | (simp only []; omega) | (simp; omega) | assumption | simp_all) (fun p hp => by first | exact hp | simp_all) (by kernel_rfl) (by kernel_rfl) (by kernel_rfl)
      · have _hh := True.intro
        refine st_i 89 .i64 (x' := y0 + 1) (Go.IntWalk.i64_in _ (by omega)) (by kernel_rfl) ?_
        refine st_i 90 .i64 (x' := s * (y0 + 1)) (Go.IntWalk.i64_in _ (by omega)) (by kernel_rfl) ?_
        refine st_fn ent80 (la1 (y0) (by omega) (by omega)) sub0 (by kernel_rfl) ?_
        refine st_fn ent79 (lby1 (y0) (by omega)) sub0 (by kernel_rfl) ?_
        refine st_i 98 IntKind.i64 (x := IntKind.i64.wrap (s * y0)) ((Go.IntWalk.i64_in (s * y0) (by omega)).trans ((ek0 q0))) (by kernel_rfl) ?_
        refine st_fn ent80 (la2) sub0 (by kernel_rfl) ?_
        refine st_i 109 .i64 (x' := y' - (y + s * K)) (Go.IntWalk.i64_in _ (by omega)) (by kernel_rfl) ?_
        refine st_i 110 .i64 (x' := 12 * (y' - (y + s * K))) (Go.IntWalk.i64_in _ (by omega)) (by kernel_rfl) ?_
        refine st_i 113 .i64 (x' := 12 * (y' - (y + s * K)) + m') (Go.IntWalk.i64_in _ (by omega)) (by kernel_rfl) ?_
        refine st_i 116 .i64 (x' := 12 * (y' - (y + s * K)) + m' - m) (Go.IntWalk.i64_in _ (by omega)) (by kernel_rfl) ?_
        refine st_i 117 IntKind.i64 (x := IntKind.i64.wrap (s * (12 * (y' - (y + s * K)) + m' - m))) ((Go.IntWalk.i64_in (s * (12 * (y' - (y + s * K)) + m' - m)) (by omega)).trans ((hD2.trans hk1.symm))) (by kernel_rfl) ?_
        refine st_b 119 (show (decide (k1 > 0)) = false by exact decide_eq_false (by omega)) (by kernel_rfl) ?_
        refine st_forget [0, 1, 2, 3, 4, 5, 6, 7, 8, 9, 10, 11, 12, 13, 14, 15, 16, 17, 18, 19, 20, 21, 22, 23, 24, 25, 26, 27, 28, 29, 30, 31, 32, 33, 34, 35, 36, 37, 38, 39, 40, 41, 42, 43, 44, 45, 46, 47, 48, 49, 50, 51, 52, 53, 54, 55, 56, 57, 58, 59, 60, 61, 62, 63, 64, 65, 66, 67, 68, 69, 70, 71, 72, 73, 74, 75, 76, 77, 78, 79, 80, 81, 82, 83, 84, 85, 86, 87, 88, 89, 90, 91, 92, 93, 94, 95, 96, 97, 98, 99, 100, 101, 102, 103, 104, 105, 106, 107, 108, 109, 110, 111, 112, 113, 114, 115, 116, 117, 118, 119, 120, 121, 136, 137, 138, 139, 140, 141, 142, 143, 144, 145, 146, 147, 148, 149, 150, 151, 152, 153, 154, 155, 156, 157, 158, 159, 160, 161, 162, 163, 164, 165] (by kernel_rfl) ?_
        refine st_loop (X := Int) (fun x => ([SV.val (Value.agg #[Value.int IntKind.i64 y, Value.int IntKind.i64 m, Value.int IntKind.i64 d]), SV.val (Value.agg #[Value.int IntKind.i64 y', Value.int IntKind.i64 m', Value.int IntKind.i64 d']), SV.val (Value.int IntKind.i64 1), SV.ptr 0 0, SV.ptr 1 0, SV.val (Value.tuple #[]), SV.ptr 2 0, SV.val (Value.int IntKind.i64 0), SV.val (Value.int IntKind.i64 (dnum y m d)), SV.val (Value.bool true), SV.val (Value.int IntKind.i64 n'), SV.val (Value.bool true), SV.ptr 3 0, SV.val (Value.int IntKind.i64 s), SV.val (Value.int IntKind.i64 y0), SV.ptr 4 0, .val (.int .i64 x), SV.val (Value.tuple #[]), SV.val (Value.tuple #[]), SV.val (Value.tuple #[]), SV.val (Value.tuple #[]), SV.val (Value.tuple #[]), SV.val (Value.tuple #[Value.int IntKind.i64 (dnum y m d), Value.bool true]), SV.val (Value.agg #[Value.int IntKind.i64 y, Value.int IntKind.i64 m, Value.int IntKind.i64 d]), SV.val (Value.tuple #[Value.int IntKind.i64 (dnum y m d), Value.bool true]), SV.val (Value.int IntKind.i64 (dnum y m d)), SV.val (Value.bool true), SV.val (Value.tuple #[Value.int IntKind.i64 n', Value.bool true]), SV.val (Value.agg #[Value.int IntKind.i64 y', Value.int IntKind.i64 m', Value.int IntKind.i64 d']), SV.val (Value.tuple #[Value.int IntKind.i64 n', Value.bool true]), SV.val (Value.int IntKind.i64 n'), SV.val (Value.bool true), SV.val (Value.bool true), SV.val (Value.bool false), SV.val (Value.bool false), SV.val (Value.bool true), SV.val (Value.bool false), SV.val (Value.bool false), SV.val (Value.bool false), SV.val (Value.int IntKind.i64 1), SV.val (Value.bool false), SV.val (Value.bool false), SV.val (Value.bool false), SV.val (Value.int IntKind.i64 1), SV.val (Value.bool false), SV.val (Value.bool false), SV.val (Value.tuple #[]), SV.val (Value.int IntKind.i64 1), SV.val (Value.bool false), SV.val (Value.tuple #[]), SV.val (Value.tuple #[]), SV.val (Value.tuple #[]), SV.val (Value.tuple #[]), SV.val (Value.int IntKind.i64 1), SV.val (Value.bool false), SV.val (Value.tuple #[]), SV.val (Value.tuple #[]), SV.val (Value.tuple #[]), SV.val (Value.tuple #[]), SV.val (Value.tuple #[]), SV.val (Value.tuple #[]), SV.val (Value.tuple #[]), SV.val (Value.tuple #[]), SV.val (Value.tuple #[]), SV.val (Value.agg #[Value.int IntKind.i64 0, Value.int IntKind.i64 0, Value.int IntKind.i64 0, Value.int IntKind.i64 0, Value.int IntKind.i64 0, Value.int IntKind.i64 0, Value.int IntKind.i64 0, Value.int IntKind.i64 0]), SV.val (Value.agg #[Value.int IntKind.i64 y', Value.int IntKind.i64 m', Value.int IntKind.i64 d']), SV.val (Value.agg #[Value.int IntKind.i64 y, Value.int IntKind.i64 m, Value.int IntKind.i64 d]), SV.val (Value.int IntKind.i64 s), SV.val (Value.int IntKind.i64 s), SV.val (Value.bool false), SV.val (Value.tuple #[]), SV.val (Value.int IntKind.i64 1), SV.val (Value.bool true), SV.val (Value.int IntKind.i64 s), SV.ptr 1 0, SV.val (Value.int IntKind.i64 y'), SV.ptr 0 0, SV.val (Value.int IntKind.i64 y), SV.val (Value.int IntKind.i64 (y' - y)), SV.val (Value.int IntKind.i64 k0), SV.val (Value.int IntKind.i64 k0), SV.val (Value.bool false), SV.val (Value.tuple #[]), SV.val (Value.tuple #[]), SV.val (Value.agg #[Value.int IntKind.i64 y, Value.int IntKind.i64 m, Value.int IntKind.i64 d]), SV.val (Value.agg #[Value.int IntKind.i64 y', Value.int IntKind.i64 m', Value.int IntKind.i64 d']), SV.val (Value.agg #[Value.int IntKind.i64 y, Value.int IntKind.i64 m, Value.int IntKind.i64 d]), SV.val (Value.int IntKind.i64 s), SV.val (Value.int IntKind.i64 y0), SV.val (Value.int IntKind.i64 (y0 + 1)), SV.val (Value.int IntKind.i64 (s * (y0 + 1))), SV.val (Value.agg #[Value.int IntKind.i64 (lY (ymi y m + s * (12 * (y0 + 1)))), Value.int IntKind.i64 (lM (ymi y m + s * (12 * (y0 + 1)))), Value.int IntKind.i64 d]), SV.val (Value.bool true), SV.val (Value.bool false), SV.any, SV.any, SV.val (Value.int IntKind.i64 s), SV.val (Value.int IntKind.i64 y0), SV.val (Value.int IntKind.i64 (s * K)), SV.ptr 3 0, SV.val (Value.agg #[Value.int IntKind.i64 y, Value.int IntKind.i64 m, Value.int IntKind.i64 d]), SV.ptr 3 0, SV.val (Value.int IntKind.i64 (s * K)), SV.val (Value.agg #[Value.int IntKind.i64 (y + s * K), Value.int IntKind.i64 m, Value.int IntKind.i64 d]), SV.val (Value.int IntKind.i64 s), SV.ptr 1 0, SV.val (Value.int IntKind.i64 y'), SV.ptr 4 0, SV.val (Value.int IntKind.i64 (y + s * K)), SV.val (Value.int IntKind.i64 (y' - (y + s * K))), SV.val (Value.int IntKind.i64 (12 * (y' - (y + s * K)))), SV.ptr 1 1, SV.val (Value.int IntKind.i64 m'), SV.val (Value.int IntKind.i64 (12 * (y' - (y + s * K)) + m')), SV.ptr 4 1, SV.val (Value.int IntKind.i64 m), SV.val (Value.int IntKind.i64 (12 * (y' - (y + s * K)) + m' - m)), SV.val (Value.int IntKind.i64 k1), SV.val (Value.int IntKind.i64 k1), SV.val (Value.bool false), SV.val (Value.tuple #[]), SV.val (Value.tuple #[]), .any, .any, .any, .any, .any, .any, .any, .any, .any, .any, .any, .any, .any, .any, SV.val (Value.tuple #[]), SV.val (Value.tuple #[]), SV.val (Value.tuple #[]), SV.val (Value.tuple #[]), SV.val (Value.tuple #[]), SV.val (Value.tuple #[]), SV.val (Value.tuple #[]), SV.val (Value.tuple #[]), SV.val (Value.tuple #[]), SV.val (Value.tuple #[]), SV.val (Value.tuple #[]), SV.val (Value.tuple #[]), SV.val (Value.tuple #[]), SV.val (Value.tuple #[]), SV.val (Value.tuple #[]), SV.val (Value.tuple #[]), SV.val (Value.tuple #[]), SV.val (Value.tuple #[]), SV.val (Value.tuple #[]), SV.val (Value.tuple #[]), SV.val (Value.tuple #[]), SV.val (Value.tuple #[]), SV.val (Value.tuple #[]), SV.val (Value.tuple #[]), SV.val (Value.tuple #[]), SV.val (Value.tuple #[]), SV.val (Value.tuple #[]), SV.val (Value.tuple #[]), SV.val (Value.tuple #[]), SV.val (Value.tuple #[])], [⟨[SV.val (Value.int IntKind.i64 y), SV.val (Value.int IntKind.i64 m), SV.val (Value.int IntKind.i64 d)], 50⟩, ⟨[SV.val (Value.int IntKind.i64 y'), SV.val (Value.int IntKind.i64 m'), SV.val (Value.int IntKind.i64 d')], 50⟩, ⟨[SV.val (Value.int IntKind.i64 0), SV.val (Value.int IntKind.i64 0), SV.val (Value.int IntKind.i64 0), SV.val (Value.int IntKind.i64 0), SV.val (Value.int IntKind.i64 0), SV.val (Value.int IntKind.i64 0), SV.val (Value.int IntKind.i64 0), SV.val (Value.int IntKind.i64 0)], 41⟩, ⟨[SV.val (Value.int IntKind.i64 (s * K)), SV.val (Value.int IntKind.i64 0), SV.val (Value.int IntKind.i64 0), SV.val (Value.int IntKind.i64 0), SV.val (Value.int IntKind.i64 0), SV.val (Value.int IntKind.i64 0), SV.val (Value.int IntKind.i64 0), SV.val (Value.int IntKind.i64 0)], 41⟩, ⟨[SV.val (Value.int IntKind.i64 (y + s * K)), SV.val (Value.int IntKind.i64 m), SV.val (Value.int IntKind.i64 d)], 50⟩])) (fun _ => _) (fun k => 0 ≤ k ∧ 12 * K + k ≤ N) (fun k => (N - k).toNat) (k1) (by kernel_rfl) (by kernel_rfl) Sub.refl (by first | omega | (simp; omega) | assumption | simp_all) (fun y1 px1 back1 => ?_)
        ((by_cases q1 : 12 * K + (y1 + 1) ≤ N) <;> have sU1 := sU y1 (by omega) (by omega) <;> have ek1 : ¬ 12 * K + (y1 + 1) ≤ N → s * y1 = s * M := fun q => by rw [show y1 = M by omega])
        · have _hh := True.intro
          refine st_i 129 .i64 (x' := y1 + 1) (Go.IntWalk.i64_in _ (by omega)) (by kernel_rfl) ?_
          refine st_i 130 .i64 (x' := s * (y1 + 1)) (Go.IntWalk.i64_in _ (by omega)) (by kernel_rfl) ?_
          refine st_fn ent80 (la3 (y1) (by omega) (by omega)) sub0 (by kernel_rfl) ?_
          refine st_fn ent79 (lbn3 (y1) (by assumption)) sub0 (by kernel_rfl) ?_
          refine st_i 135 .i64 (x' := y1 + 1) (Go.IntWalk.i64_in _ (by omega)) (by kernel_rfl) ?_
          refine st_forget [0, 1, 2, 3, 4, 5, 6, 7, 8, 9, 10, 11, 12, 13, 14, 15, 16, 17, 18, 19, 20, 21, 22, 23, 24, 25, 26, 27, 28, 29, 30, 31, 32, 33, 34, 35, 36, 37, 38, 39, 40, 41, 42, 43, 44, 45, 46, 47, 48, 49, 50, 51, 52, 53, 54, 55, 56, 57, 58, 59, 60, 61, 62, 63, 64, 65, 66, 67, 68, 69, 70, 71, 72, 73, 74, 75, 76, 77, 78, 79, 80, 81, 82, 83, 84, 85, 86, 87, 88, 89, 90, 91, 92, 93, 94, 95, 96, 97, 98, 99, 100, 101, 102, 103, 104, 105, 106, 107, 108, 109, 110, 111, 112, 113, 114, 115, 116, 117, 118, 119, 120, 121, 136, 137, 138, 139, 140, 141, 142, 143, 144, 145, 146, 147, 148, 149, 150, 151, 152, 153, 154, 155, 156, 157, 158, 159, 160, 161, 162, 163, 164, 165] (by kernel_rfl) ?_
          exact st_back back1 (y1 + 1) (by first | omega | (simp only []; omega) | (simp; omega)) (by first | omega | (simp only []; omega) | (simp; omega) | assumption | simp_all) (fun p hp => by first | exact hp | simp_all) (by kernel_rfl) (by kernel_rfl) (by kernel_rfl)
        · have _hh := True.intro
          refine st_i 129 .i64 (x' := y1 + 1) (Go.IntWalk.i64_in _ (by omega)) (by kernel_rfl) ?_
          refine st_i 130 .i64 (x' := s * (y1 + 1)) (Go.IntWalk.i64_in _ (by omega)) (by kernel_rfl) ?_
          refine st_fn ent80 (la3 (y1) (by omega) (by omega)) sub0 (by kernel_rfl) ?_
          refine st_fn ent79 (lby3 (y1) (by omega)) sub0 (by kernel_rfl) ?_
          refine st_i 138 IntKind.i64 (x := IntKind.i64.wrap (s * y1)) ((Go.IntWalk.i64_in (s * y1) (by omega)).trans ((ek1 q1))) (by kernel_rfl) ?_
          refine st_fn ent80 (la4) sub0 (by kernel_rfl) ?_
          refine st_fn ent81 (lr) sub0 (by kernel_rfl) ?_
          refine st_fn ent77 (ld3) sub0 (by kernel_rfl) ?_
          refine st_i 163 .i64 (x' := n' - n'') (Go.IntWalk.i64_in _ (by omega)) (by kernel_rfl) ?_
          exact st_ret Try.func26 (by kernel_rfl)
end
end Go.Proofs.Ytccllfegnijpiaa
end
section
/-
  What lies between two days, months at most: what the reference answers of layer 19.
-/
set_option linter.unusedVariables false
set_option linter.unusedSimpArgs false
set_option maxRecDepth 100000
namespace Go.Proofs.Ytccllfegnijpiaa
open Go Go.RowKit Go.Ev

section
variable (y m d y' m' d' L : Int)
theorem zunt_2 (s N T : Int) (h : dOk y m d) (h' : dOk y' m' d') (hs : s = 1 ∨ s = -1) (e : cmp3 y' m' d' y m d = s) (hN : mM s y m d y' m' d' = N) (hT : ymi y m + s * N = T) :
    Fn 26 [] [dv y m d, dv y' m' d', .int .i64 2] (.tuple #[duv 0 (s * N) 0 (dnum y' m' d' - dnum (lY T) (lM T) (cD (lY T) (lM T) d)) 0 0 0 0, .int .i64 0]) := by
  have ld1 := zdays_yes y m d h
  have ld2 := zdays_yes y' m' d' h'
  have yy := dOk_year h
  have yy' := dOk_year h'
  have n0 := mM_pos h.1.1 h.1.2.1 h'.1.1 h'.1.2.1 hs e
  have n1 := mM_le (y := y) (y' := y') (d := d) (d' := d') h.1.1 h.1.2.1 h'.1.1 h'.1.2.1 hs
  have gp := mM_gap y m d y' m' d' hs
  have fi := fits_iff (s := s) (y := y) (m := m) (d := d) (y' := y') (m' := m') (d' := d') h.1.1 h.1.2.1 h'.1.1 h'.1.2.1 hs
  rw [hN] at n0 n1 gp fi
  have n2 : N ≤ 10000000 := by
    rcases hs with rfl | rfl
    · rw [if_pos rfl] at n1; omega
    · rw [if_neg (by omega)] at n1; omega
  have m1 := h.1.1
  have m2 := h.1.2.1
  have m1' := h'.1.1
  have m2' := h'.1.2.1
  have la2 : Fn 80 [] [dv y m d, .int .i64 0, .int .i64 0] (dv y m d) := by
    have := zlater y m d 0 0 (ymi y m) (by unfold ymi; omega) (by omega) (by omega) m1 m2 (by omega) (by omega) (by omega) (by omega)
    rwa [(l_ymi m1 m2).1, (l_ymi m1 m2).2] at this
  have la3 : ∀ k : Int, 0 ≤ k → k ≤ 10000000 → Fn 80 [] [dv y m d, .int .i64 0, .int .i64 (s * (k + 1))] (dv (lY (ymi y m + s * (k + 1))) (lM (ymi y m + s * (k + 1))) d) := fun k k0 k1 =>
    zlater y m d 0 (s * (k + 1)) _ (by unfold ymi; rcases hs with rfl | rfl <;> omega) (by omega) (by omega) m1 m2 (by omega) (by omega) (by rcases hs with rfl | rfl <;> omega) (by rcases hs with rfl | rfl <;> omega)
  have lbn3 : ∀ k : Int, k + 1 ≤ N → Fn 79 [] [dv y m d, dv y' m' d', dv (lY (ymi y m + s * (k + 1))) (lM (ymi y m + s * (k + 1))) d] (.bool false) := fun k q => zbey_n s y m d y' m' d' _ _ _ hs e ((fi _).2 q)
  have lby3 : ∀ k : Int, N < k + 1 → Fn 79 [] [dv y m d, dv y' m' d', dv (lY (ymi y m + s * (k + 1))) (lM (ymi y m + s * (k + 1))) d] (.bool true) := fun k q => zbey_y s y m d y' m' d' _ _ _ hs e (Classical.byContradiction fun z => by have := (fi _).1 z; omega)
  have la4 : Fn 80 [] [dv y m d, .int .i64 0, .int .i64 (s * N)] (dv (lY T) (lM T) d) :=
    zlater y m d 0 (s * N) T (by unfold ymi at hT; rcases hs with rfl | rfl <;> omega) (by omega) (by omega) m1 m2 (by omega) (by omega) (by rcases hs with rfl | rfl <;> omega) (by rcases hs with rfl | rfl <;> omega)
  have fo := (from_ok h h' hs e).1
  unfold fD' fY' fM' at fo
  rw [hN, hT] at fo
  have lr := zreg_cy (lY T) (lM T) d (ymi_l T).2.1 (ymi_l T).2.2 h.1.2.2.1 fo
  have ld3 := zdays_yes (lY T) (lM T) (cD (lY T) (lM T) d) fo
  have b1 := fo.2
  have b2 := h'.2
  have cc := zcmp5 y' m' d' y m d
  rw [e] at cc
  generalize dnum y' m' d' = n' at *
  generalize dnum (lY T) (lM T) (cD (lY T) (lM T) d) = n'' at *
  obtain ⟨D2, hD2⟩ : ∃ D2, s * (12 * (y' - y) + m' - m) = D2 := ⟨_, rfl⟩
  have f2 : N ≤ D2 ∧ D2 ≤ N + 1 := by
    unfold ymi at gp
    rcases hs with rfl | rfl <;> omega
  have sM : -10000000 ≤ s * N ∧ s * N ≤ 10000000 := sBd hs (by omega)
  have sU : ∀ k : Int, 0 ≤ k → k ≤ 100000000 → -1000000000 ≤ s * (k + 1) ∧ s * (k + 1) ≤ 1000000000 := fun k k0 k1 => sBd hs (by omega)
  have s0 : s ≠ 0 := by rcases hs with rfl | rfl <;> omega
  clear h h' e hN hT fo n1 gp fi hs
  by_cases c1 : 0 < D2
  · obtain ⟨k1, hk1⟩ : ∃ k1, D2 - 1 = k1 := ⟨_, rfl⟩
    refine fn_of Try.func26 rfl fun ww => ?_
    refine st_fn ent77 (ld1) sub0 (by kernel_rfl) ?_
    refine st_fn ent77 (ld2) sub0 (by kernel_rfl) ?_
    refine st_fn ent78 (cc) sub0 (by kernel_rfl) ?_
    refine st_b 69 (show (s == 0) = false by exact decide_eq_false (by omega)) (by kernel_rfl) ?_
    refine st_fn ent80 (la2) sub0 (by kernel_rfl) ?_
    refine st_i 109 .i64 (x' := y' - y) (Go.IntWalk.i64_in _ (by omega)) (by kernel_rfl) ?_
    refine st_i 110 .i64 (x' := 12 * (y' - y)) (Go.IntWalk.i64_in _ (by omega)) (by kernel_rfl) ?_
    refine st_i 113 .i64 (x' := 12 * (y' - y) + m') (Go.IntWalk.i64_in _ (by omega)) (by kernel_rfl) ?_
    refine st_i 116 .i64 (x' := 12 * (y' - y) + m' - m) (Go.IntWalk.i64_in _ (by omega)) (by kernel_rfl) ?_
    refine st_i 117 IntKind.i64 (x := IntKind.i64.wrap (s * (12 * (y' - y) + m' - m))) ((Go.IntWalk.i64_in (s * (12 * (y' - y) + m' - m)) (by omega)).trans (hD2)) (by kernel_rfl) ?_
    refine st_b 119 (show (decide (D2 > 0)) = true by exact decide_eq_true (by omega)) (by kernel_rfl) ?_
    refine st_i 121 IntKind.i64 (x := IntKind.i64.wrap (D2 - 1)) ((Go.IntWalk.i64_in (D2 - 1) (by omega)).trans (hk1)) (by kernel_rfl) ?_
    refine st_forget [0, 1, 2, 3, 4, 5, 6, 7, 8, 9, 10, 11, 12, 13, 14, 15, 16, 17, 18, 19, 20, 21, 22, 23, 24, 25, 26, 27, 28, 29, 30, 31, 32, 33, 34, 35, 36, 37, 38, 39, 40, 41, 42, 43, 44, 45, 46, 47, 48, 49, 50, 51, 52, 53, 54, 55, 56, 57, 58, 59, 60, 61, 62, 63, 64, 65, 66, 67, 68, 69, 70, 71, 72, 73, 74, 75, 76, 77, 78, 79, 80, 81, 82, 83, 84, 85, 86, 87, 88, 89, 90, 91, 92, 93, 94, 95, 96, 97, 98, 99, 100, 101, 102, 103, 104, 105, 106, 107, 108, 109, 110, 111, 112, 113, 114, 115, 116, 117, 118, 119, 120, 121, 136, 137, 138, 139, 140, 141, 142, 143, 144, 145, 146, 147, 148, 149, 150, 151, 152, 153, 154, 155, 156, 157, 158, 159, 160, 161, 162, 163, 164, 165] (by kernel_rfl) ?_
    refine st_loop (X := Int) (fun x => ([SV.val (Value.agg #[Value.int IntKind.i64 y, Value.int IntKind.i64 m, Value.int IntKind.i64 d]), SV.val (Value.agg #[Value.int IntKind.i64 y', Value.int IntKind.i64 m', Value.int IntKind.i64 d']), SV.val (Value.int IntKind.i64 2), SV.ptr 0 0, SV.ptr 1 0, SV.val (Value.tuple #[]), SV.ptr 2 0, SV.val (Value.int IntKind.i64 0), SV.val (Value.int IntKind.i64 (dnum y m d)), SV.val (Value.bool true), SV.val (Value.int IntKind.i64 n'), SV.val (Value.bool true), SV.ptr 3 0, SV.val (Value.int IntKind.i64 s), SV.val (Value.tuple #[]), SV.ptr 4 0, .val (.int .i64 x), SV.val (Value.tuple #[]), SV.val (Value.tuple #[]), SV.val (Value.tuple #[]), SV.val (Value.tuple #[]), SV.val (Value.tuple #[]), SV.val (Value.tuple #[Value.int IntKind.i64 (dnum y m d), Value.bool true]), SV.val (Value.agg #[Value.int IntKind.i64 y, Value.int IntKind.i64 m, Value.int IntKind.i64 d]), SV.val (Value.tuple #[Value.int IntKind.i64 (dnum y m d), Value.bool true]), SV.val (Value.int IntKind.i64 (dnum y m d)), SV.val (Value.bool true), SV.val (Value.tuple #[Value.int IntKind.i64 n', Value.bool true]), SV.val (Value.agg #[Value.int IntKind.i64 y', Value.int IntKind.i64 m', Value.int IntKind.i64 d']), SV.val (Value.tuple #[Value.int IntKind.i64 n', Value.bool true]), SV.val (Value.int IntKind.i64 n'), SV.val (Value.bool true), SV.val (Value.bool true), SV.val (Value.bool false), SV.val (Value.bool false), SV.val (Value.bool true), SV.val (Value.bool false), SV.val (Value.bool false), SV.val (Value.bool false), SV.val (Value.int IntKind.i64 2), SV.val (Value.bool false), SV.val (Value.bool false), SV.val (Value.bool false), SV.val (Value.int IntKind.i64 2), SV.val (Value.bool false), SV.val (Value.bool false), SV.val (Value.tuple #[]), SV.val (Value.int IntKind.i64 2), SV.val (Value.bool false), SV.val (Value.tuple #[]), SV.val (Value.tuple #[]), SV.val (Value.tuple #[]), SV.val (Value.tuple #[]), SV.val (Value.int IntKind.i64 2), SV.val (Value.bool false), SV.val (Value.tuple #[]), SV.val (Value.tuple #[]), SV.val (Value.tuple #[]), SV.val (Value.tuple #[]), SV.val (Value.tuple #[]), SV.val (Value.tuple #[]), SV.val (Value.tuple #[]), SV.val (Value.tuple #[]), SV.val (Value.tuple #[]), SV.val (Value.agg #[Value.int IntKind.i64 0, Value.int IntKind.i64 0, Value.int IntKind.i64 0, Value.int IntKind.i64 0, Value.int IntKind.i64 0, Value.int IntKind.i64 0, Value.int IntKind.i64 0, Value.int IntKind.i64 0]), SV.val (Value.agg #[Value.int IntKind.i64 y', Value.int IntKind.i64 m', Value.int IntKind.i64 d']), SV.val (Value.agg #[Value.int IntKind.i64 y, Value.int IntKind.i64 m, Value.int IntKind.i64 d]), SV.val (Value.int IntKind.i64 s), SV.val (Value.int IntKind.i64 s), SV.val (Value.bool false), SV.val (Value.tuple #[]), SV.val (Value.int IntKind.i64 2), SV.val (Value.bool false), SV.val (Value.tuple #[]), SV.val (Value.tuple #[]), SV.val (Value.tuple #[]), SV.val (Value.tuple #[]), SV.val (Value.tuple #[]), SV.val (Value.tuple #[]), SV.val (Value.tuple #[]), SV.val (Value.tuple #[]), SV.val (Value.tuple #[]), SV.val (Value.tuple #[]), SV.val (Value.tuple #[]), SV.val (Value.tuple #[]), SV.val (Value.tuple #[]), SV.val (Value.tuple #[]), SV.val (Value.tuple #[]), SV.val (Value.tuple #[]), SV.val (Value.tuple #[]), SV.val (Value.tuple #[]), SV.val (Value.tuple #[]), SV.val (Value.tuple #[]), SV.val (Value.tuple #[]), SV.val (Value.tuple #[]), SV.val (Value.tuple #[]), SV.val (Value.tuple #[]), SV.val (Value.tuple #[]), SV.val (Value.tuple #[]), SV.val (Value.tuple #[]), SV.val (Value.agg #[Value.int IntKind.i64 y, Value.int IntKind.i64 m, Value.int IntKind.i64 d]), SV.ptr 3 0, SV.val (Value.int IntKind.i64 0), SV.val (Value.agg #[Value.int IntKind.i64 y, Value.int IntKind.i64 m, Value.int IntKind.i64 d]), SV.val (Value.int IntKind.i64 s), SV.ptr 1 0, SV.val (Value.int IntKind.i64 y'), SV.ptr 4 0, SV.val (Value.int IntKind.i64 y), SV.val (Value.int IntKind.i64 (y' - y)), SV.val (Value.int IntKind.i64 (12 * (y' - y))), SV.ptr 1 1, SV.val (Value.int IntKind.i64 m'), SV.val (Value.int IntKind.i64 (12 * (y' - y) + m')), SV.ptr 4 1, SV.val (Value.int IntKind.i64 m), SV.val (Value.int IntKind.i64 (12 * (y' - y) + m' - m)), SV.val (Value.int IntKind.i64 D2), SV.val (Value.int IntKind.i64 D2), SV.val (Value.bool true), SV.val (Value.int IntKind.i64 D2), SV.val (Value.int IntKind.i64 k1), .any, .any, .any, .any, .any, .any, .any, .any, .any, .any, .any, .any, .any, .any, SV.val (Value.tuple #[]), SV.val (Value.tuple #[]), SV.val (Value.tuple #[]), SV.val (Value.tuple #[]), SV.val (Value.tuple #[]), SV.val (Value.tuple #[]), SV.val (Value.tuple #[]), SV.val (Value.tuple #[]), SV.val (Value.tuple #[]), SV.val (Value.tuple #[]), SV.val (Value.tuple #[]), SV.val (Value.tuple #[]), SV.val (Value.tuple #[]), SV.val (Value.tuple #[]), SV.val (Value.tuple #[]), SV.val (Value.tuple #[]), SV.val (Value.tuple #[]), SV.val (Value.tuple #[]), SV.val (Value.tuple #[]), SV.val (Value.tuple #[]), SV.val (Value.tuple #[]), SV.val (Value.tuple #[]), SV.val (Value.tuple #[]), SV.val (Value.tuple #[]), SV.val (Value.tuple #[]), SV.val (Value.tuple #[]), SV.val (Value.tuple #[]), SV.val (Value.tuple #[]), SV.val (Value.tuple #[]), SV.val (Value.tuple #[])], [⟨[SV.val (Value.int IntKind.i64 y), SV.val (Value.int IntKind.i64 m), SV.val (Value.int IntKind.i64 d)], 50⟩, ⟨[SV.val (Value.int IntKind.i64 y'), SV.val (Value.int IntKind.i64 m'), SV.val (Value.int IntKind.i64 d')], 50⟩, ⟨[SV.val (Value.int IntKind.i64 0), SV.val (Value.int IntKind.i64 0), SV.val (Value.int IntKind.i64 0), SV.val (Value.int IntKind.i64 0), SV.val (Value.int IntKind.i64 0), SV.val (Value.int IntKind.i64 0), SV.val (Value.int IntKind.i64 0), SV.val (Value.int IntKind.i64 0)], 41⟩, ⟨[SV.val (Value.int IntKind.i64 0), SV.val (Value.int IntKind.i64 0), SV.val (Value.int IntKind.i64 0), SV.val (Value.int IntKind.i64 0), SV.val (Value.int IntKind.i64 0), SV.val (Value.int IntKind.i64 0), SV.val (Value.int IntKind.i64 0), SV.val (Value.int IntKind.i64 0)], 41⟩, ⟨[SV.val (Value.int IntKind.i64 y), SV.val (Value.int IntKind.i64 m), SV.val (Value.int IntKind.i64 d)], 50⟩])) (fun _ => _) (fun k => 0 ≤ k ∧ k ≤ N) (fun k => (N - k).toNat) (k1) (by kernel_rfl) (by kernel_rfl) Sub.refl (by first | omega | (simp; omega) | assumption | simp_all) (fun y0 px0 back0 => ?_)
    ((by_cases q1 : y0 + 1 ≤ N) <;> have sU1 := sU y0 (by omega) (by omega) <;> have ek1 : ¬ y0 + 1 ≤ N → s * y0 = s * N := fun q => by rw [show y0 = N by omega])
    · have _hh := True.intro
      refine st_i 129 .i64 (x' := y0 + 1) (Go.IntWalk.i64_in _ (by omega)) (by kernel_rfl) ?_
      refine st_i 130 .i64 (x' := s * (y0 + 1)) (Go.IntWalk.i64_in _ (by omega)) (by kernel_rfl) ?_
      refine st_fn ent80 (la3 (y0) (by omega) (by omega)) sub0 (by kernel_rfl) ?_
      refine st_fn ent79 (lbn3 (y0) (by assumption)) sub0 (by kernel_rfl) ?_
      refine st_i 135 .i64 (x' := y0 + 1) (Go.IntWalk.i64_in _ (by omega)) (by kernel_rfl) ?_
      refine st_forget [0, 1, 2, 3, 4, 5, 6, 7, 8, 9, 10, 11, 12, 13, 14, 15, 16, 17, 18, 19, 20, 21, 22, 23, 24, 25, 26, 27, 28, 29, 30, 31, 32, 33, 34, 35, 36, 37, 38, 39, 40, 41, 42, 43, 44, 45, 46, 47, 48, 49, 50, 51, 52, 53, 54, 55, 56, 57, 58, 59, 60, 61, 62, 63, 64, 65, 66, 67, 68, 69, 70, 71, 72, 73, 74, 75, 76, 77, 78, 79, 80, 81, 82, 83, 84, 85, 86, 87, 88, 89, 90, 91, 92, 93, 94, 95, 96, 97, 98, 99, 100, 101, 102, 103, 104, 105, 106, 107, 108, 109, 110, 111, 112, 113, 114, 115, 116, 117, 118, 119, 120, 121, 136, 137, 138, 139, 140, 141, 142, 143, 144, 145, 146, 147, 148, 149, 150, 151, 152, 153, 154, 155, 156, 157, 158, 159, 160, 161, 162, 163, 164, 165] (by kernel_rfl) ?_
      exact st_back back0 (y0 + 1) (by first | omega | (simp only []; omega) | (simp; omega)) (by first | omega | (simp only []; omega) | (simp; omega) | assumption | simp_all) (fun p hp => by first | exact hp | simp_all) (by kernel_rfl) (by kernel_rfl) (by kernel_rfl)
    · have _hh := True.intro
      refine st_i 129 .i64 (x' := y0 + 1) (Go.IntWalk.i64_in _ (by omega)) (by kernel_rfl) ?_
      refine st_i 130 .i64 (x' := s * (y0 + 1)) (Go.IntWalk.i64_in _ (by omega)) (by kernel_rfl) ?_
      refine st_fn ent80 (la3 (y0) (by omega) (by omega)) sub0 (by kernel_rfl) ?_
      refine st_fn ent79 (lby3 (y0) (by omega)) sub0 (by kernel_rfl) ?_
      refine st_i 138 IntKind.i64 (x := IntKind.i64.wrap (s * y0)) ((Go.IntWalk.i64_in (s * y0) (by omega)).trans ((ek1 q1))) (by kernel_rfl) ?_
      refine st_fn ent80 (la4) sub0 (by kernel_rfl) ?_
      refine st_fn ent81 (lr) sub0 (by kernel_rfl) ?_
      refine st_fn ent77 (ld3) sub0 (by kernel_rfl) ?_
      refine st_i 163 .i64 (x' := n' - n'') (Go.IntWalk.i64_in _ (by omega)) (by kernel_rfl) ?_
      exact st_ret Try.func26 (by kernel_rfl)
  · obtain ⟨k1, hk1⟩ : ∃ k1, k1 = D2 := ⟨_, rfl⟩
    refine fn_of Try.func26 rfl fun ww => ?_
    refine st_fn ent77 (ld1) sub0 (by kernel_rfl) ?_
    refine st_fn ent77 (ld2) sub0 (by kernel_rfl) ?_
    refine st_fn ent78 (cc) sub0 (by kernel_rfl) ?_
    refine st_b 69 (show (s == 0) = false by exact decide_eq_false (by omega)) (by kernel_rfl) ?_
    refine st_fn ent80 (la2) sub0 (by kernel_rfl) ?_
    refine st_i 109 .i64 (x' := y' - y) (Go.IntWalk.i64_in _ (by omega)) (by kernel_rfl) ?_
    refine st_i 110 .i64 (x' := 12 * (y' - y)) (Go.IntWalk.i64_in _ (by omega)) (by kernel_rfl) ?_
    refine st_i 113 .i64 (x' := 12 * (y' - y) + m') (Go.IntWalk.i64_in _ (by omega)) (by kernel_rfl) ?_
    refine st_i 116 .i64 (x' := 12 * (y' - y) + m' - m) (Go.IntWalk.i64_in _ (by omega)) (by kernel_rfl) ?_
    refine st_i 117 IntKind.i64 (x := IntKind.i64.wrap (s * (12 * (y' - y) + m' - m))) ((Go.IntWalk.i64_in (s * (12 * (y' - y) + m' - m)) (by omega)).trans ((hD2.trans hk1.symm))) (by kernel_rfl) ?_
    refine st_b 119 (show (decide (k1 > 0)) = false by exact decide_eq_false (by omega)) (by kernel_rfl) ?_
    refine st_forget [0, 1, 2, 3, 4, 5, 6, 7, 8, 9, 10, 11, 12, 13, 14, 15, 16, 17, 18, 19, 20, 21, 22, 23, 24, 25, 26, 27, 28, 29, 30, 31, 32, 33, 34, 35, 36, 37, 38, 39, 40, 41, 42, 43, 44, 45, 46, 47, 48, 49, 50, 51, 52, 53, 54, 55, 56, 57, 58, 59, 60, 61, 62, 63, 64, 65, 66, 67, 68, 69, 70, 71, 72, 73, 74, 75, 76, 77, 78, 79, 80, 81, 82, 83, 84, 85, 86, 87, 88, 89, 90, 91, 92, 93, 94, 95, 96, 97, 98, 99, 100, 101, 102, 103, 104, 105, 106, 107, 108, 109, 110, 111, 112, 113, 114, 115, 116, 117, 118, 119, 120, 121, 136, 137, 138, 139, 140, 141, 142, 143, 144, 145, 146, 147, 148, 149, 150, 151, 152, 153, 154, 155, 156, 157, 158, 159, 160, 161, 162, 163, 164, 165] (by kernel_rfl) ?_
    refine st_loop (X := Int) (fun x => ([SV.val (Value.agg #[Value.int IntKind.i64 y, Value.int IntKind.i64 m, Value.int IntKind.i64 d]), SV.val (Value.agg #[Value.int IntKind.i64 y', Value.int IntKind.i64 m', Value.int IntKind.i64 d']), SV.val (Value.int IntKind.i64 2), SV.ptr 0 0, SV.ptr 1 0, SV.val (Value.tuple #[]), SV.ptr 2 0, SV.val (Value.int IntKind.i64 0), SV.val (Value.int IntKind.i64 (dnum y m d)), SV.val (Value.bool true), SV.val (Value.int IntKind.i64 n'), SV.val (Value.bool true), SV.ptr 3 0, SV.val (Value.int IntKind.i64 s), SV.val (Value.tuple #[]), SV.ptr 4 0, .val (.int .i64 x), SV.val (Value.tuple #[]), SV.val (Value.tuple #[]), SV.val (Value.tuple #[]), SV.val (Value.tuple #[]), SV.val (Value.tuple #[]), SV.val (Value.tuple #[Value.int IntKind.i64 (dnum y m d), Value.bool true]), SV.val (Value.agg #[Value.int IntKind.i64 y, Value.int IntKind.i64 m, Value.int IntKind.i64 d]), SV.val (Value.tuple #[Value.int IntKind.i64 (dnum y m d), Value.bool true]), SV.val (Value.int IntKind.i64 (dnum y m d)), SV.val (Value.bool true), SV.val (Value.tuple #[Value.int IntKind.i64 n', Value.bool true]), SV.val (Value.agg #[Value.int IntKind.i64 y', Value.int IntKind.i64 m', Value.int IntKind.i64 d']), SV.val (Value.tuple #[Value.int IntKind.i64 n', Value.bool true]), SV.val (Value.int IntKind.i64 n'), SV.val (Value.bool true), SV.val (Value.bool true), SV.val (Value.bool false), SV.val (Value.bool false), SV.val (Value.bool true), SV.val (Value.bool false), SV.val (Value.bool false), SV.val (Value.bool false), SV.val (Value.int IntKind.i64 2), SV.val (Value.bool false), SV.val (Value.bool false), SV.val (Value.bool false), SV.val (Value.int IntKind.i64 2), SV.val (Value.bool false), SV.val (Value.bool false), SV.val (Value.tuple #[]), SV.val (Value.int IntKind.i64 2), SV.val (Value.bool false), SV.val (Value.tuple #[]), SV.val (Value.tuple #[]), SV.val (Value.tuple #[]), SV.val (Value.tuple #[]), SV.val (Value.int IntKind.i64 2), SV.val (Value.bool false), SV.val (Value.tuple #[]), SV.val (Value.tuple #[]), SV.val (Value.tuple #[]), SV.val (Value.tuple #[]), SV.val (Value.tuple #[]), SV.val (Value.tuple #[]), SV.val (Value.tuple #[]), SV.val (Value.tuple #[]), SV.val (Value.tuple #[]), SV.val (Value.agg #[Value.int IntKind.i64 0, Value.int IntKind.i64 0, Value.int IntKind.i64 0, Value.int IntKind.i64 0, Value.int IntKind.i64 0, Value.int IntKind.i64 0, Value.int IntKind.i64 0, Value.int IntKind.i64 0]), SV.val (Value.agg #[Value.int IntKind.i64 y', Value.int IntKind.i64 m', Value.int IntKind.i64 d']), SV.val (Value.agg #[Value.int IntKind.i64 y, Value.int IntKind.i64 m, Value.int IntKind.i64 d]), SV.val (Value.int IntKind.i64 s), SV.val (Value.int IntKind.i64 s), SV.val (Value.bool false), SV.val (Value.tuple #[]), SV.val (Value.int IntKind.i64 2), SV.val (Value.bool false), SV.val (Value.tuple #[]), SV.val (Value.tuple #[]), SV.val (Value.tuple #[]), SV.val (Value.tuple #[]), SV.val (Value.tuple #[]), SV.val (Value.tuple #[]), SV.val (Value.tuple #[]), SV.val (Value.tuple #[]), SV.val (Value.tuple #[]), SV.val (Value.tuple #[]), SV.val (Value.tuple #[]), SV.val (Value.tuple #[]), SV.val (Value.tuple #[]), SV.val (Value.tuple #[]), SV.val (Value.tuple #[]), SV.val (Value.tuple #[]), SV.val (Value.tuple #[]), SV.val (Value.tuple #[]), SV.val (Value.tuple #[]), SV.val (Value.tuple #[]), SV.val (Value.tuple #[]), SV.val (Value.tuple #[]), SV.val (Value.tuple #[]), SV.val (Value.tuple #[]), SV.val (Value.tuple #[]), SV.val (Value.tuple #[]), SV.val (Value.tuple #[]), SV.val (Value.agg #[Value.int IntKind.i64 y, Value.int IntKind.i64 m, Value.int IntKind.i64 d]), SV.ptr 3 0, SV.val (Value.int IntKind.i64 0), SV.val (Value.agg #[Value.int IntKind.i64 y, Value.int IntKind.i64 m, Value.int IntKind.i64 d]), SV.val (Value.int IntKind.i64 s), SV.ptr 1 0, SV.val (Value.int IntKind.i64 y'), SV.ptr 4 0, SV.val (Value.int IntKind.i64 y), SV.val (Value.int IntKind.i64 (y' - y)), SV.val (Value.int IntKind.i64 (12 * (y' - y))), SV.ptr 1 1, SV.val (Value.int IntKind.i64 m'), SV.val (Value.int IntKind.i64 (12 * (y' - y) + m')), SV.ptr 4 1, SV.val (Value.int IntKind.i64 m), SV.val (Value.int IntKind.i64 (12 * (y' - y) + m' - m)), SV.val (Value.int IntKind.i64 k1), SV.val (Value.int IntKind.i64 k1), SV.val (Value.bool false), SV.val (Value.tuple #[]), SV.val (Value.tuple #[]), .any, .any, .any, .any, .any, .any, .any, .any, .any, .any, .any, .any, .any, .any, SV.val (Value.tuple #[]), SV.val (Value.tuple #[]), SV.val (Value.tuple #[]), SV.val (Value.tuple #[]), SV.val (Value.tuple #[]), SV.val (Value.tuple #[]), SV.val (Value.tuple #[]), SV.val (Value.tuple #[]), SV.val (Value.tuple #[]), SV.val (Value.tuple #[]), SV.val (Value.tuple #[]), SV.val (Value.tuple #[]), SV.val (Value.tuple #[]), SV.val (Value.tuple #[]), SV.val (Value.tuple #[]), SV.val (Value.tuple #[]), SV.val (Value.tuple #[]), SV.val (Value.tuple #[]), SV.val (Value.tuple #[]), SV.val (Value.tuple #[]), SV.val (Value.tuple #[]), SV.val (Value.tuple #[]), SV.val (Value.tuple #[]), SV.val (Value.tuple #[]), SV.val (Value.tuple #[]), SV.val (Value.tuple #[]), SV.val (Value.tuple #[]), SV.val (Value.tuple #[]), SV.val (Value.tuple #[]), SV.val (Value.tuple #[])], [⟨[SV.val (Value.int IntKind.i64 y), SV.val (Value.int IntKind.i64 m), SV.val (Value.int IntKind.i64 d)], 50⟩, ⟨[SV.val (Value.int IntKind.i64 y'), SV.val (Value.int IntKind.i64 m'), SV.val (Value.int IntKind.i64 d')], 50⟩, ⟨[SV.val (Value.int IntKind.i64 0), SV.val (Value.int IntKind.i64 0), SV.val (Value.int IntKind.i64 0), SV.val (Value.int IntKind.i64 0), SV.val (Value.int IntKind.i64 0), SV.val (Value.int IntKind.i64 0), SV.val (Value.int IntKind.i64 0), SV.val (Value.int IntKind.i64 0)], 41⟩, ⟨[SV.val (Value.int IntKind.i64 0), SV.val (Value.int IntKind.i64 0), SV.val (Value.int IntKind.i64 0), SV.val (Value.int IntKind.i64 0), SV.val (Value.int IntKind.i64 0), SV.val (Value.int IntKind.i64 0), SV.val (Value.int IntKind.i64 0), SV.val (Value.int IntKind.i64 0)], 41⟩, ⟨[SV.val (Value.int IntKind.i64 y), SV.val (Value.int IntKind.i64 m), SV.val (Value.int IntKind.i64 d)], 50⟩])) (fun _ => _) (fun k => 0 ≤ k ∧ k ≤ N) (fun k => (N - k).toNat) (k1) (by kernel_rfl) (by kernel_rfl) Sub.refl (by first | omega | (simp; omega) | assumption | simp_all) (fun y0 px0 back0 => ?_)
    ((by_cases q1 : y0 + 1 ≤ N) <;> have sU1 := sU y0 (by omega) (by omega) <;> have ek1 : ¬ y0 + 1 ≤ N → s * y0 = s * N := fun q => by rw [show y0 = N by omega])
    · have _hh := True.intro
      refine st_i 129 .i64 (x' := y0 + 1) (Go.IntWalk.i64_in _ (by omega)) (by kernel_rfl) ?_
      refine st_i 130 .i64 (x' := s * (y0 + 1)) (Go.IntWalk.i64_in _ (by omega)) (by kernel_rfl) ?_
      refine st_fn ent80 (la3 (y0) (by omega) (by omega)) sub0 (by kernel_rfl) ?_
      refine st_fn ent79 (lbn3 (y0) (by assumption)) sub0 (by kernel_rfl) ?_
      refine st_i 135 .i64 (x' := y0 + 1) (Go.IntWalk.i64_in _ (by omega)) (by kernel_rfl) ?_
      refine st_forget [0, 1, 2, 3, 4, 5, 6, 7, 8, 9, 10, 11, 12, 13, 14, 15, 16, 17, 18, 19, 20, 21, 22, 23, 24, 25, 26, 27, 28, 29, 30, 31, 32, 33, 34, 35, 36, 37, 38, 39, 40, 41, 42, 43, 44, 45, 46, 47, 48, 49, 50, 51, 52, 53, 54, 55, 56, 57, 58, 59, 60, 61, 62, 63, 64, 65, 66, 67, 68, 69, 70, 71, 72, 73, 74, 75, 76, 77, 78, 79, 80, 81, 82, 83, 84, 85, 86, 87, 88, 89, 90, 91, 92, 93, 94, 95, 96, 97, 98, 99, 100, 101, 102, 103, 104, 105, 106, 107, 108, 109, 110, 111, 112, 113, 114, 115, 116, 117, 118, 119, 120, 121, 136, 137, 138, 139, 140, 141, 142, 143, 144, 145, 146, 147, 148, 149, 150, 151, 152, 153, 154, 155, 156, 157, 158, 159, 160, 161, 162, 163, 164, 165] (by kernel_rfl) ?_
      exact st_back back0 (y0 + 1) (by first | omega | (simp only []; omega) | (simp; omega)) (by first | omega | (simp only []; omega) | (simp; omega) | assumption | simp_all) (fun p hp => by first | exact hp | simp_all) (by kernel_rfl) (by kernel_rfl) (by kernel_rfl)
    · have _hh := True.intro
      refine st_i 129 .i64 (x' := y0 + 1) (Go.IntWalk.i64_in _ (by omega)) (by kernel_rfl) ?_
      refine st_i 130 .i64 (x' := s * (y0 + 1)) (Go.IntWalk.i64_in _ (by omega)) (by kernel_rfl) ?_
      refine st_fn ent80 (la3 (y0) (by omega) (by omega)) sub0 (by kernel_rfl) ?_
      refine st_fn ent79 (lby3 (y0) (by omega)) sub0 (by kernel_rfl) ?_
      refine st_i 138 IntKind.i64 (x := IntKind.i64.wrap (s * y0)) ((Go.IntWalk.i64_in (s * y0) (by omega)).trans ((ek1 q1))) (by kernel_rfl) ?_
      refine st_fn ent80 (la4) sub0 (by kernel_rfl) ?_
      refine st_fn ent81 (lr) sub0 (by kernel_rfl) ?_
      refine st_fn ent77 (ld3) sub0 (by kernel_rfl) ?_
      refine st_i 163 .i64 (x' := n' - n'') (Go.IntWalk.i64_in _ (by omega)) (by kernel_rfl) ?_
      exact st_ret Try.func26 (by kernel_rfl)
end
end Go.Proofs.Ytccllfegnijpiaa
end
section
/-
  A region that draws its order, one of whose stores (number t) hits a cell that the region loads: what loads is taken first where t waits for it; what looks at no memory is taken whenever it may come; S is asked for until t has come.
-/
namespace Go.Proofs.Ytccllfegnijpiaa
open Go Go.RowKit

section
variable {P : Program} {ops : Array Oper} {Q : Exit → Act → World → Prop} {md : Region.Mode} {S : World → Prop} {t : Nat}

/-- Operation number i. -/
def opAt (ops : Array Oper) (i : Nat) : Oper := (ops[i]?).getD { dst := none, op := .move (.const undef), type := 0, pos := "", after := #[], guard := none }
end
end Go.Proofs.Ytccllfegnijpiaa
end
section
/-
  The contracts of the layer of times, as the reckoner wants them.
-/
set_option linter.unusedVariables false
namespace Go.Proofs.Ytccllfegnijpiaa
open Go Go.RowKit Go.Ev

abbrev tv (h m s n : Int) : Value := .agg #[.int .i64 h, .int .i64 m, .int .i64 s, .int .i64 n]
theorem fcnanos_yes (h m s n : Int) (k : tOk h m s n) : Fn 88 [] [tv h m s n] (.tuple #[.int .i64 (tnan h m s n), .bool true]) := fn1 fun w => cnanos_yes h m s n w k
theorem fcnanos_no (h m s n : Int) (k : ¬ tOk h m s n) : Fn 88 [] [tv h m s n] (.tuple #[.int .i64 0, .bool false]) := fn1 fun w => cnanos_no h m s n w k
theorem fcof_yes (n : Int) (h0 : 0 ≤ n) (h1 : n < 86400000000000) : Fn 123 [] [.int .i64 n] (.tuple #[tv (tH n) (tM n) (tS n) (tN n), .bool true]) := fn1 fun w => cof_yes n w h0 h1
end Go.Proofs.Ytccllfegnijpiaa
end
section
/-
  Date-times: what the program and the reference answer of layer 7.
-/
set_option linter.unusedVariables false
set_option maxRecDepth 100000
namespace Go.Proofs.Ytccllfegnijpiaa
open Go Go.RowKit Go.Ev

abbrev ptv (y mo d h m s n : Int) : Value := .agg #[.int .i64 y, .int .i64 mo, .int .i64 d, .int .i64 h, .int .i64 m, .int .i64 s, .int .i64 n]
abbrev wz : Value := .agg #[.int .i64 0, .int .u64 0]
section
variable (y mo d h m s n : Int)
theorem pnumber_yes (k : pOk y mo d h m s n) : Fn 124 [] [ptv y mo d h m s n] (.tuple #[wv (pnum y mo d h m s n), .bool true]) := by
  obtain ⟨k1, k2, k3⟩ := k
  have b := tnan_bd k2
  obtain ⟨k4, k5, k6⟩ := k1
  have k1 : dOk y mo d := ⟨k4, k5, k6⟩
  clear k4
  have e : (if dnum y mo d = -100000001 then (if tnan h m s n = 0 then 1 else 0) else 0) = (0 : Int) := by
    split
    · split
      · rename_i q1 q2; exact absurd ⟨q1, q2⟩ k3
      · rfl
    · rfl
  unfold pnum
  by_cases q : dnum y mo d = -100000001
  · have q2 : tnan h m s n ≠ 0 := fun z => k3 ⟨q, z⟩
    clear e k3
    refine fn_of Try.func124 rfl fun ww => ?_
    refine st_fn ent70 (cdays_yes (y) (mo) (d) (by assumption)) sub0 (by kernel_rfl) ?_
    refine st_fn ent88 (fcnanos_yes (h) (m) (s) (n) (by assumption)) sub0 (by kernel_rfl) ?_
    refine st_b 30 (show (dnum y mo d == -100000001) = true by exact decide_eq_true (by omega)) (by kernel_rfl) ?_
    refine st_b 33 (show (tnan h m s n == 0) = false by exact decide_eq_false (by omega)) (by kernel_rfl) ?_
    refine st_fn ent52 (wmul_f (dnum y mo d) (86400000000000) (by (unfold I64; omega)) (by (unfold I64; omega))) sub0 (by kernel_rfl) ?_
    refine st_fn ent39 (wof_fn (tnan h m s n) (by (unfold I64; omega))) sub0 (by kernel_rfl) ?_
    refine st_fn ent51 (wadd_yes (dnum y mo d * 86400000000000) (tnan h m s n) (by (unfold W128; omega)) (by (unfold W128; omega)) (by (unfold W128; omega))) sub0 (by kernel_rfl) ?_
    exact st_ret Try.func124 (by kernel_rfl)
  · clear e k3
    refine fn_of Try.func124 rfl fun ww => ?_
    refine st_fn ent70 (cdays_yes (y) (mo) (d) (by assumption)) sub0 (by kernel_rfl) ?_
    refine st_fn ent88 (fcnanos_yes (h) (m) (s) (n) (by assumption)) sub0 (by kernel_rfl) ?_
    refine st_b 30 (show (dnum y mo d == -100000001) = false by exact decide_eq_false (by omega)) (by kernel_rfl) ?_
    refine st_fn ent52 (wmul_f (dnum y mo d) (86400000000000) (by (unfold I64; omega)) (by (unfold I64; omega))) sub0 (by kernel_rfl) ?_
    refine st_fn ent39 (wof_fn (tnan h m s n) (by (unfold I64; omega))) sub0 (by kernel_rfl) ?_
    refine st_fn ent51 (wadd_yes (dnum y mo d * 86400000000000) (tnan h m s n) (by (unfold W128; omega)) (by (unfold W128; omega)) (by (unfold W128; omega))) sub0 (by kernel_rfl) ?_
    exact st_ret Try.func124 (by kernel_rfl)
theorem pnumber_no (k : ¬ pOk y mo d h m s n) : Fn 124 [] [ptv y mo d h m s n] (.tuple #[wz, .bool false]) := by
  by_cases k1 : dOk y mo d
  · by_cases k2 : tOk h m s n
    · have k3 : dnum y mo d = -100000001 ∧ tnan h m s n = 0 := Classical.byContradiction fun q => k ⟨k1, k2, q⟩
      obtain ⟨k4, k5⟩ := k3
      clear k
      refine fn_of Try.func124 rfl fun ww => ?_
      refine st_fn ent70 (cdays_yes (y) (mo) (d) (by assumption)) sub0 (by kernel_rfl) ?_
      refine st_fn ent88 (fcnanos_yes (h) (m) (s) (n) (by assumption)) sub0 (by kernel_rfl) ?_
      refine st_b 30 (show (dnum y mo d == -100000001) = true by exact decide_eq_true (by omega)) (by kernel_rfl) ?_
      refine st_b 33 (show (tnan h m s n == 0) = true by exact decide_eq_true (by omega)) (by kernel_rfl) ?_
      exact st_ret Try.func124 (by kernel_rfl)
    · clear k
      refine fn_of Try.func124 rfl fun ww => ?_
      refine st_fn ent70 (cdays_yes (y) (mo) (d) (by assumption)) sub0 (by kernel_rfl) ?_
      refine st_fn ent88 (fcnanos_no (h) (m) (s) (n) (by assumption)) sub0 (by kernel_rfl) ?_
      exact st_ret Try.func124 (by kernel_rfl)
  · by_cases k2 : tOk h m s n
    · clear k
      refine fn_of Try.func124 rfl fun ww => ?_
      refine st_fn ent70 (cdays_no (y) (mo) (d) (by assumption)) sub0 (by kernel_rfl) ?_
      refine st_fn ent88 (fcnanos_yes (h) (m) (s) (n) (by assumption)) sub0 (by kernel_rfl) ?_
      exact st_ret Try.func124 (by kernel_rfl)
    · clear k
      refine fn_of Try.func124 rfl fun ww => ?_
      refine st_fn ent70 (cdays_no (y) (mo) (d) (by assumption)) sub0 (by kernel_rfl) ?_
      refine st_fn ent88 (fcnanos_no (h) (m) (s) (n) (by assumption)) sub0 (by kernel_rfl) ?_
      exact st_ret Try.func124 (by kernel_rfl)
theorem pright_yes (k : pOk y mo d h m s n) : Fn 90 [] [ptv y mo d h m s n] (.bool true) := by
  refine fn_of Try.func90 rfl fun ww => ?_
  refine st_fn ent124 (pnumber_yes (y) (mo) (d) (h) (m) (s) (n) (by assumption)) sub0 (by kernel_rfl) ?_
  exact st_ret Try.func90 (by kernel_rfl)
end
section
variable (y mo d h m s n y' mo' d' h' m' s' n' : Int)
theorem psince_yes (k : pOk y mo d h m s n) (k' : pOk y' mo' d' h' m' s' n') : Fn 87 [] [ptv y mo d h m s n, ptv y' mo' d' h' m' s' n'] (.tuple #[wv (pnum y' mo' d' h' m' s' n' - pnum y mo d h m s n), .int .i64 0]) := by
  have i := pOk_in k
  have i' := pOk_in k'
  have hx : W128 (pnum y mo d h m s n) := by unfold pIn at i; unfold W128; omega
  have hx' : W128 (pnum y' mo' d' h' m' s' n') := by unfold pIn at i'; unfold W128; omega
  have hy : W128 (pnum y' mo' d' h' m' s' n' - pnum y mo d h m s n) := by unfold pIn at i i'; unfold W128; omega
  refine fn_of Try.func87 rfl fun ww => ?_
  refine st_fn ent124 (pnumber_yes (y) (mo) (d) (h) (m) (s) (n) (by assumption)) sub0 (by kernel_rfl) ?_
  refine st_fn ent124 (pnumber_yes (y') (mo') (d') (h') (m') (s') (n') (by assumption)) sub0 (by kernel_rfl) ?_
  refine st_fn ent63 (wsub_yes (pnum y' mo' d' h' m' s' n') (pnum y mo d h m s n) (by assumption) (by assumption) (by assumption)) sub0 (by kernel_rfl) ?_
  exact st_ret Try.func87 (by kernel_rfl)
theorem psince_no (k : ¬ (pOk y mo d h m s n ∧ pOk y' mo' d' h' m' s' n')) : Fn 87 [] [ptv y mo d h m s n, ptv y' mo' d' h' m' s' n'] (.tuple #[wz, .int .i64 1]) := by
  by_cases k1 : pOk y mo d h m s n
  · have k2 : ¬ pOk y' mo' d' h' m' s' n' := fun q => k ⟨k1, q⟩
    clear k
    refine fn_of Try.func87 rfl fun ww => ?_
    refine st_fn ent124 (pnumber_yes (y) (mo) (d) (h) (m) (s) (n) (by assumption)) sub0 (by kernel_rfl) ?_
    refine st_fn ent124 (pnumber_no (y') (mo') (d') (h') (m') (s') (n') (by assumption)) sub0 (by kernel_rfl) ?_
    exact st_ret Try.func87 (by kernel_rfl)
  · by_cases k2 : pOk y' mo' d' h' m' s' n'
    · clear k
      refine fn_of Try.func87 rfl fun ww => ?_
      refine st_fn ent124 (pnumber_no (y) (mo) (d) (h) (m) (s) (n) (by assumption)) sub0 (by kernel_rfl) ?_
      refine st_fn ent124 (pnumber_yes (y') (mo') (d') (h') (m') (s') (n') (by assumption)) sub0 (by kernel_rfl) ?_
      exact st_ret Try.func87 (by kernel_rfl)
    · clear k
      refine fn_of Try.func87 rfl fun ww => ?_
      refine st_fn ent124 (pnumber_no (y) (mo) (d) (h) (m) (s) (n) (by assumption)) sub0 (by kernel_rfl) ?_
      refine st_fn ent124 (pnumber_no (y') (mo') (d') (h') (m') (s') (n') (by assumption)) sub0 (by kernel_rfl) ?_
      exact st_ret Try.func87 (by kernel_rfl)
end
end Go.Proofs.Ytccllfegnijpiaa
end
section
/-
  What lies between two date-times: what the program answers of layer 19.
-/
set_option linter.unusedVariables false
set_option linter.unusedSimpArgs false
set_option maxRecDepth 100000
namespace Go.Proofs.Ytccllfegnijpiaa
open Go Go.RowKit Go.Ev

section
variable (y mo d h m s n y' mo' d' h' m' s' n' L : Int)
theorem cbet_a (k : ¬ (pOk y mo d h m s n ∧ pOk y' mo' d' h' m' s' n' ∧ 1 ≤ L ∧ L ≤ 8)) : Fn 29 [] [ptv y mo d h m s n, ptv y' mo' d' h' m' s' n', .int .i64 L] (.tuple #[du0, .int .i64 1]) := by
  by_cases k1 : pOk y mo d h m s n ∧ pOk y' mo' d' h' m' s' n'
  · have r := psince_yes y mo d h m s n y' mo' d' h' m' s' n' k1.1 k1.2
    by_cases l : L < 1
    · clear k k1
      refine fn_of Try.func29 rfl fun ww => ?_
      refine st_fn ent87 (r) sub0 (by kernel_rfl) ?_
      refine st_b 30 (show (decide (L < 1)) = true by exact decide_eq_true (by omega)) (by kernel_rfl) ?_
      exact st_ret Try.func29 (by kernel_rfl)
    · have l2 : 8 < L := by
        rcases Int.lt_or_le 8 L with q | q
        · exact q
        · exact absurd ⟨k1.1, k1.2, by omega, q⟩ k
      clear k k1
      refine fn_of Try.func29 rfl fun ww => ?_
      refine st_fn ent87 (r) sub0 (by kernel_rfl) ?_
      refine st_b 30 (show (decide (L < 1)) = false by exact decide_eq_false (by omega)) (by kernel_rfl) ?_
      refine st_b 34 (show (decide (L > 8)) = true by exact decide_eq_true (by omega)) (by kernel_rfl) ?_
      exact st_ret Try.func29 (by kernel_rfl)
  · have r := psince_no y mo d h m s n y' mo' d' h' m' s' n' k1
    clear k k1
    refine fn_of Try.func29 rfl fun ww => ?_
    refine st_fn ent87 (r) sub0 (by kernel_rfl) ?_
    exact st_ret Try.func29 (by kernel_rfl)
variable (A B C D H M S N e : Int)
theorem cbet_5 (k : pOk y mo d h m s n) (k' : pOk y' mo' d' h' m' s' n') (l1 : 5 ≤ L) (l2 : L ≤ 8) (hl : Fn 64 [] [wv (pnum y' mo' d' h' m' s' n' - pnum y mo d h m s n), .int .i64 L] (.tuple #[duv A B C D H M S N, .int .i64 e])) :
    Fn 29 [] [ptv y mo d h m s n, ptv y' mo' d' h' m' s' n', .int .i64 L] (.tuple #[duv A B C D H M S N, .int .i64 e]) := by
  have r := psince_yes y mo d h m s n y' mo' d' h' m' s' n' k k'
  clear k k'
  refine fn_of Try.func29 rfl fun ww => ?_
  refine st_fn ent87 (r) sub0 (by kernel_rfl) ?_
  refine st_b 30 (show (decide (L < 1)) = false by exact decide_eq_false (by omega)) (by kernel_rfl) ?_
  refine st_b 34 (show (decide (L > 8)) = false by exact decide_eq_false (by omega)) (by kernel_rfl) ?_
  refine st_b 38 (show (decide (L > 4)) = true by exact decide_eq_true (by omega)) (by kernel_rfl) ?_
  refine st_fn ent64 (hl) sub0 (by kernel_rfl) ?_
  exact st_ret Try.func29 (by kernel_rfl)
theorem cbet_n (k : pOk y mo d h m s n) (k' : pOk y' mo' d' h' m' s' n') (l1 : 1 ≤ L) (l2 : L ≤ 4) (v z : Int) (hv : v = -1 ∨ v = 0 ∨ v = 1) (ev : cmp3 y' mo' d' y mo d = v) (ez : tnan h' m' s' n' - tnan h m s n = z) (hz : ¬ z * v < 0) (F1 F2 F3 F4 e' : Int)
    (hu : Fn 25 [] [dv y mo d, dv y' mo' d', .int .i64 L] (.tuple #[duv A B C D 0 0 0 0, .int .i64 e])) (hl : Fn 64 [] [wv z, .int .i64 5] (.tuple #[duv F1 F2 F3 F4 H M S N, .int .i64 e'])) :
    Fn 29 [] [ptv y mo d h m s n, ptv y' mo' d' h' m' s' n', .int .i64 L] (.tuple #[duv A B C D H M S N, .int .i64 e]) := by
  have r := psince_yes y mo d h m s n y' mo' d' h' m' s' n' k k'
  have n1 := fcnanos_yes h m s n k.2.1
  have n2 := fcnanos_yes h' m' s' n' k'.2.1
  have b1 := tnan_bd k.2.1
  have b2 := tnan_bd k'.2.1
  have cc := ccmp5 y' mo' d' y mo d
  rw [ev] at cc
  generalize tnan h m s n = t at *
  generalize tnan h' m' s' n' = t' at *
  have iz : I64 z := by unfold I64; omega
  generalize pnum y' mo' d' h' m' s' n' - pnum y mo d h m s n = pn at r
  clear k k' ev
  rcases hv with rfl | rfl | rfl
  · refine fn_of Try.func29 rfl fun ww => ?_
    refine st_fn ent87 (r) sub0 (by kernel_rfl) ?_
    refine st_b 30 (show (decide (L < 1)) = false by exact decide_eq_false (by omega)) (by kernel_rfl) ?_
    refine st_b 34 (show (decide (L > 8)) = false by exact decide_eq_false (by omega)) (by kernel_rfl) ?_
    refine st_b 38 (show (decide (L > 4)) = false by exact decide_eq_false (by omega)) (by kernel_rfl) ?_
    refine st_fn ent88 (n1) sub0 (by kernel_rfl) ?_
    refine st_fn ent88 (n2) sub0 (by kernel_rfl) ?_
    refine st_i 58 IntKind.i64 (x := IntKind.i64.wrap (t' - t)) ((Go.IntWalk.i64_in (t' - t) (by omega)).trans (ez)) (by kernel_rfl) ?_
    refine st_fn ent36 (cc) sub0 (by kernel_rfl) ?_
    refine st_i 68 .i64 (x' := z * -1) (Go.IntWalk.i64_in _ (by omega)) (by kernel_rfl) ?_
    refine st_b 69 (show (decide (z * -1 < 0)) = false by exact decide_eq_false (by omega)) (by kernel_rfl) ?_
    refine st_fn ent25 (hu) sub0 (by kernel_rfl) ?_
    refine st_fn ent39 (wof_fn (z) (by assumption)) sub0 (by kernel_rfl) ?_
    refine st_fn ent64 (hl) sub0 (by kernel_rfl) ?_
    exact st_ret Try.func29 (by kernel_rfl)
  · refine fn_of Try.func29 rfl fun ww => ?_
    refine st_fn ent87 (r) sub0 (by kernel_rfl) ?_
    refine st_b 30 (show (decide (L < 1)) = false by exact decide_eq_false (by omega)) (by kernel_rfl) ?_
    refine st_b 34 (show (decide (L > 8)) = false by exact decide_eq_false (by omega)) (by kernel_rfl) ?_
    refine st_b 38 (show (decide (L > 4)) = false by exact decide_eq_false (by omega)) (by kernel_rfl) ?_
    refine st_fn ent88 (n1) sub0 (by kernel_rfl) ?_
    refine st_fn ent88 (n2) sub0 (by kernel_rfl) ?_
    refine st_i 58 IntKind.i64 (x := IntKind.i64.wrap (t' - t)) ((Go.IntWalk.i64_in (t' - t) (by omega)).trans (ez)) (by kernel_rfl) ?_
    refine st_fn ent36 (cc) sub0 (by kernel_rfl) ?_
    refine st_i 68 .i64 (x' := z * 0) (Go.IntWalk.i64_in _ (by omega)) (by kernel_rfl) ?_
    refine st_b 69 (show (decide (z * 0 < 0)) = false by exact decide_eq_false (by omega)) (by kernel_rfl) ?_
    refine st_fn ent25 (hu) sub0 (by kernel_rfl) ?_
    refine st_fn ent39 (wof_fn (z) (by assumption)) sub0 (by kernel_rfl) ?_
    refine st_fn ent64 (hl) sub0 (by kernel_rfl) ?_
    exact st_ret Try.func29 (by kernel_rfl)
  · refine fn_of Try.func29 rfl fun ww => ?_
    refine st_fn ent87 (r) sub0 (by kernel_rfl) ?_
    refine st_b 30 (show (decide (L < 1)) = false by exact decide_eq_false (by omega)) (by kernel_rfl) ?_
    refine st_b 34 (show (decide (L > 8)) = false by exact decide_eq_false (by omega)) (by kernel_rfl) ?_
    refine st_b 38 (show (decide (L > 4)) = false by exact decide_eq_false (by omega)) (by kernel_rfl) ?_
    refine st_fn ent88 (n1) sub0 (by kernel_rfl) ?_
    refine st_fn ent88 (n2) sub0 (by kernel_rfl) ?_
    refine st_i 58 IntKind.i64 (x := IntKind.i64.wrap (t' - t)) ((Go.IntWalk.i64_in (t' - t) (by omega)).trans (ez)) (by kernel_rfl) ?_
    refine st_fn ent36 (cc) sub0 (by kernel_rfl) ?_
    refine st_i 68 .i64 (x' := z * 1) (Go.IntWalk.i64_in _ (by omega)) (by kernel_rfl) ?_
    refine st_b 69 (show (decide (z * 1 < 0)) = false by exact decide_eq_false (by omega)) (by kernel_rfl) ?_
    refine st_fn ent25 (hu) sub0 (by kernel_rfl) ?_
    refine st_fn ent39 (wof_fn (z) (by assumption)) sub0 (by kernel_rfl) ?_
    refine st_fn ent64 (hl) sub0 (by kernel_rfl) ?_
    exact st_ret Try.func29 (by kernel_rfl)
theorem cbet_s (k : pOk y mo d h m s n) (k' : pOk y' mo' d' h' m' s' n') (l1 : 1 ≤ L) (l2 : L ≤ 4) (v z : Int) (hv : v = -1 ∨ v = 1) (ev : cmp3 y' mo' d' y mo d = v) (ez : tnan h' m' s' n' - tnan h m s n = z) (hz : z * v < 0) (Y X W F1 F2 F3 F4 e' : Int)
    (hd : Fn 89 [] [dv y' mo' d', .int .i64 (-v)] (.tuple #[dv Y X W, .int .i64 0]))
    (hu : Fn 25 [] [dv y mo d, dv Y X W, .int .i64 L] (.tuple #[duv A B C D 0 0 0 0, .int .i64 e])) (hl : Fn 64 [] [wv (z + v * 86400000000000), .int .i64 5] (.tuple #[duv F1 F2 F3 F4 H M S N, .int .i64 e'])) :
    Fn 29 [] [ptv y mo d h m s n, ptv y' mo' d' h' m' s' n', .int .i64 L] (.tuple #[duv A B C D H M S N, .int .i64 e]) := by
  have r := psince_yes y mo d h m s n y' mo' d' h' m' s' n' k k'
  have n1 := fcnanos_yes h m s n k.2.1
  have n2 := fcnanos_yes h' m' s' n' k'.2.1
  have b1 := tnan_bd k.2.1
  have b2 := tnan_bd k'.2.1
  have cc := ccmp5 y' mo' d' y mo d
  rw [ev] at cc
  generalize tnan h m s n = t at *
  generalize tnan h' m' s' n' = t' at *
  have iz : I64 (z + v * 86400000000000) := by rcases hv with rfl | rfl <;> (unfold I64; omega)
  generalize pnum y' mo' d' h' m' s' n' - pnum y mo d h m s n = pn at r
  clear k k' ev
  rcases hv with rfl | rfl
  · have iz' : I64 (z + -86400000000000) := by unfold I64; omega
    rw [show z + -1 * 86400000000000 = z + -86400000000000 by omega] at hl
    rw [show -(-1 : Int) = 1 by omega] at hd
    refine fn_of Try.func29 rfl fun ww => ?_
    refine st_fn ent87 (r) sub0 (by kernel_rfl) ?_
    refine st_b 30 (show (decide (L < 1)) = false by exact decide_eq_false (by omega)) (by kernel_rfl) ?_
    refine st_b 34 (show (decide (L > 8)) = false by exact decide_eq_false (by omega)) (by kernel_rfl) ?_
    refine st_b 38 (show (decide (L > 4)) = false by exact decide_eq_false (by omega)) (by kernel_rfl) ?_
    refine st_fn ent88 (n1) sub0 (by kernel_rfl) ?_
    refine st_fn ent88 (n2) sub0 (by kernel_rfl) ?_
    refine st_i 58 IntKind.i64 (x := IntKind.i64.wrap (t' - t)) ((Go.IntWalk.i64_in (t' - t) (by omega)).trans (ez)) (by kernel_rfl) ?_
    refine st_fn ent36 (cc) sub0 (by kernel_rfl) ?_
    refine st_i 68 .i64 (x' := z * -1) (Go.IntWalk.i64_in _ (by omega)) (by kernel_rfl) ?_
    refine st_b 69 (show (decide (z * -1 < 0)) = true by exact decide_eq_true (by omega)) (by kernel_rfl) ?_
    refine st_i 73 .i64 (x' := 0 - -1) (Go.IntWalk.i64_in _ (by omega)) (by kernel_rfl) ?_
    refine st_fn ent89 (hd) sub0 (by kernel_rfl) ?_
    refine st_i 79 .i64 (x' := -1 * 86400000000000) (Go.IntWalk.i64_in _ (by omega)) (by kernel_rfl) ?_
    refine st_i 80 .i64 (x' := z + -1 * 86400000000000) (Go.IntWalk.i64_in _ (by omega)) (by kernel_rfl) ?_
    refine st_fn ent25 (hu) sub0 (by kernel_rfl) ?_
    refine st_fn ent39 (wof_fn (z + -1 * 86400000000000) (by assumption)) sub0 (by kernel_rfl) ?_
    refine st_fn ent64 (hl) sub0 (by kernel_rfl) ?_
    exact st_ret Try.func29 (by kernel_rfl)
  · have iz' : I64 (z + 86400000000000) := by unfold I64; omega
    rw [show z + 1 * 86400000000000 = z + 86400000000000 by omega] at hl
    refine fn_of Try.func29 rfl fun ww => ?_
    refine st_fn ent87 (r) sub0 (by kernel_rfl) ?_
    refine st_b 30 (show (decide (L < 1)) = false by exact decide_eq_false (by omega)) (by kernel_rfl) ?_
    refine st_b 34 (show (decide (L > 8)) = false by exact decide_eq_false (by omega)) (by kernel_rfl) ?_
    refine st_b 38 (show (decide (L > 4)) = false by exact decide_eq_false (by omega)) (by kernel_rfl) ?_
    refine st_fn ent88 (n1) sub0 (by kernel_rfl) ?_
    refine st_fn ent88 (n2) sub0 (by kernel_rfl) ?_
    refine st_i 58 IntKind.i64 (x := IntKind.i64.wrap (t' - t)) ((Go.IntWalk.i64_in (t' - t) (by omega)).trans (ez)) (by kernel_rfl) ?_
    refine st_fn ent36 (cc) sub0 (by kernel_rfl) ?_
    refine st_i 68 .i64 (x' := z * 1) (Go.IntWalk.i64_in _ (by omega)) (by kernel_rfl) ?_
    refine st_b 69 (show (decide (z * 1 < 0)) = true by exact decide_eq_true (by omega)) (by kernel_rfl) ?_
    refine st_i 73 .i64 (x' := 0 - 1) (Go.IntWalk.i64_in _ (by omega)) (by kernel_rfl) ?_
    refine st_fn ent89 (hd) sub0 (by kernel_rfl) ?_
    refine st_i 79 .i64 (x' := 1 * 86400000000000) (Go.IntWalk.i64_in _ (by omega)) (by kernel_rfl) ?_
    refine st_i 80 .i64 (x' := z + 1 * 86400000000000) (Go.IntWalk.i64_in _ (by omega)) (by kernel_rfl) ?_
    refine st_fn ent25 (hu) sub0 (by kernel_rfl) ?_
    refine st_fn ent39 (wof_fn (z + 1 * 86400000000000) (by assumption)) sub0 (by kernel_rfl) ?_
    refine st_fn ent64 (hl) sub0 (by kernel_rfl) ?_
    exact st_ret Try.func29 (by kernel_rfl)
end
end Go.Proofs.Ytccllfegnijpiaa
end
section
/-
  Durations: signs, units, what may be, as the program and the reference reckon them.
-/
set_option linter.unusedVariables false
set_option maxRecDepth 100000
namespace Go.Proofs.Ytccllfegnijpiaa
open Go Go.RowKit Go.Ev

theorem cmpI_sg (x : Int) : (cmpI x 0 = 1 ∧ 0 < x) ∨ (cmpI x 0 = 0 ∧ x = 0) ∨ (cmpI x 0 = -1 ∧ x < 0) := by unfold cmpI; split <;> (try split) <;> omega
theorem cmpI_lt0 {a b : Int} : cmpI a b < 0 ↔ a < b := by unfold cmpI; split <;> (try split) <;> omega
/-- The k-th field. -/
def fl8 (a b c d h mi s n k : Int) : Int := if k = 1 then a else if k = 2 then b else if k = 3 then c else if k = 4 then d else if k = 5 then h else if k = 6 then mi else if k = 7 then s else n
def all64 (a b c d h mi s n : Int) : Prop := I64 a ∧ I64 b ∧ I64 c ∧ I64 d ∧ I64 h ∧ I64 mi ∧ I64 s ∧ I64 n
section
variable (a b c d h mi s n : Int)
theorem usign (i : all64 a b c d h mi s n) : Fn 32 [] [duv a b c d h mi s n] (.int .i64 (sg8 a b c d h mi s n)) := by
  obtain ⟨i1, i2, i3, i4, i5, i6, i7, i8⟩ := i
  refine fn_of Try.func32 rfl fun ww => ?_
  refine ufields_row 0 0 (by kernel_rfl) ?_
  refine st_round (by kernel_rfl) ?_
  by_cases k15 : a ≠ 0
  · refine st_b 15 (bne_iff_ne.2 k15) (by kernel_rfl) ?_
    refine st_fn ent39 (wof_fn (a) (by assumption)) sub0 (by kernel_rfl) ?_
    refine st_fn ent93 (wsign_fn (a)) sub0 (by kernel_rfl) ?_
    exact st_retv Try.func32 (show Value.int IntKind.i64 (cmpI a 0) = _ by (refine i_eq ?_; unfold sg8; simp_all)) (by kernel_rfl)
  · refine st_b 15 (bne_eq_false_iff_eq.2 (Classical.not_not.1 k15)) (by kernel_rfl) ?_
    refine st_i 21 .i64 (x' := 0 + 1) (Go.IntWalk.i64_in _ (by omega)) (by kernel_rfl) ?_
    refine st_round (by kernel_rfl) ?_
    by_cases k15 : b ≠ 0
    · refine st_b 15 (bne_iff_ne.2 k15) (by kernel_rfl) ?_
      refine st_fn ent39 (wof_fn (b) (by assumption)) sub0 (by kernel_rfl) ?_
      refine st_fn ent93 (wsign_fn (b)) sub0 (by kernel_rfl) ?_
      exact st_retv Try.func32 (show Value.int IntKind.i64 (cmpI b 0) = _ by (refine i_eq ?_; unfold sg8; simp_all)) (by kernel_rfl)
    · refine st_b 15 (bne_eq_false_iff_eq.2 (Classical.not_not.1 k15)) (by kernel_rfl) ?_
      refine st_i 21 .i64 (x' := 0 + 1 + 1) (Go.IntWalk.i64_in _ (by omega)) (by kernel_rfl) ?_
      refine st_round (by kernel_rfl) ?_
      by_cases k15 : c ≠ 0
      · refine st_b 15 (bne_iff_ne.2 k15) (by kernel_rfl) ?_
        refine st_fn ent39 (wof_fn (c) (by assumption)) sub0 (by kernel_rfl) ?_
        refine st_fn ent93 (wsign_fn (c)) sub0 (by kernel_rfl) ?_
        exact st_retv Try.func32 (show Value.int IntKind.i64 (cmpI c 0) = _ by (refine i_eq ?_; unfold sg8; simp_all)) (by kernel_rfl)
      · refine st_b 15 (bne_eq_false_iff_eq.2 (Classical.not_not.1 k15)) (by kernel_rfl) ?_
        refine st_i 21 .i64 (x' := 0 + 1 + 1 + 1) (Go.IntWalk.i64_in _ (by omega)) (by kernel_rfl) ?_
        refine st_round (by kernel_rfl) ?_
        by_cases k15 : d ≠ 0
        · refine st_b 15 (bne_iff_ne.2 k15) (by kernel_rfl) ?_
          refine st_fn ent39 (wof_fn (d) (by assumption)) sub0 (by kernel_rfl) ?_
          refine st_fn ent93 (wsign_fn (d)) sub0 (by kernel_rfl) ?_
          exact st_retv Try.func32 (show Value.int IntKind.i64 (cmpI d 0) = _ by (refine i_eq ?_; unfold sg8; simp_all)) (by kernel_rfl)
        · refine st_b 15 (bne_eq_false_iff_eq.2 (Classical.not_not.1 k15)) (by kernel_rfl) ?_
          refine st_i 21 .i64 (x' := 0 + 1 + 1 + 1 + 1) (Go.IntWalk.i64_in _ (by omega)) (by kernel_rfl) ?_
          refine st_round (by kernel_rfl) ?_
          by_cases k15 : h ≠ 0
          · refine st_b 15 (bne_iff_ne.2 k15) (by kernel_rfl) ?_
            refine st_fn ent39 (wof_fn (h) (by assumption)) sub0 (by kernel_rfl) ?_
            refine st_fn ent93 (wsign_fn (h)) sub0 (by kernel_rfl) ?_
            exact st_retv Try.func32 (show Value.int IntKind.i64 (cmpI h 0) = _ by (refine i_eq ?_; unfold sg8; simp_all)) (by kernel_rfl)
          · refine st_b 15 (bne_eq_false_iff_eq.2 (Classical.not_not.1 k15)) (by kernel_rfl) ?_
            refine st_i 21 .i64 (x' := 0 + 1 + 1 + 1 + 1 + 1) (Go.IntWalk.i64_in _ (by omega)) (by kernel_rfl) ?_
            refine st_round (by kernel_rfl) ?_
            by_cases k15 : mi ≠ 0
            · refine st_b 15 (bne_iff_ne.2 k15) (by kernel_rfl) ?_
              refine st_fn ent39 (wof_fn (mi) (by assumption)) sub0 (by kernel_rfl) ?_
              refine st_fn ent93 (wsign_fn (mi)) sub0 (by kernel_rfl) ?_
              exact st_retv Try.func32 (show Value.int IntKind.i64 (cmpI mi 0) = _ by (refine i_eq ?_; unfold sg8; simp_all)) (by kernel_rfl)
            · refine st_b 15 (bne_eq_false_iff_eq.2 (Classical.not_not.1 k15)) (by kernel_rfl) ?_
              refine st_i 21 .i64 (x' := 0 + 1 + 1 + 1 + 1 + 1 + 1) (Go.IntWalk.i64_in _ (by omega)) (by kernel_rfl) ?_
              refine st_round (by kernel_rfl) ?_
              by_cases k15 : s ≠ 0
              · refine st_b 15 (bne_iff_ne.2 k15) (by kernel_rfl) ?_
                refine st_fn ent39 (wof_fn (s) (by assumption)) sub0 (by kernel_rfl) ?_
                refine st_fn ent93 (wsign_fn (s)) sub0 (by kernel_rfl) ?_
                exact st_retv Try.func32 (show Value.int IntKind.i64 (cmpI s 0) = _ by (refine i_eq ?_; unfold sg8; simp_all)) (by kernel_rfl)
              · refine st_b 15 (bne_eq_false_iff_eq.2 (Classical.not_not.1 k15)) (by kernel_rfl) ?_
                refine st_i 21 .i64 (x' := 0 + 1 + 1 + 1 + 1 + 1 + 1 + 1) (Go.IntWalk.i64_in _ (by omega)) (by kernel_rfl) ?_
                refine st_round (by kernel_rfl) ?_
                by_cases k15 : n ≠ 0
                · refine st_b 15 (bne_iff_ne.2 k15) (by kernel_rfl) ?_
                  refine st_fn ent39 (wof_fn (n) (by assumption)) sub0 (by kernel_rfl) ?_
                  refine st_fn ent93 (wsign_fn (n)) sub0 (by kernel_rfl) ?_
                  exact st_retv Try.func32 (show Value.int IntKind.i64 (cmpI n 0) = _ by (refine i_eq ?_; unfold sg8; simp_all)) (by kernel_rfl)
                · refine st_b 15 (bne_eq_false_iff_eq.2 (Classical.not_not.1 k15)) (by kernel_rfl) ?_
                  refine st_i 21 .i64 (x' := 0 + 1 + 1 + 1 + 1 + 1 + 1 + 1 + 1) (Go.IntWalk.i64_in _ (by omega)) (by kernel_rfl) ?_
                  refine st_round (by kernel_rfl) ?_
                  exact st_retv Try.func32 (show Value.int IntKind.i64 0 = _ by (refine i_eq ?_; unfold sg8; simp_all [cmpI])) (by kernel_rfl)
theorem uright_p (i : all64 a b c d h mi s n) (hs : sg8 a b c d h mi s n = 1) (hk : 0 < a ∨ a = 0 ∧ (0 < b ∨ b = 0 ∧ (0 < c ∨ c = 0 ∧ (0 < d ∨ d = 0 ∧ (0 < h ∨ h = 0 ∧ (0 < mi ∨ mi = 0 ∧ (0 < s ∨ s = 0 ∧ 0 < n))))))) : Fn 31 [] [duv a b c d h mi s n] (.bool (decide (uOk a b c d h mi s n))) := by
  have us := usign a b c d h mi s n i
  rw [hs] at us
  obtain ⟨i1, i2, i3, i4, i5, i6, i7, i8⟩ := i
  have wt : W128 (dtot d h mi s n) ∧ W128 (-dtot d h mi s n) := by unfold I64 at *; unfold W128 dtot; omega
  obtain ⟨wt1, wt2⟩ := wt
  have ut := utot a b c d h mi s n i4 i5 i6 i7 i8
  have qt := cmpI_lt0 (a := dtot d h mi s n) (b := 9007199254740992000000000)
  refine fn_of Try.func31 rfl fun ww => ?_
  refine st_fn ent32 (us) sub0 (by kernel_rfl) ?_
  refine ufields_row 0 0 (by kernel_rfl) ?_
  refine st_forget [0, 1, 3, 7, 8, 9, 10, 11, 12, 46, 47, 48, 49, 50, 51, 52, 53, 54, 55, 56, 57, 58] (by kernel_rfl) ?_
  refine st_loop (X := Int) (fun x => ([SV.val (Value.agg #[Value.int IntKind.i64 a, Value.int IntKind.i64 b, Value.int IntKind.i64 c, Value.int IntKind.i64 d, Value.int IntKind.i64 h, Value.int IntKind.i64 mi, Value.int IntKind.i64 s, Value.int IntKind.i64 n]), SV.ptr 0 0, .any, SV.val (Value.int IntKind.i64 1), .any, .any, .any, SV.val (Value.tuple #[]), SV.val (Value.agg #[Value.int IntKind.i64 a, Value.int IntKind.i64 b, Value.int IntKind.i64 c, Value.int IntKind.i64 d, Value.int IntKind.i64 h, Value.int IntKind.i64 mi, Value.int IntKind.i64 s, Value.int IntKind.i64 n]), SV.val (Value.int IntKind.i64 1), SV.sl 1 0 9 9, SV.val (Value.int IntKind.i64 (↑9 : Int)), .val (.int .i64 x), .any, .any, .any, .any, .any, .any, .any, .any, .any, .any, .any, .any, .any, .any, .any, .any, .any, .any, .any, .any, .any, .any, .any, .any, .any, .any, .any, .any, .any, .any, .any, .any, .any, SV.val (Value.tuple #[]), SV.val (Value.tuple #[]), SV.val (Value.tuple #[]), SV.val (Value.tuple #[]), SV.val (Value.tuple #[]), SV.val (Value.tuple #[]), SV.val (Value.tuple #[]), SV.val (Value.tuple #[]), SV.val (Value.tuple #[]), SV.val (Value.tuple #[]), SV.val (Value.tuple #[]), SV.val (Value.tuple #[]), SV.val (Value.tuple #[])], [⟨[SV.val (Value.int IntKind.i64 a), SV.val (Value.int IntKind.i64 b), SV.val (Value.int IntKind.i64 c), SV.val (Value.int IntKind.i64 d), SV.val (Value.int IntKind.i64 h), SV.val (Value.int IntKind.i64 mi), SV.val (Value.int IntKind.i64 s), SV.val (Value.int IntKind.i64 n)], 41⟩, ⟨[SV.val (Value.pointer none), SV.ptr 0 0, SV.ptr 0 1, SV.ptr 0 2, SV.ptr 0 3, SV.ptr 0 4, SV.ptr 0 5, SV.ptr 0 6, SV.ptr 0 7], 134⟩])) (fun _ => _) (fun k => 0 ≤ k ∧ k ≤ 9 ∧ (1 < k → 0 ≤ a ∧ -4294967295 ≤ a ∧ a ≤ 4294967295) ∧ (2 < k → 0 ≤ b ∧ -4294967295 ≤ b ∧ b ≤ 4294967295) ∧ (3 < k → 0 ≤ c ∧ -4294967295 ≤ c ∧ c ≤ 4294967295) ∧ (4 < k → 0 ≤ d) ∧ (5 < k → 0 ≤ h) ∧ (6 < k → 0 ≤ mi) ∧ (7 < k → 0 ≤ s) ∧ (8 < k → 0 ≤ n)) (fun k => (9 - k).toNat) (0) (by kernel_rfl) (by kernel_rfl) Sub.refl (by first | omega | (simp; omega) | assumption | simp_all) (fun y0 px0 back0 => ?_)
  (have q := cmpI_sg (fl8 a b c d h mi s n y0); have hk0 : y0 = 0 ∨ y0 = 1 ∨ y0 = 2 ∨ y0 = 3 ∨ y0 = 4 ∨ y0 = 5 ∨ y0 = 6 ∨ y0 = 7 ∨ y0 = 8 ∨ y0 = 9 := (by omega); rcases hk0 with rfl | rfl | rfl | rfl | rfl | rfl | rfl | rfl | rfl | rfl <;> simp only [fl8, Int.reduceEq, if_true, if_false] at q)
  · have _hh := True.intro
    refine st_i 45 .i64 (x' := 0 + 1) (Go.IntWalk.i64_in _ (by omega)) (by kernel_rfl) ?_
    refine st_forget [0, 1, 2, 3, 6, 7, 8, 9, 10, 11, 12, 19, 20, 21, 22, 23, 24, 25, 26, 27, 28, 29, 30, 31, 32, 33, 34, 35, 36, 37, 38, 39, 40, 41, 42, 43, 44, 46, 47, 48, 49, 50, 51, 52, 53, 54, 55, 56, 57, 58] (by kernel_rfl) ?_
    exact st_back back0 (0 + 1) (by first | omega | (simp only []; omega) | (simp; omega)) (by first | (refine b_eq (decide_eq_false ?_).symm; unfold uOk pos8 neg8 cnt1 LIM; omega) | (refine b_eq (decide_eq_decide.2 ?_); unfold uOk pos8 neg8 cnt1 LIM; rw [qt]; unfold dtot; omega) | omega | (simp only []; omega) | (simp; omega) | assumption | simp_all) (fun p hp => by first | exact hp | simp_all) (by kernel_rfl) (by kernel_rfl) (by kernel_rfl)
  · have _hh := True.intro
    refine st_fn ent39 (wof_fn (a) (by assumption)) sub0 (by kernel_rfl) ?_
    refine st_fn ent93 (wsign_fn (a)) sub0 (by kernel_rfl) ?_
    by_cases k25 : cmpI a 0 ≠ 0
    · refine st_b 25 (bne_iff_ne.2 k25) (by kernel_rfl) ?_
      refine st_b 29 (show (cmpI a 0 != 1) = false by exact bne_eq_false_iff_eq.2 (by omega)) (by kernel_rfl) ?_
      by_cases k37 : a > 4294967295
      · refine st_b 37 (decide_eq_true k37) (by kernel_rfl) ?_
        exact st_retv Try.func31 (show Value.bool (false) = _ by (refine b_eq (decide_eq_false ?_).symm; unfold uOk pos8 neg8 cnt1 LIM; omega)) (by kernel_rfl)
      · refine st_b 37 (decide_eq_false k37) (by kernel_rfl) ?_
        refine st_b 42 (show (decide (a < -4294967295)) = false by exact decide_eq_false (by omega)) (by kernel_rfl) ?_
        refine st_i 45 .i64 (x' := 1 + 1) (Go.IntWalk.i64_in _ (by omega)) (by kernel_rfl) ?_
        refine st_forget [0, 1, 2, 3, 7, 8, 9, 10, 11, 12, 46, 47, 48, 49, 50, 51, 52, 53, 54, 55, 56, 57, 58] (by kernel_rfl) ?_
        exact st_back back0 (1 + 1) (by first | omega | (simp only []; omega) | (simp; omega)) (by first | (refine b_eq (decide_eq_false ?_).symm; unfold uOk pos8 neg8 cnt1 LIM; omega) | (refine b_eq (decide_eq_decide.2 ?_); unfold uOk pos8 neg8 cnt1 LIM; rw [qt]; unfold dtot; omega) | omega | (simp only []; omega) | (simp; omega) | assumption | simp_all) (fun p hp => by first | exact hp | simp_all) (by kernel_rfl) (by kernel_rfl) (by kernel_rfl)
    · refine st_b 25 (bne_eq_false_iff_eq.2 (Classical.not_not.1 k25)) (by kernel_rfl) ?_
      refine st_b 37 (show (decide (a > 4294967295)) = false by exact decide_eq_false (by omega)) (by kernel_rfl) ?_
      refine st_b 42 (show (decide (a < -4294967295)) = false by exact decide_eq_false (by omega)) (by kernel_rfl) ?_
      refine st_i 45 .i64 (x' := 1 + 1) (Go.IntWalk.i64_in _ (by omega)) (by kernel_rfl) ?_
      refine st_forget [0, 1, 2, 3, 7, 8, 9, 10, 11, 12, 46, 47, 48, 49, 50, 51, 52, 53, 54, 55, 56, 57, 58] (by kernel_rfl) ?_
      exact st_back back0 (1 + 1) (by first | omega | (simp only []; omega) | (simp; omega)) (by first | (refine b_eq (decide_eq_false ?_).symm; unfold uOk pos8 neg8 cnt1 LIM; omega) | (refine b_eq (decide_eq_decide.2 ?_); unfold uOk pos8 neg8 cnt1 LIM; rw [qt]; unfold dtot; omega) | omega | (simp only []; omega) | (simp; omega) | assumption | simp_all) (fun p hp => by first | exact hp | simp_all) (by kernel_rfl) (by kernel_rfl) (by kernel_rfl)
  · have _hh := True.intro
    refine st_fn ent39 (wof_fn (b) (by assumption)) sub0 (by kernel_rfl) ?_
    refine st_fn ent93 (wsign_fn (b)) sub0 (by kernel_rfl) ?_
    by_cases k25 : cmpI b 0 ≠ 0
    · refine st_b 25 (bne_iff_ne.2 k25) (by kernel_rfl) ?_
      by_cases k29 : cmpI b 0 ≠ 1
      · refine st_b 29 (bne_iff_ne.2 k29) (by kernel_rfl) ?_
        exact st_retv Try.func31 (show Value.bool (false) = _ by (refine b_eq (decide_eq_false ?_).symm; unfold uOk pos8 neg8 cnt1 LIM; omega)) (by kernel_rfl)
      · refine st_b 29 (bne_eq_false_iff_eq.2 (Classical.not_not.1 k29)) (by kernel_rfl) ?_
        by_cases k37 : b > 4294967295
        · refine st_b 37 (decide_eq_true k37) (by kernel_rfl) ?_
          exact st_retv Try.func31 (show Value.bool (false) = _ by (refine b_eq (decide_eq_false ?_).symm; unfold uOk pos8 neg8 cnt1 LIM; omega)) (by kernel_rfl)
        · refine st_b 37 (decide_eq_false k37) (by kernel_rfl) ?_
          refine st_b 42 (show (decide (b < -4294967295)) = false by exact decide_eq_false (by omega)) (by kernel_rfl) ?_
          refine st_i 45 .i64 (x' := 2 + 1) (Go.IntWalk.i64_in _ (by omega)) (by kernel_rfl) ?_
          refine st_forget [0, 1, 2, 3, 7, 8, 9, 10, 11, 12, 46, 47, 48, 49, 50, 51, 52, 53, 54, 55, 56, 57, 58] (by kernel_rfl) ?_
          exact st_back back0 (2 + 1) (by first | omega | (simp only []; omega) | (simp; omega)) (by first | (refine b_eq (decide_eq_false ?_).symm; unfold uOk pos8 neg8 cnt1 LIM; omega) | (refine b_eq (decide_eq_decide.2 ?_); unfold uOk pos8 neg8 cnt1 LIM; rw [qt]; unfold dtot; omega) | omega | (simp only []; omega) | (simp; omega) | assumption | simp_all) (fun p hp => by first | exact hp | simp_all) (by kernel_rfl) (by kernel_rfl) (by kernel_rfl)
    · refine st_b 25 (bne_eq_false_iff_eq.2 (Classical.not_not.1 k25)) (by kernel_rfl) ?_
      refine st_b 37 (show (decide (b > 4294967295)) = false by exact decide_eq_false (by omega)) (by kernel_rfl) ?_
      refine st_b 42 (show (decide (b < -4294967295)) = false by exact decide_eq_false (by omega)) (by kernel_rfl) ?_
      refine st_i 45 .i64 (x' := 2 + 1) (Go.IntWalk.i64_in _ (by omega)) (by kernel_rfl) ?_
      refine st_forget [0, 1, 2, 3, 7, 8, 9, 10, 11, 12, 46, 47, 48, 49, 50, 51, 52, 53, 54, 55, 56, 57, 58] (by kernel_rfl) ?_
      exact st_back back0 (2 + 1) (by first | omega | (simp only []; omega) | (simp; omega)) (by first | (refine b_eq (decide_eq_false ?_).symm; unfold uOk pos8 neg8 cnt1 LIM; omega) | (refine b_eq (decide_eq_decide.2 ?_); unfold uOk pos8 neg8 cnt1 LIM; rw [qt]; unfold dtot; omega) | omega | (simp only []; omega) | (simp; omega) | assumption | simp_all) (fun p hp => by first | exact hp | simp_all) (by kernel_rfl) (by kernel_rfl) (by kernel_rfl)
  · have _hh := True.intro
    refine st_fn ent39 (wof_fn (c) (by assumption)) sub0 (by kernel_rfl) ?_
    refine st_fn ent93 (wsign_fn (c)) sub0 (by kernel_rfl) ?_
    by_cases k25 : cmpI c 0 ≠ 0
    · refine st_b 25 (bne_iff_ne.2 k25) (by kernel_rfl) ?_
      by_cases k29 : cmpI c 0 ≠ 1
      · refine st_b 29 (bne_iff_ne.2 k29) (by kernel_rfl) ?_
        exact st_retv Try.func31 (show Value.bool (false) = _ by (refine b_eq (decide_eq_false ?_).symm; unfold uOk pos8 neg8 cnt1 LIM; omega)) (by kernel_rfl)
      · refine st_b 29 (bne_eq_false_iff_eq.2 (Classical.not_not.1 k29)) (by kernel_rfl) ?_
        by_cases k37 : c > 4294967295
        · refine st_b 37 (decide_eq_true k37) (by kernel_rfl) ?_
          exact st_retv Try.func31 (show Value.bool (false) = _ by (refine b_eq (decide_eq_false ?_).symm; unfold uOk pos8 neg8 cnt1 LIM; omega)) (by kernel_rfl)
        · refine st_b 37 (decide_eq_false k37) (by kernel_rfl) ?_
          refine st_b 42 (show (decide (c < -4294967295)) = false by exact decide_eq_false (by omega)) (by kernel_rfl) ?_
          refine st_i 45 .i64 (x' := 3 + 1) (Go.IntWalk.i64_in _ (by omega)) (by kernel_rfl) ?_
          refine st_forget [0, 1, 2, 3, 7, 8, 9, 10, 11, 12, 46, 47, 48, 49, 50, 51, 52, 53, 54, 55, 56, 57, 58] (by kernel_rfl) ?_
          exact st_back back0 (3 + 1) (by first | omega | (simp only []; omega) | (simp; omega)) (by first | (refine b_eq (decide_eq_false ?_).symm; unfold uOk pos8 neg8 cnt1 LIM; omega) | (refine b_eq (decide_eq_decide.2 ?_); unfold uOk pos8 neg8 cnt1 LIM; rw [qt]; unfold dtot; omega) | omega | (simp only []; omega) | (simp; omega) | assumption | simp_all) (fun p hp => by first | exact hp | simp_all) (by kernel_rfl) (by kernel_rfl) (by kernel_rfl)
    · refine st_b 25 (bne_eq_false_iff_eq.2 (Classical.not_not.1 k25)) (by kernel_rfl) ?_
      refine st_b 37 (show (decide (c > 4294967295)) = false by exact decide_eq_false (by omega)) (by kernel_rfl) ?_
      refine st_b 42 (show (decide (c < -4294967295)) = false by exact decide_eq_false (by omega)) (by kernel_rfl) ?_
      refine st_i 45 .i64 (x' := 3 + 1) (Go.IntWalk.i64_in _ (by omega)) (by kernel_rfl) ?_
      refine st_forget [0, 1, 2, 3, 7, 8, 9, 10, 11, 12, 46, 47, 48, 49, 50, 51, 52, 53, 54, 55, 56, 57, 58] (by kernel_rfl) ?_
      exact st_back back0 (3 + 1) (by first | omega | (simp only []; omega) | (simp; omega)) (by first | (refine b_eq (decide_eq_false ?_).symm; unfold uOk pos8 neg8 cnt1 LIM; omega) | (refine b_eq (decide_eq_decide.2 ?_); unfold uOk pos8 neg8 cnt1 LIM; rw [qt]; unfold dtot; omega) | omega | (simp only []; omega) | (simp; omega) | assumption | simp_all) (fun p hp => by first | exact hp | simp_all) (by kernel_rfl) (by kernel_rfl) (by kernel_rfl)
  · have _hh := True.intro
    refine st_fn ent39 (wof_fn (d) (by assumption)) sub0 (by kernel_rfl) ?_
    refine st_fn ent93 (wsign_fn (d)) sub0 (by kernel_rfl) ?_
    by_cases k25 : cmpI d 0 ≠ 0
    · refine st_b 25 (bne_iff_ne.2 k25) (by kernel_rfl) ?_
      by_cases k29 : cmpI d 0 ≠ 1
      · refine st_b 29 (bne_iff_ne.2 k29) (by kernel_rfl) ?_
        exact st_retv Try.func31 (show Value.bool (false) = _ by (refine b_eq (decide_eq_false ?_).symm; unfold uOk pos8 neg8 cnt1 LIM; omega)) (by kernel_rfl)
      · refine st_b 29 (bne_eq_false_iff_eq.2 (Classical.not_not.1 k29)) (by kernel_rfl) ?_
        refine st_i 45 .i64 (x' := 4 + 1) (Go.IntWalk.i64_in _ (by omega)) (by kernel_rfl) ?_
        refine st_forget [0, 1, 2, 3, 7, 8, 9, 10, 11, 12, 46, 47, 48, 49, 50, 51, 52, 53, 54, 55, 56, 57, 58] (by kernel_rfl) ?_
        exact st_back back0 (4 + 1) (by first | omega | (simp only []; omega) | (simp; omega)) (by first | (refine b_eq (decide_eq_false ?_).symm; unfold uOk pos8 neg8 cnt1 LIM; omega) | (refine b_eq (decide_eq_decide.2 ?_); unfold uOk pos8 neg8 cnt1 LIM; rw [qt]; unfold dtot; omega) | omega | (simp only []; omega) | (simp; omega) | assumption | simp_all) (fun p hp => by first | exact hp | simp_all) (by kernel_rfl) (by kernel_rfl) (by kernel_rfl)
    · refine st_b 25 (bne_eq_false_iff_eq.2 (Classical.not_not.1 k25)) (by kernel_rfl) ?_
      refine st_i 45 .i64 (x' := 4 + 1) (Go.IntWalk.i64_in _ (by omega)) (by kernel_rfl) ?_
      refine st_forget [0, 1, 2, 3, 7, 8, 9, 10, 11, 12, 46, 47, 48, 49, 50, 51, 52, 53, 54, 55, 56, 57, 58] (by kernel_rfl) ?_
      exact st_back back0 (4 + 1) (by first | omega | (simp only []; omega) | (simp; omega)) (by first | (refine b_eq (decide_eq_false ?_).symm; unfold uOk pos8 neg8 cnt1 LIM; omega) | (refine b_eq (decide_eq_decide.2 ?_); unfold uOk pos8 neg8 cnt1 LIM; rw [qt]; unfold dtot; omega) | omega | (simp only []; omega) | (simp; omega) | assumption | simp_all) (fun p hp => by first | exact hp | simp_all) (by kernel_rfl) (by kernel_rfl) (by kernel_rfl)
  · have _hh := True.intro
    refine st_fn ent39 (wof_fn (h) (by assumption)) sub0 (by kernel_rfl) ?_
    refine st_fn ent93 (wsign_fn (h)) sub0 (by kernel_rfl) ?_
    by_cases k25 : cmpI h 0 ≠ 0
    · refine st_b 25 (bne_iff_ne.2 k25) (by kernel_rfl) ?_
      by_cases k29 : cmpI h 0 ≠ 1
      · refine st_b 29 (bne_iff_ne.2 k29) (by kernel_rfl) ?_
        exact st_retv Try.func31 (show Value.bool (false) = _ by (refine b_eq (decide_eq_false ?_).symm; unfold uOk pos8 neg8 cnt1 LIM; omega)) (by kernel_rfl)
      · refine st_b 29 (bne_eq_false_iff_eq.2 (Classical.not_not.1 k29)) (by kernel_rfl) ?_
        refine st_i 45 .i64 (x' := 5 + 1) (Go.IntWalk.i64_in _ (by omega)) (by kernel_rfl) ?_
        refine st_forget [0, 1, 2, 3, 7, 8, 9, 10, 11, 12, 46, 47, 48, 49, 50, 51, 52, 53, 54, 55, 56, 57, 58] (by kernel_rfl) ?_
        exact st_back back0 (5 + 1) (by first | omega | (simp only []; omega) | (simp; omega)) (by first | (refine b_eq (decide_eq_false ?_).symm; unfold uOk pos8 neg8 cnt1 LIM; omega) | (refine b_eq (decide_eq_decide.2 ?_); unfold uOk pos8 neg8 cnt1 LIM; rw [qt]; unfold dtot; omega) | omega | (simp only []; omega) | (simp; omega) | assumption | simp_all) (fun p hp => by first | exact hp | simp_all) (by kernel_rfl) (by kernel_rfl) (by kernel_rfl)
    · refine st_b 25 (bne_eq_false_iff_eq.2 (Classical.not_not.1 k25)) (by kernel_rfl) ?_
      refine st_i 45 .i64 (x' := 5 + 1) (Go.IntWalk.i64_in _ (by omega)) (by kernel_rfl) ?_
      refine st_forget [0, 1, 2, 3, 7, 8, 9, 10, 11, 12, 46, 47, 48, 49, 50, 51, 52, 53, 54, 55, 56, 57, 58] (by kernel_rfl) ?_
      exact st_back back0 (5 + 1) (by first | omega | (simp only []; omega) | (simp; omega)) (by first | (refine b_eq (decide_eq_false ?_).symm; unfold uOk pos8 neg8 cnt1 LIM; omega) | (refine b_eq (decide_eq_decide.2 ?_); unfold uOk pos8 neg8 cnt1 LIM; rw [qt]; unfold dtot; omega) | omega | (simp only []; omega) | (simp; omega) | assumption | simp_all) (fun p hp => by first | exact hp | simp_all) (by kernel_rfl) (by kernel_rfl) (by kernel_rfl)
  · have _hh := True.intro
    refine st_fn ent39 (wof_fn (mi) (by assumption)) sub0 (by kernel_rfl) ?_
    refine st_fn ent93 (wsign_fn (mi)) sub0 (by kernel_rfl) ?_
    by_cases k25 : cmpI mi 0 ≠ 0
    · refine st_b 25 (bne_iff_ne.2 k25) (by kernel_rfl) ?_
      by_cases k29 : cmpI mi 0 ≠ 1
      · refine st_b 29 (bne_iff_ne.2 k29) (by kernel_rfl) ?_
        exact st_retv Try.func31 (show Value.bool (false) = _ by (refine b_eq (decide_eq_false ?_).symm; unfold uOk pos8 neg8 cnt1 LIM; omega)) (by kernel_rfl)
      · refine st_b 29 (bne_eq_false_iff_eq.2 (Classical.not_not.1 k29)) (by kernel_rfl) ?_
        refine st_i 45 .i64 (x' := 6 + 1) (Go.IntWalk.i64_in _ (by omega)) (by kernel_rfl) ?_
        refine st_forget [0, 1, 2, 3, 7, 8, 9, 10, 11, 12, 46, 47, 48, 49, 50, 51, 52, 53, 54, 55, 56, 57, 58] (by kernel_rfl) ?_
        exact st_back back0 (6 + 1) (by first | omega | (simp only []; omega) | (simp; omega)) (by first | (refine b_eq (decide_eq_false ?_).symm; unfold uOk pos8 neg8 cnt1 LIM; omega) | (refine b_eq (decide_eq_decide.2 ?_); unfold uOk pos8 neg8 cnt1 LIM; rw [qt]; unfold dtot; omega) | omega | (simp only []; omega) | (simp; omega) | assumption | simp_all) (fun p hp => by first | exact hp | simp_all) (by kernel_rfl) (by kernel_rfl) (by kernel_rfl)
    · refine st_b 25 (bne_eq_false_iff_eq.2 (Classical.not_not.1 k25)) (by kernel_rfl) ?_
      refine st_i 45 .i64 (x' := 6 + 1) (Go.IntWalk.i64_in _ (by omega)) (by kernel_rfl) ?_
      refine st_forget [0, 1, 2, 3, 7, 8, 9, 10, 11, 12, 46, 47, 48, 49, 50, 51, 52, 53, 54, 55, 56, 57, 58] (by kernel_rfl) ?_
      exact st_back back0 (6 + 1) (by first | omega | (simp only []; omega) | (simp; omega)) (by first | (refine b_eq (decide_eq_false ?_).symm; unfold uOk pos8 neg8 cnt1 LIM; omega) | (refine b_eq (decide_eq_decide.2 ?_); unfold uOk pos8 neg8 cnt1 LIM; rw [qt]; unfold dtot; omega) | omega | (simp only []; omega) | (simp; omega) | assumption | simp_all) (fun p hp => by first | exact hp | simp_all) (by kernel_rfl) (by kernel_rfl) (by kernel_rfl)
  · have _hh := True.intro
    refine st_fn ent39 (wof_fn (s) (by assumption)) sub0 (by kernel_rfl) ?_
    refine st_fn ent93 (wsign_fn (s)) sub0 (by kernel_rfl) ?_
    by_cases k25 : cmpI s 0 ≠ 0
    · refine st_b 25 (bne_iff_ne.2 k25) (by kernel_rfl) ?_
      by_cases k29 : cmpI s 0 ≠ 1
      · refine st_b 29 (bne_iff_ne.2 k29) (by kernel_rfl) ?_
        exact st_retv Try.func31 (show Value.bool (false) = _ by (refine b_eq (decide_eq_false ?_).symm; unfold uOk pos8 neg8 cnt1 LIM; omega)) (by kernel_rfl)
      · refine st_b 29 (bne_eq_false_iff_eq.2 (Classical.not_not.1 k29)) (by kernel_rfl) ?_
        refine st_i 45 .i64 (x' := 7 + 1) (Go.IntWalk.i64_in _ (by omega)) (by kernel_rfl) ?_
        refine st_forget [0, 1, 2, 3, 7, 8, 9, 10, 11, 12, 46, 47, 48, 49, 50, 51, 52, 53, 54, 55, 56, 57, 58] (by kernel_rfl) ?_
        exact st_back back0 (7 + 1) (by first | omega | (simp only []; omega) | (simp; omega)) (by first | (refine b_eq (decide_eq_false ?_).symm; unfold uOk pos8 neg8 cnt1 LIM; omega) | (refine b_eq (decide_eq_decide.2 ?_); unfold uOk pos8 neg8 cnt1 LIM; rw [qt]; unfold dtot; omega) | omega | (simp only []; omega) | (simp; omega) | assumption | simp_all) (fun p hp => by first | exact hp | simp_all) (by kernel_rfl) (by kernel_rfl) (by kernel_rfl)
    · refine st_b 25 (bne_eq_false_iff_eq.2 (Classical.not_not.1 k25)) (by kernel_rfl) ?_
      refine st_i 45 .i64 (x' := 7 + 1) (Go.IntWalk.i64_in _ (by omega)) (by kernel_rfl) ?_
      refine st_forget [0, 1, 2, 3, 7, 8, 9, 10, 11, 12, 46, 47, 48, 49, 50, 51, 52, 53, 54, 55, 56, 57, 58] (by kernel_rfl) ?_
      exact st_back back0 (7 + 1) (by first | omega | (simp only []; omega) | (simp; omega)) (by first | (refine b_eq (decide_eq_false ?_).symm; unfold uOk pos8 neg8 cnt1 LIM; omega) | (refine b_eq (decide_eq_decide.2 ?_); unfold uOk pos8 neg8 cnt1 LIM; rw [qt]; unfold dtot; omega) | omega | (simp only []; omega) | (simp; omega) | assumption | simp_all) (fun p hp => by first | exact hp | simp_all) (by kernel_rfl) (by kernel_rfl) (by kernel_rfl)
  · have _hh := True.intro
    refine st_fn ent39 (wof_fn (n) (by assumption)) sub0 (by kernel_rfl) ?_
    refine st_fn ent93 (wsign_fn (n)) sub0 (by kernel_rfl) ?_
    by_cases k25 : cmpI n 0 ≠ 0
    · refine st_b 25 (bne_iff_ne.2 k25) (by kernel_rfl) ?_
      by_cases k29 : cmpI n 0 ≠ 1
      · refine st_b 29 (bne_iff_ne.2 k29) (by kernel_rfl) ?_
        exact st_retv Try.func31 (show Value.bool (false) = _ by (refine b_eq (decide_eq_false ?_).symm; unfold uOk pos8 neg8 cnt1 LIM; omega)) (by kernel_rfl)
      · refine st_b 29 (bne_eq_false_iff_eq.2 (Classical.not_not.1 k29)) (by kernel_rfl) ?_
        refine st_i 45 .i64 (x' := 8 + 1) (Go.IntWalk.i64_in _ (by omega)) (by kernel_rfl) ?_
        refine st_forget [0, 1, 2, 3, 7, 8, 9, 10, 11, 12, 46, 47, 48, 49, 50, 51, 52, 53, 54, 55, 56, 57, 58] (by kernel_rfl) ?_
        exact st_back back0 (8 + 1) (by first | omega | (simp only []; omega) | (simp; omega)) (by first | (refine b_eq (decide_eq_false ?_).symm; unfold uOk pos8 neg8 cnt1 LIM; omega) | (refine b_eq (decide_eq_decide.2 ?_); unfold uOk pos8 neg8 cnt1 LIM; rw [qt]; unfold dtot; omega) | omega | (simp only []; omega) | (simp; omega) | assumption | simp_all) (fun p hp => by first | exact hp | simp_all) (by kernel_rfl) (by kernel_rfl) (by kernel_rfl)
    · refine st_b 25 (bne_eq_false_iff_eq.2 (Classical.not_not.1 k25)) (by kernel_rfl) ?_
      refine st_i 45 .i64 (x' := 8 + 1) (Go.IntWalk.i64_in _ (by omega)) (by kernel_rfl) ?_
      refine st_forget [0, 1, 2, 3, 7, 8, 9, 10, 11, 12, 46, 47, 48, 49, 50, 51, 52, 53, 54, 55, 56, 57, 58] (by kernel_rfl) ?_
      exact st_back back0 (8 + 1) (by first | omega | (simp only []; omega) | (simp; omega)) (by first | (refine b_eq (decide_eq_false ?_).symm; unfold uOk pos8 neg8 cnt1 LIM; omega) | (refine b_eq (decide_eq_decide.2 ?_); unfold uOk pos8 neg8 cnt1 LIM; rw [qt]; unfold dtot; omega) | omega | (simp only []; omega) | (simp; omega) | assumption | simp_all) (fun p hp => by first | exact hp | simp_all) (by kernel_rfl) (by kernel_rfl) (by kernel_rfl)
  · have _hh := True.intro
    refine st_fn ent94 (ut) sub0 (by kernel_rfl) ?_
    refine st_fn ent95 (ulimit) sub0 (by kernel_rfl) ?_
    refine st_fn ent57 (wcmp_fn (dtot d h mi s n) (9007199254740992000000000)) sub0 (by kernel_rfl) ?_
    exact st_retv Try.func31 (show Value.bool (decide (cmpI (dtot d h mi s n) 9007199254740992000000000 < 0)) = _ by (refine b_eq (decide_eq_decide.2 ?_); unfold uOk pos8 neg8 cnt1 LIM; rw [qt]; unfold dtot; omega)) (by kernel_rfl)
theorem uright_n (i : all64 a b c d h mi s n) (hs : sg8 a b c d h mi s n = -1) (hk : a < 0 ∨ a = 0 ∧ (b < 0 ∨ b = 0 ∧ (c < 0 ∨ c = 0 ∧ (d < 0 ∨ d = 0 ∧ (h < 0 ∨ h = 0 ∧ (mi < 0 ∨ mi = 0 ∧ (s < 0 ∨ s = 0 ∧ n < 0))))))) : Fn 31 [] [duv a b c d h mi s n] (.bool (decide (uOk a b c d h mi s n))) := by
  have us := usign a b c d h mi s n i
  rw [hs] at us
  obtain ⟨i1, i2, i3, i4, i5, i6, i7, i8⟩ := i
  have wt : W128 (dtot d h mi s n) ∧ W128 (-dtot d h mi s n) := by unfold I64 at *; unfold W128 dtot; omega
  obtain ⟨wt1, wt2⟩ := wt
  have ut := utot a b c d h mi s n i4 i5 i6 i7 i8
  have qt := cmpI_lt0 (a := -dtot d h mi s n) (b := 9007199254740992000000000)
  refine fn_of Try.func31 rfl fun ww => ?_
  refine st_fn ent32 (us) sub0 (by kernel_rfl) ?_
  refine ufields_row 0 0 (by kernel_rfl) ?_
  refine st_forget [0, 1, 3, 7, 8, 9, 10, 11, 12, 46, 47, 48, 49, 50, 51, 52, 53, 54, 55, 56, 57, 58] (by kernel_rfl) ?_
  refine st_loop (X := Int) (fun x => ([SV.val (Value.agg #[Value.int IntKind.i64 a, Value.int IntKind.i64 b, Value.int IntKind.i64 c, Value.int IntKind.i64 d, Value.int IntKind.i64 h, Value.int IntKind.i64 mi, Value.int IntKind.i64 s, Value.int IntKind.i64 n]), SV.ptr 0 0, .any, SV.val (Value.int IntKind.i64 (-1)), .any, .any, .any, SV.val (Value.tuple #[]), SV.val (Value.agg #[Value.int IntKind.i64 a, Value.int IntKind.i64 b, Value.int IntKind.i64 c, Value.int IntKind.i64 d, Value.int IntKind.i64 h, Value.int IntKind.i64 mi, Value.int IntKind.i64 s, Value.int IntKind.i64 n]), SV.val (Value.int IntKind.i64 (-1)), SV.sl 1 0 9 9, SV.val (Value.int IntKind.i64 (↑9 : Int)), .val (.int .i64 x), .any, .any, .any, .any, .any, .any, .any, .any, .any, .any, .any, .any, .any, .any, .any, .any, .any, .any, .any, .any, .any, .any, .any, .any, .any, .any, .any, .any, .any, .any, .any, .any, .any, SV.val (Value.tuple #[]), SV.val (Value.tuple #[]), SV.val (Value.tuple #[]), SV.val (Value.tuple #[]), SV.val (Value.tuple #[]), SV.val (Value.tuple #[]), SV.val (Value.tuple #[]), SV.val (Value.tuple #[]), SV.val (Value.tuple #[]), SV.val (Value.tuple #[]), SV.val (Value.tuple #[]), SV.val (Value.tuple #[]), SV.val (Value.tuple #[])], [⟨[SV.val (Value.int IntKind.i64 a), SV.val (Value.int IntKind.i64 b), SV.val (Value.int IntKind.i64 c), SV.val (Value.int IntKind.i64 d), SV.val (Value.int IntKind.i64 h), SV.val (Value.int IntKind.i64 mi), SV.val (Value.int IntKind.i64 s), SV.val (Value.int IntKind.i64 n)], 41⟩, ⟨[SV.val (Value.pointer none), SV.ptr 0 0, SV.ptr 0 1, SV.ptr 0 2, SV.ptr 0 3, SV.ptr 0 4, SV.ptr 0 5, SV.ptr 0 6, SV.ptr 0 7], 134⟩])) (fun _ => _) (fun k => 0 ≤ k ∧ k ≤ 9 ∧ (1 < k → a ≤ 0 ∧ -4294967295 ≤ a ∧ a ≤ 4294967295) ∧ (2 < k → b ≤ 0 ∧ -4294967295 ≤ b ∧ b ≤ 4294967295) ∧ (3 < k → c ≤ 0 ∧ -4294967295 ≤ c ∧ c ≤ 4294967295) ∧ (4 < k → d ≤ 0) ∧ (5 < k → h ≤ 0) ∧ (6 < k → mi ≤ 0) ∧ (7 < k → s ≤ 0) ∧ (8 < k → n ≤ 0)) (fun k => (9 - k).toNat) (0) (by kernel_rfl) (by kernel_rfl) Sub.refl (by first | omega | (simp; omega) | assumption | simp_all) (fun y0 px0 back0 => ?_)
  (have q := cmpI_sg (fl8 a b c d h mi s n y0); have hk0 : y0 = 0 ∨ y0 = 1 ∨ y0 = 2 ∨ y0 = 3 ∨ y0 = 4 ∨ y0 = 5 ∨ y0 = 6 ∨ y0 = 7 ∨ y0 = 8 ∨ y0 = 9 := (by omega); rcases hk0 with rfl | rfl | rfl | rfl | rfl | rfl | rfl | rfl | rfl | rfl <;> simp only [fl8, Int.reduceEq, if_true, if_false] at q)
  · have _hh := True.intro
    refine st_i 45 .i64 (x' := 0 + 1) (Go.IntWalk.i64_in _ (by omega)) (by kernel_rfl) ?_
    refine st_forget [0, 1, 2, 3, 6, 7, 8, 9, 10, 11, 12, 19, 20, 21, 22, 23, 24, 25, 26, 27, 28, 29, 30, 31, 32, 33, 34, 35, 36, 37, 38, 39, 40, 41, 42, 43, 44, 46, 47, 48, 49, 50, 51, 52, 53, 54, 55, 56, 57, 58] (by kernel_rfl) ?_
    exact st_back back0 (0 + 1) (by first | omega | (simp only []; omega) | (simp; omega)) (by first | (refine b_eq (decide_eq_false ?_).symm; unfold uOk pos8 neg8 cnt1 LIM; omega) | (refine b_eq (decide_eq_decide.2 ?_); unfold uOk pos8 neg8 cnt1 LIM; rw [qt]; unfold dtot; omega) | omega | (simp only []; omega) | (simp; omega) | assumption | simp_all) (fun p hp => by first | exact hp | simp_all) (by kernel_rfl) (by kernel_rfl) (by kernel_rfl)
  · have _hh := True.intro
    refine st_fn ent39 (wof_fn (a) (by assumption)) sub0 (by kernel_rfl) ?_
    refine st_fn ent93 (wsign_fn (a)) sub0 (by kernel_rfl) ?_
    by_cases k25 : cmpI a 0 ≠ 0
    · refine st_b 25 (bne_iff_ne.2 k25) (by kernel_rfl) ?_
      refine st_b 29 (show (cmpI a 0 != -1) = false by exact bne_eq_false_iff_eq.2 (by omega)) (by kernel_rfl) ?_
      refine st_b 37 (show (decide (a > 4294967295)) = false by exact decide_eq_false (by omega)) (by kernel_rfl) ?_
      by_cases k42 : a < -4294967295
      · refine st_b 42 (decide_eq_true k42) (by kernel_rfl) ?_
        exact st_retv Try.func31 (show Value.bool (false) = _ by (refine b_eq (decide_eq_false ?_).symm; unfold uOk pos8 neg8 cnt1 LIM; omega)) (by kernel_rfl)
      · refine st_b 42 (decide_eq_false k42) (by kernel_rfl) ?_
        refine st_i 45 .i64 (x' := 1 + 1) (Go.IntWalk.i64_in _ (by omega)) (by kernel_rfl) ?_
        refine st_forget [0, 1, 2, 3, 7, 8, 9, 10, 11, 12, 46, 47, 48, 49, 50, 51, 52, 53, 54, 55, 56, 57, 58] (by kernel_rfl) ?_
        exact st_back back0 (1 + 1) (by first | omega | (simp only []; omega) | (simp; omega)) (by first | (refine b_eq (decide_eq_false ?_).symm; unfold uOk pos8 neg8 cnt1 LIM; omega) | (refine b_eq (decide_eq_decide.2 ?_); unfold uOk pos8 neg8 cnt1 LIM; rw [qt]; unfold dtot; omega) | omega | (simp only []; omega) | (simp; omega) | assumption | simp_all) (fun p hp => by first | exact hp | simp_all) (by kernel_rfl) (by kernel_rfl) (by kernel_rfl)
    · refine st_b 25 (bne_eq_false_iff_eq.2 (Classical.not_not.1 k25)) (by kernel_rfl) ?_
      refine st_b 37 (show (decide (a > 4294967295)) = false by exact decide_eq_false (by omega)) (by kernel_rfl) ?_
      refine st_b 42 (show (decide (a < -4294967295)) = false by exact decide_eq_false (by omega)) (by kernel_rfl) ?_
      refine st_i 45 .i64 (x' := 1 + 1) (Go.IntWalk.i64_in _ (by omega)) (by kernel_rfl) ?_
      refine st_forget [0, 1, 2, 3, 7, 8, 9, 10, 11, 12, 46, 47, 48, 49, 50, 51, 52, 53, 54, 55, 56, 57, 58] (by kernel_rfl) ?_
      exact st_back back0 (1 + 1) (by first | omega | (simp only []; omega) | (simp; omega)) (by first | (refine b_eq (decide_eq_false ?_).symm; unfold uOk pos8 neg8 cnt1 LIM; omega) | (refine b_eq (decide_eq_decide.2 ?_); unfold uOk pos8 neg8 cnt1 LIM; rw [qt]; unfold dtot; omega) | omega | (simp only []; omega) | (simp; omega) | assumption | simp_all) (fun p hp => by first | exact hp | simp_all) (by kernel_rfl) (by kernel_rfl) (by kernel_rfl)
  · have _hh := True.intro
    refine st_fn ent39 (wof_fn (b) (by assumption)) sub0 (by kernel_rfl) ?_
    refine st_fn ent93 (wsign_fn (b)) sub0 (by kernel_rfl) ?_
    by_cases k25 : cmpI b 0 ≠ 0
    · refine st_b 25 (bne_iff_ne.2 k25) (by kernel_rfl) ?_
      by_cases k29 : cmpI b 0 ≠ -1
      · refine st_b 29 (bne_iff_ne.2 k29) (by kernel_rfl) ?_
        exact st_retv Try.func31 (show Value.bool (false) = _ by (refine b_eq (decide_eq_false ?_).symm; unfold uOk pos8 neg8 cnt1 LIM; omega)) (by kernel_rfl)
      · refine st_b 29 (bne_eq_false_iff_eq.2 (Classical.not_not.1 k29)) (by kernel_rfl) ?_
        refine st_b 37 (show (decide (b > 4294967295)) = false by exact decide_eq_false (by omega)) (by kernel_rfl) ?_
        by_cases k42 : b < -4294967295
        · refine st_b 42 (decide_eq_true k42) (by kernel_rfl) ?_
          exact st_retv Try.func31 (show Value.bool (false) = _ by (refine b_eq (decide_eq_false ?_).symm; unfold uOk pos8 neg8 cnt1 LIM; omega)) (by kernel_rfl)
        · refine st_b 42 (decide_eq_false k42) (by kernel_rfl) ?_
          refine st_i 45 .i64 (x' := 2 + 1) (Go.IntWalk.i64_in _ (by omega)) (by kernel_rfl) ?_
          refine st_forget [0, 1, 2, 3, 7, 8, 9, 10, 11, 12, 46, 47, 48, 49, 50, 51, 52, 53, 54, 55, 56, 57, 58] (by kernel_rfl) ?_
          exact st_back back0 (2 + 1) (by first | omega | (simp only []; omega) | (simp; omega)) (by first | (refine b_eq (decide_eq_false ?_).symm; unfold uOk pos8 neg8 cnt1 LIM; omega) | (refine b_eq (decide_eq_decide.2 ?_); unfold uOk pos8 neg8 cnt1 LIM; rw [qt]; unfold dtot; omega) | omega | (simp only []; omega) | (simp; omega) | assumption | simp_all) (fun p hp => by first | exact hp | simp_all) (by kernel_rfl) (by kernel_rfl) (by kernel_rfl)
    · refine st_b 25 (bne_eq_false_iff_eq.2 (Classical.not_not.1 k25)) (by kernel_rfl) ?_
      refine st_b 37 (show (decide (b > 4294967295)) = false by exact decide_eq_false (by omega)) (by kernel_rfl) ?_
      refine st_b 42 (show (decide (b < -4294967295)) = false by exact decide_eq_false (by omega)) (by kernel_rfl) ?_
      refine st_i 45 .i64 (x' := 2 + 1) (Go.IntWalk.i64_in _ (by omega)) (by kernel_rfl) ?_
      refine st_forget [0, 1, 2, 3, 7, 8, 9, 10, 11, 12, 46, 47, 48, 49, 50, 51, 52, 53, 54, 55, 56, 57, 58] (by kernel_rfl) ?_
      exact st_back back0 (2 + 1) (by first | omega | (simp only []; omega) | (simp; omega)) (by first | (refine b_eq (decide_eq_false ?_).symm; unfold uOk pos8 neg8 cnt1 LIM; omega) | (refine b_eq (decide_eq_decide.2 ?_); unfold uOk pos8 neg8 cnt1 LIM; rw [qt]; unfold dtot; omega) | omega | (simp only []; omega) | (simp; omega) | assumption | simp_all) (fun p hp => by first | exact hp | simp_all) (by kernel_rfl) (by kernel_rfl) (by kernel_rfl)
  · have _hh := True.intro
    refine st_fn ent39 (wof_fn (c) (by assumption)) sub0 (by kernel_rfl) ?_
    refine st_fn ent93 (wsign_fn (c)) sub0 (by kernel_rfl) ?_
    by_cases k25 : cmpI c 0 ≠ 0
    · refine st_b 25 (bne_iff_ne.2 k25) (by kernel_rfl) ?_
      by_cases k29 : cmpI c 0 ≠ -1
      · refine st_b 29 (bne_iff_ne.2 k29) (by kernel_rfl) ?_
        exact st_retv Try.func31 (show Value.bool (false) = _ by (refine b_eq (decide_eq_false ?_).symm; unfold uOk pos8 neg8 cnt1 LIM; omega)) (by kernel_rfl)
      · refine st_b 29 (bne_eq_false_iff_eq.2 (Classical.not_not.1 k29)) (by kernel_rfl) ?_
        refine st_b 37 (show (decide (c > 4294967295)) = false by exact decide_eq_false (by omega)) (by kernel_rfl) ?_
        by_cases k42 : c < -4294967295
        · refine st_b 42 (decide_eq_true k42) (by kernel_rfl) ?_
          exact st_retv Try.func31 (show Value.bool (false) = _ by (refine b_eq (decide_eq_false ?_).symm; unfold uOk pos8 neg8 cnt1 LIM; omega)) (by kernel_rfl)
        · refine st_b 42 (decide_eq_false k42) (by kernel_rfl) ?_
          refine st_i 45 .i64 (x' := 3 + 1) (Go.IntWalk.i64_in _ (by omega)) (by kernel_rfl) ?_
          refine st_forget [0, 1, 2, 3, 7, 8, 9, 10, 11, 12, 46, 47, 48, 49, 50, 51, 52, 53, 54, 55, 56, 57, 58] (by kernel_rfl) ?_
          exact st_back back0 (3 + 1) (by first | omega | (simp only []; omega) | (simp; omega)) (by first | (refine b_eq (decide_eq_false ?_).symm; unfold uOk pos8 neg8 cnt1 LIM; omega) | (refine b_eq (decide_eq_decide.2 ?_); unfold uOk pos8 neg8 cnt1 LIM; rw [qt]; unfold dtot; omega) | omega | (simp only []; omega) | (simp; omega) | assumption | simp_all) (fun p hp => by first | exact hp | simp_all) (by kernel_rfl) (by kernel_rfl) (by kernel_rfl)
    · refine st_b 25 (bne_eq_false_iff_eq.2 (Classical.not_not.1 k25)) (by kernel_rfl) ?_
      refine st_b 37 (show (decide (c > 4294967295)) = false by exact decide_eq_false (by omega)) (by kernel_rfl) ?_
      refine st_b 42 (show (decide (c < -4294967295)) = false by exact decide_eq_false (by omega)) (by kernel_rfl) ?_
      refine st_i 45 .i64 (x' := 3 + 1) (Go.IntWalk.i64_in _ (by omega)) (by kernel_rfl) ?_
      refine st_forget [0, 1, 2, 3, 7, 8, 9, 10, 11, 12, 46, 47, 48, 49, 50, 51, 52, 53, 54, 55, 56, 57, 58] (by kernel_rfl) ?_
      exact st_back back0 (3 + 1) (by first | omega | (simp only []; omega) | (simp; omega)) (by first | (refine b_eq (decide_eq_false ?_).symm; unfold uOk pos8 neg8 cnt1 LIM; omega) | (refine b_eq (decide_eq_decide.2 ?_); unfold uOk pos8 neg8 cnt1 LIM; rw [qt]; unfold dtot; omega) | omega | (simp only []; omega) | (simp; omega) | assumption | simp_all) (fun p hp => by first | exact hp | simp_all) (by kernel_rfl) (by kernel_rfl) (by kernel_rfl)
  · have _hh := True.intro
    refine st_fn ent39 (wof_fn (d) (by assumption)) sub0 (by kernel_rfl) ?_
    refine st_fn ent93 (wsign_fn (d)) sub0 (by kernel_rfl) ?_
    by_cases k25 : cmpI d 0 ≠ 0
    · refine st_b 25 (bne_iff_ne.2 k25) (by kernel_rfl) ?_
      by_cases k29 : cmpI d 0 ≠ -1
      · refine st_b 29 (bne_iff_ne.2 k29) (by kernel_rfl) ?_
        exact st_retv Try.func31 (show Value.bool (false) = _ by (refine b_eq (decide_eq_false ?_).symm; unfold uOk pos8 neg8 cnt1 LIM; omega)) (by kernel_rfl)
      · refine st_b 29 (bne_eq_false_iff_eq.2 (Classical.not_not.1 k29)) (by kernel_rfl) ?_
        refine st_i 45 .i64 (x' := 4 + 1) (Go.IntWalk.i64_in _ (by omega)) (by kernel_rfl) ?_
        refine st_forget [0, 1, 2, 3, 7, 8, 9, 10, 11, 12, 46, 47, 48, 49, 50, 51, 52, 53, 54, 55, 56, 57, 58] (by kernel_rfl) ?_
        exact st_back back0 (4 + 1) (by first | omega | (simp only []; omega) | (simp; omega)) (by first | (refine b_eq (decide_eq_false ?_).symm; unfold uOk pos8 neg8 cnt1 LIM; omega) | (refine b_eq (decide_eq_decide.2 ?_); unfold uOk pos8 neg8 cnt1 LIM; rw [qt]; unfold dtot; omega) | omega | (simp only []; omega) | (simp; omega) | assumption | simp_all) (fun p hp => by first | exact hp | simp_all) (by kernel_rfl) (by kernel_rfl) (by kernel_rfl)
    · refine st_b 25 (bne_eq_false_iff_eq.2 (Classical.not_not.1 k25)) (by kernel_rfl) ?_
      refine st_i 45 .i64 (x' := 4 + 1) (Go.IntWalk.i64_in _ (by omega)) (by kernel_rfl) ?_
      refine st_forget [0, 1, 2, 3, 7, 8, 9, 10, 11, 12, 46, 47, 48, 49, 50, 51, 52, 53, 54, 55, 56, 57, 58] (by kernel_rfl) ?_
      exact st_back back0 (4 + 1) (by first | omega | (simp only []; omega) | (simp; omega)) (by first | (refine b_eq (decide_eq_false ?_).symm; unfold uOk pos8 neg8 cnt1 LIM; omega) | (refine b_eq (decide_eq_decide.2 ?_); unfold uOk pos8 neg8 cnt1 LIM; rw [qt]; unfold dtot; omega) | omega | (simp only []; omega) | (simp; omega) | assumption | simp_all) (fun p hp => by first | exact hp | simp_all) (by kernel_rfl) (by kernel_rfl) (by kernel_rfl)
  · have _hh := True.intro
    refine st_fn ent39 (wof_fn (h) (by assumption)) sub0 (by kernel_rfl) ?_
    refine st_fn ent93 (wsign_fn (h)) sub0 (by kernel_rfl) ?_
    by_cases k25 : cmpI h 0 ≠ 0
    · refine st_b 25 (bne_iff_ne.2 k25) (by kernel_rfl) ?_
      by_cases k29 : cmpI h 0 ≠ -1
      · refine st_b 29 (bne_iff_ne.2 k29) (by kernel_rfl) ?_
        exact st_retv Try.func31 (show Value.bool (false) = _ by (refine b_eq (decide_eq_false ?_).symm; unfold uOk pos8 neg8 cnt1 LIM; omega)) (by kernel_rfl)
      · refine st_b 29 (bne_eq_false_iff_eq.2 (Classical.not_not.1 k29)) (by kernel_rfl) ?_
        refine st_i 45 .i64 (x' := 5 + 1) (Go.IntWalk.i64_in _ (by omega)) (by kernel_rfl) ?_
        refine st_forget [0, 1, 2, 3, 7, 8, 9, 10, 11, 12, 46, 47, 48, 49, 50, 51, 52, 53, 54, 55, 56, 57, 58] (by kernel_rfl) ?_
        exact st_back back0 (5 + 1) (by first | omega | (simp only []; omega) | (simp; omega)) (by first | (refine b_eq (decide_eq_false ?_).symm; unfold uOk pos8 neg8 cnt1 LIM; omega) | (refine b_eq (decide_eq_decide.2 ?_); unfold uOk pos8 neg8 cnt1 LIM; rw [qt]; unfold dtot; omega) | omega | (simp only []; omega) | (simp; omega) | assumption | simp_all) (fun p hp => by first | exact hp | simp_all) (by kernel_rfl) (by kernel_rfl) (by kernel_rfl)
    · refine st_b 25 (bne_eq_false_iff_eq.2 (Classical.not_not.1 k25)) (by kernel_rfl) ?_
      refine st_i 45 .i64 (x' := 5 + 1) (Go.IntWalk.i64_in _ (by omega)) (by kernel_rfl) ?_
      refine st_forget [0, 1, 2, 3, 7, 8, 9, 10, 11, 12, 46, 47, 48, 49, 50, 51, 52, 53, 54, 55, 56, 57, 58] (by kernel_rfl) ?_
      exact st_back back0 (5 + 1) (by first | omega | (simp only []; omega) | (simp; omega)) (by first | (refine b_eq (decide_eq_false ?_).symm; unfold uOk pos8 neg8 cnt1 LIM; omega) | (refine b_eq (decide_eq_decide.2 ?_); unfold uOk pos8 neg8 cnt1 LIM; rw [qt]; unfold dtot; omega) | omega | (simp only []; omega) | (simp; omega) | assumption | simp_all) (fun p hp => by first | exact hp | simp_all) (by kernel_rfl) (by kernel_rfl) (by kernel_rfl)
  · have _hh := True.intro
    refine st_fn ent39 (wof_fn (mi) (by assumption)) sub0 (by kernel_rfl) ?_
    refine st_fn ent93 (wsign_fn (mi)) sub0 (by kernel_rfl) ?_
    by_cases k25 : cmpI mi 0 ≠ 0
    · refine st_b 25 (bne_iff_ne.2 k25) (by kernel_rfl) ?_
      by_cases k29 : cmpI mi 0 ≠ -1
      · refine st_b 29 (bne_iff_ne.2 k29) (by kernel_rfl) ?_
        exact st_retv Try.func31 (show Value.bool (false) = _ by (refine b_eq (decide_eq_false ?_).symm; unfold uOk pos8 neg8 cnt1 LIM; omega)) (by kernel_rfl)
      · refine st_b 29 (bne_eq_false_iff_eq.2 (Classical.not_not.1 k29)) (by kernel_rfl) ?_
        refine st_i 45 .i64 (x' := 6 + 1) (Go.IntWalk.i64_in _ (by omega)) (by kernel_rfl) ?_
        refine st_forget [0, 1, 2, 3, 7, 8, 9, 10, 11, 12, 46, 47, 48, 49, 50, 51, 52, 53, 54, 55, 56, 57, 58] (by kernel_rfl) ?_
        exact st_back back0 (6 + 1) (by first | omega | (simp only []; omega) | (simp; omega)) (by first | (refine b_eq (decide_eq_false ?_).symm; unfold uOk pos8 neg8 cnt1 LIM; omega) | (refine b_eq (decide_eq_decide.2 ?_); unfold uOk pos8 neg8 cnt1 LIM; rw [qt]; unfold dtot; omega) | omega | (simp only []; omega) | (simp; omega) | assumption | simp_all) (fun p hp => by first | exact hp | simp_all) (by kernel_rfl) (by kernel_rfl) (by kernel_rfl)
    · refine st_b 25 (bne_eq_false_iff_eq.2 (Classical.not_not.1 k25)) (by kernel_rfl) ?_
      refine st_i 45 .i64 (x' := 6 + 1) (Go.IntWalk.i64_in _ (by omega)) (by kernel_rfl) ?_
      refine st_forget [0, 1, 2, 3, 7, 8, 9, 10, 11, 12, 46, 47, 48, 49, 50, 51, 52, 53, 54, 55, 56, 57, 58] (by kernel_rfl) ?_
      exact st_back back0 (6 + 1) (by first | omega | (simp only []; omega) | (simp; omega)) (by first | (refine b_eq (decide_eq_false ?_).symm; unfold uOk pos8 neg8 cnt1 LIM; omega) | (refine b_eq (decide_eq_decide.2 ?_); unfold uOk pos8 neg8 cnt1 LIM; rw [qt]; unfold dtot; omega) | omega | (simp only []; omega) | (simp; omega) | assumption | simp_all) (fun p hp => by first | exact hp | simp_all) (by kernel_rfl) (by kernel_rfl) (by kernel_rfl)
  · have _hh := True.intro
    refine st_fn ent39 (wof_fn (s) (by assumption)) sub0 (by kernel_rfl) ?_
    refine st_fn ent93 (wsign_fn (s)) sub0 (by kernel_rfl) ?_
    by_cases k25 : cmpI s 0 ≠ 0
    · refine st_b 25 (bne_iff_ne.2 k25) (by kernel_rfl) ?_
      by_cases k29 : cmpI s 0 ≠ -1
      · refine st_b 29 (bne_iff_ne.2 k29) (by kernel_rfl) ?_
        exact st_retv Try.func31 (show Value.bool (false) = _ by (refine b_eq (decide_eq_false ?_).symm; unfold uOk pos8 neg8 cnt1 LIM; omega)) (by kernel_rfl)
      · refine st_b 29 (bne_eq_false_iff_eq.2 (Classical.not_not.1 k29)) (by kernel_rfl) ?_
        refine st_i 45 .i64 (x' := 7 + 1) (Go.IntWalk.i64_in _ (by omega)) (by kernel_rfl) ?_
        refine st_forget [0, 1, 2, 3, 7, 8, 9, 10, 11, 12, 46, 47, 48, 49, 50, 51, 52, 53, 54, 55, 56, 57, 58] (by kernel_rfl) ?_
        exact st_back back0 (7 + 1) (by first | omega | (simp only []; omega) | (simp; omega)) (by first | (refine b_eq (decide_eq_false ?_).symm; unfold uOk pos8 neg8 cnt1 LIM; omega) | (refine b_eq (decide_eq_decide.2 ?_); unfold uOk pos8 neg8 cnt1 LIM; rw [qt]; unfold dtot; omega) | omega | (simp only []; omega) | (simp; omega) | assumption | simp_all) (fun p hp => by first | exact hp | simp_all) (by kernel_rfl) (by kernel_rfl) (by kernel_rfl)
    · refine st_b 25 (bne_eq_false_iff_eq.2 (Classical.not_not.1 k25)) (by kernel_rfl) ?_
      refine st_i 45 .i64 (x' := 7 + 1) (Go.IntWalk.i64_in _ (by omega)) (by kernel_rfl) ?_
      refine st_forget [0, 1, 2, 3, 7, 8, 9, 10, 11, 12, 46, 47, 48, 49, 50, 51, 52, 53, 54, 55, 56, 57, 58] (by kernel_rfl) ?_
      exact st_back back0 (7 + 1) (by first | omega | (simp only []; omega) | (simp; omega)) (by first | (refine b_eq (decide_eq_false ?_).symm; unfold uOk pos8 neg8 cnt1 LIM; omega) | (refine b_eq (decide_eq_decide.2 ?_); unfold uOk pos8 neg8 cnt1 LIM; rw [qt]; unfold dtot; omega) | omega | (simp only []; omega) | (simp; omega) | assumption | simp_all) (fun p hp => by first | exact hp | simp_all) (by kernel_rfl) (by kernel_rfl) (by kernel_rfl)
  · have _hh := True.intro
    refine st_fn ent39 (wof_fn (n) (by assumption)) sub0 (by kernel_rfl) ?_
    refine st_fn ent93 (wsign_fn (n)) sub0 (by kernel_rfl) ?_
    by_cases k25 : cmpI n 0 ≠ 0
    · refine st_b 25 (bne_iff_ne.2 k25) (by kernel_rfl) ?_
      by_cases k29 : cmpI n 0 ≠ -1
      · refine st_b 29 (bne_iff_ne.2 k29) (by kernel_rfl) ?_
        exact st_retv Try.func31 (show Value.bool (false) = _ by (refine b_eq (decide_eq_false ?_).symm; unfold uOk pos8 neg8 cnt1 LIM; omega)) (by kernel_rfl)
      · refine st_b 29 (bne_eq_false_iff_eq.2 (Classical.not_not.1 k29)) (by kernel_rfl) ?_
        refine st_i 45 .i64 (x' := 8 + 1) (Go.IntWalk.i64_in _ (by omega)) (by kernel_rfl) ?_
        refine st_forget [0, 1, 2, 3, 7, 8, 9, 10, 11, 12, 46, 47, 48, 49, 50, 51, 52, 53, 54, 55, 56, 57, 58] (by kernel_rfl) ?_
        exact st_back back0 (8 + 1) (by first | omega | (simp only []; omega) | (simp; omega)) (by first | (refine b_eq (decide_eq_false ?_).symm; unfold uOk pos8 neg8 cnt1 LIM; omega) | (refine b_eq (decide_eq_decide.2 ?_); unfold uOk pos8 neg8 cnt1 LIM; rw [qt]; unfold dtot; omega) | omega | (simp only []; omega) | (simp; omega) | assumption | simp_all) (fun p hp => by first | exact hp | simp_all) (by kernel_rfl) (by kernel_rfl) (by kernel_rfl)
    · refine st_b 25 (bne_eq_false_iff_eq.2 (Classical.not_not.1 k25)) (by kernel_rfl) ?_
      refine st_i 45 .i64 (x' := 8 + 1) (Go.IntWalk.i64_in _ (by omega)) (by kernel_rfl) ?_
      refine st_forget [0, 1, 2, 3, 7, 8, 9, 10, 11, 12, 46, 47, 48, 49, 50, 51, 52, 53, 54, 55, 56, 57, 58] (by kernel_rfl) ?_
      exact st_back back0 (8 + 1) (by first | omega | (simp only []; omega) | (simp; omega)) (by first | (refine b_eq (decide_eq_false ?_).symm; unfold uOk pos8 neg8 cnt1 LIM; omega) | (refine b_eq (decide_eq_decide.2 ?_); unfold uOk pos8 neg8 cnt1 LIM; rw [qt]; unfold dtot; omega) | omega | (simp only []; omega) | (simp; omega) | assumption | simp_all) (fun p hp => by first | exact hp | simp_all) (by kernel_rfl) (by kernel_rfl) (by kernel_rfl)
  · have _hh := True.intro
    refine st_fn ent94 (ut) sub0 (by kernel_rfl) ?_
    refine st_fn ent55 (wneg_yes (dtot d h mi s n) (by assumption) (by assumption)) sub0 (by kernel_rfl) ?_
    refine st_fn ent95 (ulimit) sub0 (by kernel_rfl) ?_
    refine st_fn ent57 (wcmp_fn (-dtot d h mi s n) (9007199254740992000000000)) sub0 (by kernel_rfl) ?_
    exact st_retv Try.func31 (show Value.bool (decide (cmpI (-dtot d h mi s n) 9007199254740992000000000 < 0)) = _ by (refine b_eq (decide_eq_decide.2 ?_); unfold uOk pos8 neg8 cnt1 LIM; rw [qt]; unfold dtot; omega)) (by kernel_rfl)
theorem uright_z (i : all64 a b c d h mi s n) (hs : sg8 a b c d h mi s n = 0) (hk : a = 0 ∧ b = 0 ∧ c = 0 ∧ d = 0 ∧ h = 0 ∧ mi = 0 ∧ s = 0 ∧ n = 0) : Fn 31 [] [duv a b c d h mi s n] (.bool (decide (uOk a b c d h mi s n))) := by
  have us := usign a b c d h mi s n i
  rw [hs] at us
  obtain ⟨i1, i2, i3, i4, i5, i6, i7, i8⟩ := i
  have wt : W128 (dtot d h mi s n) ∧ W128 (-dtot d h mi s n) := by unfold I64 at *; unfold W128 dtot; omega
  obtain ⟨wt1, wt2⟩ := wt
  have ut := utot a b c d h mi s n i4 i5 i6 i7 i8
  have qt := cmpI_lt0 (a := dtot d h mi s n) (b := 9007199254740992000000000)
  refine fn_of Try.func31 rfl fun ww => ?_
  refine st_fn ent32 (us) sub0 (by kernel_rfl) ?_
  refine ufields_row 0 0 (by kernel_rfl) ?_
  refine st_forget [0, 1, 3, 7, 8, 9, 10, 11, 12, 46, 47, 48, 49, 50, 51, 52, 53, 54, 55, 56, 57, 58] (by kernel_rfl) ?_
  refine st_loop (X := Int) (fun x => ([SV.val (Value.agg #[Value.int IntKind.i64 a, Value.int IntKind.i64 b, Value.int IntKind.i64 c, Value.int IntKind.i64 d, Value.int IntKind.i64 h, Value.int IntKind.i64 mi, Value.int IntKind.i64 s, Value.int IntKind.i64 n]), SV.ptr 0 0, .any, SV.val (Value.int IntKind.i64 0), .any, .any, .any, SV.val (Value.tuple #[]), SV.val (Value.agg #[Value.int IntKind.i64 a, Value.int IntKind.i64 b, Value.int IntKind.i64 c, Value.int IntKind.i64 d, Value.int IntKind.i64 h, Value.int IntKind.i64 mi, Value.int IntKind.i64 s, Value.int IntKind.i64 n]), SV.val (Value.int IntKind.i64 0), SV.sl 1 0 9 9, SV.val (Value.int IntKind.i64 (↑9 : Int)), .val (.int .i64 x), .any, .any, .any, .any, .any, .any, .any, .any, .any, .any, .any, .any, .any, .any, .any, .any, .any, .any, .any, .any, .any, .any, .any, .any, .any, .any, .any, .any, .any, .any, .any, .any, .any, SV.val (Value.tuple #[]), SV.val (Value.tuple #[]), SV.val (Value.tuple #[]), SV.val (Value.tuple #[]), SV.val (Value.tuple #[]), SV.val (Value.tuple #[]), SV.val (Value.tuple #[]), SV.val (Value.tuple #[]), SV.val (Value.tuple #[]), SV.val (Value.tuple #[]), SV.val (Value.tuple #[]), SV.val (Value.tuple #[]), SV.val (Value.tuple #[])], [⟨[SV.val (Value.int IntKind.i64 a), SV.val (Value.int IntKind.i64 b), SV.val (Value.int IntKind.i64 c), SV.val (Value.int IntKind.i64 d), SV.val (Value.int IntKind.i64 h), SV.val (Value.int IntKind.i64 mi), SV.val (Value.int IntKind.i64 s), SV.val (Value.int IntKind.i64 n)], 41⟩, ⟨[SV.val (Value.pointer none), SV.ptr 0 0, SV.ptr 0 1, SV.ptr 0 2, SV.ptr 0 3, SV.ptr 0 4, SV.ptr 0 5, SV.ptr 0 6, SV.ptr 0 7], 134⟩])) (fun _ => _) (fun k => 0 ≤ k ∧ k ≤ 9 ∧ (1 < k → a = 0 ∧ -4294967295 ≤ a ∧ a ≤ 4294967295) ∧ (2 < k → b = 0 ∧ -4294967295 ≤ b ∧ b ≤ 4294967295) ∧ (3 < k → c = 0 ∧ -4294967295 ≤ c ∧ c ≤ 4294967295) ∧ (4 < k → d = 0) ∧ (5 < k → h = 0) ∧ (6 < k → mi = 0) ∧ (7 < k → s = 0) ∧ (8 < k → n = 0)) (fun k => (9 - k).toNat) (0) (by kernel_rfl) (by kernel_rfl) Sub.refl (by first | omega | (simp; omega) | assumption | simp_all) (fun y0 px0 back0 => ?_)
  (have q := cmpI_sg (fl8 a b c d h mi s n y0); have hk0 : y0 = 0 ∨ y0 = 1 ∨ y0 = 2 ∨ y0 = 3 ∨ y0 = 4 ∨ y0 = 5 ∨ y0 = 6 ∨ y0 = 7 ∨ y0 = 8 ∨ y0 = 9 := (by omega); rcases hk0 with rfl | rfl | rfl | rfl | rfl | rfl | rfl | rfl | rfl | rfl <;> simp only [fl8, Int.reduceEq, if_true, if_false] at q)
  · have _hh := True.intro
    refine st_i 45 .i64 (x' := 0 + 1) (Go.IntWalk.i64_in _ (by omega)) (by kernel_rfl) ?_
    refine st_forget [0, 1, 2, 3, 6, 7, 8, 9, 10, 11, 12, 19, 20, 21, 22, 23, 24, 25, 26, 27, 28, 29, 30, 31, 32, 33, 34, 35, 36, 37, 38, 39, 40, 41, 42, 43, 44, 46, 47, 48, 49, 50, 51, 52, 53, 54, 55, 56, 57, 58] (by kernel_rfl) ?_
    exact st_back back0 (0 + 1) (by first | omega | (simp only []; omega) | (simp; omega)) (by first | (refine b_eq (decide_eq_false ?_).symm; unfold uOk pos8 neg8 cnt1 LIM; omega) | (refine b_eq (decide_eq_decide.2 ?_); unfold uOk pos8 neg8 cnt1 LIM; rw [qt]; unfold dtot; omega) | omega | (simp only []; omega) | (simp; omega) | assumption | simp_all) (fun p hp => by first | exact hp | simp_all) (by kernel_rfl) (by kernel_rfl) (by kernel_rfl)
  · have _hh := True.intro
    refine st_fn ent39 (wof_fn (a) (by assumption)) sub0 (by kernel_rfl) ?_
    refine st_fn ent93 (wsign_fn (a)) sub0 (by kernel_rfl) ?_
    refine st_b 25 (show (cmpI a 0 != 0) = false by exact bne_eq_false_iff_eq.2 (by omega)) (by kernel_rfl) ?_
    refine st_b 37 (show (decide (a > 4294967295)) = false by exact decide_eq_false (by omega)) (by kernel_rfl) ?_
    refine st_b 42 (show (decide (a < -4294967295)) = false by exact decide_eq_false (by omega)) (by kernel_rfl) ?_
    refine st_i 45 .i64 (x' := 1 + 1) (Go.IntWalk.i64_in _ (by omega)) (by kernel_rfl) ?_
    refine st_forget [0, 1, 2, 3, 7, 8, 9, 10, 11, 12, 46, 47, 48, 49, 50, 51, 52, 53, 54, 55, 56, 57, 58] (by kernel_rfl) ?_
    exact st_back back0 (1 + 1) (by first | omega | (simp only []; omega) | (simp; omega)) (by first | (refine b_eq (decide_eq_false ?_).symm; unfold uOk pos8 neg8 cnt1 LIM; omega) | (refine b_eq (decide_eq_decide.2 ?_); unfold uOk pos8 neg8 cnt1 LIM; rw [qt]; unfold dtot; omega) | omega | (simp only []; omega) | (simp; omega) | assumption | simp_all) (fun p hp => by first | exact hp | simp_all) (by kernel_rfl) (by kernel_rfl) (by kernel_rfl)
  · have _hh := True.intro
    refine st_fn ent39 (wof_fn (b) (by assumption)) sub0 (by kernel_rfl) ?_
    refine st_fn ent93 (wsign_fn (b)) sub0 (by kernel_rfl) ?_
    refine st_b 25 (show (cmpI b 0 != 0) = false by exact bne_eq_false_iff_eq.2 (by omega)) (by kernel_rfl) ?_
    refine st_b 37 (show (decide (b > 4294967295)) = false by exact decide_eq_false (by omega)) (by kernel_rfl) ?_
    refine st_b 42 (show (decide (b < -4294967295)) = false by exact decide_eq_false (by omega)) (by kernel_rfl) ?_
    refine st_i 45 .i64 (x' := 2 + 1) (Go.IntWalk.i64_in _ (by omega)) (by kernel_rfl) ?_
    refine st_forget [0, 1, 2, 3, 7, 8, 9, 10, 11, 12, 46, 47, 48, 49, 50, 51, 52, 53, 54, 55, 56, 57, 58] (by kernel_rfl) ?_
    exact st_back back0 (2 + 1) (by first | omega | (simp only []; omega) | (simp; omega)) (by first | (refine b_eq (decide_eq_false ?_).symm; unfold uOk pos8 neg8 cnt1 LIM; omega) | (refine b_eq (decide_eq_decide.2 ?_); unfold uOk pos8 neg8 cnt1 LIM; rw [qt]; unfold dtot; omega) | omega | (simp only []; omega) | (simp; omega) | assumption | simp_all) (fun p hp => by first | exact hp | simp_all) (by kernel_rfl) (by kernel_rfl) (by kernel_rfl)
  · have _hh := True.intro
    refine st_fn ent39 (wof_fn (c) (by assumption)) sub0 (by kernel_rfl) ?_
    refine st_fn ent93 (wsign_fn (c)) sub0 (by kernel_rfl) ?_
    refine st_b 25 (show (cmpI c 0 != 0) = false by exact bne_eq_false_iff_eq.2 (by omega)) (by kernel_rfl) ?_
    refine st_b 37 (show (decide (c > 4294967295)) = false by exact decide_eq_false (by omega)) (by kernel_rfl) ?_
    refine st_b 42 (show (decide (c < -4294967295)) = false by exact decide_eq_false (by omega)) (by kernel_rfl) ?_
    refine st_i 45 .i64 (x' := 3 + 1) (Go.IntWalk.i64_in _ (by omega)) (by kernel_rfl) ?_
    refine st_forget [0, 1, 2, 3, 7, 8, 9, 10, 11, 12, 46, 47, 48, 49, 50, 51, 52, 53, 54, 55, 56, 57, 58] (by kernel_rfl) ?_
    exact st_back back0 (3 + 1) (by first | omega | (simp only []; omega) | (simp; omega)) (by first | (refine b_eq (decide_eq_false ?_).symm; unfold uOk pos8 neg8 cnt1 LIM; omega) | (refine b_eq (decide_eq_decide.2 ?_); unfold uOk pos8 neg8 cnt1 LIM; rw [qt]; unfold dtot; omega) | omega | (simp only []; omega) | (simp; omega) | assumption | simp_all) (fun p hp => by first | exact hp | simp_all) (by kernel_rfl) (by kernel_rfl) (by kernel_rfl)
  · have _hh := True.intro
    refine st_fn ent39 (wof_fn (d) (by assumption)) sub0 (by kernel_rfl) ?_
    refine st_fn ent93 (wsign_fn (d)) sub0 (by kernel_rfl) ?_
    refine st_b 25 (show (cmpI d 0 != 0) = false by exact bne_eq_false_iff_eq.2 (by omega)) (by kernel_rfl) ?_
    refine st_i 45 .i64 (x' := 4 + 1) (Go.IntWalk.i64_in _ (by omega)) (by kernel_rfl) ?_
    refine st_forget [0, 1, 2, 3, 7, 8, 9, 10, 11, 12, 46, 47, 48, 49, 50, 51, 52, 53, 54, 55, 56, 57, 58] (by kernel_rfl) ?_
    exact st_back back0 (4 + 1) (by first | omega | (simp only []; omega) | (simp; omega)) (by first | (refine b_eq (decide_eq_false ?_).symm; unfold uOk pos8 neg8 cnt1 LIM; omega) | (refine b_eq (decide_eq_decide.2 ?_); unfold uOk pos8 neg8 cnt1 LIM; rw [qt]; unfold dtot; omega) | omega | (simp only []; omega) | (simp; omega) | assumption | simp_all) (fun p hp => by first | exact hp | simp_all) (by kernel_rfl) (by kernel_rfl) (by kernel_rfl)
  · have _hh := True.intro
    refine st_fn ent39 (wof_fn (h) (by assumption)) sub0 (by kernel_rfl) ?_
    refine st_fn ent93 (wsign_fn (h)) sub0 (by kernel_rfl) ?_
    refine st_b 25 (show (cmpI h 0 != 0) = false by exact bne_eq_false_iff_eq.2 (by omega)) (by kernel_rfl) ?_
    refine st_i 45 .i64 (x' := 5 + 1) (Go.IntWalk.i64_in _ (by omega)) (by kernel_rfl) ?_
    refine st_forget [0, 1, 2, 3, 7, 8, 9, 10, 11, 12, 46, 47, 48, 49, 50, 51, 52, 53, 54, 55, 56, 57, 58] (by kernel_rfl) ?_
    exact st_back back0 (5 + 1) (by first | omega | (simp only []; omega) | (simp; omega)) (by first | (refine b_eq (decide_eq_false ?_).symm; unfold uOk pos8 neg8 cnt1 LIM; omega) | (refine b_eq (decide_eq_decide.2 ?_); unfold uOk pos8 neg8 cnt1 LIM; rw [qt]; unfold dtot; omega) | omega | (simp only []; omega) | (simp; omega) | assumption | simp_all) (fun p hp => by first | exact hp | simp_all) (by kernel_rfl) (by kernel_rfl) (by kernel_rfl)
  · have _hh := True.intro
    refine st_fn ent39 (wof_fn (mi) (by assumption)) sub0 (by kernel_rfl) ?_
    refine st_fn ent93 (wsign_fn (mi)) sub0 (by kernel_rfl) ?_
    refine st_b 25 (show (cmpI mi 0 != 0) = false by exact bne_eq_false_iff_eq.2 (by omega)) (by kernel_rfl) ?_
    refine st_i 45 .i64 (x' := 6 + 1) (Go.IntWalk.i64_in _ (by omega)) (by kernel_rfl) ?_
    refine st_forget [0, 1, 2, 3, 7, 8, 9, 10, 11, 12, 46, 47, 48, 49, 50, 51, 52, 53, 54, 55, 56, 57, 58] (by kernel_rfl) ?_
    exact st_back back0 (6 + 1) (by first | omega | (simp only []; omega) | (simp; omega)) (by first | (refine b_eq (decide_eq_false ?_).symm; unfold uOk pos8 neg8 cnt1 LIM; omega) | (refine b_eq (decide_eq_decide.2 ?_); unfold uOk pos8 neg8 cnt1 LIM; rw [qt]; unfold dtot; omega) | omega | (simp only []; omega) | (simp; omega) | assumption | simp_all) (fun p hp => by first | exact hp | simp_all) (by kernel_rfl) (by kernel_rfl) (by kernel_rfl)
  · have _hh := True.intro
    refine st_fn ent39 (wof_fn (s) (by assumption)) sub0 (by kernel_rfl) ?_
    refine st_fn ent93 (wsign_fn (s)) sub0 (by kernel_rfl) ?_
    refine st_b 25 (show (cmpI s 0 != 0) = false by exact bne_eq_false_iff_eq.2 (by omega)) (by kernel_rfl) ?_
    refine st_i 45 .i64 (x' := 7 + 1) (Go.IntWalk.i64_in _ (by omega)) (by kernel_rfl) ?_
    refine st_forget [0, 1, 2, 3, 7, 8, 9, 10, 11, 12, 46, 47, 48, 49, 50, 51, 52, 53, 54, 55, 56, 57, 58] (by kernel_rfl) ?_
    exact st_back back0 (7 + 1) (by first | omega | (simp only []; omega) | (simp; omega)) (by first | (refine b_eq (decide_eq_false ?_).symm; unfold uOk pos8 neg8 cnt1 LIM; omega) | (refine b_eq (decide_eq_decide.2 ?_); unfold uOk pos8 neg8 cnt1 LIM; rw [qt]; unfold dtot; omega) | omega | (simp only []; omega) | (simp; omega) | assumption | simp_all) (fun p hp => by first | exact hp | simp_all) (by kernel_rfl) (by kernel_rfl) (by kernel_rfl)
  · have _hh := True.intro
    refine st_fn ent39 (wof_fn (n) (by assumption)) sub0 (by kernel_rfl) ?_
    refine st_fn ent93 (wsign_fn (n)) sub0 (by kernel_rfl) ?_
    refine st_b 25 (show (cmpI n 0 != 0) = false by exact bne_eq_false_iff_eq.2 (by omega)) (by kernel_rfl) ?_
    refine st_i 45 .i64 (x' := 8 + 1) (Go.IntWalk.i64_in _ (by omega)) (by kernel_rfl) ?_
    refine st_forget [0, 1, 2, 3, 7, 8, 9, 10, 11, 12, 46, 47, 48, 49, 50, 51, 52, 53, 54, 55, 56, 57, 58] (by kernel_rfl) ?_
    exact st_back back0 (8 + 1) (by first | omega | (simp only []; omega) | (simp; omega)) (by first | (refine b_eq (decide_eq_false ?_).symm; unfold uOk pos8 neg8 cnt1 LIM; omega) | (refine b_eq (decide_eq_decide.2 ?_); unfold uOk pos8 neg8 cnt1 LIM; rw [qt]; unfold dtot; omega) | omega | (simp only []; omega) | (simp; omega) | assumption | simp_all) (fun p hp => by first | exact hp | simp_all) (by kernel_rfl) (by kernel_rfl) (by kernel_rfl)
  · have _hh := True.intro
    refine st_fn ent94 (ut) sub0 (by kernel_rfl) ?_
    refine st_fn ent95 (ulimit) sub0 (by kernel_rfl) ?_
    refine st_fn ent57 (wcmp_fn (dtot d h mi s n) (9007199254740992000000000)) sub0 (by kernel_rfl) ?_
    exact st_retv Try.func31 (show Value.bool (decide (cmpI (dtot d h mi s n) 9007199254740992000000000 < 0)) = _ by (refine b_eq (decide_eq_decide.2 ?_); unfold uOk pos8 neg8 cnt1 LIM; rw [qt]; unfold dtot; omega)) (by kernel_rfl)
end
end Go.Proofs.Ytccllfegnijpiaa
end
section
/-
  Durations: what may be, as the reference reckons it.
-/
set_option linter.unusedVariables false
set_option maxRecDepth 100000
namespace Go.Proofs.Ytccllfegnijpiaa
open Go Go.RowKit Go.Ev

theorem sg8_1 {a b c d h mi s n : Int} (q : 0 < a ∨ a = 0 ∧ (0 < b ∨ b = 0 ∧ (0 < c ∨ c = 0 ∧ (0 < d ∨ d = 0 ∧ (0 < h ∨ h = 0 ∧ (0 < mi ∨ mi = 0 ∧ (0 < s ∨ s = 0 ∧ (0 < n)))))))) : sg8 a b c d h mi s n = 1 := by
  unfold sg8
  by_cases ka : a = 0
  rotate_left
  · rw [if_pos (by omega)]; have := cmpI_sg a; omega
  rw [if_neg (by omega)]
  by_cases kb : b = 0
  rotate_left
  · rw [if_pos (by omega)]; have := cmpI_sg b; omega
  rw [if_neg (by omega)]
  by_cases kc : c = 0
  rotate_left
  · rw [if_pos (by omega)]; have := cmpI_sg c; omega
  rw [if_neg (by omega)]
  by_cases kd : d = 0
  rotate_left
  · rw [if_pos (by omega)]; have := cmpI_sg d; omega
  rw [if_neg (by omega)]
  by_cases kh : h = 0
  rotate_left
  · rw [if_pos (by omega)]; have := cmpI_sg h; omega
  rw [if_neg (by omega)]
  by_cases kmi : mi = 0
  rotate_left
  · rw [if_pos (by omega)]; have := cmpI_sg mi; omega
  rw [if_neg (by omega)]
  by_cases ks : s = 0
  rotate_left
  · rw [if_pos (by omega)]; have := cmpI_sg s; omega
  rw [if_neg (by omega)]
  have := cmpI_sg n; omega
theorem sg8_m {a b c d h mi s n : Int} (q : a < 0 ∨ a = 0 ∧ (b < 0 ∨ b = 0 ∧ (c < 0 ∨ c = 0 ∧ (d < 0 ∨ d = 0 ∧ (h < 0 ∨ h = 0 ∧ (mi < 0 ∨ mi = 0 ∧ (s < 0 ∨ s = 0 ∧ (n < 0)))))))) : sg8 a b c d h mi s n = -1 := by
  unfold sg8
  by_cases ka : a = 0
  rotate_left
  · rw [if_pos (by omega)]; have := cmpI_sg a; omega
  rw [if_neg (by omega)]
  by_cases kb : b = 0
  rotate_left
  · rw [if_pos (by omega)]; have := cmpI_sg b; omega
  rw [if_neg (by omega)]
  by_cases kc : c = 0
  rotate_left
  · rw [if_pos (by omega)]; have := cmpI_sg c; omega
  rw [if_neg (by omega)]
  by_cases kd : d = 0
  rotate_left
  · rw [if_pos (by omega)]; have := cmpI_sg d; omega
  rw [if_neg (by omega)]
  by_cases kh : h = 0
  rotate_left
  · rw [if_pos (by omega)]; have := cmpI_sg h; omega
  rw [if_neg (by omega)]
  by_cases kmi : mi = 0
  rotate_left
  · rw [if_pos (by omega)]; have := cmpI_sg mi; omega
  rw [if_neg (by omega)]
  by_cases ks : s = 0
  rotate_left
  · rw [if_pos (by omega)]; have := cmpI_sg s; omega
  rw [if_neg (by omega)]
  have := cmpI_sg n; omega
theorem sg8_0 {a b c d h mi s n : Int} (q : a = 0 ∧ b = 0 ∧ c = 0 ∧ d = 0 ∧ h = 0 ∧ mi = 0 ∧ s = 0 ∧ n = 0) : sg8 a b c d h mi s n = 0 := by
  unfold sg8
  by_cases ka : a = 0
  rotate_left
  · rw [if_pos (by omega)]; have := cmpI_sg a; omega
  rw [if_neg (by omega)]
  by_cases kb : b = 0
  rotate_left
  · rw [if_pos (by omega)]; have := cmpI_sg b; omega
  rw [if_neg (by omega)]
  by_cases kc : c = 0
  rotate_left
  · rw [if_pos (by omega)]; have := cmpI_sg c; omega
  rw [if_neg (by omega)]
  by_cases kd : d = 0
  rotate_left
  · rw [if_pos (by omega)]; have := cmpI_sg d; omega
  rw [if_neg (by omega)]
  by_cases kh : h = 0
  rotate_left
  · rw [if_pos (by omega)]; have := cmpI_sg h; omega
  rw [if_neg (by omega)]
  by_cases kmi : mi = 0
  rotate_left
  · rw [if_pos (by omega)]; have := cmpI_sg mi; omega
  rw [if_neg (by omega)]
  by_cases ks : s = 0
  rotate_left
  · rw [if_pos (by omega)]; have := cmpI_sg s; omega
  rw [if_neg (by omega)]
  have := cmpI_sg n; omega
end Go.Proofs.Ytccllfegnijpiaa
end
section
/-
  round.up: the closures.
-/
set_option linter.unusedVariables false
set_option maxRecDepth 100000
namespace Go.Proofs.Ytccllfegnijpiaa
open Go Go.RowKit Go.Ev

def PlaceAt (k : Nat) (b : Bool) (x : Int) (e : Bool) (w : World) : Prop := w.heap[k]? = some (.cells #[.bool b, .int .i64 x, .bool e] 142 (0, 0))
def HalfAt (h k : Nat) (w : World) : Prop := w.heap[h]? = some (.cells #[.func (.func 138) #[] #[.pointer (some ⟨k, 0, none⟩)]] 180 (0, 0))
def ET : List TypeId := [142, 180]
theorem PlaceAt.stable (k : Nat) (b : Bool) (x : Int) (e : Bool) : Stable ET (PlaceAt k b x e) := fun w w' hk h => hk _ _ _ _ (by simp [ET]) h
theorem HalfAt.stable (h k : Nat) : Stable ET (HalfAt h k) := fun w w' hk q => hk _ _ _ _ (by simp [ET]) q
theorem PlaceAt.c0 {k : Nat} {b : Bool} {x : Int} {e : Bool} {w : World} (h : PlaceAt k b x e w) : w.cell? ⟨k, 0, none⟩ = some (.bool b) := by unfold PlaceAt at h; simp [World.cell?, h]
theorem PlaceAt.c1 {k : Nat} {b : Bool} {x : Int} {e : Bool} {w : World} (h : PlaceAt k b x e w) : w.cell? ⟨k, 1, none⟩ = some (.int .i64 x) := by unfold PlaceAt at h; simp [World.cell?, h]
theorem PlaceAt.c2 {k : Nat} {b : Bool} {x : Int} {e : Bool} {w : World} (h : PlaceAt k b x e w) : w.cell? ⟨k, 2, none⟩ = some (.bool e) := by unfold PlaceAt at h; simp [World.cell?, h]
theorem HalfAt.c0 {h k : Nat} {w : World} (q : HalfAt h k w) : w.cell? ⟨h, 0, none⟩ = some (.func (.func 138) #[] #[.pointer (some ⟨k, 0, none⟩)]) := by unfold HalfAt at q; simp [World.cell?, q]
/-- Does a half go up? -/
def halfB (x : Int) (tie : Bool) : Bool := if 0 < x then true else if x = 0 then tie else false
abbrev RB (w : World) (v : Value) : Ending → World → Prop := fun e w' => e = .returned v ∧ Below w.heap.size w w'
section
variable {f0 : FuncId} {w0 : World} {R : Ending → World → Prop} {G : World → Prop} {c : Cf}
structure Rw (C : Cx) (G : World → Prop) (c : Cf) : Prop where
  h : Run C G c
theorem u_of {f : FuncId} {fn : Func} {cd : Code} {args : List Value} {v : Value} {w : World} (hf : Try.prog.funcs[f]? = some fn) (hb : fn.body = some cd) (hs : Stable ET G) (hG : G w) (h : Rw ⟨Try.prog, f, ET, w, (RB w v)⟩ G (startS fn args)) : Calls Try.prog f args.toArray w (RB w v) :=
  calls_run ET G hf hb hs hG h.h
theorem u_load {T : TypeId} {ad : Addr} {v : Value} (h : ∀ w, G w → (loadVar T ad).run Try.prog w = .ok v w) (hc : loadAt (adv Try.prog ET 9999 400 c) = some (T, ad)) (hk : Rw ⟨Try.prog, f0, ET, w0, R⟩ G (resume (adv Try.prog ET 9999 400 c) (.val v))) : Rw ⟨Try.prog, f0, ET, w0, R⟩ G c :=
  ⟨run_adv mixed (run_ldv hc h hk.h)⟩
theorem u_b (t : Nat) {b b' : Bool} (hv : b = b') (h : (adv Try.prog ET t 400 c).fr[t]? = some (.val (.bool b))) (hk : Rw ⟨Try.prog, f0, ET, w0, R⟩ G (setS (adv Try.prog ET t 400 c) t (.bool b'))) : Rw ⟨Try.prog, f0, ET, w0, R⟩ G c :=
  ⟨run_adv mixed (run_pin h (by rw [hv]) hk.h)⟩
theorem u_call {f : FuncId} {vs : List Value} {v : Value} (he : Enters Try.prog f) (h : ∀ w, G w → Calls Try.prog f vs.toArray w (RB w v)) (hc : callAt (adv Try.prog ET 9999 400 c) = some (f, vs.map .val)) (hk : Rw ⟨Try.prog, f0, ET, w0, R⟩ G (resume (adv Try.prog ET 9999 400 c) (.val v))) : Rw ⟨Try.prog, f0, ET, w0, R⟩ G c :=
  ⟨run_adv mixed (run_call1 hc he v h hk.h)⟩
theorem u_ret {fn : Func} {v : Value} (hf : Try.prog.funcs[f0]? = some fn) (h : retAt Try.prog fn.results.toList (adv Try.prog ET 9999 400 c) = some v) : Rw ⟨Try.prog, f0, ET, w0, (RB w0 v)⟩ G c :=
  ⟨run_adv mixed (run_ret hf h fun w hb _ => ⟨rfl, hb⟩)⟩
end
theorem half_c (k : Nat) (b : Bool) (x : Int) (e tie : Bool) (w : World) (hp : PlaceAt k b x e w) : Calls Try.prog 138 #[.bool tie, .pointer (some ⟨k, 0, none⟩)] w (RB w (.bool (halfB x tie))) := by
  by_cases h0 : 0 < x
  · have hh : halfB x tie = true := if_pos h0
    rw [hh]
    refine u_of (args := [.bool tie, .pointer (some ⟨k, 0, none⟩)]) Try.func138 rfl (PlaceAt.stable k b x e) hp ?_
    refine u_load (fun w h => load_int h.c1) (by kernel_rfl) ?_
    refine u_b 6 (decide_eq_true h0) (by kernel_rfl) ?_
    exact u_ret Try.func138 (by kernel_rfl)
  · by_cases h1 : x = 0
    · have hh : halfB x tie = tie := by unfold halfB; rw [if_neg h0, if_pos h1]
      rw [hh]
      refine u_of (args := [.bool tie, .pointer (some ⟨k, 0, none⟩)]) Try.func138 rfl (PlaceAt.stable k b x e) hp ?_
      refine u_load (fun w h => load_int h.c1) (by kernel_rfl) ?_
      refine u_b 6 (decide_eq_false h0) (by kernel_rfl) ?_
      refine u_load (fun w h => load_int h.c1) (by kernel_rfl) ?_
      refine u_b 10 (beq_iff_eq.2 h1) (by kernel_rfl) ?_
      exact u_ret Try.func138 (by kernel_rfl)
    · have hh : halfB x tie = false := by unfold halfB; rw [if_neg h0, if_neg h1]
      rw [hh]
      refine u_of (args := [.bool tie, .pointer (some ⟨k, 0, none⟩)]) Try.func138 rfl (PlaceAt.stable k b x e) hp ?_
      refine u_load (fun w h => load_int h.c1) (by kernel_rfl) ?_
      refine u_b 6 (decide_eq_false h0) (by kernel_rfl) ?_
      refine u_load (fun w h => load_int h.c1) (by kernel_rfl) ?_
      refine u_b 10 (beq_eq_false_iff_ne.2 h1) (by kernel_rfl) ?_
      exact u_ret Try.func138 (by kernel_rfl)
theorem c2 (w : World) : Calls Try.prog 139 #[] w (RB w (.bool true)) := by
  refine u_of (args := []) (G := fun _ => True) Try.func139 rfl (fun _ _ _ _ => trivial) trivial ?_
  exact u_ret Try.func139 (by kernel_rfl)
theorem c3 (w : World) : Calls Try.prog 140 #[] w (RB w (.bool false)) := by
  refine u_of (args := []) (G := fun _ => True) Try.func140 rfl (fun _ _ _ _ => trivial) trivial ?_
  exact u_ret Try.func140 (by kernel_rfl)
section
variable (k h : Nat) (b : Bool) (x : Int) (e : Bool) (w : World)
theorem c4 (hp : PlaceAt k b x e w) : Calls Try.prog 141 #[.pointer (some ⟨k, 0, none⟩)] w (RB w (.bool (!b))) := by
  refine u_of (args := [.pointer (some ⟨k, 0, none⟩)]) Try.func141 rfl (PlaceAt.stable k b x e) hp ?_
  refine u_load (fun w h => load_bool h.c0) (by kernel_rfl) ?_
  exact u_ret Try.func141 (by kernel_rfl)
theorem c5 (hp : PlaceAt k b x e w) : Calls Try.prog 142 #[.pointer (some ⟨k, 0, none⟩)] w (RB w (.bool b)) := by
  refine u_of (args := [.pointer (some ⟨k, 0, none⟩)]) Try.func142 rfl (PlaceAt.stable k b x e) hp ?_
  refine u_load (fun w h => load_bool h.c0) (by kernel_rfl) ?_
  exact u_ret Try.func142 (by kernel_rfl)
def Both (w : World) : Prop := HalfAt h k w ∧ PlaceAt k b x e w
theorem Both.stable : Stable ET (Both k h b x e) := fun w w' hk q => ⟨HalfAt.stable h k w w' hk q.1, PlaceAt.stable k b x e w w' hk q.2⟩
theorem load_fn {a : Addr} {v : Value} {w : World} (hc : w.cell? a = some v) : (loadVar 180 a).run Try.prog w = .ok v w := load_cell (by kernel_rfl) hc
theorem c6 (hp : Both k h b x e w) : Calls Try.prog 143 #[.pointer (some ⟨h, 0, none⟩)] w (RB w (.bool (halfB x true))) := by
  refine u_of (args := [.pointer (some ⟨h, 0, none⟩)]) Try.func143 rfl (Both.stable k h b x e) hp ?_
  refine u_load (fun w q => load_fn q.1.c0) (by kernel_rfl) ?_
  refine u_call (vs := [.bool true, .pointer (some ⟨k, 0, none⟩)]) ent138 (fun w q => half_c k b x e true w q.2) (by kernel_rfl) ?_
  exact u_ret Try.func143 (by kernel_rfl)
theorem c7 (hp : Both k h b x e w) : Calls Try.prog 144 #[.pointer (some ⟨h, 0, none⟩)] w (RB w (.bool (halfB x false))) := by
  refine u_of (args := [.pointer (some ⟨h, 0, none⟩)]) Try.func144 rfl (Both.stable k h b x e) hp ?_
  refine u_load (fun w q => load_fn q.1.c0) (by kernel_rfl) ?_
  refine u_call (vs := [.bool false, .pointer (some ⟨k, 0, none⟩)]) ent138 (fun w q => half_c k b x e false w q.2) (by kernel_rfl) ?_
  exact u_ret Try.func144 (by kernel_rfl)
end
end Go.Proofs.Ytccllfegnijpiaa
end
section
/-
  divide.Fraction.
-/
set_option linter.unusedSimpArgs false
set_option linter.unusedVariables false
namespace Go.Proofs.Ytccllfegnijpiaa
open Go Go.RowKit

/-- The fraction has room. -/
def fOk (n d : Int) : Prop := d ≠ 0 ∧ W128 (frP n d) ∧ W128 (frQ n d)
instance (n d : Int) : Decidable (fOk n d) := by unfold fOk; exact inferInstance
end Go.Proofs.Ytccllfegnijpiaa
end
section
/-
  A total laid out, as the program and the reference do it; sums, rounding.
-/
set_option linter.unusedVariables false
set_option maxRecDepth 100000
namespace Go.Proofs.Ytccllfegnijpiaa
open Go Go.RowKit Go.Ev

section
variable (a b c d h mi s n : Int)
theorem uright (i : all64 a b c d h mi s n) : Fn 31 [] [duv a b c d h mi s n] (.bool (decide (uOk a b c d h mi s n))) := by
  by_cases ka : a = 0
  rotate_left
  · by_cases z : 0 < a
    · exact uright_p a b c d h mi s n i (sg8_1 (.inl z)) (.inl z)
    · exact uright_n a b c d h mi s n i (sg8_m (.inl (by omega))) (.inl (by omega))
  by_cases kb : b = 0
  rotate_left
  · by_cases z : 0 < b
    · exact uright_p a b c d h mi s n i (sg8_1 (.inr ⟨ka, (.inl z)⟩)) (.inr ⟨ka, (.inl z)⟩)
    · exact uright_n a b c d h mi s n i (sg8_m (.inr ⟨ka, (.inl (by omega))⟩)) (.inr ⟨ka, (.inl (by omega))⟩)
  by_cases kc : c = 0
  rotate_left
  · by_cases z : 0 < c
    · exact uright_p a b c d h mi s n i (sg8_1 (.inr ⟨ka, (.inr ⟨kb, (.inl z)⟩)⟩)) (.inr ⟨ka, (.inr ⟨kb, (.inl z)⟩)⟩)
    · exact uright_n a b c d h mi s n i (sg8_m (.inr ⟨ka, (.inr ⟨kb, (.inl (by omega))⟩)⟩)) (.inr ⟨ka, (.inr ⟨kb, (.inl (by omega))⟩)⟩)
  by_cases kd : d = 0
  rotate_left
  · by_cases z : 0 < d
    · exact uright_p a b c d h mi s n i (sg8_1 (.inr ⟨ka, (.inr ⟨kb, (.inr ⟨kc, (.inl z)⟩)⟩)⟩)) (.inr ⟨ka, (.inr ⟨kb, (.inr ⟨kc, (.inl z)⟩)⟩)⟩)
    · exact uright_n a b c d h mi s n i (sg8_m (.inr ⟨ka, (.inr ⟨kb, (.inr ⟨kc, (.inl (by omega))⟩)⟩)⟩)) (.inr ⟨ka, (.inr ⟨kb, (.inr ⟨kc, (.inl (by omega))⟩)⟩)⟩)
  by_cases kh : h = 0
  rotate_left
  · by_cases z : 0 < h
    · exact uright_p a b c d h mi s n i (sg8_1 (.inr ⟨ka, (.inr ⟨kb, (.inr ⟨kc, (.inr ⟨kd, (.inl z)⟩)⟩)⟩)⟩)) (.inr ⟨ka, (.inr ⟨kb, (.inr ⟨kc, (.inr ⟨kd, (.inl z)⟩)⟩)⟩)⟩)
    · exact uright_n a b c d h mi s n i (sg8_m (.inr ⟨ka, (.inr ⟨kb, (.inr ⟨kc, (.inr ⟨kd, (.inl (by omega))⟩)⟩)⟩)⟩)) (.inr ⟨ka, (.inr ⟨kb, (.inr ⟨kc, (.inr ⟨kd, (.inl (by omega))⟩)⟩)⟩)⟩)
  by_cases kmi : mi = 0
  rotate_left
  · by_cases z : 0 < mi
    · exact uright_p a b c d h mi s n i (sg8_1 (.inr ⟨ka, (.inr ⟨kb, (.inr ⟨kc, (.inr ⟨kd, (.inr ⟨kh, (.inl z)⟩)⟩)⟩)⟩)⟩)) (.inr ⟨ka, (.inr ⟨kb, (.inr ⟨kc, (.inr ⟨kd, (.inr ⟨kh, (.inl z)⟩)⟩)⟩)⟩)⟩)
    · exact uright_n a b c d h mi s n i (sg8_m (.inr ⟨ka, (.inr ⟨kb, (.inr ⟨kc, (.inr ⟨kd, (.inr ⟨kh, (.inl (by omega))⟩)⟩)⟩)⟩)⟩)) (.inr ⟨ka, (.inr ⟨kb, (.inr ⟨kc, (.inr ⟨kd, (.inr ⟨kh, (.inl (by omega))⟩)⟩)⟩)⟩)⟩)
  by_cases ks : s = 0
  rotate_left
  · by_cases z : 0 < s
    · exact uright_p a b c d h mi s n i (sg8_1 (.inr ⟨ka, (.inr ⟨kb, (.inr ⟨kc, (.inr ⟨kd, (.inr ⟨kh, (.inr ⟨kmi, (.inl z)⟩)⟩)⟩)⟩)⟩)⟩)) (.inr ⟨ka, (.inr ⟨kb, (.inr ⟨kc, (.inr ⟨kd, (.inr ⟨kh, (.inr ⟨kmi, (.inl z)⟩)⟩)⟩)⟩)⟩)⟩)
    · exact uright_n a b c d h mi s n i (sg8_m (.inr ⟨ka, (.inr ⟨kb, (.inr ⟨kc, (.inr ⟨kd, (.inr ⟨kh, (.inr ⟨kmi, (.inl (by omega))⟩)⟩)⟩)⟩)⟩)⟩)) (.inr ⟨ka, (.inr ⟨kb, (.inr ⟨kc, (.inr ⟨kd, (.inr ⟨kh, (.inr ⟨kmi, (.inl (by omega))⟩)⟩)⟩)⟩)⟩)⟩)
  by_cases kn : n = 0
  rotate_left
  · by_cases z : 0 < n
    · exact uright_p a b c d h mi s n i (sg8_1 (.inr ⟨ka, (.inr ⟨kb, (.inr ⟨kc, (.inr ⟨kd, (.inr ⟨kh, (.inr ⟨kmi, (.inr ⟨ks, z⟩)⟩)⟩)⟩)⟩)⟩)⟩)) (.inr ⟨ka, (.inr ⟨kb, (.inr ⟨kc, (.inr ⟨kd, (.inr ⟨kh, (.inr ⟨kmi, (.inr ⟨ks, z⟩)⟩)⟩)⟩)⟩)⟩)⟩)
    · exact uright_n a b c d h mi s n i (sg8_m (.inr ⟨ka, (.inr ⟨kb, (.inr ⟨kc, (.inr ⟨kd, (.inr ⟨kh, (.inr ⟨kmi, (.inr ⟨ks, (by omega)⟩)⟩)⟩)⟩)⟩)⟩)⟩)) (.inr ⟨ka, (.inr ⟨kb, (.inr ⟨kc, (.inr ⟨kd, (.inr ⟨kh, (.inr ⟨kmi, (.inr ⟨ks, (by omega)⟩)⟩)⟩)⟩)⟩)⟩)⟩)
  exact uright_z a b c d h mi s n i (sg8_0 ⟨ka, kb, kc, kd, kh, kmi, ks, kn⟩) ⟨ka, kb, kc, kd, kh, kmi, ks, kn⟩
theorem uright_y (i : all64 a b c d h mi s n) (k : uOk a b c d h mi s n) : Fn 31 [] [duv a b c d h mi s n] (.bool true) := by have := uright a b c d h mi s n i; rwa [decide_eq_true k] at this
theorem uright_f (i : all64 a b c d h mi s n) (k : ¬ uOk a b c d h mi s n) : Fn 31 [] [duv a b c d h mi s n] (.bool false) := by have := uright a b c d h mi s n i; rwa [decide_eq_false k] at this
theorem utotal_y (i : all64 a b c d h mi s n) (k : uOk a b c d h mi s n) : Fn 60 [] [duv a b c d h mi s n] (.tuple #[wv (dtot d h mi s n), .int .i64 0]) := by
  have r := uright_y a b c d h mi s n i k
  obtain ⟨i1, i2, i3, i4, i5, i6, i7, i8⟩ := i
  have t := utot a b c d h mi s n i4 i5 i6 i7 i8
  refine fn_of Try.func60 rfl fun ww => ?_
  refine st_fn ent31 (r) sub0 (by kernel_rfl) ?_
  refine st_fn ent94 (t) sub0 (by kernel_rfl) ?_
  exact st_ret Try.func60 (by kernel_rfl)
end
/-! laid out -/
theorem tch (x A B : Int) (hx : W128 x) (hA : 0 < A) (hB : 0 < B) (hd : B ∣ A) (hAW : A ≤ 86400000000000) (hBW : B ≤ 86400000000000) : Fn 84 [] [wv (x.tmod A), wv B] (.tuple #[wv ((x.tmod A).tdiv B), wv (x.tmod B), .int .i64 0]) := by
  obtain ⟨e1, e2, e3⟩ := td x A hA
  have m1 : -A < x.tmod A ∧ x.tmod A < A := by
    by_cases h : 0 ≤ x
    · have := e2 h; omega
    · have := e3 (by omega); omega
  obtain ⟨f1, f2, f3⟩ := td (x.tmod A) B hB
  have q1 : W128 ((x.tmod A).tdiv B) := by
    have key : ∀ q : Int, 0 ≤ q → q ≤ q * B := fun q h => by
      have := Int.mul_le_mul_of_nonneg_left (show 1 ≤ B by omega) h; omega
    by_cases h : 0 ≤ x.tmod A
    · have g := f2 h
      have := key _ g.1
      unfold W128; omega
    · have g := f3 (by omega)
      have := key (-((x.tmod A).tdiv B)) (by omega)
      rw [Int.neg_mul] at this
      unfold W128; omega
  have t := dtrunc_yes (x.tmod A) B (by unfold W128; omega) (by unfold W128; omega) (by omega) q1
  rwa [Int.tmod_tmod_of_dvd x hd] at t
theorem ttop (x B : Int) (hx : W128 x) (hB : 0 < B) (hBW : B ≤ 86400000000000) : Fn 84 [] [wv x, wv B] (.tuple #[wv (x.tdiv B), wv (x.tmod B), .int .i64 0]) ∧ W128 (x.tmod B) := by
  obtain ⟨e1, e2, e3⟩ := td x B hB
  have key : ∀ q : Int, 0 ≤ q → q ≤ q * B := fun q h => by
    have := Int.mul_le_mul_of_nonneg_left (show 1 ≤ B by omega) h; omega
  unfold W128 at hx
  by_cases h : 0 ≤ x
  · have g := e2 h
    have := key _ g.1
    exact ⟨dtrunc_yes x B (by unfold W128; omega) (by unfold W128; omega) (by omega) (by unfold W128; omega), by unfold W128; omega⟩
  · have g := e3 (by omega)
    have := key (-(x.tdiv B)) (by omega)
    rw [Int.neg_mul] at this
    exact ⟨dtrunc_yes x B (by unfold W128; omega) (by unfold W128; omega) (by omega) (by unfold W128; omega), by unfold W128; omega⟩
theorem tdiv_1 (x : Int) : x.tdiv 1 = x := Int.tdiv_one x
theorem tmod_1 (x : Int) : x.tmod 1 = 0 := Int.tmod_one x
theorem ulay4_y (x : Int) (hx : W128 x) (g : I64 (x.tdiv 86400000000000)) (k : uOk 0 0 0 (x.tdiv 86400000000000) ((x.tmod 86400000000000).tdiv 3600000000000) ((x.tmod 3600000000000).tdiv 60000000000) ((x.tmod 60000000000).tdiv 1000000000) (x.tmod 1000000000)) : Fn 64 [] [wv x, .int .i64 4] (.tuple #[duv 0 0 0 (x.tdiv 86400000000000) ((x.tmod 86400000000000).tdiv 3600000000000) ((x.tmod 3600000000000).tdiv 60000000000) ((x.tmod 60000000000).tdiv 1000000000) (x.tmod 1000000000), .int .i64 0]) := by
  obtain ⟨t0, m0⟩ := ttop x 86400000000000 hx (by omega) (by omega)
  have t1 := tch x 86400000000000 3600000000000 hx (by omega) (by omega) (by decide) (by omega) (by omega)
  have t2 := tch x 3600000000000 60000000000 hx (by omega) (by omega) (by decide) (by omega) (by omega)
  have t3 := tch x 60000000000 1000000000 hx (by omega) (by omega) (by decide) (by omega) (by omega)
  have t4 := tch x 1000000000 1 hx (by omega) (by omega) (by decide) (by omega) (by omega)
  rw [tdiv_1, tmod_1] at t4
  have g5 : I64 ((x.tmod 86400000000000).tdiv 3600000000000) := by have := td2 x 86400000000000 3600000000000 24 (by decide) (by omega) (by omega); unfold I64; omega
  have g6 : I64 ((x.tmod 3600000000000).tdiv 60000000000) := by have := td2 x 3600000000000 60000000000 60 (by decide) (by omega) (by omega); unfold I64; omega
  have g7 : I64 ((x.tmod 60000000000).tdiv 1000000000) := by have := td2 x 60000000000 1000000000 60 (by decide) (by omega) (by omega); unfold I64; omega
  have g8 : I64 (x.tmod 1000000000) := by
    obtain ⟨e1, e2, e3⟩ := td x 1000000000 (by omega)
    by_cases z : 0 ≤ x
    · have := e2 z; unfold I64; omega
    · have := e3 (by omega); unfold I64; omega
  have j1 : I64 86400000000000 := by unfold I64; omega
  have j2 : I64 3600000000000 := by unfold I64; omega
  have j3 : I64 60000000000 := by unfold I64; omega
  have j4 : I64 1000000000 := by unfold I64; omega
  have j5 : I64 1 := by unfold I64; omega
  have j0 : I64 0 := by unfold I64; omega
  have r := uright_y 0 0 0 (x.tdiv 86400000000000) ((x.tmod 86400000000000).tdiv 3600000000000) ((x.tmod 3600000000000).tdiv 60000000000) ((x.tmod 60000000000).tdiv 1000000000) (x.tmod 1000000000) ⟨j0, j0, j0, g, g5, g6, g7, g8⟩ k
  refine fn_of Try.func64 rfl fun ww => ?_
  refine st_fn ent37 (ulen4) sub0 (by kernel_rfl) ?_
  refine ufields_row 2 0 (by kernel_rfl) ?_
  refine st_round (by kernel_rfl) ?_
  refine st_fn ent37 (ulen4) sub0 (by kernel_rfl) ?_
  refine st_fn ent39 (wof_fn (86400000000000) (by assumption)) sub0 (by kernel_rfl) ?_
  refine st_fn ent84 (t0) sub0 (by kernel_rfl) ?_
  refine st_fn ent50 (wint_f (x.tdiv 86400000000000) (by assumption)) sub0 (by kernel_rfl) ?_
  refine st_i 21 .i64 (x' := 4 + 1) (Go.IntWalk.i64_in _ (by omega)) (by kernel_rfl) ?_
  refine st_round (by kernel_rfl) ?_
  refine st_fn ent37 (ulen5) sub0 (by kernel_rfl) ?_
  refine st_fn ent39 (wof_fn (3600000000000) (by assumption)) sub0 (by kernel_rfl) ?_
  refine st_fn ent84 (t1) sub0 (by kernel_rfl) ?_
  refine st_fn ent50 (wint_f ((x.tmod 86400000000000).tdiv 3600000000000) (by assumption)) sub0 (by kernel_rfl) ?_
  refine st_i 21 .i64 (x' := 4 + 1 + 1) (Go.IntWalk.i64_in _ (by omega)) (by kernel_rfl) ?_
  refine st_round (by kernel_rfl) ?_
  refine st_fn ent37 (ulen6) sub0 (by kernel_rfl) ?_
  refine st_fn ent39 (wof_fn (60000000000) (by assumption)) sub0 (by kernel_rfl) ?_
  refine st_fn ent84 (t2) sub0 (by kernel_rfl) ?_
  refine st_fn ent50 (wint_f ((x.tmod 3600000000000).tdiv 60000000000) (by assumption)) sub0 (by kernel_rfl) ?_
  refine st_i 21 .i64 (x' := 4 + 1 + 1 + 1) (Go.IntWalk.i64_in _ (by omega)) (by kernel_rfl) ?_
  refine st_round (by kernel_rfl) ?_
  refine st_fn ent37 (ulen7) sub0 (by kernel_rfl) ?_
  refine st_fn ent39 (wof_fn (1000000000) (by assumption)) sub0 (by kernel_rfl) ?_
  refine st_fn ent84 (t3) sub0 (by kernel_rfl) ?_
  refine st_fn ent50 (wint_f ((x.tmod 60000000000).tdiv 1000000000) (by assumption)) sub0 (by kernel_rfl) ?_
  refine st_i 21 .i64 (x' := 4 + 1 + 1 + 1 + 1) (Go.IntWalk.i64_in _ (by omega)) (by kernel_rfl) ?_
  refine st_round (by kernel_rfl) ?_
  refine st_fn ent37 (ulen8) sub0 (by kernel_rfl) ?_
  refine st_fn ent39 (wof_fn (1) (by assumption)) sub0 (by kernel_rfl) ?_
  refine st_fn ent84 (t4) sub0 (by kernel_rfl) ?_
  refine st_fn ent50 (wint_f (x.tmod 1000000000) (by assumption)) sub0 (by kernel_rfl) ?_
  refine st_i 21 .i64 (x' := 4 + 1 + 1 + 1 + 1 + 1) (Go.IntWalk.i64_in _ (by omega)) (by kernel_rfl) ?_
  refine st_round (by kernel_rfl) ?_
  refine st_fn ent31 (r) sub0 (by kernel_rfl) ?_
  exact st_ret Try.func64 (by kernel_rfl)
theorem ulay4_r (x : Int) (hx : W128 x) (g : I64 (x.tdiv 86400000000000)) (k : ¬ uOk 0 0 0 (x.tdiv 86400000000000) ((x.tmod 86400000000000).tdiv 3600000000000) ((x.tmod 3600000000000).tdiv 60000000000) ((x.tmod 60000000000).tdiv 1000000000) (x.tmod 1000000000)) : Fn 64 [] [wv x, .int .i64 4] (.tuple #[du0, .int .i64 4]) := by
  obtain ⟨t0, m0⟩ := ttop x 86400000000000 hx (by omega) (by omega)
  have t1 := tch x 86400000000000 3600000000000 hx (by omega) (by omega) (by decide) (by omega) (by omega)
  have t2 := tch x 3600000000000 60000000000 hx (by omega) (by omega) (by decide) (by omega) (by omega)
  have t3 := tch x 60000000000 1000000000 hx (by omega) (by omega) (by decide) (by omega) (by omega)
  have t4 := tch x 1000000000 1 hx (by omega) (by omega) (by decide) (by omega) (by omega)
  rw [tdiv_1, tmod_1] at t4
  have g5 : I64 ((x.tmod 86400000000000).tdiv 3600000000000) := by have := td2 x 86400000000000 3600000000000 24 (by decide) (by omega) (by omega); unfold I64; omega
  have g6 : I64 ((x.tmod 3600000000000).tdiv 60000000000) := by have := td2 x 3600000000000 60000000000 60 (by decide) (by omega) (by omega); unfold I64; omega
  have g7 : I64 ((x.tmod 60000000000).tdiv 1000000000) := by have := td2 x 60000000000 1000000000 60 (by decide) (by omega) (by omega); unfold I64; omega
  have g8 : I64 (x.tmod 1000000000) := by
    obtain ⟨e1, e2, e3⟩ := td x 1000000000 (by omega)
    by_cases z : 0 ≤ x
    · have := e2 z; unfold I64; omega
    · have := e3 (by omega); unfold I64; omega
  have j1 : I64 86400000000000 := by unfold I64; omega
  have j2 : I64 3600000000000 := by unfold I64; omega
  have j3 : I64 60000000000 := by unfold I64; omega
  have j4 : I64 1000000000 := by unfold I64; omega
  have j5 : I64 1 := by unfold I64; omega
  have j0 : I64 0 := by unfold I64; omega
  have r := uright_f 0 0 0 (x.tdiv 86400000000000) ((x.tmod 86400000000000).tdiv 3600000000000) ((x.tmod 3600000000000).tdiv 60000000000) ((x.tmod 60000000000).tdiv 1000000000) (x.tmod 1000000000) ⟨j0, j0, j0, g, g5, g6, g7, g8⟩ k
  refine fn_of Try.func64 rfl fun ww => ?_
  refine st_fn ent37 (ulen4) sub0 (by kernel_rfl) ?_
  refine ufields_row 2 0 (by kernel_rfl) ?_
  refine st_round (by kernel_rfl) ?_
  refine st_fn ent37 (ulen4) sub0 (by kernel_rfl) ?_
  refine st_fn ent39 (wof_fn (86400000000000) (by assumption)) sub0 (by kernel_rfl) ?_
  refine st_fn ent84 (t0) sub0 (by kernel_rfl) ?_
  refine st_fn ent50 (wint_f (x.tdiv 86400000000000) (by assumption)) sub0 (by kernel_rfl) ?_
  refine st_i 21 .i64 (x' := 4 + 1) (Go.IntWalk.i64_in _ (by omega)) (by kernel_rfl) ?_
  refine st_round (by kernel_rfl) ?_
  refine st_fn ent37 (ulen5) sub0 (by kernel_rfl) ?_
  refine st_fn ent39 (wof_fn (3600000000000) (by assumption)) sub0 (by kernel_rfl) ?_
  refine st_fn ent84 (t1) sub0 (by kernel_rfl) ?_
  refine st_fn ent50 (wint_f ((x.tmod 86400000000000).tdiv 3600000000000) (by assumption)) sub0 (by kernel_rfl) ?_
  refine st_i 21 .i64 (x' := 4 + 1 + 1) (Go.IntWalk.i64_in _ (by omega)) (by kernel_rfl) ?_
  refine st_round (by kernel_rfl) ?_
  refine st_fn ent37 (ulen6) sub0 (by kernel_rfl) ?_
  refine st_fn ent39 (wof_fn (60000000000) (by assumption)) sub0 (by kernel_rfl) ?_
  refine st_fn ent84 (t2) sub0 (by kernel_rfl) ?_
  refine st_fn ent50 (wint_f ((x.tmod 3600000000000).tdiv 60000000000) (by assumption)) sub0 (by kernel_rfl) ?_
  refine st_i 21 .i64 (x' := 4 + 1 + 1 + 1) (Go.IntWalk.i64_in _ (by omega)) (by kernel_rfl) ?_
  refine st_round (by kernel_rfl) ?_
  refine st_fn ent37 (ulen7) sub0 (by kernel_rfl) ?_
  refine st_fn ent39 (wof_fn (1000000000) (by assumption)) sub0 (by kernel_rfl) ?_
  refine st_fn ent84 (t3) sub0 (by kernel_rfl) ?_
  refine st_fn ent50 (wint_f ((x.tmod 60000000000).tdiv 1000000000) (by assumption)) sub0 (by kernel_rfl) ?_
  refine st_i 21 .i64 (x' := 4 + 1 + 1 + 1 + 1) (Go.IntWalk.i64_in _ (by omega)) (by kernel_rfl) ?_
  refine st_round (by kernel_rfl) ?_
  refine st_fn ent37 (ulen8) sub0 (by kernel_rfl) ?_
  refine st_fn ent39 (wof_fn (1) (by assumption)) sub0 (by kernel_rfl) ?_
  refine st_fn ent84 (t4) sub0 (by kernel_rfl) ?_
  refine st_fn ent50 (wint_f (x.tmod 1000000000) (by assumption)) sub0 (by kernel_rfl) ?_
  refine st_i 21 .i64 (x' := 4 + 1 + 1 + 1 + 1 + 1) (Go.IntWalk.i64_in _ (by omega)) (by kernel_rfl) ?_
  refine st_round (by kernel_rfl) ?_
  refine st_fn ent31 (r) sub0 (by kernel_rfl) ?_
  exact st_ret Try.func64 (by kernel_rfl)
theorem ulay4_o (x : Int) (hx : W128 x) (g : ¬ I64 (x.tdiv 86400000000000)) : Fn 64 [] [wv x, .int .i64 4] (.tuple #[du0, .int .i64 4]) := by
  obtain ⟨t0, m0⟩ := ttop x 86400000000000 hx (by omega) (by omega)
  have t1 := tch x 86400000000000 3600000000000 hx (by omega) (by omega) (by decide) (by omega) (by omega)
  have t2 := tch x 3600000000000 60000000000 hx (by omega) (by omega) (by decide) (by omega) (by omega)
  have t3 := tch x 60000000000 1000000000 hx (by omega) (by omega) (by decide) (by omega) (by omega)
  have t4 := tch x 1000000000 1 hx (by omega) (by omega) (by decide) (by omega) (by omega)
  rw [tdiv_1, tmod_1] at t4
  have g5 : I64 ((x.tmod 86400000000000).tdiv 3600000000000) := by have := td2 x 86400000000000 3600000000000 24 (by decide) (by omega) (by omega); unfold I64; omega
  have g6 : I64 ((x.tmod 3600000000000).tdiv 60000000000) := by have := td2 x 3600000000000 60000000000 60 (by decide) (by omega) (by omega); unfold I64; omega
  have g7 : I64 ((x.tmod 60000000000).tdiv 1000000000) := by have := td2 x 60000000000 1000000000 60 (by decide) (by omega) (by omega); unfold I64; omega
  have g8 : I64 (x.tmod 1000000000) := by
    obtain ⟨e1, e2, e3⟩ := td x 1000000000 (by omega)
    by_cases z : 0 ≤ x
    · have := e2 z; unfold I64; omega
    · have := e3 (by omega); unfold I64; omega
  have j1 : I64 86400000000000 := by unfold I64; omega
  have j2 : I64 3600000000000 := by unfold I64; omega
  have j3 : I64 60000000000 := by unfold I64; omega
  have j4 : I64 1000000000 := by unfold I64; omega
  have j5 : I64 1 := by unfold I64; omega
  have j0 : I64 0 := by unfold I64; omega
  refine fn_of Try.func64 rfl fun ww => ?_
  refine st_fn ent37 (ulen4) sub0 (by kernel_rfl) ?_
  refine ufields_row 2 0 (by kernel_rfl) ?_
  refine st_round (by kernel_rfl) ?_
  refine st_fn ent37 (ulen4) sub0 (by kernel_rfl) ?_
  refine st_fn ent39 (wof_fn (86400000000000) (by assumption)) sub0 (by kernel_rfl) ?_
  refine st_fn ent84 (t0) sub0 (by kernel_rfl) ?_
  refine st_fn ent50 (wint_n (x.tdiv 86400000000000) (by assumption)) sub0 (by kernel_rfl) ?_
  exact st_ret Try.func64 (by kernel_rfl)
theorem ulay5_y (x : Int) (hx : W128 x) (g : I64 (x.tdiv 3600000000000)) (k : uOk 0 0 0 0 (x.tdiv 3600000000000) ((x.tmod 3600000000000).tdiv 60000000000) ((x.tmod 60000000000).tdiv 1000000000) (x.tmod 1000000000)) : Fn 64 [] [wv x, .int .i64 5] (.tuple #[duv 0 0 0 0 (x.tdiv 3600000000000) ((x.tmod 3600000000000).tdiv 60000000000) ((x.tmod 60000000000).tdiv 1000000000) (x.tmod 1000000000), .int .i64 0]) := by
  obtain ⟨t0, m0⟩ := ttop x 3600000000000 hx (by omega) (by omega)
  have t1 := tch x 3600000000000 60000000000 hx (by omega) (by omega) (by decide) (by omega) (by omega)
  have t2 := tch x 60000000000 1000000000 hx (by omega) (by omega) (by decide) (by omega) (by omega)
  have t3 := tch x 1000000000 1 hx (by omega) (by omega) (by decide) (by omega) (by omega)
  rw [tdiv_1, tmod_1] at t3
  have g6 : I64 ((x.tmod 3600000000000).tdiv 60000000000) := by have := td2 x 3600000000000 60000000000 60 (by decide) (by omega) (by omega); unfold I64; omega
  have g7 : I64 ((x.tmod 60000000000).tdiv 1000000000) := by have := td2 x 60000000000 1000000000 60 (by decide) (by omega) (by omega); unfold I64; omega
  have g8 : I64 (x.tmod 1000000000) := by
    obtain ⟨e1, e2, e3⟩ := td x 1000000000 (by omega)
    by_cases z : 0 ≤ x
    · have := e2 z; unfold I64; omega
    · have := e3 (by omega); unfold I64; omega
  have j1 : I64 86400000000000 := by unfold I64; omega
  have j2 : I64 3600000000000 := by unfold I64; omega
  have j3 : I64 60000000000 := by unfold I64; omega
  have j4 : I64 1000000000 := by unfold I64; omega
  have j5 : I64 1 := by unfold I64; omega
  have j0 : I64 0 := by unfold I64; omega
  have r := uright_y 0 0 0 0 (x.tdiv 3600000000000) ((x.tmod 3600000000000).tdiv 60000000000) ((x.tmod 60000000000).tdiv 1000000000) (x.tmod 1000000000) ⟨j0, j0, j0, j0, g, g6, g7, g8⟩ k
  refine fn_of Try.func64 rfl fun ww => ?_
  refine st_fn ent37 (ulen5) sub0 (by kernel_rfl) ?_
  refine ufields_row 2 0 (by kernel_rfl) ?_
  refine st_round (by kernel_rfl) ?_
  refine st_fn ent37 (ulen5) sub0 (by kernel_rfl) ?_
  refine st_fn ent39 (wof_fn (3600000000000) (by assumption)) sub0 (by kernel_rfl) ?_
  refine st_fn ent84 (t0) sub0 (by kernel_rfl) ?_
  refine st_fn ent50 (wint_f (x.tdiv 3600000000000) (by assumption)) sub0 (by kernel_rfl) ?_
  refine st_i 21 .i64 (x' := 5 + 1) (Go.IntWalk.i64_in _ (by omega)) (by kernel_rfl) ?_
  refine st_round (by kernel_rfl) ?_
  refine st_fn ent37 (ulen6) sub0 (by kernel_rfl) ?_
  refine st_fn ent39 (wof_fn (60000000000) (by assumption)) sub0 (by kernel_rfl) ?_
  refine st_fn ent84 (t1) sub0 (by kernel_rfl) ?_
  refine st_fn ent50 (wint_f ((x.tmod 3600000000000).tdiv 60000000000) (by assumption)) sub0 (by kernel_rfl) ?_
  refine st_i 21 .i64 (x' := 5 + 1 + 1) (Go.IntWalk.i64_in _ (by omega)) (by kernel_rfl) ?_
  refine st_round (by kernel_rfl) ?_
  refine st_fn ent37 (ulen7) sub0 (by kernel_rfl) ?_
  refine st_fn ent39 (wof_fn (1000000000) (by assumption)) sub0 (by kernel_rfl) ?_
  refine st_fn ent84 (t2) sub0 (by kernel_rfl) ?_
  refine st_fn ent50 (wint_f ((x.tmod 60000000000).tdiv 1000000000) (by assumption)) sub0 (by kernel_rfl) ?_
  refine st_i 21 .i64 (x' := 5 + 1 + 1 + 1) (Go.IntWalk.i64_in _ (by omega)) (by kernel_rfl) ?_
  refine st_round (by kernel_rfl) ?_
  refine st_fn ent37 (ulen8) sub0 (by kernel_rfl) ?_
  refine st_fn ent39 (wof_fn (1) (by assumption)) sub0 (by kernel_rfl) ?_
  refine st_fn ent84 (t3) sub0 (by kernel_rfl) ?_
  refine st_fn ent50 (wint_f (x.tmod 1000000000) (by assumption)) sub0 (by kernel_rfl) ?_
  refine st_i 21 .i64 (x' := 5 + 1 + 1 + 1 + 1) (Go.IntWalk.i64_in _ (by omega)) (by kernel_rfl) ?_
  refine st_round (by kernel_rfl) ?_
  refine st_fn ent31 (r) sub0 (by kernel_rfl) ?_
  exact st_ret Try.func64 (by kernel_rfl)
theorem ulay5_r (x : Int) (hx : W128 x) (g : I64 (x.tdiv 3600000000000)) (k : ¬ uOk 0 0 0 0 (x.tdiv 3600000000000) ((x.tmod 3600000000000).tdiv 60000000000) ((x.tmod 60000000000).tdiv 1000000000) (x.tmod 1000000000)) : Fn 64 [] [wv x, .int .i64 5] (.tuple #[du0, .int .i64 4]) := by
  obtain ⟨t0, m0⟩ := ttop x 3600000000000 hx (by omega) (by omega)
  have t1 := tch x 3600000000000 60000000000 hx (by omega) (by omega) (by decide) (by omega) (by omega)
  have t2 := tch x 60000000000 1000000000 hx (by omega) (by omega) (by decide) (by omega) (by omega)
  have t3 := tch x 1000000000 1 hx (by omega) (by omega) (by decide) (by omega) (by omega)
  rw [tdiv_1, tmod_1] at t3
  have g6 : I64 ((x.tmod 3600000000000).tdiv 60000000000) := by have := td2 x 3600000000000 60000000000 60 (by decide) (by omega) (by omega); unfold I64; omega
  have g7 : I64 ((x.tmod 60000000000).tdiv 1000000000) := by have := td2 x 60000000000 1000000000 60 (by decide) (by omega) (by omega); unfold I64; omega
  have g8 : I64 (x.tmod 1000000000) := by
    obtain ⟨e1, e2, e3⟩ := td x 1000000000 (by omega)
    by_cases z : 0 ≤ x
    · have := e2 z; unfold I64; omega
    · have := e3 (by omega); unfold I64; omega
  have j1 : I64 86400000000000 := by unfold I64; omega
  have j2 : I64 3600000000000 := by unfold I64; omega
  have j3 : I64 60000000000 := by unfold I64; omega
  have j4 : I64 1000000000 := by unfold I64; omega
  have j5 : I64 1 := by unfold I64; omega
  have j0 : I64 0 := by unfold I64; omega
  have r := uright_f 0 0 0 0 (x.tdiv 3600000000000) ((x.tmod 3600000000000).tdiv 60000000000) ((x.tmod 60000000000).tdiv 1000000000) (x.tmod 1000000000) ⟨j0, j0, j0, j0, g, g6, g7, g8⟩ k
  refine fn_of Try.func64 rfl fun ww => ?_
  refine st_fn ent37 (ulen5) sub0 (by kernel_rfl) ?_
  refine ufields_row 2 0 (by kernel_rfl) ?_
  refine st_round (by kernel_rfl) ?_
  refine st_fn ent37 (ulen5) sub0 (by kernel_rfl) ?_
  refine st_fn ent39 (wof_fn (3600000000000) (by assumption)) sub0 (by kernel_rfl) ?_
  refine st_fn ent84 (t0) sub0 (by kernel_rfl) ?_
  refine st_fn ent50 (wint_f (x.tdiv 3600000000000) (by assumption)) sub0 (by kernel_rfl) ?_
  refine st_i 21 .i64 (x' := 5 + 1) (Go.IntWalk.i64_in _ (by omega)) (by kernel_rfl) ?_
  refine st_round (by kernel_rfl) ?_
  refine st_fn ent37 (ulen6) sub0 (by kernel_rfl) ?_
  refine st_fn ent39 (wof_fn (60000000000) (by assumption)) sub0 (by kernel_rfl) ?_
  refine st_fn ent84 (t1) sub0 (by kernel_rfl) ?_
  refine st_fn ent50 (wint_f ((x.tmod 3600000000000).tdiv 60000000000) (by assumption)) sub0 (by kernel_rfl) ?_
  refine st_i 21 .i64 (x' := 5 + 1 + 1) (Go.IntWalk.i64_in _ (by omega)) (by kernel_rfl) ?_
  refine st_round (by kernel_rfl) ?_
  refine st_fn ent37 (ulen7) sub0 (by kernel_rfl) ?_
  refine st_fn ent39 (wof_fn (1000000000) (by assumption)) sub0 (by kernel_rfl) ?_
  refine st_fn ent84 (t2) sub0 (by kernel_rfl) ?_
  refine st_fn ent50 (wint_f ((x.tmod 60000000000).tdiv 1000000000) (by assumption)) sub0 (by kernel_rfl) ?_
  refine st_i 21 .i64 (x' := 5 + 1 + 1 + 1) (Go.IntWalk.i64_in _ (by omega)) (by kernel_rfl) ?_
  refine st_round (by kernel_rfl) ?_
  refine st_fn ent37 (ulen8) sub0 (by kernel_rfl) ?_
  refine st_fn ent39 (wof_fn (1) (by assumption)) sub0 (by kernel_rfl) ?_
  refine st_fn ent84 (t3) sub0 (by kernel_rfl) ?_
  refine st_fn ent50 (wint_f (x.tmod 1000000000) (by assumption)) sub0 (by kernel_rfl) ?_
  refine st_i 21 .i64 (x' := 5 + 1 + 1 + 1 + 1) (Go.IntWalk.i64_in _ (by omega)) (by kernel_rfl) ?_
  refine st_round (by kernel_rfl) ?_
  refine st_fn ent31 (r) sub0 (by kernel_rfl) ?_
  exact st_ret Try.func64 (by kernel_rfl)
theorem ulay5_o (x : Int) (hx : W128 x) (g : ¬ I64 (x.tdiv 3600000000000)) : Fn 64 [] [wv x, .int .i64 5] (.tuple #[du0, .int .i64 4]) := by
  obtain ⟨t0, m0⟩ := ttop x 3600000000000 hx (by omega) (by omega)
  have t1 := tch x 3600000000000 60000000000 hx (by omega) (by omega) (by decide) (by omega) (by omega)
  have t2 := tch x 60000000000 1000000000 hx (by omega) (by omega) (by decide) (by omega) (by omega)
  have t3 := tch x 1000000000 1 hx (by omega) (by omega) (by decide) (by omega) (by omega)
  rw [tdiv_1, tmod_1] at t3
  have g6 : I64 ((x.tmod 3600000000000).tdiv 60000000000) := by have := td2 x 3600000000000 60000000000 60 (by decide) (by omega) (by omega); unfold I64; omega
  have g7 : I64 ((x.tmod 60000000000).tdiv 1000000000) := by have := td2 x 60000000000 1000000000 60 (by decide) (by omega) (by omega); unfold I64; omega
  have g8 : I64 (x.tmod 1000000000) := by
    obtain ⟨e1, e2, e3⟩ := td x 1000000000 (by omega)
    by_cases z : 0 ≤ x
    · have := e2 z; unfold I64; omega
    · have := e3 (by omega); unfold I64; omega
  have j1 : I64 86400000000000 := by unfold I64; omega
  have j2 : I64 3600000000000 := by unfold I64; omega
  have j3 : I64 60000000000 := by unfold I64; omega
  have j4 : I64 1000000000 := by unfold I64; omega
  have j5 : I64 1 := by unfold I64; omega
  have j0 : I64 0 := by unfold I64; omega
  refine fn_of Try.func64 rfl fun ww => ?_
  refine st_fn ent37 (ulen5) sub0 (by kernel_rfl) ?_
  refine ufields_row 2 0 (by kernel_rfl) ?_
  refine st_round (by kernel_rfl) ?_
  refine st_fn ent37 (ulen5) sub0 (by kernel_rfl) ?_
  refine st_fn ent39 (wof_fn (3600000000000) (by assumption)) sub0 (by kernel_rfl) ?_
  refine st_fn ent84 (t0) sub0 (by kernel_rfl) ?_
  refine st_fn ent50 (wint_n (x.tdiv 3600000000000) (by assumption)) sub0 (by kernel_rfl) ?_
  exact st_ret Try.func64 (by kernel_rfl)
theorem ulay6_y (x : Int) (hx : W128 x) (g : I64 (x.tdiv 60000000000)) (k : uOk 0 0 0 0 0 (x.tdiv 60000000000) ((x.tmod 60000000000).tdiv 1000000000) (x.tmod 1000000000)) : Fn 64 [] [wv x, .int .i64 6] (.tuple #[duv 0 0 0 0 0 (x.tdiv 60000000000) ((x.tmod 60000000000).tdiv 1000000000) (x.tmod 1000000000), .int .i64 0]) := by
  obtain ⟨t0, m0⟩ := ttop x 60000000000 hx (by omega) (by omega)
  have t1 := tch x 60000000000 1000000000 hx (by omega) (by omega) (by decide) (by omega) (by omega)
  have t2 := tch x 1000000000 1 hx (by omega) (by omega) (by decide) (by omega) (by omega)
  rw [tdiv_1, tmod_1] at t2
  have g7 : I64 ((x.tmod 60000000000).tdiv 1000000000) := by have := td2 x 60000000000 1000000000 60 (by decide) (by omega) (by omega); unfold I64; omega
  have g8 : I64 (x.tmod 1000000000) := by
    obtain ⟨e1, e2, e3⟩ := td x 1000000000 (by omega)
    by_cases z : 0 ≤ x
    · have := e2 z; unfold I64; omega
    · have := e3 (by omega); unfold I64; omega
  have j1 : I64 86400000000000 := by unfold I64; omega
  have j2 : I64 3600000000000 := by unfold I64; omega
  have j3 : I64 60000000000 := by unfold I64; omega
  have j4 : I64 1000000000 := by unfold I64; omega
  have j5 : I64 1 := by unfold I64; omega
  have j0 : I64 0 := by unfold I64; omega
  have r := uright_y 0 0 0 0 0 (x.tdiv 60000000000) ((x.tmod 60000000000).tdiv 1000000000) (x.tmod 1000000000) ⟨j0, j0, j0, j0, j0, g, g7, g8⟩ k
  refine fn_of Try.func64 rfl fun ww => ?_
  refine st_fn ent37 (ulen6) sub0 (by kernel_rfl) ?_
  refine ufields_row 2 0 (by kernel_rfl) ?_
  refine st_round (by kernel_rfl) ?_
  refine st_fn ent37 (ulen6) sub0 (by kernel_rfl) ?_
  refine st_fn ent39 (wof_fn (60000000000) (by assumption)) sub0 (by kernel_rfl) ?_
  refine st_fn ent84 (t0) sub0 (by kernel_rfl) ?_
  refine st_fn ent50 (wint_f (x.tdiv 60000000000) (by assumption)) sub0 (by kernel_rfl) ?_
  refine st_i 21 .i64 (x' := 6 + 1) (Go.IntWalk.i64_in _ (by omega)) (by kernel_rfl) ?_
  refine st_round (by kernel_rfl) ?_
  refine st_fn ent37 (ulen7) sub0 (by kernel_rfl) ?_
  refine st_fn ent39 (wof_fn (1000000000) (by assumption)) sub0 (by kernel_rfl) ?_
  refine st_fn ent84 (t1) sub0 (by kernel_rfl) ?_
  refine st_fn ent50 (wint_f ((x.tmod 60000000000).tdiv 1000000000) (by assumption)) sub0 (by kernel_rfl) ?_
  refine st_i 21 .i64 (x' := 6 + 1 + 1) (Go.IntWalk.i64_in _ (by omega)) (by kernel_rfl) ?_
  refine st_round (by kernel_rfl) ?_
  refine st_fn ent37 (ulen8) sub0 (by kernel_rfl) ?_
  refine st_fn ent39 (wof_fn (1) (by assumption)) sub0 (by kernel_rfl) ?_
  refine st_fn ent84 (t2) sub0 (by kernel_rfl) ?_
  refine st_fn ent50 (wint_f (x.tmod 1000000000) (by assumption)) sub0 (by kernel_rfl) ?_
  refine st_i 21 .i64 (x' := 6 + 1 + 1 + 1) (Go.IntWalk.i64_in _ (by omega)) (by kernel_rfl) ?_
  refine st_round (by kernel_rfl) ?_
  refine st_fn ent31 (r) sub0 (by kernel_rfl) ?_
  exact st_ret Try.func64 (by kernel_rfl)
theorem ulay6_r (x : Int) (hx : W128 x) (g : I64 (x.tdiv 60000000000)) (k : ¬ uOk 0 0 0 0 0 (x.tdiv 60000000000) ((x.tmod 60000000000).tdiv 1000000000) (x.tmod 1000000000)) : Fn 64 [] [wv x, .int .i64 6] (.tuple #[du0, .int .i64 4]) := by
  obtain ⟨t0, m0⟩ := ttop x 60000000000 hx (by omega) (by omega)
  have t1 := tch x 60000000000 1000000000 hx (by omega) (by omega) (by decide) (by omega) (by omega)
  have t2 := tch x 1000000000 1 hx (by omega) (by omega) (by decide) (by omega) (by omega)
  rw [tdiv_1, tmod_1] at t2
  have g7 : I64 ((x.tmod 60000000000).tdiv 1000000000) := by have := td2 x 60000000000 1000000000 60 (by decide) (by omega) (by omega); unfold I64; omega
  have g8 : I64 (x.tmod 1000000000) := by
    obtain ⟨e1, e2, e3⟩ := td x 1000000000 (by omega)
    by_cases z : 0 ≤ x
    · have := e2 z; unfold I64; omega
    · have := e3 (by omega); unfold I64; omega
  have j1 : I64 86400000000000 := by unfold I64; omega
  have j2 : I64 3600000000000 := by unfold I64; omega
  have j3 : I64 60000000000 := by unfold I64; omega
  have j4 : I64 1000000000 := by unfold I64; omega
  have j5 : I64 1 := by unfold I64; omega
  have j0 : I64 0 := by unfold I64; omega
  have r := uright_f 0 0 0 0 0 (x.tdiv 60000000000) ((x.tmod 60000000000).tdiv 1000000000) (x.tmod 1000000000) ⟨j0, j0, j0, j0, j0, g, g7, g8⟩ k
  refine fn_of Try.func64 rfl fun ww => ?_
  refine st_fn ent37 (ulen6) sub0 (by kernel_rfl) ?_
  refine ufields_row 2 0 (by kernel_rfl) ?_
  refine st_round (by kernel_rfl) ?_
  refine st_fn ent37 (ulen6) sub0 (by kernel_rfl) ?_
  refine st_fn ent39 (wof_fn (60000000000) (by assumption)) sub0 (by kernel_rfl) ?_
  refine st_fn ent84 (t0) sub0 (by kernel_rfl) ?_
  refine st_fn ent50 (wint_f (x.tdiv 60000000000) (by assumption)) sub0 (by kernel_rfl) ?_
  refine st_i 21 .i64 (x' := 6 + 1) (Go.IntWalk.i64_in _ (by omega)) (by kernel_rfl) ?_
  refine st_round (by kernel_rfl) ?_
  refine st_fn ent37 (ulen7) sub0 (by kernel_rfl) ?_
  refine st_fn ent39 (wof_fn (1000000000) (by assumption)) sub0 (by kernel_rfl) ?_
  refine st_fn ent84 (t1) sub0 (by kernel_rfl) ?_
  refine st_fn ent50 (wint_f ((x.tmod 60000000000).tdiv 1000000000) (by assumption)) sub0 (by kernel_rfl) ?_
  refine st_i 21 .i64 (x' := 6 + 1 + 1) (Go.IntWalk.i64_in _ (by omega)) (by kernel_rfl) ?_
  refine st_round (by kernel_rfl) ?_
  refine st_fn ent37 (ulen8) sub0 (by kernel_rfl) ?_
  refine st_fn ent39 (wof_fn (1) (by assumption)) sub0 (by kernel_rfl) ?_
  refine st_fn ent84 (t2) sub0 (by kernel_rfl) ?_
  refine st_fn ent50 (wint_f (x.tmod 1000000000) (by assumption)) sub0 (by kernel_rfl) ?_
  refine st_i 21 .i64 (x' := 6 + 1 + 1 + 1) (Go.IntWalk.i64_in _ (by omega)) (by kernel_rfl) ?_
  refine st_round (by kernel_rfl) ?_
  refine st_fn ent31 (r) sub0 (by kernel_rfl) ?_
  exact st_ret Try.func64 (by kernel_rfl)
theorem ulay6_o (x : Int) (hx : W128 x) (g : ¬ I64 (x.tdiv 60000000000)) : Fn 64 [] [wv x, .int .i64 6] (.tuple #[du0, .int .i64 4]) := by
  obtain ⟨t0, m0⟩ := ttop x 60000000000 hx (by omega) (by omega)
  have t1 := tch x 60000000000 1000000000 hx (by omega) (by omega) (by decide) (by omega) (by omega)
  have t2 := tch x 1000000000 1 hx (by omega) (by omega) (by decide) (by omega) (by omega)
  rw [tdiv_1, tmod_1] at t2
  have g7 : I64 ((x.tmod 60000000000).tdiv 1000000000) := by have := td2 x 60000000000 1000000000 60 (by decide) (by omega) (by omega); unfold I64; omega
  have g8 : I64 (x.tmod 1000000000) := by
    obtain ⟨e1, e2, e3⟩ := td x 1000000000 (by omega)
    by_cases z : 0 ≤ x
    · have := e2 z; unfold I64; omega
    · have := e3 (by omega); unfold I64; omega
  have j1 : I64 86400000000000 := by unfold I64; omega
  have j2 : I64 3600000000000 := by unfold I64; omega
  have j3 : I64 60000000000 := by unfold I64; omega
  have j4 : I64 1000000000 := by unfold I64; omega
  have j5 : I64 1 := by unfold I64; omega
  have j0 : I64 0 := by unfold I64; omega
  refine fn_of Try.func64 rfl fun ww => ?_
  refine st_fn ent37 (ulen6) sub0 (by kernel_rfl) ?_
  refine ufields_row 2 0 (by kernel_rfl) ?_
  refine st_round (by kernel_rfl) ?_
  refine st_fn ent37 (ulen6) sub0 (by kernel_rfl) ?_
  refine st_fn ent39 (wof_fn (60000000000) (by assumption)) sub0 (by kernel_rfl) ?_
  refine st_fn ent84 (t0) sub0 (by kernel_rfl) ?_
  refine st_fn ent50 (wint_n (x.tdiv 60000000000) (by assumption)) sub0 (by kernel_rfl) ?_
  exact st_ret Try.func64 (by kernel_rfl)
theorem ulay7_y (x : Int) (hx : W128 x) (g : I64 (x.tdiv 1000000000)) (k : uOk 0 0 0 0 0 0 (x.tdiv 1000000000) (x.tmod 1000000000)) : Fn 64 [] [wv x, .int .i64 7] (.tuple #[duv 0 0 0 0 0 0 (x.tdiv 1000000000) (x.tmod 1000000000), .int .i64 0]) := by
  obtain ⟨t0, m0⟩ := ttop x 1000000000 hx (by omega) (by omega)
  have t1 := tch x 1000000000 1 hx (by omega) (by omega) (by decide) (by omega) (by omega)
  rw [tdiv_1, tmod_1] at t1
  have g8 : I64 (x.tmod 1000000000) := by
    obtain ⟨e1, e2, e3⟩ := td x 1000000000 (by omega)
    by_cases z : 0 ≤ x
    · have := e2 z; unfold I64; omega
    · have := e3 (by omega); unfold I64; omega
  have j1 : I64 86400000000000 := by unfold I64; omega
  have j2 : I64 3600000000000 := by unfold I64; omega
  have j3 : I64 60000000000 := by unfold I64; omega
  have j4 : I64 1000000000 := by unfold I64; omega
  have j5 : I64 1 := by unfold I64; omega
  have j0 : I64 0 := by unfold I64; omega
  have r := uright_y 0 0 0 0 0 0 (x.tdiv 1000000000) (x.tmod 1000000000) ⟨j0, j0, j0, j0, j0, j0, g, g8⟩ k
  refine fn_of Try.func64 rfl fun ww => ?_
  refine st_fn ent37 (ulen7) sub0 (by kernel_rfl) ?_
  refine ufields_row 2 0 (by kernel_rfl) ?_
  refine st_round (by kernel_rfl) ?_
  refine st_fn ent37 (ulen7) sub0 (by kernel_rfl) ?_
  refine st_fn ent39 (wof_fn (1000000000) (by assumption)) sub0 (by kernel_rfl) ?_
  refine st_fn ent84 (t0) sub0 (by kernel_rfl) ?_
  refine st_fn ent50 (wint_f (x.tdiv 1000000000) (by assumption)) sub0 (by kernel_rfl) ?_
  refine st_i 21 .i64 (x' := 7 + 1) (Go.IntWalk.i64_in _ (by omega)) (by kernel_rfl) ?_
  refine st_round (by kernel_rfl) ?_
  refine st_fn ent37 (ulen8) sub0 (by kernel_rfl) ?_
  refine st_fn ent39 (wof_fn (1) (by assumption)) sub0 (by kernel_rfl) ?_
  refine st_fn ent84 (t1) sub0 (by kernel_rfl) ?_
  refine st_fn ent50 (wint_f (x.tmod 1000000000) (by assumption)) sub0 (by kernel_rfl) ?_
  refine st_i 21 .i64 (x' := 7 + 1 + 1) (Go.IntWalk.i64_in _ (by omega)) (by kernel_rfl) ?_
  refine st_round (by kernel_rfl) ?_
  refine st_fn ent31 (r) sub0 (by kernel_rfl) ?_
  exact st_ret Try.func64 (by kernel_rfl)
theorem ulay7_r (x : Int) (hx : W128 x) (g : I64 (x.tdiv 1000000000)) (k : ¬ uOk 0 0 0 0 0 0 (x.tdiv 1000000000) (x.tmod 1000000000)) : Fn 64 [] [wv x, .int .i64 7] (.tuple #[du0, .int .i64 4]) := by
  obtain ⟨t0, m0⟩ := ttop x 1000000000 hx (by omega) (by omega)
  have t1 := tch x 1000000000 1 hx (by omega) (by omega) (by decide) (by omega) (by omega)
  rw [tdiv_1, tmod_1] at t1
  have g8 : I64 (x.tmod 1000000000) := by
    obtain ⟨e1, e2, e3⟩ := td x 1000000000 (by omega)
    by_cases z : 0 ≤ x
    · have := e2 z; unfold I64; omega
    · have := e3 (by omega); unfold I64; omega
  have j1 : I64 86400000000000 := by unfold I64; omega
  have j2 : I64 3600000000000 := by unfold I64; omega
  have j3 : I64 60000000000 := by unfold I64; omega
  have j4 : I64 1000000000 := by unfold I64; omega
  have j5 : I64 1 := by unfold I64; omega
  have j0 : I64 0 := by unfold I64; omega
  have r := uright_f 0 0 0 0 0 0 (x.tdiv 1000000000) (x.tmod 1000000000) ⟨j0, j0, j0, j0, j0, j0, g, g8⟩ k
  refine fn_of Try.func64 rfl fun ww => ?_
  refine st_fn ent37 (ulen7) sub0 (by kernel_rfl) ?_
  refine ufields_row 2 0 (by kernel_rfl) ?_
  refine st_round (by kernel_rfl) ?_
  refine st_fn ent37 (ulen7) sub0 (by kernel_rfl) ?_
  refine st_fn ent39 (wof_fn (1000000000) (by assumption)) sub0 (by kernel_rfl) ?_
  refine st_fn ent84 (t0) sub0 (by kernel_rfl) ?_
  refine st_fn ent50 (wint_f (x.tdiv 1000000000) (by assumption)) sub0 (by kernel_rfl) ?_
  refine st_i 21 .i64 (x' := 7 + 1) (Go.IntWalk.i64_in _ (by omega)) (by kernel_rfl) ?_
  refine st_round (by kernel_rfl) ?_
  refine st_fn ent37 (ulen8) sub0 (by kernel_rfl) ?_
  refine st_fn ent39 (wof_fn (1) (by assumption)) sub0 (by kernel_rfl) ?_
  refine st_fn ent84 (t1) sub0 (by kernel_rfl) ?_
  refine st_fn ent50 (wint_f (x.tmod 1000000000) (by assumption)) sub0 (by kernel_rfl) ?_
  refine st_i 21 .i64 (x' := 7 + 1 + 1) (Go.IntWalk.i64_in _ (by omega)) (by kernel_rfl) ?_
  refine st_round (by kernel_rfl) ?_
  refine st_fn ent31 (r) sub0 (by kernel_rfl) ?_
  exact st_ret Try.func64 (by kernel_rfl)
theorem ulay7_o (x : Int) (hx : W128 x) (g : ¬ I64 (x.tdiv 1000000000)) : Fn 64 [] [wv x, .int .i64 7] (.tuple #[du0, .int .i64 4]) := by
  obtain ⟨t0, m0⟩ := ttop x 1000000000 hx (by omega) (by omega)
  have t1 := tch x 1000000000 1 hx (by omega) (by omega) (by decide) (by omega) (by omega)
  rw [tdiv_1, tmod_1] at t1
  have g8 : I64 (x.tmod 1000000000) := by
    obtain ⟨e1, e2, e3⟩ := td x 1000000000 (by omega)
    by_cases z : 0 ≤ x
    · have := e2 z; unfold I64; omega
    · have := e3 (by omega); unfold I64; omega
  have j1 : I64 86400000000000 := by unfold I64; omega
  have j2 : I64 3600000000000 := by unfold I64; omega
  have j3 : I64 60000000000 := by unfold I64; omega
  have j4 : I64 1000000000 := by unfold I64; omega
  have j5 : I64 1 := by unfold I64; omega
  have j0 : I64 0 := by unfold I64; omega
  refine fn_of Try.func64 rfl fun ww => ?_
  refine st_fn ent37 (ulen7) sub0 (by kernel_rfl) ?_
  refine ufields_row 2 0 (by kernel_rfl) ?_
  refine st_round (by kernel_rfl) ?_
  refine st_fn ent37 (ulen7) sub0 (by kernel_rfl) ?_
  refine st_fn ent39 (wof_fn (1000000000) (by assumption)) sub0 (by kernel_rfl) ?_
  refine st_fn ent84 (t0) sub0 (by kernel_rfl) ?_
  refine st_fn ent50 (wint_n (x.tdiv 1000000000) (by assumption)) sub0 (by kernel_rfl) ?_
  exact st_ret Try.func64 (by kernel_rfl)
theorem ulay8_y (x : Int) (hx : W128 x) (g : I64 x) (k : uOk 0 0 0 0 0 0 0 x) : Fn 64 [] [wv x, .int .i64 8] (.tuple #[duv 0 0 0 0 0 0 0 x, .int .i64 0]) := by
  obtain ⟨t0, m0⟩ := ttop x 1 hx (by omega) (by omega)
  rw [tdiv_1, tmod_1] at t0
  have j1 : I64 86400000000000 := by unfold I64; omega
  have j2 : I64 3600000000000 := by unfold I64; omega
  have j3 : I64 60000000000 := by unfold I64; omega
  have j4 : I64 1000000000 := by unfold I64; omega
  have j5 : I64 1 := by unfold I64; omega
  have j0 : I64 0 := by unfold I64; omega
  have r := uright_y 0 0 0 0 0 0 0 x ⟨j0, j0, j0, j0, j0, j0, j0, g⟩ k
  refine fn_of Try.func64 rfl fun ww => ?_
  refine st_fn ent37 (ulen8) sub0 (by kernel_rfl) ?_
  refine ufields_row 2 0 (by kernel_rfl) ?_
  refine st_round (by kernel_rfl) ?_
  refine st_fn ent37 (ulen8) sub0 (by kernel_rfl) ?_
  refine st_fn ent39 (wof_fn (1) (by assumption)) sub0 (by kernel_rfl) ?_
  refine st_fn ent84 (t0) sub0 (by kernel_rfl) ?_
  refine st_fn ent50 (wint_f (x) (by assumption)) sub0 (by kernel_rfl) ?_
  refine st_i 21 .i64 (x' := 8 + 1) (Go.IntWalk.i64_in _ (by omega)) (by kernel_rfl) ?_
  refine st_round (by kernel_rfl) ?_
  refine st_fn ent31 (r) sub0 (by kernel_rfl) ?_
  exact st_ret Try.func64 (by kernel_rfl)
theorem ulay8_r (x : Int) (hx : W128 x) (g : I64 x) (k : ¬ uOk 0 0 0 0 0 0 0 x) : Fn 64 [] [wv x, .int .i64 8] (.tuple #[du0, .int .i64 4]) := by
  obtain ⟨t0, m0⟩ := ttop x 1 hx (by omega) (by omega)
  rw [tdiv_1, tmod_1] at t0
  have j1 : I64 86400000000000 := by unfold I64; omega
  have j2 : I64 3600000000000 := by unfold I64; omega
  have j3 : I64 60000000000 := by unfold I64; omega
  have j4 : I64 1000000000 := by unfold I64; omega
  have j5 : I64 1 := by unfold I64; omega
  have j0 : I64 0 := by unfold I64; omega
  have r := uright_f 0 0 0 0 0 0 0 x ⟨j0, j0, j0, j0, j0, j0, j0, g⟩ k
  refine fn_of Try.func64 rfl fun ww => ?_
  refine st_fn ent37 (ulen8) sub0 (by kernel_rfl) ?_
  refine ufields_row 2 0 (by kernel_rfl) ?_
  refine st_round (by kernel_rfl) ?_
  refine st_fn ent37 (ulen8) sub0 (by kernel_rfl) ?_
  refine st_fn ent39 (wof_fn (1) (by assumption)) sub0 (by kernel_rfl) ?_
  refine st_fn ent84 (t0) sub0 (by kernel_rfl) ?_
  refine st_fn ent50 (wint_f (x) (by assumption)) sub0 (by kernel_rfl) ?_
  refine st_i 21 .i64 (x' := 8 + 1) (Go.IntWalk.i64_in _ (by omega)) (by kernel_rfl) ?_
  refine st_round (by kernel_rfl) ?_
  refine st_fn ent31 (r) sub0 (by kernel_rfl) ?_
  exact st_ret Try.func64 (by kernel_rfl)
theorem ulay8_o (x : Int) (hx : W128 x) (g : ¬ I64 x) : Fn 64 [] [wv x, .int .i64 8] (.tuple #[du0, .int .i64 4]) := by
  obtain ⟨t0, m0⟩ := ttop x 1 hx (by omega) (by omega)
  rw [tdiv_1, tmod_1] at t0
  have j1 : I64 86400000000000 := by unfold I64; omega
  have j2 : I64 3600000000000 := by unfold I64; omega
  have j3 : I64 60000000000 := by unfold I64; omega
  have j4 : I64 1000000000 := by unfold I64; omega
  have j5 : I64 1 := by unfold I64; omega
  have j0 : I64 0 := by unfold I64; omega
  refine fn_of Try.func64 rfl fun ww => ?_
  refine st_fn ent37 (ulen8) sub0 (by kernel_rfl) ?_
  refine ufields_row 2 0 (by kernel_rfl) ?_
  refine st_round (by kernel_rfl) ?_
  refine st_fn ent37 (ulen8) sub0 (by kernel_rfl) ?_
  refine st_fn ent39 (wof_fn (1) (by assumption)) sub0 (by kernel_rfl) ?_
  refine st_fn ent84 (t0) sub0 (by kernel_rfl) ?_
  refine st_fn ent50 (wint_n (x) (by assumption)) sub0 (by kernel_rfl) ?_
  exact st_ret Try.func64 (by kernel_rfl)
end Go.Proofs.Ytccllfegnijpiaa
end
section
/-
  Durations: a total laid out; the other sign; sums; increments; rounding.
-/
set_option linter.unusedVariables false
set_option linter.unusedSimpArgs false
set_option maxRecDepth 100000
namespace Go.Proofs.Ytccllfegnijpiaa
open Go Go.RowKit Go.Ev

section
variable (u x : Int)
abbrev lav (u x : Int) : Value := .tuple #[duv 0 0 0 (l4 u x) (l5 u x) (l6 u x) (l7 u x) (l8 u x), .int .i64 0]
abbrev la4 : Value := .tuple #[du0, .int .i64 4]
theorem ulay_y (hx : W128 x) (k : layOk u x) : Fn 64 [] [wv x, .int .i64 u] (lav u x) := by
  have r := lay_ok k
  obtain ⟨⟨k1, k2⟩, k3, k4⟩ := k
  have r := r.1
  rcases units k1 k2 with rfl | rfl | rfl | rfl | rfl <;> simp only [l4, l5, l6, l7, l8, ulen, lav, Int.reduceEq, Int.reduceLE, if_true, if_false, tdiv_1] at r k4 ⊢
  · exact ulay4_y x hx k4 r
  · exact ulay5_y x hx k4 r
  · exact ulay6_y x hx k4 r
  · exact ulay7_y x hx k4 r
  · exact ulay8_y x hx k4 r
theorem lay_not {u x : Int} (k1 : 4 ≤ u) (k2 : u ≤ 8) (k : ¬ layOk u x) (g : I64 (x.tdiv (ulen u))) : ¬ uOk 0 0 0 (l4 u x) (l5 u x) (l6 u x) (l7 u x) (l8 u x) := fun q => by
  have t := (lay_tot (x := x) k1 k2).1
  have q2 := q.2.2
  rw [t] at q2
  exact k ⟨⟨k1, k2⟩, q2, g⟩
theorem ulay_n (hx : W128 x) (k1 : 4 ≤ u) (k2 : u ≤ 8) (k : ¬ layOk u x) : Fn 64 [] [wv x, .int .i64 u] la4 := by
  by_cases g : I64 (x.tdiv (ulen u))
  · have r := lay_not k1 k2 k g
    rcases units k1 k2 with rfl | rfl | rfl | rfl | rfl <;> simp only [l4, l5, l6, l7, l8, ulen, Int.reduceEq, Int.reduceLE, if_true, if_false, tdiv_1] at r g
    · exact ulay4_r x hx g r
    · exact ulay5_r x hx g r
    · exact ulay6_r x hx g r
    · exact ulay7_r x hx g r
    · exact ulay8_r x hx g r
  · rcases units k1 k2 with rfl | rfl | rfl | rfl | rfl <;> simp only [ulen, Int.reduceEq, if_true, if_false, tdiv_1] at g
    · exact ulay4_o x hx g
    · exact ulay5_o x hx g
    · exact ulay6_o x hx g
    · exact ulay7_o x hx g
    · exact ulay8_o x hx g
variable (p : ZQ)
end
end Go.Proofs.Ytccllfegnijpiaa
end
section
/-
  Durations: increments, sums, rounding; the laws DurationUnits, DurationLays, DurationTotals.
-/
set_option linter.unusedVariables false
set_option linter.unusedSimpArgs false
set_option maxRecDepth 100000
namespace Go.Proofs.Ytccllfegnijpiaa
open Go Go.RowKit Go.Ev

section
variable (u i : Int)
theorem i64_0 : I64 0 := by unfold I64; omega
theorem l_i64 {u x : Int} (k : layOk u x) : I64 (l4 u x) ∧ I64 (l5 u x) ∧ I64 (l6 u x) ∧ I64 (l7 u x) ∧ I64 (l8 u x) := by
  have s := lay_small (x := x) k.1.1 k.1.2
  obtain ⟨⟨k1, k2⟩, k3, k4⟩ := k
  rcases units k1 k2 with rfl | rfl | rfl | rfl | rfl <;> unfold I64 <;> simp only [l4, l5, l6, l7, l8, ulen, Int.reduceEq, Int.reduceLE, Int.reduceLT, if_true, if_false, tdiv_1, true_implies, false_implies, true_and, and_true, and_self] at s k4 ⊢ <;> omega
theorem lay_64 {u x : Int} (k : layOk u x) : all64 0 0 0 (l4 u x) (l5 u x) (l6 u x) (l7 u x) (l8 u x) := by
  obtain ⟨a, b, c, d, e⟩ := l_i64 k
  exact ⟨i64_0, i64_0, i64_0, a, b, c, d, e⟩
theorem I64.w' {x : Int} (h : I64 x) : W128 x := h.w
end
end Go.Proofs.Ytccllfegnijpiaa
end
