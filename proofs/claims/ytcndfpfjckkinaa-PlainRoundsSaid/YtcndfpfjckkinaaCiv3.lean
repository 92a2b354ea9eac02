/-
  Days and their numbers, as the reference reckons them.
-/
import Derived.Test.YtcndfpfjckkinaaCiv2
set_option linter.unusedVariables false
set_option maxRecDepth 100000
namespace Go.Proofs.Ytcndfpfjckkinaa
open Go Go.RowKit Go.Ev

theorem zjan (y : Int) (h0 : -300000 ≤ y) (h1 : y ≤ 300000) : Fn 185 [] [.int .i64 y] (.int .i64 (jan y)) := by
  refine fn_of Try.func185 rfl fun ww => ?_
  refine st_fn ent188 (zdown400 (y) (by omega) (by omega)) sub0 (by kernel_rfl) ?_
  refine st_i 9 .i64 (x' := y / 400 * 146097) (Go.IntWalk.i64_in _ (by omega)) (by kernel_rfl) ?_
  refine st_i 10 IntKind.i64 (x := IntKind.i64.wrap (y / 400 * 146097 - 719528)) ((Go.IntWalk.i64_in (y / 400 * 146097 - 719528) (by omega)).trans ((show _ = jan (400 * (y / 400)) by rw [jan_cent] <;> omega))) (by kernel_rfl) ?_
  refine st_i 12 .i64 (x' := 400 * (y / 400)) (Go.IntWalk.i64_in _ (by omega)) (by kernel_rfl) ?_
  refine st_forget [0, 1, 2, 3, 4, 5, 6, 7, 8, 9, 10, 11, 12, 22] (by kernel_rfl) ?_
  refine st_loop (X := Int) (fun x => ([SV.val (Value.int IntKind.i64 y), SV.val (Value.tuple #[]), SV.val (Value.int IntKind.i64 0), SV.val (Value.int IntKind.i64 (y / 400)), .val (.int .i64 (jan x)), .val (.int .i64 x), SV.val (Value.int IntKind.i64 y), SV.val (Value.int IntKind.i64 (y / 400)), SV.val (Value.int IntKind.i64 (y / 400)), SV.val (Value.int IntKind.i64 (y / 400 * 146097)), SV.val (Value.int IntKind.i64 (jan (400 * (y / 400)))), SV.val (Value.int IntKind.i64 (y / 400)), SV.val (Value.int IntKind.i64 (400 * (y / 400))), .any, .any, .any, .any, .any, .any, .any, .any, .any, SV.val (Value.tuple #[])], [])) (fun _ => _) (fun k => 400 * (y / 400) ≤ k ∧ k ≤ y) (fun k => (y - k).toNat) (400 * (y / 400)) (by kernel_rfl) (by kernel_rfl) Sub.refl (by first | omega | (simp; omega) | assumption | simp_all) (fun y0 px0 back0 => ?_)
  (have q1 := jan_b (y := y0) (by omega) (by omega); have q2 := ylen_b y0)
  · have _hh := True.intro
    by_cases k15 : y0 < y
    · refine st_b 15 (decide_eq_true k15) (by kernel_rfl) ?_
      refine st_fn ent189 (zyear (y0)) sub0 (by kernel_rfl) ?_
      refine st_i 21 IntKind.i64 (x := IntKind.i64.wrap (jan y0 + ylen y0)) ((Go.IntWalk.i64_in (jan y0 + ylen y0) (by omega)).trans ((jan_succ _).symm)) (by kernel_rfl) ?_
      refine st_i 17 .i64 (x' := y0 + 1) (Go.IntWalk.i64_in _ (by omega)) (by kernel_rfl) ?_
      refine st_forget [0, 1, 2, 3, 4, 5, 6, 7, 8, 9, 10, 11, 12, 22] (by kernel_rfl) ?_
      exact st_back back0 (y0 + 1) (by first | omega | (simp only []; omega) | (simp; omega)) (by first | (obtain rfl : y0 = y := (by omega); rfl) | omega | (simp only []; omega) | (simp; omega) | assumption | simp_all) (fun p hp => by first | exact hp | simp_all) (by kernel_rfl) (by kernel_rfl) (by kernel_rfl)
    · refine st_b 15 (decide_eq_false k15) (by kernel_rfl) ?_
      exact st_retv Try.func185 (show Value.int IntKind.i64 (jan y0) = _ by (obtain rfl : y0 = y := (by omega); rfl)) (by kernel_rfl)
section
variable (y m d : Int)
theorem zdays_yes (k : dOk y m d) : Fn 119 [] [dv y m d] (.tuple #[.int .i64 (dnum y m d), .bool true]) := by
  have hy := dOk_year k
  obtain ⟨⟨k1, k2, k3, k4⟩, k5, k6⟩ := k
  have k7 := (mlen_ge (y := y) k1 k2).2
  have k8 := jan_b (y := y) (by omega) (by omega)
  refine fn_of Try.func119 rfl fun ww => ?_
  refine st_b 8 (show (decide (y < -280000)) = false by exact decide_eq_false (by omega)) (by kernel_rfl) ?_
  refine st_b 12 (show (decide (y > 280000)) = false by exact decide_eq_false (by omega)) (by kernel_rfl) ?_
  refine st_b 17 (show (decide (m < 1)) = false by exact decide_eq_false (by omega)) (by kernel_rfl) ?_
  refine st_b 22 (show (decide (m > 12)) = false by exact decide_eq_false (by omega)) (by kernel_rfl) ?_
  refine st_b 27 (show (decide (d < 1)) = false by exact decide_eq_false (by omega)) (by kernel_rfl) ?_
  refine st_fn ent184 (zmonth (y) (m)) sub0 (by kernel_rfl) ?_
  refine st_b 37 (show (decide (d > mlen y m)) = false by exact decide_eq_false (by omega)) (by kernel_rfl) ?_
  refine st_fn ent185 (zjan (y) (by omega) (by omega)) sub0 (by kernel_rfl) ?_
  refine st_i 4 IntKind.i64 (x := jan y) ((show jan y = jan y + mst y 1 by rw [mst_one] <;> omega)) (by kernel_rfl) ?_
  refine st_forget [0, 1, 2, 3, 4, 5, 6, 7, 8, 9, 10, 11, 12, 13, 14, 15, 16, 17, 18, 19, 20, 21, 22, 23, 24, 25, 26, 27, 28, 29, 30, 31, 32, 33, 34, 35, 36, 37, 38, 39, 40, 41, 54, 55, 56, 57, 58, 59, 60, 61, 62, 63, 64, 65] (by kernel_rfl) ?_
  refine st_loop (X := Int) (fun x => ([SV.val (Value.agg #[Value.int IntKind.i64 y, Value.int IntKind.i64 m, Value.int IntKind.i64 d]), SV.ptr 0 0, SV.val (Value.int IntKind.i64 0), SV.val (Value.bool false), .val (.int .i64 (jan y + mst y x)), .val (.int .i64 x), SV.ptr 0 0, SV.val (Value.int IntKind.i64 y), SV.val (Value.bool false), SV.val (Value.bool false), SV.ptr 0 0, SV.val (Value.int IntKind.i64 y), SV.val (Value.bool false), SV.val (Value.bool false), SV.val (Value.bool false), SV.ptr 0 1, SV.val (Value.int IntKind.i64 m), SV.val (Value.bool false), SV.val (Value.bool false), SV.val (Value.bool false), SV.ptr 0 1, SV.val (Value.int IntKind.i64 m), SV.val (Value.bool false), SV.val (Value.bool false), SV.val (Value.bool false), SV.ptr 0 2, SV.val (Value.int IntKind.i64 d), SV.val (Value.bool false), SV.val (Value.bool false), SV.val (Value.bool false), SV.ptr 0 2, SV.val (Value.int IntKind.i64 d), SV.ptr 0 0, SV.val (Value.int IntKind.i64 y), SV.ptr 0 1, SV.val (Value.int IntKind.i64 m), SV.val (Value.int IntKind.i64 (mlen y m)), SV.val (Value.bool false), SV.val (Value.bool false), SV.ptr 0 0, SV.val (Value.int IntKind.i64 y), SV.val (Value.int IntKind.i64 (jan y)), .any, .any, .any, .any, .any, .any, .any, .any, .any, .any, .any, .any, SV.val (Value.tuple #[]), SV.val (Value.tuple #[]), SV.val (Value.tuple #[]), SV.val (Value.tuple #[]), SV.val (Value.tuple #[]), SV.val (Value.tuple #[]), SV.val (Value.tuple #[]), SV.val (Value.tuple #[]), SV.val (Value.tuple #[]), SV.val (Value.tuple #[]), SV.val (Value.tuple #[]), SV.val (Value.tuple #[])], [⟨[SV.val (Value.int IntKind.i64 y), SV.val (Value.int IntKind.i64 m), SV.val (Value.int IntKind.i64 d)], 33⟩])) (fun _ => _) (fun k => 1 ≤ k ∧ k ≤ m) (fun k => (m - k).toNat) (1) (by kernel_rfl) (by kernel_rfl) Sub.refl (by first | omega | (simp; omega) | assumption | simp_all) (fun y0 px0 back0 => ?_)
  (have q1 := mst_b (y := y) (m := y0) (by omega) (by omega); have q2 := mlen_ge (y := y) (m := y0) (by omega) (by omega))
  · have _hh := True.intro
    by_cases k45 : y0 < m
    · refine st_b 45 (decide_eq_true k45) (by kernel_rfl) ?_
      refine st_fn ent184 (zmonth (y) (y0)) sub0 (by kernel_rfl) ?_
      refine st_i 53 IntKind.i64 (x := IntKind.i64.wrap (jan y + mst y y0 + mlen y y0)) ((Go.IntWalk.i64_in (jan y + mst y y0 + mlen y y0) (by omega)).trans ((show jan y + mst y y0 + mlen y y0 = jan y + mst y (y0 + 1) by rw [mst_succ (by omega) (by omega)] <;> omega))) (by kernel_rfl) ?_
      refine st_i 47 .i64 (x' := y0 + 1) (Go.IntWalk.i64_in _ (by omega)) (by kernel_rfl) ?_
      refine st_forget [0, 1, 2, 3, 4, 5, 6, 7, 8, 9, 10, 11, 12, 13, 14, 15, 16, 17, 18, 19, 20, 21, 22, 23, 24, 25, 26, 27, 28, 29, 30, 31, 32, 33, 34, 35, 36, 37, 38, 39, 40, 41, 54, 55, 56, 57, 58, 59, 60, 61, 62, 63, 64, 65] (by kernel_rfl) ?_
      exact st_back back0 (y0 + 1) (by first | omega | (simp only []; omega) | (simp; omega)) (by first | omega | (simp only []; omega) | (simp; omega) | assumption | simp_all) (fun p hp => by first | exact hp | simp_all) (by kernel_rfl) (by kernel_rfl) (by kernel_rfl)
    · refine st_b 45 (decide_eq_false k45) (by kernel_rfl) ?_
      refine st_i 57 .i64 (x' := jan y + mst y y0 + d) (Go.IntWalk.i64_in _ (by omega)) (by kernel_rfl) ?_
      refine st_i 58 IntKind.i64 (x := IntKind.i64.wrap (jan y + mst y y0 + d - 1)) ((Go.IntWalk.i64_in (jan y + mst y y0 + d - 1) (by omega)).trans ((show jan y + mst y y0 + d - 1 = dnum y m d by obtain rfl : y0 = m := (by omega); rfl))) (by kernel_rfl) ?_
      refine st_b 60 (show (decide (dnum y m d < -100000001)) = false by exact decide_eq_false (by omega)) (by kernel_rfl) ?_
      refine st_b 63 (show (decide (dnum y m d > 100000000)) = false by exact decide_eq_false (by omega)) (by kernel_rfl) ?_
      exact st_ret Try.func119 (by kernel_rfl)
theorem zdays_no (k : ¬ dOk y m d) : Fn 119 [] [dv y m d] nod := by
  by_cases h1 : y < -280000
  · refine fn_of Try.func119 rfl fun ww => ?_
    refine st_b 8 (show (decide (y < -280000)) = true by exact decide_eq_true (by omega)) (by kernel_rfl) ?_
    exact st_ret Try.func119 (by kernel_rfl)
  · by_cases h2 : 280000 < y
    · refine fn_of Try.func119 rfl fun ww => ?_
      refine st_b 8 (show (decide (y < -280000)) = false by exact decide_eq_false (by omega)) (by kernel_rfl) ?_
      refine st_b 12 (show (decide (y > 280000)) = true by exact decide_eq_true (by omega)) (by kernel_rfl) ?_
      exact st_ret Try.func119 (by kernel_rfl)
    · by_cases h3 : m < 1
      · refine fn_of Try.func119 rfl fun ww => ?_
        refine st_b 8 (show (decide (y < -280000)) = false by exact decide_eq_false (by omega)) (by kernel_rfl) ?_
        refine st_b 12 (show (decide (y > 280000)) = false by exact decide_eq_false (by omega)) (by kernel_rfl) ?_
        refine st_b 17 (show (decide (m < 1)) = true by exact decide_eq_true (by omega)) (by kernel_rfl) ?_
        exact st_ret Try.func119 (by kernel_rfl)
      · by_cases h4 : 12 < m
        · refine fn_of Try.func119 rfl fun ww => ?_
          refine st_b 8 (show (decide (y < -280000)) = false by exact decide_eq_false (by omega)) (by kernel_rfl) ?_
          refine st_b 12 (show (decide (y > 280000)) = false by exact decide_eq_false (by omega)) (by kernel_rfl) ?_
          refine st_b 17 (show (decide (m < 1)) = false by exact decide_eq_false (by omega)) (by kernel_rfl) ?_
          refine st_b 22 (show (decide (m > 12)) = true by exact decide_eq_true (by omega)) (by kernel_rfl) ?_
          exact st_ret Try.func119 (by kernel_rfl)
        · by_cases h5 : d < 1
          · refine fn_of Try.func119 rfl fun ww => ?_
            refine st_b 8 (show (decide (y < -280000)) = false by exact decide_eq_false (by omega)) (by kernel_rfl) ?_
            refine st_b 12 (show (decide (y > 280000)) = false by exact decide_eq_false (by omega)) (by kernel_rfl) ?_
            refine st_b 17 (show (decide (m < 1)) = false by exact decide_eq_false (by omega)) (by kernel_rfl) ?_
            refine st_b 22 (show (decide (m > 12)) = false by exact decide_eq_false (by omega)) (by kernel_rfl) ?_
            refine st_b 27 (show (decide (d < 1)) = true by exact decide_eq_true (by omega)) (by kernel_rfl) ?_
            exact st_ret Try.func119 (by kernel_rfl)
          · by_cases h6 : mlen y m < d
            · refine fn_of Try.func119 rfl fun ww => ?_
              refine st_b 8 (show (decide (y < -280000)) = false by exact decide_eq_false (by omega)) (by kernel_rfl) ?_
              refine st_b 12 (show (decide (y > 280000)) = false by exact decide_eq_false (by omega)) (by kernel_rfl) ?_
              refine st_b 17 (show (decide (m < 1)) = false by exact decide_eq_false (by omega)) (by kernel_rfl) ?_
              refine st_b 22 (show (decide (m > 12)) = false by exact decide_eq_false (by omega)) (by kernel_rfl) ?_
              refine st_b 27 (show (decide (d < 1)) = false by exact decide_eq_false (by omega)) (by kernel_rfl) ?_
              refine st_fn ent184 (zmonth (y) (m)) sub0 (by kernel_rfl) ?_
              refine st_b 37 (show (decide (d > mlen y m)) = true by exact decide_eq_true (by omega)) (by kernel_rfl) ?_
              exact st_ret Try.func119 (by kernel_rfl)
            · have k7 := (mlen_ge (y := y) (m := m) (by omega) (by omega)).2
              have k8 := jan_b (y := y) (by omega) (by omega)
              have h8 : ¬ (-100000001 ≤ dnum y m d ∧ dnum y m d ≤ 100000000) := fun q => k ⟨⟨by omega, by omega, by omega, by omega⟩, q.1, q.2⟩
              have h9 : dnum y m d < -100000001 ∨ 100000000 < dnum y m d := by omega
              clear h8 k
              rcases h9 with h9 | h9
              · refine fn_of Try.func119 rfl fun ww => ?_
                refine st_b 8 (show (decide (y < -280000)) = false by exact decide_eq_false (by omega)) (by kernel_rfl) ?_
                refine st_b 12 (show (decide (y > 280000)) = false by exact decide_eq_false (by omega)) (by kernel_rfl) ?_
                refine st_b 17 (show (decide (m < 1)) = false by exact decide_eq_false (by omega)) (by kernel_rfl) ?_
                refine st_b 22 (show (decide (m > 12)) = false by exact decide_eq_false (by omega)) (by kernel_rfl) ?_
                refine st_b 27 (show (decide (d < 1)) = false by exact decide_eq_false (by omega)) (by kernel_rfl) ?_
                refine st_fn ent184 (zmonth (y) (m)) sub0 (by kernel_rfl) ?_
                refine st_b 37 (show (decide (d > mlen y m)) = false by exact decide_eq_false (by omega)) (by kernel_rfl) ?_
                refine st_fn ent185 (zjan (y) (by omega) (by omega)) sub0 (by kernel_rfl) ?_
                refine st_i 4 IntKind.i64 (x := jan y) ((show jan y = jan y + mst y 1 by rw [mst_one] <;> omega)) (by kernel_rfl) ?_
                refine st_forget [0, 1, 2, 3, 4, 5, 6, 7, 8, 9, 10, 11, 12, 13, 14, 15, 16, 17, 18, 19, 20, 21, 22, 23, 24, 25, 26, 27, 28, 29, 30, 31, 32, 33, 34, 35, 36, 37, 38, 39, 40, 41, 54, 55, 56, 57, 58, 59, 60, 61, 62, 63, 64, 65] (by kernel_rfl) ?_
                refine st_loop (X := Int) (fun x => ([SV.val (Value.agg #[Value.int IntKind.i64 y, Value.int IntKind.i64 m, Value.int IntKind.i64 d]), SV.ptr 0 0, SV.val (Value.int IntKind.i64 0), SV.val (Value.bool false), .val (.int .i64 (jan y + mst y x)), .val (.int .i64 x), SV.ptr 0 0, SV.val (Value.int IntKind.i64 y), SV.val (Value.bool false), SV.val (Value.bool false), SV.ptr 0 0, SV.val (Value.int IntKind.i64 y), SV.val (Value.bool false), SV.val (Value.bool false), SV.val (Value.bool false), SV.ptr 0 1, SV.val (Value.int IntKind.i64 m), SV.val (Value.bool false), SV.val (Value.bool false), SV.val (Value.bool false), SV.ptr 0 1, SV.val (Value.int IntKind.i64 m), SV.val (Value.bool false), SV.val (Value.bool false), SV.val (Value.bool false), SV.ptr 0 2, SV.val (Value.int IntKind.i64 d), SV.val (Value.bool false), SV.val (Value.bool false), SV.val (Value.bool false), SV.ptr 0 2, SV.val (Value.int IntKind.i64 d), SV.ptr 0 0, SV.val (Value.int IntKind.i64 y), SV.ptr 0 1, SV.val (Value.int IntKind.i64 m), SV.val (Value.int IntKind.i64 (mlen y m)), SV.val (Value.bool false), SV.val (Value.bool false), SV.ptr 0 0, SV.val (Value.int IntKind.i64 y), SV.val (Value.int IntKind.i64 (jan y)), .any, .any, .any, .any, .any, .any, .any, .any, .any, .any, .any, .any, SV.val (Value.tuple #[]), SV.val (Value.tuple #[]), SV.val (Value.tuple #[]), SV.val (Value.tuple #[]), SV.val (Value.tuple #[]), SV.val (Value.tuple #[]), SV.val (Value.tuple #[]), SV.val (Value.tuple #[]), SV.val (Value.tuple #[]), SV.val (Value.tuple #[]), SV.val (Value.tuple #[]), SV.val (Value.tuple #[])], [⟨[SV.val (Value.int IntKind.i64 y), SV.val (Value.int IntKind.i64 m), SV.val (Value.int IntKind.i64 d)], 33⟩])) (fun _ => _) (fun k => 1 ≤ k ∧ k ≤ m) (fun k => (m - k).toNat) (1) (by kernel_rfl) (by kernel_rfl) Sub.refl (by first | omega | (simp; omega) | assumption | simp_all) (fun y0 px0 back0 => ?_)
                (have q1 := mst_b (y := y) (m := y0) (by omega) (by omega); have q2 := mlen_ge (y := y) (m := y0) (by omega) (by omega))
                · have _hh := True.intro
                  by_cases k45 : y0 < m
                  · refine st_b 45 (decide_eq_true k45) (by kernel_rfl) ?_
                    refine st_fn ent184 (zmonth (y) (y0)) sub0 (by kernel_rfl) ?_
                    refine st_i 53 IntKind.i64 (x := IntKind.i64.wrap (jan y + mst y y0 + mlen y y0)) ((Go.IntWalk.i64_in (jan y + mst y y0 + mlen y y0) (by omega)).trans ((show jan y + mst y y0 + mlen y y0 = jan y + mst y (y0 + 1) by rw [mst_succ (by omega) (by omega)] <;> omega))) (by kernel_rfl) ?_
                    refine st_i 47 .i64 (x' := y0 + 1) (Go.IntWalk.i64_in _ (by omega)) (by kernel_rfl) ?_
                    refine st_forget [0, 1, 2, 3, 4, 5, 6, 7, 8, 9, 10, 11, 12, 13, 14, 15, 16, 17, 18, 19, 20, 21, 22, 23, 24, 25, 26, 27, 28, 29, 30, 31, 32, 33, 34, 35, 36, 37, 38, 39, 40, 41, 54, 55, 56, 57, 58, 59, 60, 61, 62, 63, 64, 65] (by kernel_rfl) ?_
                    exact st_back back0 (y0 + 1) (by first | omega | (simp only []; omega) | (simp; omega)) (by first | omega | (simp only []; omega) | (simp; omega) | assumption | simp_all) (fun p hp => by first | exact hp | simp_all) (by kernel_rfl) (by kernel_rfl) (by kernel_rfl)
                  · refine st_b 45 (decide_eq_false k45) (by kernel_rfl) ?_
                    refine st_i 57 .i64 (x' := jan y + mst y y0 + d) (Go.IntWalk.i64_in _ (by omega)) (by kernel_rfl) ?_
                    refine st_i 58 IntKind.i64 (x := IntKind.i64.wrap (jan y + mst y y0 + d - 1)) ((Go.IntWalk.i64_in (jan y + mst y y0 + d - 1) (by omega)).trans ((show jan y + mst y y0 + d - 1 = dnum y m d by obtain rfl : y0 = m := (by omega); rfl))) (by kernel_rfl) ?_
                    refine st_b 60 (show (decide (dnum y m d < -100000001)) = true by exact decide_eq_true (by omega)) (by kernel_rfl) ?_
                    exact st_ret Try.func119 (by kernel_rfl)
              · refine fn_of Try.func119 rfl fun ww => ?_
                refine st_b 8 (show (decide (y < -280000)) = false by exact decide_eq_false (by omega)) (by kernel_rfl) ?_
                refine st_b 12 (show (decide (y > 280000)) = false by exact decide_eq_false (by omega)) (by kernel_rfl) ?_
                refine st_b 17 (show (decide (m < 1)) = false by exact decide_eq_false (by omega)) (by kernel_rfl) ?_
                refine st_b 22 (show (decide (m > 12)) = false by exact decide_eq_false (by omega)) (by kernel_rfl) ?_
                refine st_b 27 (show (decide (d < 1)) = false by exact decide_eq_false (by omega)) (by kernel_rfl) ?_
                refine st_fn ent184 (zmonth (y) (m)) sub0 (by kernel_rfl) ?_
                refine st_b 37 (show (decide (d > mlen y m)) = false by exact decide_eq_false (by omega)) (by kernel_rfl) ?_
                refine st_fn ent185 (zjan (y) (by omega) (by omega)) sub0 (by kernel_rfl) ?_
                refine st_i 4 IntKind.i64 (x := jan y) ((show jan y = jan y + mst y 1 by rw [mst_one] <;> omega)) (by kernel_rfl) ?_
                refine st_forget [0, 1, 2, 3, 4, 5, 6, 7, 8, 9, 10, 11, 12, 13, 14, 15, 16, 17, 18, 19, 20, 21, 22, 23, 24, 25, 26, 27, 28, 29, 30, 31, 32, 33, 34, 35, 36, 37, 38, 39, 40, 41, 54, 55, 56, 57, 58, 59, 60, 61, 62, 63, 64, 65] (by kernel_rfl) ?_
                refine st_loop (X := Int) (fun x => ([SV.val (Value.agg #[Value.int IntKind.i64 y, Value.int IntKind.i64 m, Value.int IntKind.i64 d]), SV.ptr 0 0, SV.val (Value.int IntKind.i64 0), SV.val (Value.bool false), .val (.int .i64 (jan y + mst y x)), .val (.int .i64 x), SV.ptr 0 0, SV.val (Value.int IntKind.i64 y), SV.val (Value.bool false), SV.val (Value.bool false), SV.ptr 0 0, SV.val (Value.int IntKind.i64 y), SV.val (Value.bool false), SV.val (Value.bool false), SV.val (Value.bool false), SV.ptr 0 1, SV.val (Value.int IntKind.i64 m), SV.val (Value.bool false), SV.val (Value.bool false), SV.val (Value.bool false), SV.ptr 0 1, SV.val (Value.int IntKind.i64 m), SV.val (Value.bool false), SV.val (Value.bool false), SV.val (Value.bool false), SV.ptr 0 2, SV.val (Value.int IntKind.i64 d), SV.val (Value.bool false), SV.val (Value.bool false), SV.val (Value.bool false), SV.ptr 0 2, SV.val (Value.int IntKind.i64 d), SV.ptr 0 0, SV.val (Value.int IntKind.i64 y), SV.ptr 0 1, SV.val (Value.int IntKind.i64 m), SV.val (Value.int IntKind.i64 (mlen y m)), SV.val (Value.bool false), SV.val (Value.bool false), SV.ptr 0 0, SV.val (Value.int IntKind.i64 y), SV.val (Value.int IntKind.i64 (jan y)), .any, .any, .any, .any, .any, .any, .any, .any, .any, .any, .any, .any, SV.val (Value.tuple #[]), SV.val (Value.tuple #[]), SV.val (Value.tuple #[]), SV.val (Value.tuple #[]), SV.val (Value.tuple #[]), SV.val (Value.tuple #[]), SV.val (Value.tuple #[]), SV.val (Value.tuple #[]), SV.val (Value.tuple #[]), SV.val (Value.tuple #[]), SV.val (Value.tuple #[]), SV.val (Value.tuple #[])], [⟨[SV.val (Value.int IntKind.i64 y), SV.val (Value.int IntKind.i64 m), SV.val (Value.int IntKind.i64 d)], 33⟩])) (fun _ => _) (fun k => 1 ≤ k ∧ k ≤ m) (fun k => (m - k).toNat) (1) (by kernel_rfl) (by kernel_rfl) Sub.refl (by first | omega | (simp; omega) | assumption | simp_all) (fun y0 px0 back0 => ?_)
                (have q1 := mst_b (y := y) (m := y0) (by omega) (by omega); have q2 := mlen_ge (y := y) (m := y0) (by omega) (by omega))
                · have _hh := True.intro
                  by_cases k45 : y0 < m
                  · refine st_b 45 (decide_eq_true k45) (by kernel_rfl) ?_
                    refine st_fn ent184 (zmonth (y) (y0)) sub0 (by kernel_rfl) ?_
                    refine st_i 53 IntKind.i64 (x := IntKind.i64.wrap (jan y + mst y y0 + mlen y y0)) ((Go.IntWalk.i64_in (jan y + mst y y0 + mlen y y0) (by omega)).trans ((show jan y + mst y y0 + mlen y y0 = jan y + mst y (y0 + 1) by rw [mst_succ (by omega) (by omega)] <;> omega))) (by kernel_rfl) ?_
                    refine st_i 47 .i64 (x' := y0 + 1) (Go.IntWalk.i64_in _ (by omega)) (by kernel_rfl) ?_
                    refine st_forget [0, 1, 2, 3, 4, 5, 6, 7, 8, 9, 10, 11, 12, 13, 14, 15, 16, 17, 18, 19, 20, 21, 22, 23, 24, 25, 26, 27, 28, 29, 30, 31, 32, 33, 34, 35, 36, 37, 38, 39, 40, 41, 54, 55, 56, 57, 58, 59, 60, 61, 62, 63, 64, 65] (by kernel_rfl) ?_
                    exact st_back back0 (y0 + 1) (by first | omega | (simp only []; omega) | (simp; omega)) (by first | omega | (simp only []; omega) | (simp; omega) | assumption | simp_all) (fun p hp => by first | exact hp | simp_all) (by kernel_rfl) (by kernel_rfl) (by kernel_rfl)
                  · refine st_b 45 (decide_eq_false k45) (by kernel_rfl) ?_
                    refine st_i 57 .i64 (x' := jan y + mst y y0 + d) (Go.IntWalk.i64_in _ (by omega)) (by kernel_rfl) ?_
                    refine st_i 58 IntKind.i64 (x := IntKind.i64.wrap (jan y + mst y y0 + d - 1)) ((Go.IntWalk.i64_in (jan y + mst y y0 + d - 1) (by omega)).trans ((show jan y + mst y y0 + d - 1 = dnum y m d by obtain rfl : y0 = m := (by omega); rfl))) (by kernel_rfl) ?_
                    refine st_b 60 (show (decide (dnum y m d < -100000001)) = false by exact decide_eq_false (by omega)) (by kernel_rfl) ?_
                    refine st_b 63 (show (decide (dnum y m d > 100000000)) = true by exact decide_eq_true (by omega)) (by kernel_rfl) ?_
                    exact st_ret Try.func119 (by kernel_rfl)
theorem zright5_yes (k : dOk y m d) : Fn 207 [] [dv y m d] (.bool true) := by
  refine fn_of Try.func207 rfl fun ww => ?_
  refine st_fn ent119 (zdays_yes (y) (m) (d) (by assumption)) sub0 (by kernel_rfl) ?_
  exact st_ret Try.func207 (by kernel_rfl)
theorem zright5_no (k : ¬ dOk y m d) : Fn 207 [] [dv y m d] (.bool false) := by
  refine fn_of Try.func207 rfl fun ww => ?_
  refine st_fn ent119 (zdays_no (y) (m) (d) (by assumption)) sub0 (by kernel_rfl) ?_
  exact st_ret Try.func207 (by kernel_rfl)
end
section
variable (n : Int)
theorem of_end {n Y M l : Int} (h1 : 1 ≤ M) (h2 : M ≤ 12) (h : l = n - jan Y - mst Y M) (h3 : 0 ≤ l) (h4 : l < mlen Y M) : Value.tuple #[dv Y M (l + 1), .bool true] = .tuple #[dv (dY n) (dM n) (dD n), .bool true] := by
  obtain ⟨a, b, c⟩ := date_uniq (n := n) (y := Y) (m := M) (d := l + 1) ⟨h1, h2, by omega, by omega⟩ (by unfold dnum; omega)
  rw [← a, ← b, ← c]
theorem zof5_no (k : n < -100000001 ∨ 100000000 < n) : Fn 124 [] [.int .i64 n] (.tuple #[dv 0 0 0, .bool false]) := by
  by_cases h : n < -100000001
  · refine fn_of Try.func124 rfl fun ww => ?_
    refine st_b 9 (show (decide (n < -100000001)) = true by exact decide_eq_true (by omega)) (by kernel_rfl) ?_
    exact st_ret Try.func124 (by kernel_rfl)
  · have h' : 100000000 < n := by omega
    refine fn_of Try.func124 rfl fun ww => ?_
    refine st_b 9 (show (decide (n < -100000001)) = false by exact decide_eq_false (by omega)) (by kernel_rfl) ?_
    refine st_b 12 (show (decide (n > 100000000)) = true by exact decide_eq_true (by omega)) (by kernel_rfl) ?_
    exact st_ret Try.func124 (by kernel_rfl)
theorem zof5_yes (k0 : -100000001 ≤ n) (k1 : n ≤ 100000000) : Fn 124 [] [.int .i64 n] (.tuple #[dv (dY n) (dM n) (dD n), .bool true]) := by
  have j0 := jan_cent ((n + 719528) / 146097)
  refine fn_of Try.func124 rfl fun ww => ?_
  refine st_b 9 (show (decide (n < -100000001)) = false by exact decide_eq_false (by omega)) (by kernel_rfl) ?_
  refine st_b 12 (show (decide (n > 100000000)) = false by exact decide_eq_false (by omega)) (by kernel_rfl) ?_
  refine st_i 16 .i64 (x' := n + 719528) (Go.IntWalk.i64_in _ (by omega)) (by kernel_rfl) ?_
  refine st_fn ent188 (zdown146097 (n + 719528) (by omega) (by omega)) sub0 (by kernel_rfl) ?_
  refine st_i 19 .i64 (x' := 400 * ((n + 719528) / 146097)) (Go.IntWalk.i64_in _ (by omega)) (by kernel_rfl) ?_
  refine st_i 21 .i64 (x' := n + 719528) (Go.IntWalk.i64_in _ (by omega)) (by kernel_rfl) ?_
  refine st_i 23 .i64 (x' := (n + 719528) / 146097 * 146097) (Go.IntWalk.i64_in _ (by omega)) (by kernel_rfl) ?_
  refine st_i 24 IntKind.i64 (x := IntKind.i64.wrap (n + 719528 - (n + 719528) / 146097 * 146097)) ((Go.IntWalk.i64_in (n + 719528 - (n + 719528) / 146097 * 146097) (by omega)).trans ((show _ = n - jan (400 * ((n + 719528) / 146097)) by rw [jan_cent] <;> omega))) (by kernel_rfl) ?_
  refine st_forget [0, 1, 2, 3, 4, 5, 6, 7, 8, 9, 10, 11, 12, 13, 14, 15, 16, 17, 18, 19, 20, 21, 22, 23, 24, 35, 36, 37, 38, 39, 40, 41, 42, 43, 44, 45, 46, 47, 48, 49, 50, 51] (by kernel_rfl) ?_
  refine st_loop (X := Int) (fun x => ([SV.val (Value.int IntKind.i64 n), SV.val (Value.tuple #[]), SV.ptr 0 0, SV.val (Value.bool false), SV.val (Value.int IntKind.i64 ((n + 719528) / 146097)), .val (.int .i64 x), .val (.int .i64 (n - jan x)), SV.val (Value.tuple #[]), SV.val (Value.int IntKind.i64 n), SV.val (Value.bool false), SV.val (Value.bool false), SV.val (Value.int IntKind.i64 n), SV.val (Value.bool false), SV.val (Value.bool false), SV.val (Value.tuple #[]), SV.val (Value.int IntKind.i64 n), SV.val (Value.int IntKind.i64 (n + 719528)), SV.val (Value.int IntKind.i64 ((n + 719528) / 146097)), SV.val (Value.int IntKind.i64 ((n + 719528) / 146097)), SV.val (Value.int IntKind.i64 (400 * ((n + 719528) / 146097))), SV.val (Value.int IntKind.i64 n), SV.val (Value.int IntKind.i64 (n + 719528)), SV.val (Value.int IntKind.i64 ((n + 719528) / 146097)), SV.val (Value.int IntKind.i64 ((n + 719528) / 146097 * 146097)), SV.val (Value.int IntKind.i64 (n - jan (400 * ((n + 719528) / 146097)))), .any, .any, .any, .any, .any, .any, .any, .any, .any, .any, SV.val (Value.tuple #[]), SV.val (Value.tuple #[]), SV.val (Value.tuple #[]), SV.val (Value.tuple #[]), SV.val (Value.tuple #[]), SV.val (Value.tuple #[]), SV.val (Value.tuple #[]), SV.val (Value.tuple #[]), SV.val (Value.tuple #[]), SV.val (Value.tuple #[]), SV.val (Value.tuple #[]), SV.val (Value.tuple #[]), SV.val (Value.tuple #[]), SV.val (Value.tuple #[]), SV.val (Value.tuple #[]), SV.val (Value.tuple #[]), SV.val (Value.tuple #[])], [⟨[SV.val (Value.int IntKind.i64 0), SV.val (Value.int IntKind.i64 0), SV.val (Value.int IntKind.i64 0)], 33⟩])) (fun _ => _) (fun k => 400 * ((n + 719528) / 146097) ≤ k ∧ k ≤ 300000 ∧ jan k ≤ n) (fun k => (n - jan k).toNat) (400 * ((n + 719528) / 146097)) (by kernel_rfl) (by kernel_rfl) Sub.refl (by first | omega | (simp; omega) | assumption | simp_all) (fun y0 px0 back0 => ?_)
  (have q1 := jan_succ y0; have q2 := ylen_b y0; have q3 := jan_b (y := y0) (by omega) (by omega); have q4 : jan y0 ≤ n → y0 ≤ 280000 := (by (unfold jan; omega)); have q5 := mst_one y0)
  · have _hh := True.intro
    refine st_fn ent189 (zyear (y0)) sub0 (by kernel_rfl) ?_
    by_cases k28 : n - jan y0 ≥ ylen y0
    · refine st_b 28 (decide_eq_true k28) (by kernel_rfl) ?_
      refine st_fn ent189 (zyear (y0)) sub0 (by kernel_rfl) ?_
      refine st_i 32 IntKind.i64 (x := IntKind.i64.wrap (n - jan y0 - ylen y0)) ((Go.IntWalk.i64_in (n - jan y0 - ylen y0) (by omega)).trans ((show n - jan y0 - ylen y0 = n - jan (y0 + 1) by rw [jan_succ] <;> omega))) (by kernel_rfl) ?_
      refine st_i 34 .i64 (x' := y0 + 1) (Go.IntWalk.i64_in _ (by omega)) (by kernel_rfl) ?_
      refine st_forget [0, 1, 2, 3, 4, 5, 6, 7, 8, 9, 10, 11, 12, 13, 14, 15, 16, 17, 18, 19, 20, 21, 22, 23, 24, 35, 36, 37, 38, 39, 40, 41, 42, 43, 44, 45, 46, 47, 48, 49, 50, 51] (by kernel_rfl) ?_
      exact st_back back0 (y0 + 1) (by first | omega | (simp only []; omega) | (simp; omega)) (by first | (exact of_end (by omega) (by omega) (by omega) (by omega) (by omega)) | omega | (simp only []; omega) | (simp; omega) | assumption | simp_all) (fun p hp => by first | exact hp | simp_all) (by kernel_rfl) (by kernel_rfl) (by kernel_rfl)
    · refine st_b 28 (decide_eq_false k28) (by kernel_rfl) ?_
      refine st_forget [0, 1, 2, 3, 4, 5, 6, 7, 8, 9, 10, 11, 12, 13, 14, 15, 16, 17, 18, 19, 20, 21, 22, 23, 24, 25, 26, 27, 28, 29, 30, 31, 32, 33, 34, 47, 48, 49, 50, 51] (by kernel_rfl) ?_
      refine st_loop (X := Int × Int) (fun x => ([SV.val (Value.int IntKind.i64 n), SV.val (Value.tuple #[]), SV.ptr 0 0, SV.val (Value.bool false), SV.val (Value.int IntKind.i64 ((n + 719528) / 146097)), SV.val (Value.int IntKind.i64 y0), .val (.int .i64 x.2), .val (.int .i64 x.1), SV.val (Value.int IntKind.i64 n), SV.val (Value.bool false), SV.val (Value.bool false), SV.val (Value.int IntKind.i64 n), SV.val (Value.bool false), SV.val (Value.bool false), SV.val (Value.tuple #[]), SV.val (Value.int IntKind.i64 n), SV.val (Value.int IntKind.i64 (n + 719528)), SV.val (Value.int IntKind.i64 ((n + 719528) / 146097)), SV.val (Value.int IntKind.i64 ((n + 719528) / 146097)), SV.val (Value.int IntKind.i64 (400 * ((n + 719528) / 146097))), SV.val (Value.int IntKind.i64 n), SV.val (Value.int IntKind.i64 (n + 719528)), SV.val (Value.int IntKind.i64 ((n + 719528) / 146097)), SV.val (Value.int IntKind.i64 ((n + 719528) / 146097 * 146097)), SV.val (Value.int IntKind.i64 (n - jan (400 * ((n + 719528) / 146097)))), SV.val (Value.int IntKind.i64 (n - jan y0)), SV.val (Value.int IntKind.i64 y0), SV.val (Value.int IntKind.i64 (ylen y0)), SV.val (Value.bool false), SV.any, SV.any, SV.any, SV.any, SV.any, SV.any, .any, .any, .any, .any, .any, .any, .any, .any, .any, .any, .any, .any, SV.val (Value.tuple #[]), SV.val (Value.tuple #[]), SV.val (Value.tuple #[]), SV.val (Value.tuple #[]), SV.val (Value.tuple #[])], [⟨[SV.val (Value.int IntKind.i64 0), SV.val (Value.int IntKind.i64 0), SV.val (Value.int IntKind.i64 0)], 33⟩])) (fun _ => _) (fun k => 1 ≤ k.1 ∧ k.1 ≤ 12 ∧ k.2 = n - jan y0 - mst y0 k.1 ∧ 0 ≤ k.2) (fun k => k.2.toNat) ((1, n - jan y0)) (by kernel_rfl) (by kernel_rfl) Sub.refl (by first | omega | (simp; omega) | assumption | simp_all) (fun x px1 back1 => ?_)
      rcases x with ⟨y1_0, y1_1⟩
      simp only at px1
      (have r1 := mst_succ (y := y0) (m := y1_0) (by omega) (by omega); have r2 := mlen_ge (y := y0) (m := y1_0) (by omega) (by omega); have r3 := mst_b (y := y0) (m := y1_0) (by omega) (by omega); have r4 : y1_0 = 12 → mst y0 (y1_0 + 1) = ylen y0 := (by (intro e; subst e; exact mst_end y0)))
      · have _hh := True.intro
        refine st_fn ent184 (zmonth (y0) (y1_0)) sub0 (by kernel_rfl) ?_
        by_cases k39 : y1_1 ≥ mlen y0 y1_0
        · refine st_b 39 (decide_eq_true k39) (by kernel_rfl) ?_
          refine st_fn ent184 (zmonth (y0) (y1_0)) sub0 (by kernel_rfl) ?_
          refine st_i 44 .i64 (x' := y1_1 - mlen y0 y1_0) (Go.IntWalk.i64_in _ (by omega)) (by kernel_rfl) ?_
          refine st_i 46 .i64 (x' := y1_0 + 1) (Go.IntWalk.i64_in _ (by omega)) (by kernel_rfl) ?_
          refine st_forget [0, 1, 2, 3, 4, 5, 6, 7, 8, 9, 10, 11, 12, 13, 14, 15, 16, 17, 18, 19, 20, 21, 22, 23, 24, 25, 26, 27, 28, 29, 30, 31, 32, 33, 34, 47, 48, 49, 50, 51] (by kernel_rfl) ?_
          exact st_back back1 ((y1_0 + 1, y1_1 - mlen y0 y1_0)) (by first | omega | (simp only []; omega) | (simp; omega)) (by first | (exact of_end (by omega) (by omega) (by omega) (by omega) (by omega)) | omega | (simp only []; omega) | (simp; omega) | assumption | simp_all) (fun p hp => by first | exact hp | simp_all) (by kernel_rfl) (by kernel_rfl) (by kernel_rfl)
        · refine st_b 39 (decide_eq_false k39) (by kernel_rfl) ?_
          refine st_i 50 .i64 (x' := y1_1 + 1) (Go.IntWalk.i64_in _ (by omega)) (by kernel_rfl) ?_
          exact st_retv Try.func124 (show Value.tuple #[Value.agg { toList := [Value.int IntKind.i64 y0, Value.int IntKind.i64 y1_0, Value.int IntKind.i64 (y1_1 + 1)] }, Value.bool true] = _ by (exact of_end (by omega) (by omega) (by omega) (by omega) (by omega))) (by kernel_rfl)
end
section
variable (y m d n : Int)
theorem zaddd_arg (k : ¬ dOk y m d) : Fn 133 [] [dv y m d, .int .i64 n] (.tuple #[dv 0 0 0, .int .i64 1]) := by
  refine fn_of Try.func133 rfl fun ww => ?_
  refine st_fn ent119 (zdays_no (y) (m) (d) (by assumption)) sub0 (by kernel_rfl) ?_
  exact st_ret Try.func133 (by kernel_rfl)
theorem zaddd_yes (k : dOk y m d) (k0 : -100000001 ≤ dnum y m d + n) (k1 : dnum y m d + n ≤ 100000000) : Fn 133 [] [dv y m d, .int .i64 n] (.tuple #[dv (dY (dnum y m d + n)) (dM (dnum y m d + n)) (dD (dnum y m d + n)), .int .i64 0]) := by
  have k2 := k.2
  refine fn_of Try.func133 rfl fun ww => ?_
  refine st_fn ent119 (zdays_yes (y) (m) (d) (by assumption)) sub0 (by kernel_rfl) ?_
  refine st_b 19 (show (decide (n < -300000000)) = false by exact decide_eq_false (by omega)) (by kernel_rfl) ?_
  refine st_b 22 (show (decide (n > 300000000)) = false by exact decide_eq_false (by omega)) (by kernel_rfl) ?_
  refine st_i 28 .i64 (x' := dnum y m d + n) (Go.IntWalk.i64_in _ (by omega)) (by kernel_rfl) ?_
  refine st_fn ent124 (zof5_yes (dnum y m d + n) (by assumption) (by assumption)) sub0 (by kernel_rfl) ?_
  exact st_ret Try.func133 (by kernel_rfl)
theorem zaddd_no (k : dOk y m d) (kn : dnum y m d + n < -100000001 ∨ 100000000 < dnum y m d + n) : Fn 133 [] [dv y m d, .int .i64 n] (.tuple #[dv 0 0 0, .int .i64 4]) := by
  have k2 := k.2
  by_cases h1 : n < -300000000
  · refine fn_of Try.func133 rfl fun ww => ?_
    refine st_fn ent119 (zdays_yes (y) (m) (d) (by assumption)) sub0 (by kernel_rfl) ?_
    refine st_b 19 (show (decide (n < -300000000)) = true by exact decide_eq_true (by omega)) (by kernel_rfl) ?_
    exact st_ret Try.func133 (by kernel_rfl)
  · by_cases h2 : 300000000 < n
    · refine fn_of Try.func133 rfl fun ww => ?_
      refine st_fn ent119 (zdays_yes (y) (m) (d) (by assumption)) sub0 (by kernel_rfl) ?_
      refine st_b 19 (show (decide (n < -300000000)) = false by exact decide_eq_false (by omega)) (by kernel_rfl) ?_
      refine st_b 22 (show (decide (n > 300000000)) = true by exact decide_eq_true (by omega)) (by kernel_rfl) ?_
      exact st_ret Try.func133 (by kernel_rfl)
    · refine fn_of Try.func133 rfl fun ww => ?_
      refine st_fn ent119 (zdays_yes (y) (m) (d) (by assumption)) sub0 (by kernel_rfl) ?_
      refine st_b 19 (show (decide (n < -300000000)) = false by exact decide_eq_false (by omega)) (by kernel_rfl) ?_
      refine st_b 22 (show (decide (n > 300000000)) = false by exact decide_eq_false (by omega)) (by kernel_rfl) ?_
      refine st_i 28 .i64 (x' := dnum y m d + n) (Go.IntWalk.i64_in _ (by omega)) (by kernel_rfl) ?_
      refine st_fn ent124 (zof5_no (dnum y m d + n) (by assumption)) sub0 (by kernel_rfl) ?_
      exact st_ret Try.func133 (by kernel_rfl)
variable (y' m' d' : Int)
theorem zcmp5 : Fn 131 [] [dv y m d, dv y' m' d'] (.int .i64 (cmp3 y m d y' m' d')) := by
  by_cases e1 : y = y'
  · subst e1
    by_cases e2 : m = m'
    · subst e2
      by_cases e3 : d = d'
      · subst e3
        rw [show cmp3 y m d y m d = 0 from cmp3_0.2 ⟨rfl, rfl, rfl⟩]
        refine fn_of Try.func131 rfl fun ww => ?_
        refine st_b 7 (show (y == y && (m == m && (d == d && true))) = true by simp_all) (by kernel_rfl) ?_
        exact st_ret Try.func131 (by kernel_rfl)
      · have q : (y == y && (m == m && (d == d' && true))) = false := by simp [e3]
        have e : cmp3 y m d y m d' = cmpI d d' := by unfold cmp3; simp
        rw [e]
        by_cases l : d < d'
        · rw [cmpI_lt l]
          refine fn_of Try.func131 rfl fun ww => ?_
          refine st_b 7 (show (y == y && (m == m && (d == d' && true))) = false by assumption) (by kernel_rfl) ?_
          refine st_b 12 (show (decide (y < y)) = false by exact decide_eq_false (by omega)) (by kernel_rfl) ?_
          refine st_b 18 (show (y == y) = true by exact decide_eq_true (by omega)) (by kernel_rfl) ?_
          refine st_b 24 (show (decide (m < m)) = false by exact decide_eq_false (by omega)) (by kernel_rfl) ?_
          refine st_b 30 (show (m == m) = true by exact decide_eq_true (by omega)) (by kernel_rfl) ?_
          refine st_b 36 (show (decide (d < d')) = true by exact decide_eq_true (by omega)) (by kernel_rfl) ?_
          exact st_ret Try.func131 (by kernel_rfl)
        · rw [cmpI_gt (by omega)]
          refine fn_of Try.func131 rfl fun ww => ?_
          refine st_b 7 (show (y == y && (m == m && (d == d' && true))) = false by assumption) (by kernel_rfl) ?_
          refine st_b 12 (show (decide (y < y)) = false by exact decide_eq_false (by omega)) (by kernel_rfl) ?_
          refine st_b 18 (show (y == y) = true by exact decide_eq_true (by omega)) (by kernel_rfl) ?_
          refine st_b 24 (show (decide (m < m)) = false by exact decide_eq_false (by omega)) (by kernel_rfl) ?_
          refine st_b 30 (show (m == m) = true by exact decide_eq_true (by omega)) (by kernel_rfl) ?_
          refine st_b 36 (show (decide (d < d')) = false by exact decide_eq_false (by omega)) (by kernel_rfl) ?_
          exact st_ret Try.func131 (by kernel_rfl)
    · have q : (y == y && (m == m' && (d == d' && true))) = false := by simp [e2]
      have e : cmp3 y m d y m' d' = cmpI m m' := by unfold cmp3; simp [e2]
      rw [e]
      by_cases l : m < m'
      · rw [cmpI_lt l]
        refine fn_of Try.func131 rfl fun ww => ?_
        refine st_b 7 (show (y == y && (m == m' && (d == d' && true))) = false by assumption) (by kernel_rfl) ?_
        refine st_b 12 (show (decide (y < y)) = false by exact decide_eq_false (by omega)) (by kernel_rfl) ?_
        refine st_b 18 (show (y == y) = true by exact decide_eq_true (by omega)) (by kernel_rfl) ?_
        refine st_b 24 (show (decide (m < m')) = true by exact decide_eq_true (by omega)) (by kernel_rfl) ?_
        exact st_ret Try.func131 (by kernel_rfl)
      · rw [cmpI_gt (by omega)]
        refine fn_of Try.func131 rfl fun ww => ?_
        refine st_b 7 (show (y == y && (m == m' && (d == d' && true))) = false by assumption) (by kernel_rfl) ?_
        refine st_b 12 (show (decide (y < y)) = false by exact decide_eq_false (by omega)) (by kernel_rfl) ?_
        refine st_b 18 (show (y == y) = true by exact decide_eq_true (by omega)) (by kernel_rfl) ?_
        refine st_b 24 (show (decide (m < m')) = false by exact decide_eq_false (by omega)) (by kernel_rfl) ?_
        refine st_b 30 (show (m == m') = false by exact decide_eq_false (by omega)) (by kernel_rfl) ?_
        exact st_ret Try.func131 (by kernel_rfl)
  · have q : (y == y' && (m == m' && (d == d' && true))) = false := by simp [e1]
    have e : cmp3 y m d y' m' d' = cmpI y y' := by unfold cmp3; simp [e1]
    rw [e]
    by_cases l : y < y'
    · rw [cmpI_lt l]
      refine fn_of Try.func131 rfl fun ww => ?_
      refine st_b 7 (show (y == y' && (m == m' && (d == d' && true))) = false by assumption) (by kernel_rfl) ?_
      refine st_b 12 (show (decide (y < y')) = true by exact decide_eq_true (by omega)) (by kernel_rfl) ?_
      exact st_ret Try.func131 (by kernel_rfl)
    · rw [cmpI_gt (by omega)]
      refine fn_of Try.func131 rfl fun ww => ?_
      refine st_b 7 (show (y == y' && (m == m' && (d == d' && true))) = false by assumption) (by kernel_rfl) ?_
      refine st_b 12 (show (decide (y < y')) = false by exact decide_eq_false (by omega)) (by kernel_rfl) ?_
      refine st_b 18 (show (y == y') = false by exact decide_eq_false (by omega)) (by kernel_rfl) ?_
      exact st_ret Try.func131 (by kernel_rfl)
end
end Go.Proofs.Ytcndfpfjckkinaa
