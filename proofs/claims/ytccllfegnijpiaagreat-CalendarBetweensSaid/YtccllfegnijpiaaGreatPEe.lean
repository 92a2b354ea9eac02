/-
  Texts joined: Duzp, Duzn, Duzm, Upa, Dfr, Due, Rat. Each says at its head what it shows.
-/
import Derived.Test.YtccllfegnijpiaaGreatPEd
section
/-
  Durations: what may be, as the reference reckons it: no field below 0.
-/
set_option linter.unusedVariables false
set_option maxRecDepth 100000
namespace Go.Proofs.YtccllfegnijpiaaGreat
open Go Go.RowKit Go.Ev

section
variable (a b c d h mi s n : Int)
theorem zuright_p (i : all64 a b c d h mi s n) (hk : pos8 a b c d h mi s n) : Fn 50 [] [duv a b c d h mi s n] (.bool (decide (uOk a b c d h mi s n))) := by
  obtain ⟨i1, i2, i3, i4, i5, i6, i7, i8⟩ := i
  have bt : W128 (dtot d h mi s n) := by unfold I64 at *; unfold W128 dtot; omega
  have bl : W128 9007199254740992000000000 := by unfold W128; omega
  have ut := zutot a b c d h mi s n i4 i5 i6 i7 i8
  obtain ⟨X, hX⟩ : ∃ X : Int, X = ((dtot d h mi s n).natAbs : Int) := ⟨_, rfl⟩
  have bX : Bits 128 X := by rw [hX]; exact bt.bits.abs
  have fa : ∀ p : ZQ, FnZ 112 [(p, dtot d h mi s n)] [zv p] zv X := fun p => by rw [hX]; exact fzabs p _ (bt.bits.fit (by decide))
  have qt := cmpI_lt0 (a := X) (b := 9007199254740992000000000)
  unfold pos8 at hk
  obtain ⟨k1, k2, k3, k4, k5, k6, k7, k8⟩ := hk
  refine fn_of Tryz.func50 rfl fun ww => ?_
  refine st_rowB ent110 (zufields (a) (b) (c) (d) (h) (mi) (s) (n)) (by kernel_rfl) ?_
  refine st_forget [0,1,3,4,5,6,7,8,47,48,49,50,51,52,53,54,55,56,57,58,59] (by kernel_rfl) ?_
  refine st_loop (X := Int × Bool) (fun x => ([SV.val (Value.agg #[vI64 a,vI64 b,vI64 c,vI64 d,vI64 h,vI64 mi,vI64 s,vI64 n]),SV.ptr 0 0,.any,SV.sl 1 0 8 8,.val (.bool x.2),.val (.bool false),.val (.int .i64 x.1),SV.val (Value.agg #[vI64 a,vI64 b,vI64 c,vI64 d,vI64 h,vI64 mi,vI64 s,vI64 n]),SV.sl 1 0 8 8,.any,.any,.any,.any,.any,.any,.any,.any,.any,.any,.any,.any,.any,.any,.any,.any,.any,.any,.any,.any,.any,.any,.any,.any,.any,.any,.any,.any,.any,.any,.any,.any,.any,.any,.any,.any,.any,.any,svZ,svZ,svZ,svZ,svZ,svZ,svZ,svZ,svZ,svZ,svZ,svZ,svZ],[⟨[SV.val (vI64 a),SV.val (vI64 b),SV.val (vI64 c),SV.val (vI64 d),SV.val (vI64 h),SV.val (vI64 mi),SV.val (vI64 s),SV.val (vI64 n)],43⟩,⟨[SV.val (vI64 a),SV.val (vI64 b),SV.val (vI64 c),SV.val (vI64 d),SV.val (vI64 h),SV.val (vI64 mi),SV.val (vI64 s),SV.val (vI64 n)],2⟩])) (fun _ => _) (fun k => 0 ≤ k.1 ∧ k.1 ≤ 8 ∧ (0 < k.1 → -4294967295 ≤ a ∧ a ≤ 4294967295) ∧ (1 < k.1 → -4294967295 ≤ b ∧ b ≤ 4294967295) ∧ (2 < k.1 → -4294967295 ≤ c ∧ c ≤ 4294967295)) (fun k => (8 - k.1).toNat) ((0,false)) (by kernel_rfl) (by kernel_rfl) Sub.refl (by first | omega | (simp; omega) | assumption | simp_all) (fun x px0 back0 => ?_)
  rcases x with ⟨y0_0, y0_1⟩
  simp only at px0
  (have hk0 : y0_0 = 0 ∨ y0_0 = 1 ∨ y0_0 = 2 ∨ y0_0 = 3 ∨ y0_0 = 4 ∨ y0_0 = 5 ∨ y0_0 = 6 ∨ y0_0 = 7 ∨ y0_0 = 8 := (by omega); rcases hk0 with rfl | rfl | rfl | rfl | rfl | rfl | rfl | rfl | rfl <;> rcases y0_1 with _ | _)
  · have _hh := True.intro
    by_cases k21 : a > 0
    · refine st_b 21 (decide_eq_true k21) (by kernel_rfl) ?_
      refine st_b 29 (show (decide (a < 0)) = false by exact decide_eq_false (by omega)) (by kernel_rfl) ?_
      by_cases k38 : a > 4294967295
      · refine st_b 38 (decide_eq_true k38) (by kernel_rfl) ?_
        exact st_retv Tryz.func50 (show Value.bool (false) = _ by (refine b_eq (decide_eq_false ?_).symm; unfold uOk pos8 neg8 cnt1 LIM; omega)) (by kernel_rfl)
      · refine st_b 38 (decide_eq_false k38) (by kernel_rfl) ?_
        refine st_b 44 (show (decide (a < -4294967295)) = false by exact decide_eq_false (by omega)) (by kernel_rfl) ?_
        refine st_i 14 .i64 (x' := 0 + 1) (Go.IntWalk.i64_in _ (by omega)) (by kernel_rfl) ?_
        refine st_forget [0,1,2,3,4,5,6,7,8,47,48,49,50,51,52,53,54,55,56,57,58,59] (by kernel_rfl) ?_
        exact st_back back0 ((0 + 1, true)) (by first | omega | (simp only []; omega) | (simp; omega)) (by first | (refine b_eq (decide_eq_false ?_).symm; unfold uOk pos8 neg8 cnt1 LIM; omega) | (refine b_eq (decide_eq_decide.2 ?_); rw [qt]; unfold uOk pos8 neg8 cnt1 LIM; omega) | omega | (simp only []; omega) | (simp; omega) | assumption | simp_all) (fun p hp => by first | exact hp | simp_all) (by kernel_rfl) (by kernel_rfl) (by kernel_rfl)
    · refine st_b 21 (decide_eq_false k21) (by kernel_rfl) ?_
      refine st_b 29 (show (decide (a < 0)) = false by exact decide_eq_false (by omega)) (by kernel_rfl) ?_
      refine st_b 38 (show (decide (a > 4294967295)) = false by exact decide_eq_false (by omega)) (by kernel_rfl) ?_
      refine st_b 44 (show (decide (a < -4294967295)) = false by exact decide_eq_false (by omega)) (by kernel_rfl) ?_
      refine st_i 14 .i64 (x' := 0 + 1) (Go.IntWalk.i64_in _ (by omega)) (by kernel_rfl) ?_
      refine st_forget [0,1,2,3,4,5,6,7,8,47,48,49,50,51,52,53,54,55,56,57,58,59] (by kernel_rfl) ?_
      exact st_back back0 ((0 + 1, false)) (by first | omega | (simp only []; omega) | (simp; omega)) (by first | (refine b_eq (decide_eq_false ?_).symm; unfold uOk pos8 neg8 cnt1 LIM; omega) | (refine b_eq (decide_eq_decide.2 ?_); rw [qt]; unfold uOk pos8 neg8 cnt1 LIM; omega) | omega | (simp only []; omega) | (simp; omega) | assumption | simp_all) (fun p hp => by first | exact hp | simp_all) (by kernel_rfl) (by kernel_rfl) (by kernel_rfl)
  · have _hh := True.intro
    refine st_b 29 (show (decide (a < 0)) = false by exact decide_eq_false (by omega)) (by kernel_rfl) ?_
    by_cases k38 : a > 4294967295
    · refine st_b 38 (decide_eq_true k38) (by kernel_rfl) ?_
      exact st_retv Tryz.func50 (show Value.bool (false) = _ by (refine b_eq (decide_eq_false ?_).symm; unfold uOk pos8 neg8 cnt1 LIM; omega)) (by kernel_rfl)
    · refine st_b 38 (decide_eq_false k38) (by kernel_rfl) ?_
      refine st_b 44 (show (decide (a < -4294967295)) = false by exact decide_eq_false (by omega)) (by kernel_rfl) ?_
      refine st_i 14 .i64 (x' := 0 + 1) (Go.IntWalk.i64_in _ (by omega)) (by kernel_rfl) ?_
      refine st_forget [0,1,2,3,4,5,6,7,8,47,48,49,50,51,52,53,54,55,56,57,58,59] (by kernel_rfl) ?_
      exact st_back back0 ((0 + 1, true)) (by first | omega | (simp only []; omega) | (simp; omega)) (by first | (refine b_eq (decide_eq_false ?_).symm; unfold uOk pos8 neg8 cnt1 LIM; omega) | (refine b_eq (decide_eq_decide.2 ?_); rw [qt]; unfold uOk pos8 neg8 cnt1 LIM; omega) | omega | (simp only []; omega) | (simp; omega) | assumption | simp_all) (fun p hp => by first | exact hp | simp_all) (by kernel_rfl) (by kernel_rfl) (by kernel_rfl)
  · have _hh := True.intro
    by_cases k21 : b > 0
    · refine st_b 21 (decide_eq_true k21) (by kernel_rfl) ?_
      refine st_b 29 (show (decide (b < 0)) = false by exact decide_eq_false (by omega)) (by kernel_rfl) ?_
      by_cases k38 : b > 4294967295
      · refine st_b 38 (decide_eq_true k38) (by kernel_rfl) ?_
        exact st_retv Tryz.func50 (show Value.bool (false) = _ by (refine b_eq (decide_eq_false ?_).symm; unfold uOk pos8 neg8 cnt1 LIM; omega)) (by kernel_rfl)
      · refine st_b 38 (decide_eq_false k38) (by kernel_rfl) ?_
        refine st_b 44 (show (decide (b < -4294967295)) = false by exact decide_eq_false (by omega)) (by kernel_rfl) ?_
        refine st_i 14 .i64 (x' := 1 + 1) (Go.IntWalk.i64_in _ (by omega)) (by kernel_rfl) ?_
        refine st_forget [0,1,2,3,4,5,6,7,8,47,48,49,50,51,52,53,54,55,56,57,58,59] (by kernel_rfl) ?_
        exact st_back back0 ((1 + 1, true)) (by first | omega | (simp only []; omega) | (simp; omega)) (by first | (refine b_eq (decide_eq_false ?_).symm; unfold uOk pos8 neg8 cnt1 LIM; omega) | (refine b_eq (decide_eq_decide.2 ?_); rw [qt]; unfold uOk pos8 neg8 cnt1 LIM; omega) | omega | (simp only []; omega) | (simp; omega) | assumption | simp_all) (fun p hp => by first | exact hp | simp_all) (by kernel_rfl) (by kernel_rfl) (by kernel_rfl)
    · refine st_b 21 (decide_eq_false k21) (by kernel_rfl) ?_
      refine st_b 29 (show (decide (b < 0)) = false by exact decide_eq_false (by omega)) (by kernel_rfl) ?_
      refine st_b 38 (show (decide (b > 4294967295)) = false by exact decide_eq_false (by omega)) (by kernel_rfl) ?_
      refine st_b 44 (show (decide (b < -4294967295)) = false by exact decide_eq_false (by omega)) (by kernel_rfl) ?_
      refine st_i 14 .i64 (x' := 1 + 1) (Go.IntWalk.i64_in _ (by omega)) (by kernel_rfl) ?_
      refine st_forget [0,1,2,3,4,5,6,7,8,47,48,49,50,51,52,53,54,55,56,57,58,59] (by kernel_rfl) ?_
      exact st_back back0 ((1 + 1, false)) (by first | omega | (simp only []; omega) | (simp; omega)) (by first | (refine b_eq (decide_eq_false ?_).symm; unfold uOk pos8 neg8 cnt1 LIM; omega) | (refine b_eq (decide_eq_decide.2 ?_); rw [qt]; unfold uOk pos8 neg8 cnt1 LIM; omega) | omega | (simp only []; omega) | (simp; omega) | assumption | simp_all) (fun p hp => by first | exact hp | simp_all) (by kernel_rfl) (by kernel_rfl) (by kernel_rfl)
  · have _hh := True.intro
    refine st_b 29 (show (decide (b < 0)) = false by exact decide_eq_false (by omega)) (by kernel_rfl) ?_
    by_cases k38 : b > 4294967295
    · refine st_b 38 (decide_eq_true k38) (by kernel_rfl) ?_
      exact st_retv Tryz.func50 (show Value.bool (false) = _ by (refine b_eq (decide_eq_false ?_).symm; unfold uOk pos8 neg8 cnt1 LIM; omega)) (by kernel_rfl)
    · refine st_b 38 (decide_eq_false k38) (by kernel_rfl) ?_
      refine st_b 44 (show (decide (b < -4294967295)) = false by exact decide_eq_false (by omega)) (by kernel_rfl) ?_
      refine st_i 14 .i64 (x' := 1 + 1) (Go.IntWalk.i64_in _ (by omega)) (by kernel_rfl) ?_
      refine st_forget [0,1,2,3,4,5,6,7,8,47,48,49,50,51,52,53,54,55,56,57,58,59] (by kernel_rfl) ?_
      exact st_back back0 ((1 + 1, true)) (by first | omega | (simp only []; omega) | (simp; omega)) (by first | (refine b_eq (decide_eq_false ?_).symm; unfold uOk pos8 neg8 cnt1 LIM; omega) | (refine b_eq (decide_eq_decide.2 ?_); rw [qt]; unfold uOk pos8 neg8 cnt1 LIM; omega) | omega | (simp only []; omega) | (simp; omega) | assumption | simp_all) (fun p hp => by first | exact hp | simp_all) (by kernel_rfl) (by kernel_rfl) (by kernel_rfl)
  · have _hh := True.intro
    by_cases k21 : c > 0
    · refine st_b 21 (decide_eq_true k21) (by kernel_rfl) ?_
      refine st_b 29 (show (decide (c < 0)) = false by exact decide_eq_false (by omega)) (by kernel_rfl) ?_
      by_cases k38 : c > 4294967295
      · refine st_b 38 (decide_eq_true k38) (by kernel_rfl) ?_
        exact st_retv Tryz.func50 (show Value.bool (false) = _ by (refine b_eq (decide_eq_false ?_).symm; unfold uOk pos8 neg8 cnt1 LIM; omega)) (by kernel_rfl)
      · refine st_b 38 (decide_eq_false k38) (by kernel_rfl) ?_
        refine st_b 44 (show (decide (c < -4294967295)) = false by exact decide_eq_false (by omega)) (by kernel_rfl) ?_
        refine st_i 14 .i64 (x' := 2 + 1) (Go.IntWalk.i64_in _ (by omega)) (by kernel_rfl) ?_
        refine st_forget [0,1,2,3,4,5,6,7,8,47,48,49,50,51,52,53,54,55,56,57,58,59] (by kernel_rfl) ?_
        exact st_back back0 ((2 + 1, true)) (by first | omega | (simp only []; omega) | (simp; omega)) (by first | (refine b_eq (decide_eq_false ?_).symm; unfold uOk pos8 neg8 cnt1 LIM; omega) | (refine b_eq (decide_eq_decide.2 ?_); rw [qt]; unfold uOk pos8 neg8 cnt1 LIM; omega) | omega | (simp only []; omega) | (simp; omega) | assumption | simp_all) (fun p hp => by first | exact hp | simp_all) (by kernel_rfl) (by kernel_rfl) (by kernel_rfl)
    · refine st_b 21 (decide_eq_false k21) (by kernel_rfl) ?_
      refine st_b 29 (show (decide (c < 0)) = false by exact decide_eq_false (by omega)) (by kernel_rfl) ?_
      refine st_b 38 (show (decide (c > 4294967295)) = false by exact decide_eq_false (by omega)) (by kernel_rfl) ?_
      refine st_b 44 (show (decide (c < -4294967295)) = false by exact decide_eq_false (by omega)) (by kernel_rfl) ?_
      refine st_i 14 .i64 (x' := 2 + 1) (Go.IntWalk.i64_in _ (by omega)) (by kernel_rfl) ?_
      refine st_forget [0,1,2,3,4,5,6,7,8,47,48,49,50,51,52,53,54,55,56,57,58,59] (by kernel_rfl) ?_
      exact st_back back0 ((2 + 1, false)) (by first | omega | (simp only []; omega) | (simp; omega)) (by first | (refine b_eq (decide_eq_false ?_).symm; unfold uOk pos8 neg8 cnt1 LIM; omega) | (refine b_eq (decide_eq_decide.2 ?_); rw [qt]; unfold uOk pos8 neg8 cnt1 LIM; omega) | omega | (simp only []; omega) | (simp; omega) | assumption | simp_all) (fun p hp => by first | exact hp | simp_all) (by kernel_rfl) (by kernel_rfl) (by kernel_rfl)
  · have _hh := True.intro
    refine st_b 29 (show (decide (c < 0)) = false by exact decide_eq_false (by omega)) (by kernel_rfl) ?_
    by_cases k38 : c > 4294967295
    · refine st_b 38 (decide_eq_true k38) (by kernel_rfl) ?_
      exact st_retv Tryz.func50 (show Value.bool (false) = _ by (refine b_eq (decide_eq_false ?_).symm; unfold uOk pos8 neg8 cnt1 LIM; omega)) (by kernel_rfl)
    · refine st_b 38 (decide_eq_false k38) (by kernel_rfl) ?_
      refine st_b 44 (show (decide (c < -4294967295)) = false by exact decide_eq_false (by omega)) (by kernel_rfl) ?_
      refine st_i 14 .i64 (x' := 2 + 1) (Go.IntWalk.i64_in _ (by omega)) (by kernel_rfl) ?_
      refine st_forget [0,1,2,3,4,5,6,7,8,47,48,49,50,51,52,53,54,55,56,57,58,59] (by kernel_rfl) ?_
      exact st_back back0 ((2 + 1, true)) (by first | omega | (simp only []; omega) | (simp; omega)) (by first | (refine b_eq (decide_eq_false ?_).symm; unfold uOk pos8 neg8 cnt1 LIM; omega) | (refine b_eq (decide_eq_decide.2 ?_); rw [qt]; unfold uOk pos8 neg8 cnt1 LIM; omega) | omega | (simp only []; omega) | (simp; omega) | assumption | simp_all) (fun p hp => by first | exact hp | simp_all) (by kernel_rfl) (by kernel_rfl) (by kernel_rfl)
  · have _hh := True.intro
    by_cases k21 : d > 0
    · refine st_b 21 (decide_eq_true k21) (by kernel_rfl) ?_
      refine st_b 29 (show (decide (d < 0)) = false by exact decide_eq_false (by omega)) (by kernel_rfl) ?_
      refine st_i 14 .i64 (x' := 3 + 1) (Go.IntWalk.i64_in _ (by omega)) (by kernel_rfl) ?_
      refine st_forget [0,1,2,3,4,5,6,7,8,47,48,49,50,51,52,53,54,55,56,57,58,59] (by kernel_rfl) ?_
      exact st_back back0 ((3 + 1, true)) (by first | omega | (simp only []; omega) | (simp; omega)) (by first | (refine b_eq (decide_eq_false ?_).symm; unfold uOk pos8 neg8 cnt1 LIM; omega) | (refine b_eq (decide_eq_decide.2 ?_); rw [qt]; unfold uOk pos8 neg8 cnt1 LIM; omega) | omega | (simp only []; omega) | (simp; omega) | assumption | simp_all) (fun p hp => by first | exact hp | simp_all) (by kernel_rfl) (by kernel_rfl) (by kernel_rfl)
    · refine st_b 21 (decide_eq_false k21) (by kernel_rfl) ?_
      refine st_b 29 (show (decide (d < 0)) = false by exact decide_eq_false (by omega)) (by kernel_rfl) ?_
      refine st_i 14 .i64 (x' := 3 + 1) (Go.IntWalk.i64_in _ (by omega)) (by kernel_rfl) ?_
      refine st_forget [0,1,2,3,4,5,6,7,8,47,48,49,50,51,52,53,54,55,56,57,58,59] (by kernel_rfl) ?_
      exact st_back back0 ((3 + 1, false)) (by first | omega | (simp only []; omega) | (simp; omega)) (by first | (refine b_eq (decide_eq_false ?_).symm; unfold uOk pos8 neg8 cnt1 LIM; omega) | (refine b_eq (decide_eq_decide.2 ?_); rw [qt]; unfold uOk pos8 neg8 cnt1 LIM; omega) | omega | (simp only []; omega) | (simp; omega) | assumption | simp_all) (fun p hp => by first | exact hp | simp_all) (by kernel_rfl) (by kernel_rfl) (by kernel_rfl)
  · have _hh := True.intro
    refine st_b 29 (show (decide (d < 0)) = false by exact decide_eq_false (by omega)) (by kernel_rfl) ?_
    refine st_i 14 .i64 (x' := 3 + 1) (Go.IntWalk.i64_in _ (by omega)) (by kernel_rfl) ?_
    refine st_forget [0,1,2,3,4,5,6,7,8,47,48,49,50,51,52,53,54,55,56,57,58,59] (by kernel_rfl) ?_
    exact st_back back0 ((3 + 1, true)) (by first | omega | (simp only []; omega) | (simp; omega)) (by first | (refine b_eq (decide_eq_false ?_).symm; unfold uOk pos8 neg8 cnt1 LIM; omega) | (refine b_eq (decide_eq_decide.2 ?_); rw [qt]; unfold uOk pos8 neg8 cnt1 LIM; omega) | omega | (simp only []; omega) | (simp; omega) | assumption | simp_all) (fun p hp => by first | exact hp | simp_all) (by kernel_rfl) (by kernel_rfl) (by kernel_rfl)
  · have _hh := True.intro
    by_cases k21 : h > 0
    · refine st_b 21 (decide_eq_true k21) (by kernel_rfl) ?_
      refine st_b 29 (show (decide (h < 0)) = false by exact decide_eq_false (by omega)) (by kernel_rfl) ?_
      refine st_i 14 .i64 (x' := 4 + 1) (Go.IntWalk.i64_in _ (by omega)) (by kernel_rfl) ?_
      refine st_forget [0,1,2,3,4,5,6,7,8,47,48,49,50,51,52,53,54,55,56,57,58,59] (by kernel_rfl) ?_
      exact st_back back0 ((4 + 1, true)) (by first | omega | (simp only []; omega) | (simp; omega)) (by first | (refine b_eq (decide_eq_false ?_).symm; unfold uOk pos8 neg8 cnt1 LIM; omega) | (refine b_eq (decide_eq_decide.2 ?_); rw [qt]; unfold uOk pos8 neg8 cnt1 LIM; omega) | omega | (simp only []; omega) | (simp; omega) | assumption | simp_all) (fun p hp => by first | exact hp | simp_all) (by kernel_rfl) (by kernel_rfl) (by kernel_rfl)
    · refine st_b 21 (decide_eq_false k21) (by kernel_rfl) ?_
      refine st_b 29 (show (decide (h < 0)) = false by exact decide_eq_false (by omega)) (by kernel_rfl) ?_
      refine st_i 14 .i64 (x' := 4 + 1) (Go.IntWalk.i64_in _ (by omega)) (by kernel_rfl) ?_
      refine st_forget [0,1,2,3,4,5,6,7,8,47,48,49,50,51,52,53,54,55,56,57,58,59] (by kernel_rfl) ?_
      exact st_back back0 ((4 + 1, false)) (by first | omega | (simp only []; omega) | (simp; omega)) (by first | (refine b_eq (decide_eq_false ?_).symm; unfold uOk pos8 neg8 cnt1 LIM; omega) | (refine b_eq (decide_eq_decide.2 ?_); rw [qt]; unfold uOk pos8 neg8 cnt1 LIM; omega) | omega | (simp only []; omega) | (simp; omega) | assumption | simp_all) (fun p hp => by first | exact hp | simp_all) (by kernel_rfl) (by kernel_rfl) (by kernel_rfl)
  · have _hh := True.intro
    refine st_b 29 (show (decide (h < 0)) = false by exact decide_eq_false (by omega)) (by kernel_rfl) ?_
    refine st_i 14 .i64 (x' := 4 + 1) (Go.IntWalk.i64_in _ (by omega)) (by kernel_rfl) ?_
    refine st_forget [0,1,2,3,4,5,6,7,8,47,48,49,50,51,52,53,54,55,56,57,58,59] (by kernel_rfl) ?_
    exact st_back back0 ((4 + 1, true)) (by first | omega | (simp only []; omega) | (simp; omega)) (by first | (refine b_eq (decide_eq_false ?_).symm; unfold uOk pos8 neg8 cnt1 LIM; omega) | (refine b_eq (decide_eq_decide.2 ?_); rw [qt]; unfold uOk pos8 neg8 cnt1 LIM; omega) | omega | (simp only []; omega) | (simp; omega) | assumption | simp_all) (fun p hp => by first | exact hp | simp_all) (by kernel_rfl) (by kernel_rfl) (by kernel_rfl)
  · have _hh := True.intro
    by_cases k21 : mi > 0
    · refine st_b 21 (decide_eq_true k21) (by kernel_rfl) ?_
      refine st_b 29 (show (decide (mi < 0)) = false by exact decide_eq_false (by omega)) (by kernel_rfl) ?_
      refine st_i 14 .i64 (x' := 5 + 1) (Go.IntWalk.i64_in _ (by omega)) (by kernel_rfl) ?_
      refine st_forget [0,1,2,3,4,5,6,7,8,47,48,49,50,51,52,53,54,55,56,57,58,59] (by kernel_rfl) ?_
      exact st_back back0 ((5 + 1, true)) (by first | omega | (simp only []; omega) | (simp; omega)) (by first | (refine b_eq (decide_eq_false ?_).symm; unfold uOk pos8 neg8 cnt1 LIM; omega) | (refine b_eq (decide_eq_decide.2 ?_); rw [qt]; unfold uOk pos8 neg8 cnt1 LIM; omega) | omega | (simp only []; omega) | (simp; omega) | assumption | simp_all) (fun p hp => by first | exact hp | simp_all) (by kernel_rfl) (by kernel_rfl) (by kernel_rfl)
    · refine st_b 21 (decide_eq_false k21) (by kernel_rfl) ?_
      refine st_b 29 (show (decide (mi < 0)) = false by exact decide_eq_false (by omega)) (by kernel_rfl) ?_
      refine st_i 14 .i64 (x' := 5 + 1) (Go.IntWalk.i64_in _ (by omega)) (by kernel_rfl) ?_
      refine st_forget [0,1,2,3,4,5,6,7,8,47,48,49,50,51,52,53,54,55,56,57,58,59] (by kernel_rfl) ?_
      exact st_back back0 ((5 + 1, false)) (by first | omega | (simp only []; omega) | (simp; omega)) (by first | (refine b_eq (decide_eq_false ?_).symm; unfold uOk pos8 neg8 cnt1 LIM; omega) | (refine b_eq (decide_eq_decide.2 ?_); rw [qt]; unfold uOk pos8 neg8 cnt1 LIM; omega) | omega | (simp only []; omega) | (simp; omega) | assumption | simp_all) (fun p hp => by first | exact hp | simp_all) (by kernel_rfl) (by kernel_rfl) (by kernel_rfl)
  · have _hh := True.intro
    refine st_b 29 (show (decide (mi < 0)) = false by exact decide_eq_false (by omega)) (by kernel_rfl) ?_
    refine st_i 14 .i64 (x' := 5 + 1) (Go.IntWalk.i64_in _ (by omega)) (by kernel_rfl) ?_
    refine st_forget [0,1,2,3,4,5,6,7,8,47,48,49,50,51,52,53,54,55,56,57,58,59] (by kernel_rfl) ?_
    exact st_back back0 ((5 + 1, true)) (by first | omega | (simp only []; omega) | (simp; omega)) (by first | (refine b_eq (decide_eq_false ?_).symm; unfold uOk pos8 neg8 cnt1 LIM; omega) | (refine b_eq (decide_eq_decide.2 ?_); rw [qt]; unfold uOk pos8 neg8 cnt1 LIM; omega) | omega | (simp only []; omega) | (simp; omega) | assumption | simp_all) (fun p hp => by first | exact hp | simp_all) (by kernel_rfl) (by kernel_rfl) (by kernel_rfl)
  · have _hh := True.intro
    by_cases k21 : s > 0
    · refine st_b 21 (decide_eq_true k21) (by kernel_rfl) ?_
      refine st_b 29 (show (decide (s < 0)) = false by exact decide_eq_false (by omega)) (by kernel_rfl) ?_
      refine st_i 14 .i64 (x' := 6 + 1) (Go.IntWalk.i64_in _ (by omega)) (by kernel_rfl) ?_
      refine st_forget [0,1,2,3,4,5,6,7,8,47,48,49,50,51,52,53,54,55,56,57,58,59] (by kernel_rfl) ?_
      exact st_back back0 ((6 + 1, true)) (by first | omega | (simp only []; omega) | (simp; omega)) (by first | (refine b_eq (decide_eq_false ?_).symm; unfold uOk pos8 neg8 cnt1 LIM; omega) | (refine b_eq (decide_eq_decide.2 ?_); rw [qt]; unfold uOk pos8 neg8 cnt1 LIM; omega) | omega | (simp only []; omega) | (simp; omega) | assumption | simp_all) (fun p hp => by first | exact hp | simp_all) (by kernel_rfl) (by kernel_rfl) (by kernel_rfl)
    · refine st_b 21 (decide_eq_false k21) (by kernel_rfl) ?_
      refine st_b 29 (show (decide (s < 0)) = false by exact decide_eq_false (by omega)) (by kernel_rfl) ?_
      refine st_i 14 .i64 (x' := 6 + 1) (Go.IntWalk.i64_in _ (by omega)) (by kernel_rfl) ?_
      refine st_forget [0,1,2,3,4,5,6,7,8,47,48,49,50,51,52,53,54,55,56,57,58,59] (by kernel_rfl) ?_
      exact st_back back0 ((6 + 1, false)) (by first | omega | (simp only []; omega) | (simp; omega)) (by first | (refine b_eq (decide_eq_false ?_).symm; unfold uOk pos8 neg8 cnt1 LIM; omega) | (refine b_eq (decide_eq_decide.2 ?_); rw [qt]; unfold uOk pos8 neg8 cnt1 LIM; omega) | omega | (simp only []; omega) | (simp; omega) | assumption | simp_all) (fun p hp => by first | exact hp | simp_all) (by kernel_rfl) (by kernel_rfl) (by kernel_rfl)
  · have _hh := True.intro
    refine st_b 29 (show (decide (s < 0)) = false by exact decide_eq_false (by omega)) (by kernel_rfl) ?_
    refine st_i 14 .i64 (x' := 6 + 1) (Go.IntWalk.i64_in _ (by omega)) (by kernel_rfl) ?_
    refine st_forget [0,1,2,3,4,5,6,7,8,47,48,49,50,51,52,53,54,55,56,57,58,59] (by kernel_rfl) ?_
    exact st_back back0 ((6 + 1, true)) (by first | omega | (simp only []; omega) | (simp; omega)) (by first | (refine b_eq (decide_eq_false ?_).symm; unfold uOk pos8 neg8 cnt1 LIM; omega) | (refine b_eq (decide_eq_decide.2 ?_); rw [qt]; unfold uOk pos8 neg8 cnt1 LIM; omega) | omega | (simp only []; omega) | (simp; omega) | assumption | simp_all) (fun p hp => by first | exact hp | simp_all) (by kernel_rfl) (by kernel_rfl) (by kernel_rfl)
  · have _hh := True.intro
    by_cases k21 : n > 0
    · refine st_b 21 (decide_eq_true k21) (by kernel_rfl) ?_
      refine st_b 29 (show (decide (n < 0)) = false by exact decide_eq_false (by omega)) (by kernel_rfl) ?_
      refine st_i 14 .i64 (x' := 7 + 1) (Go.IntWalk.i64_in _ (by omega)) (by kernel_rfl) ?_
      refine st_forget [0,1,2,3,4,5,6,7,8,47,48,49,50,51,52,53,54,55,56,57,58,59] (by kernel_rfl) ?_
      exact st_back back0 ((7 + 1, true)) (by first | omega | (simp only []; omega) | (simp; omega)) (by first | (refine b_eq (decide_eq_false ?_).symm; unfold uOk pos8 neg8 cnt1 LIM; omega) | (refine b_eq (decide_eq_decide.2 ?_); rw [qt]; unfold uOk pos8 neg8 cnt1 LIM; omega) | omega | (simp only []; omega) | (simp; omega) | assumption | simp_all) (fun p hp => by first | exact hp | simp_all) (by kernel_rfl) (by kernel_rfl) (by kernel_rfl)
    · refine st_b 21 (decide_eq_false k21) (by kernel_rfl) ?_
      refine st_b 29 (show (decide (n < 0)) = false by exact decide_eq_false (by omega)) (by kernel_rfl) ?_
      refine st_i 14 .i64 (x' := 7 + 1) (Go.IntWalk.i64_in _ (by omega)) (by kernel_rfl) ?_
      refine st_forget [0,1,2,3,4,5,6,7,8,47,48,49,50,51,52,53,54,55,56,57,58,59] (by kernel_rfl) ?_
      exact st_back back0 ((7 + 1, false)) (by first | omega | (simp only []; omega) | (simp; omega)) (by first | (refine b_eq (decide_eq_false ?_).symm; unfold uOk pos8 neg8 cnt1 LIM; omega) | (refine b_eq (decide_eq_decide.2 ?_); rw [qt]; unfold uOk pos8 neg8 cnt1 LIM; omega) | omega | (simp only []; omega) | (simp; omega) | assumption | simp_all) (fun p hp => by first | exact hp | simp_all) (by kernel_rfl) (by kernel_rfl) (by kernel_rfl)
  · have _hh := True.intro
    refine st_b 29 (show (decide (n < 0)) = false by exact decide_eq_false (by omega)) (by kernel_rfl) ?_
    refine st_i 14 .i64 (x' := 7 + 1) (Go.IntWalk.i64_in _ (by omega)) (by kernel_rfl) ?_
    refine st_forget [0,1,2,3,4,5,6,7,8,47,48,49,50,51,52,53,54,55,56,57,58,59] (by kernel_rfl) ?_
    exact st_back back0 ((7 + 1, true)) (by first | omega | (simp only []; omega) | (simp; omega)) (by first | (refine b_eq (decide_eq_false ?_).symm; unfold uOk pos8 neg8 cnt1 LIM; omega) | (refine b_eq (decide_eq_decide.2 ?_); rw [qt]; unfold uOk pos8 neg8 cnt1 LIM; omega) | omega | (simp only []; omega) | (simp; omega) | assumption | simp_all) (fun p hp => by first | exact hp | simp_all) (by kernel_rfl) (by kernel_rfl) (by kernel_rfl)
  · have _hh := True.intro
    refine st_g ent113 (ut) sub0 (by kernel_rfl) (fun zq2 => ?_)
    refine st_g ent112 (fa (zq2)) (subC 0 rfl sub0) (by kernel_rfl) (fun zq3 => ?_)
    refine st_g ent114 (zulimit) sub0 (by kernel_rfl) (fun zq4 => ?_)
    refine st_fn ent111 (fzcmp (zq3) (zq4) (X) (9007199254740992000000000) (by exact Bits.fit bX (by decide)) (by exact Bits.fit bl.bits (by decide))) (subC 1 rfl (subC 0 rfl sub0)) (by kernel_rfl) ?_
    exact st_retv Tryz.func50 (show Value.bool (decide (cmpI X 9007199254740992000000000 < 0)) = _ by (refine b_eq (decide_eq_decide.2 ?_); rw [qt]; unfold uOk pos8 neg8 cnt1 LIM; omega)) (by kernel_rfl)
  · have _hh := True.intro
    refine st_g ent113 (ut) sub0 (by kernel_rfl) (fun zq2 => ?_)
    refine st_g ent112 (fa (zq2)) (subC 0 rfl sub0) (by kernel_rfl) (fun zq3 => ?_)
    refine st_g ent114 (zulimit) sub0 (by kernel_rfl) (fun zq4 => ?_)
    refine st_fn ent111 (fzcmp (zq3) (zq4) (X) (9007199254740992000000000) (by exact Bits.fit bX (by decide)) (by exact Bits.fit bl.bits (by decide))) (subC 1 rfl (subC 0 rfl sub0)) (by kernel_rfl) ?_
    exact st_retv Tryz.func50 (show Value.bool (decide (cmpI X 9007199254740992000000000 < 0)) = _ by (refine b_eq (decide_eq_decide.2 ?_); rw [qt]; unfold uOk pos8 neg8 cnt1 LIM; omega)) (by kernel_rfl)
end
end Go.Proofs.YtccllfegnijpiaaGreat
end
section
/-
  Durations: what may be, as the reference reckons it: no field above 0.
-/
set_option linter.unusedVariables false
set_option maxRecDepth 100000
namespace Go.Proofs.YtccllfegnijpiaaGreat
open Go Go.RowKit Go.Ev

section
variable (a b c d h mi s n : Int)
theorem zuright_n (i : all64 a b c d h mi s n) (hk : neg8 a b c d h mi s n) : Fn 50 [] [duv a b c d h mi s n] (.bool (decide (uOk a b c d h mi s n))) := by
  obtain ⟨i1, i2, i3, i4, i5, i6, i7, i8⟩ := i
  have bt : W128 (dtot d h mi s n) := by unfold I64 at *; unfold W128 dtot; omega
  have bl : W128 9007199254740992000000000 := by unfold W128; omega
  have ut := zutot a b c d h mi s n i4 i5 i6 i7 i8
  obtain ⟨X, hX⟩ : ∃ X : Int, X = ((dtot d h mi s n).natAbs : Int) := ⟨_, rfl⟩
  have bX : Bits 128 X := by rw [hX]; exact bt.bits.abs
  have fa : ∀ p : ZQ, FnZ 112 [(p, dtot d h mi s n)] [zv p] zv X := fun p => by rw [hX]; exact fzabs p _ (bt.bits.fit (by decide))
  have qt := cmpI_lt0 (a := X) (b := 9007199254740992000000000)
  unfold neg8 at hk
  obtain ⟨k1, k2, k3, k4, k5, k6, k7, k8⟩ := hk
  refine fn_of Tryz.func50 rfl fun ww => ?_
  refine st_rowB ent110 (zufields (a) (b) (c) (d) (h) (mi) (s) (n)) (by kernel_rfl) ?_
  refine st_forget [0,1,3,4,5,6,7,8,47,48,49,50,51,52,53,54,55,56,57,58,59] (by kernel_rfl) ?_
  refine st_loop (X := Int × Bool) (fun x => ([SV.val (Value.agg #[vI64 a,vI64 b,vI64 c,vI64 d,vI64 h,vI64 mi,vI64 s,vI64 n]),SV.ptr 0 0,.any,SV.sl 1 0 8 8,.val (.bool false),.val (.bool x.2),.val (.int .i64 x.1),SV.val (Value.agg #[vI64 a,vI64 b,vI64 c,vI64 d,vI64 h,vI64 mi,vI64 s,vI64 n]),SV.sl 1 0 8 8,.any,.any,.any,.any,.any,.any,.any,.any,.any,.any,.any,.any,.any,.any,.any,.any,.any,.any,.any,.any,.any,.any,.any,.any,.any,.any,.any,.any,.any,.any,.any,.any,.any,.any,.any,.any,.any,.any,svZ,svZ,svZ,svZ,svZ,svZ,svZ,svZ,svZ,svZ,svZ,svZ,svZ],[⟨[SV.val (vI64 a),SV.val (vI64 b),SV.val (vI64 c),SV.val (vI64 d),SV.val (vI64 h),SV.val (vI64 mi),SV.val (vI64 s),SV.val (vI64 n)],43⟩,⟨[SV.val (vI64 a),SV.val (vI64 b),SV.val (vI64 c),SV.val (vI64 d),SV.val (vI64 h),SV.val (vI64 mi),SV.val (vI64 s),SV.val (vI64 n)],2⟩])) (fun _ => _) (fun k => 0 ≤ k.1 ∧ k.1 ≤ 8 ∧ (0 < k.1 → -4294967295 ≤ a ∧ a ≤ 4294967295) ∧ (1 < k.1 → -4294967295 ≤ b ∧ b ≤ 4294967295) ∧ (2 < k.1 → -4294967295 ≤ c ∧ c ≤ 4294967295)) (fun k => (8 - k.1).toNat) ((0,false)) (by kernel_rfl) (by kernel_rfl) Sub.refl (by first | omega | (simp; omega) | assumption | simp_all) (fun x px0 back0 => ?_)
  rcases x with ⟨y0_0, y0_1⟩
  simp only at px0
  (have hk0 : y0_0 = 0 ∨ y0_0 = 1 ∨ y0_0 = 2 ∨ y0_0 = 3 ∨ y0_0 = 4 ∨ y0_0 = 5 ∨ y0_0 = 6 ∨ y0_0 = 7 ∨ y0_0 = 8 := (by omega); rcases hk0 with rfl | rfl | rfl | rfl | rfl | rfl | rfl | rfl | rfl <;> rcases y0_1 with _ | _)
  · have _hh := True.intro
    refine st_b 21 (show (decide (a > 0)) = false by exact decide_eq_false (by omega)) (by kernel_rfl) ?_
    by_cases k29 : a < 0
    · refine st_b 29 (decide_eq_true k29) (by kernel_rfl) ?_
      refine st_b 38 (show (decide (a > 4294967295)) = false by exact decide_eq_false (by omega)) (by kernel_rfl) ?_
      by_cases k44 : a < -4294967295
      · refine st_b 44 (decide_eq_true k44) (by kernel_rfl) ?_
        exact st_retv Tryz.func50 (show Value.bool (false) = _ by (refine b_eq (decide_eq_false ?_).symm; unfold uOk pos8 neg8 cnt1 LIM; omega)) (by kernel_rfl)
      · refine st_b 44 (decide_eq_false k44) (by kernel_rfl) ?_
        refine st_i 14 .i64 (x' := 0 + 1) (Go.IntWalk.i64_in _ (by omega)) (by kernel_rfl) ?_
        refine st_forget [0,1,2,3,4,5,6,7,8,47,48,49,50,51,52,53,54,55,56,57,58,59] (by kernel_rfl) ?_
        exact st_back back0 ((0 + 1, true)) (by first | omega | (simp only []; omega) | (simp; omega)) (by first | (refine b_eq (decide_eq_false ?_).symm; unfold uOk pos8 neg8 cnt1 LIM; omega) | (refine b_eq (decide_eq_decide.2 ?_); rw [qt]; unfold uOk pos8 neg8 cnt1 LIM; omega) | omega | (simp only []; omega) | (simp; omega) | assumption | simp_all) (fun p hp => by first | exact hp | simp_all) (by kernel_rfl) (by kernel_rfl) (by kernel_rfl)
    · refine st_b 29 (decide_eq_false k29) (by kernel_rfl) ?_
      refine st_b 38 (show (decide (a > 4294967295)) = false by exact decide_eq_false (by omega)) (by kernel_rfl) ?_
      refine st_b 44 (show (decide (a < -4294967295)) = false by exact decide_eq_false (by omega)) (by kernel_rfl) ?_
      refine st_i 14 .i64 (x' := 0 + 1) (Go.IntWalk.i64_in _ (by omega)) (by kernel_rfl) ?_
      refine st_forget [0,1,2,3,4,5,6,7,8,47,48,49,50,51,52,53,54,55,56,57,58,59] (by kernel_rfl) ?_
      exact st_back back0 ((0 + 1, false)) (by first | omega | (simp only []; omega) | (simp; omega)) (by first | (refine b_eq (decide_eq_false ?_).symm; unfold uOk pos8 neg8 cnt1 LIM; omega) | (refine b_eq (decide_eq_decide.2 ?_); rw [qt]; unfold uOk pos8 neg8 cnt1 LIM; omega) | omega | (simp only []; omega) | (simp; omega) | assumption | simp_all) (fun p hp => by first | exact hp | simp_all) (by kernel_rfl) (by kernel_rfl) (by kernel_rfl)
  · have _hh := True.intro
    refine st_b 21 (show (decide (a > 0)) = false by exact decide_eq_false (by omega)) (by kernel_rfl) ?_
    refine st_b 38 (show (decide (a > 4294967295)) = false by exact decide_eq_false (by omega)) (by kernel_rfl) ?_
    by_cases k44 : a < -4294967295
    · refine st_b 44 (decide_eq_true k44) (by kernel_rfl) ?_
      exact st_retv Tryz.func50 (show Value.bool (false) = _ by (refine b_eq (decide_eq_false ?_).symm; unfold uOk pos8 neg8 cnt1 LIM; omega)) (by kernel_rfl)
    · refine st_b 44 (decide_eq_false k44) (by kernel_rfl) ?_
      refine st_i 14 .i64 (x' := 0 + 1) (Go.IntWalk.i64_in _ (by omega)) (by kernel_rfl) ?_
      refine st_forget [0,1,2,3,4,5,6,7,8,47,48,49,50,51,52,53,54,55,56,57,58,59] (by kernel_rfl) ?_
      exact st_back back0 ((0 + 1, true)) (by first | omega | (simp only []; omega) | (simp; omega)) (by first | (refine b_eq (decide_eq_false ?_).symm; unfold uOk pos8 neg8 cnt1 LIM; omega) | (refine b_eq (decide_eq_decide.2 ?_); rw [qt]; unfold uOk pos8 neg8 cnt1 LIM; omega) | omega | (simp only []; omega) | (simp; omega) | assumption | simp_all) (fun p hp => by first | exact hp | simp_all) (by kernel_rfl) (by kernel_rfl) (by kernel_rfl)
  · have _hh := True.intro
    refine st_b 21 (show (decide (b > 0)) = false by exact decide_eq_false (by omega)) (by kernel_rfl) ?_
    by_cases k29 : b < 0
    · refine st_b 29 (decide_eq_true k29) (by kernel_rfl) ?_
      refine st_b 38 (show (decide (b > 4294967295)) = false by exact decide_eq_false (by omega)) (by kernel_rfl) ?_
      by_cases k44 : b < -4294967295
      · refine st_b 44 (decide_eq_true k44) (by kernel_rfl) ?_
        exact st_retv Tryz.func50 (show Value.bool (false) = _ by (refine b_eq (decide_eq_false ?_).symm; unfold uOk pos8 neg8 cnt1 LIM; omega)) (by kernel_rfl)
      · refine st_b 44 (decide_eq_false k44) (by kernel_rfl) ?_
        refine st_i 14 .i64 (x' := 1 + 1) (Go.IntWalk.i64_in _ (by omega)) (by kernel_rfl) ?_
        refine st_forget [0,1,2,3,4,5,6,7,8,47,48,49,50,51,52,53,54,55,56,57,58,59] (by kernel_rfl) ?_
        exact st_back back0 ((1 + 1, true)) (by first | omega | (simp only []; omega) | (simp; omega)) (by first | (refine b_eq (decide_eq_false ?_).symm; unfold uOk pos8 neg8 cnt1 LIM; omega) | (refine b_eq (decide_eq_decide.2 ?_); rw [qt]; unfold uOk pos8 neg8 cnt1 LIM; omega) | omega | (simp only []; omega) | (simp; omega) | assumption | simp_all) (fun p hp => by first | exact hp | simp_all) (by kernel_rfl) (by kernel_rfl) (by kernel_rfl)
    · refine st_b 29 (decide_eq_false k29) (by kernel_rfl) ?_
      refine st_b 38 (show (decide (b > 4294967295)) = false by exact decide_eq_false (by omega)) (by kernel_rfl) ?_
      refine st_b 44 (show (decide (b < -4294967295)) = false by exact decide_eq_false (by omega)) (by kernel_rfl) ?_
      refine st_i 14 .i64 (x' := 1 + 1) (Go.IntWalk.i64_in _ (by omega)) (by kernel_rfl) ?_
      refine st_forget [0,1,2,3,4,5,6,7,8,47,48,49,50,51,52,53,54,55,56,57,58,59] (by kernel_rfl) ?_
      exact st_back back0 ((1 + 1, false)) (by first | omega | (simp only []; omega) | (simp; omega)) (by first | (refine b_eq (decide_eq_false ?_).symm; unfold uOk pos8 neg8 cnt1 LIM; omega) | (refine b_eq (decide_eq_decide.2 ?_); rw [qt]; unfold uOk pos8 neg8 cnt1 LIM; omega) | omega | (simp only []; omega) | (simp; omega) | assumption | simp_all) (fun p hp => by first | exact hp | simp_all) (by kernel_rfl) (by kernel_rfl) (by kernel_rfl)
  · have _hh := True.intro
    refine st_b 21 (show (decide (b > 0)) = false by exact decide_eq_false (by omega)) (by kernel_rfl) ?_
    refine st_b 38 (show (decide (b > 4294967295)) = false by exact decide_eq_false (by omega)) (by kernel_rfl) ?_
    by_cases k44 : b < -4294967295
    · refine st_b 44 (decide_eq_true k44) (by kernel_rfl) ?_
      exact st_retv Tryz.func50 (show Value.bool (false) = _ by (refine b_eq (decide_eq_false ?_).symm; unfold uOk pos8 neg8 cnt1 LIM; omega)) (by kernel_rfl)
    · refine st_b 44 (decide_eq_false k44) (by kernel_rfl) ?_
      refine st_i 14 .i64 (x' := 1 + 1) (Go.IntWalk.i64_in _ (by omega)) (by kernel_rfl) ?_
      refine st_forget [0,1,2,3,4,5,6,7,8,47,48,49,50,51,52,53,54,55,56,57,58,59] (by kernel_rfl) ?_
      exact st_back back0 ((1 + 1, true)) (by first | omega | (simp only []; omega) | (simp; omega)) (by first | (refine b_eq (decide_eq_false ?_).symm; unfold uOk pos8 neg8 cnt1 LIM; omega) | (refine b_eq (decide_eq_decide.2 ?_); rw [qt]; unfold uOk pos8 neg8 cnt1 LIM; omega) | omega | (simp only []; omega) | (simp; omega) | assumption | simp_all) (fun p hp => by first | exact hp | simp_all) (by kernel_rfl) (by kernel_rfl) (by kernel_rfl)
  · have _hh := True.intro
    refine st_b 21 (show (decide (c > 0)) = false by exact decide_eq_false (by omega)) (by kernel_rfl) ?_
    by_cases k29 : c < 0
    · refine st_b 29 (decide_eq_true k29) (by kernel_rfl) ?_
      refine st_b 38 (show (decide (c > 4294967295)) = false by exact decide_eq_false (by omega)) (by kernel_rfl) ?_
      by_cases k44 : c < -4294967295
      · refine st_b 44 (decide_eq_true k44) (by kernel_rfl) ?_
        exact st_retv Tryz.func50 (show Value.bool (false) = _ by (refine b_eq (decide_eq_false ?_).symm; unfold uOk pos8 neg8 cnt1 LIM; omega)) (by kernel_rfl)
      · refine st_b 44 (decide_eq_false k44) (by kernel_rfl) ?_
        refine st_i 14 .i64 (x' := 2 + 1) (Go.IntWalk.i64_in _ (by omega)) (by kernel_rfl) ?_
        refine st_forget [0,1,2,3,4,5,6,7,8,47,48,49,50,51,52,53,54,55,56,57,58,59] (by kernel_rfl) ?_
        exact st_back back0 ((2 + 1, true)) (by first | omega | (simp only []; omega) | (simp; omega)) (by first | (refine b_eq (decide_eq_false ?_).symm; unfold uOk pos8 neg8 cnt1 LIM; omega) | (refine b_eq (decide_eq_decide.2 ?_); rw [qt]; unfold uOk pos8 neg8 cnt1 LIM; omega) | omega | (simp only []; omega) | (simp; omega) | assumption | simp_all) (fun p hp => by first | exact hp | simp_all) (by kernel_rfl) (by kernel_rfl) (by kernel_rfl)
    · refine st_b 29 (decide_eq_false k29) (by kernel_rfl) ?_
      refine st_b 38 (show (decide (c > 4294967295)) = false by exact decide_eq_false (by omega)) (by kernel_rfl) ?_
      refine st_b 44 (show (decide (c < -4294967295)) = false by exact decide_eq_false (by omega)) (by kernel_rfl) ?_
      refine st_i 14 .i64 (x' := 2 + 1) (Go.IntWalk.i64_in _ (by omega)) (by kernel_rfl) ?_
      refine st_forget [0,1,2,3,4,5,6,7,8,47,48,49,50,51,52,53,54,55,56,57,58,59] (by kernel_rfl) ?_
      exact st_back back0 ((2 + 1, false)) (by first | omega | (simp only []; omega) | (simp; omega)) (by first | (refine b_eq (decide_eq_false ?_).symm; unfold uOk pos8 neg8 cnt1 LIM; omega) | (refine b_eq (decide_eq_decide.2 ?_); rw [qt]; unfold uOk pos8 neg8 cnt1 LIM; omega) | omega | (simp only []; omega) | (simp; omega) | assumption | simp_all) (fun p hp => by first | exact hp | simp_all) (by kernel_rfl) (by kernel_rfl) (by kernel_rfl)
  · have _hh := True.intro
    refine st_b 21 (show (decide (c > 0)) = false by exact decide_eq_false (by omega)) (by kernel_rfl) ?_
    refine st_b 38 (show (decide (c > 4294967295)) = false by exact decide_eq_false (by omega)) (by kernel_rfl) ?_
    by_cases k44 : c < -4294967295
    · refine st_b 44 (decide_eq_true k44) (by kernel_rfl) ?_
      exact st_retv Tryz.func50 (show Value.bool (false) = _ by (refine b_eq (decide_eq_false ?_).symm; unfold uOk pos8 neg8 cnt1 LIM; omega)) (by kernel_rfl)
    · refine st_b 44 (decide_eq_false k44) (by kernel_rfl) ?_
      refine st_i 14 .i64 (x' := 2 + 1) (Go.IntWalk.i64_in _ (by omega)) (by kernel_rfl) ?_
      refine st_forget [0,1,2,3,4,5,6,7,8,47,48,49,50,51,52,53,54,55,56,57,58,59] (by kernel_rfl) ?_
      exact st_back back0 ((2 + 1, true)) (by first | omega | (simp only []; omega) | (simp; omega)) (by first | (refine b_eq (decide_eq_false ?_).symm; unfold uOk pos8 neg8 cnt1 LIM; omega) | (refine b_eq (decide_eq_decide.2 ?_); rw [qt]; unfold uOk pos8 neg8 cnt1 LIM; omega) | omega | (simp only []; omega) | (simp; omega) | assumption | simp_all) (fun p hp => by first | exact hp | simp_all) (by kernel_rfl) (by kernel_rfl) (by kernel_rfl)
  · have _hh := True.intro
    refine st_b 21 (show (decide (d > 0)) = false by exact decide_eq_false (by omega)) (by kernel_rfl) ?_
    by_cases k29 : d < 0
    · refine st_b 29 (decide_eq_true k29) (by kernel_rfl) ?_
      refine st_i 14 .i64 (x' := 3 + 1) (Go.IntWalk.i64_in _ (by omega)) (by kernel_rfl) ?_
      refine st_forget [0,1,2,3,4,5,6,7,8,47,48,49,50,51,52,53,54,55,56,57,58,59] (by kernel_rfl) ?_
      exact st_back back0 ((3 + 1, true)) (by first | omega | (simp only []; omega) | (simp; omega)) (by first | (refine b_eq (decide_eq_false ?_).symm; unfold uOk pos8 neg8 cnt1 LIM; omega) | (refine b_eq (decide_eq_decide.2 ?_); rw [qt]; unfold uOk pos8 neg8 cnt1 LIM; omega) | omega | (simp only []; omega) | (simp; omega) | assumption | simp_all) (fun p hp => by first | exact hp | simp_all) (by kernel_rfl) (by kernel_rfl) (by kernel_rfl)
    · refine st_b 29 (decide_eq_false k29) (by kernel_rfl) ?_
      refine st_i 14 .i64 (x' := 3 + 1) (Go.IntWalk.i64_in _ (by omega)) (by kernel_rfl) ?_
      refine st_forget [0,1,2,3,4,5,6,7,8,47,48,49,50,51,52,53,54,55,56,57,58,59] (by kernel_rfl) ?_
      exact st_back back0 ((3 + 1, false)) (by first | omega | (simp only []; omega) | (simp; omega)) (by first | (refine b_eq (decide_eq_false ?_).symm; unfold uOk pos8 neg8 cnt1 LIM; omega) | (refine b_eq (decide_eq_decide.2 ?_); rw [qt]; unfold uOk pos8 neg8 cnt1 LIM; omega) | omega | (simp only []; omega) | (simp; omega) | assumption | simp_all) (fun p hp => by first | exact hp | simp_all) (by kernel_rfl) (by kernel_rfl) (by kernel_rfl)
  · have _hh := True.intro
    refine st_b 21 (show (decide (d > 0)) = false by exact decide_eq_false (by omega)) (by kernel_rfl) ?_
    refine st_i 14 .i64 (x' := 3 + 1) (Go.IntWalk.i64_in _ (by omega)) (by kernel_rfl) ?_
    refine st_forget [0,1,2,3,4,5,6,7,8,47,48,49,50,51,52,53,54,55,56,57,58,59] (by kernel_rfl) ?_
    exact st_back back0 ((3 + 1, true)) (by first | omega | (simp only []; omega) | (simp; omega)) (by first | (refine b_eq (decide_eq_false ?_).symm; unfold uOk pos8 neg8 cnt1 LIM; omega) | (refine b_eq (decide_eq_decide.2 ?_); rw [qt]; unfold uOk pos8 neg8 cnt1 LIM; omega) | omega | (simp only []; omega) | (simp; omega) | assumption | simp_all) (fun p hp => by first | exact hp | simp_all) (by kernel_rfl) (by kernel_rfl) (by kernel_rfl)
  · have _hh := True.intro
    refine st_b 21 (show (decide (h > 0)) = false by exact decide_eq_false (by omega)) (by kernel_rfl) ?_
    by_cases k29 : h < 0
    · refine st_b 29 (decide_eq_true k29) (by kernel_rfl) ?_
      refine st_i 14 .i64 (x' := 4 + 1) (Go.IntWalk.i64_in _ (by omega)) (by kernel_rfl) ?_
      refine st_forget [0,1,2,3,4,5,6,7,8,47,48,49,50,51,52,53,54,55,56,57,58,59] (by kernel_rfl) ?_
      exact st_back back0 ((4 + 1, true)) (by first | omega | (simp only []; omega) | (simp; omega)) (by first | (refine b_eq (decide_eq_false ?_).symm; unfold uOk pos8 neg8 cnt1 LIM; omega) | (refine b_eq (decide_eq_decide.2 ?_); rw [qt]; unfold uOk pos8 neg8 cnt1 LIM; omega) | omega | (simp only []; omega) | (simp; omega) | assumption | simp_all) (fun p hp => by first | exact hp | simp_all) (by kernel_rfl) (by kernel_rfl) (by kernel_rfl)
    · refine st_b 29 (decide_eq_false k29) (by kernel_rfl) ?_
      refine st_i 14 .i64 (x' := 4 + 1) (Go.IntWalk.i64_in _ (by omega)) (by kernel_rfl) ?_
      refine st_forget [0,1,2,3,4,5,6,7,8,47,48,49,50,51,52,53,54,55,56,57,58,59] (by kernel_rfl) ?_
      exact st_back back0 ((4 + 1, false)) (by first | omega | (simp only []; omega) | (simp; omega)) (by first | (refine b_eq (decide_eq_false ?_).symm; unfold uOk pos8 neg8 cnt1 LIM; omega) | (refine b_eq (decide_eq_decide.2 ?_); rw [qt]; unfold uOk pos8 neg8 cnt1 LIM; omega) | omega | (simp only []; omega) | (simp; omega) | assumption | simp_all) (fun p hp => by first | exact hp | simp_all) (by kernel_rfl) (by kernel_rfl) (by kernel_rfl)
  · have _hh := True.intro
    refine st_b 21 (show (decide (h > 0)) = false by exact decide_eq_false (by omega)) (by kernel_rfl) ?_
    refine st_i 14 .i64 (x' := 4 + 1) (Go.IntWalk.i64_in _ (by omega)) (by kernel_rfl) ?_
    refine st_forget [0,1,2,3,4,5,6,7,8,47,48,49,50,51,52,53,54,55,56,57,58,59] (by kernel_rfl) ?_
    exact st_back back0 ((4 + 1, true)) (by first | omega | (simp only []; omega) | (simp; omega)) (by first | (refine b_eq (decide_eq_false ?_).symm; unfold uOk pos8 neg8 cnt1 LIM; omega) | (refine b_eq (decide_eq_decide.2 ?_); rw [qt]; unfold uOk pos8 neg8 cnt1 LIM; omega) | omega | (simp only []; omega) | (simp; omega) | assumption | simp_all) (fun p hp => by first | exact hp | simp_all) (by kernel_rfl) (by kernel_rfl) (by kernel_rfl)
  · have _hh := True.intro
    refine st_b 21 (show (decide (mi > 0)) = false by exact decide_eq_false (by omega)) (by kernel_rfl) ?_
    by_cases k29 : mi < 0
    · refine st_b 29 (decide_eq_true k29) (by kernel_rfl) ?_
      refine st_i 14 .i64 (x' := 5 + 1) (Go.IntWalk.i64_in _ (by omega)) (by kernel_rfl) ?_
      refine st_forget [0,1,2,3,4,5,6,7,8,47,48,49,50,51,52,53,54,55,56,57,58,59] (by kernel_rfl) ?_
      exact st_back back0 ((5 + 1, true)) (by first | omega | (simp only []; omega) | (simp; omega)) (by first | (refine b_eq (decide_eq_false ?_).symm; unfold uOk pos8 neg8 cnt1 LIM; omega) | (refine b_eq (decide_eq_decide.2 ?_); rw [qt]; unfold uOk pos8 neg8 cnt1 LIM; omega) | omega | (simp only []; omega) | (simp; omega) | assumption | simp_all) (fun p hp => by first | exact hp | simp_all) (by kernel_rfl) (by kernel_rfl) (by kernel_rfl)
    · refine st_b 29 (decide_eq_false k29) (by kernel_rfl) ?_
      refine st_i 14 .i64 (x' := 5 + 1) (Go.IntWalk.i64_in _ (by omega)) (by kernel_rfl) ?_
      refine st_forget [0,1,2,3,4,5,6,7,8,47,48,49,50,51,52,53,54,55,56,57,58,59] (by kernel_rfl) ?_
      exact st_back back0 ((5 + 1, false)) (by first | omega | (simp only []; omega) | (simp; omega)) (by first | (refine b_eq (decide_eq_false ?_).symm; unfold uOk pos8 neg8 cnt1 LIM; omega) | (refine b_eq (decide_eq_decide.2 ?_); rw [qt]; unfold uOk pos8 neg8 cnt1 LIM; omega) | omega | (simp only []; omega) | (simp; omega) | assumption | simp_all) (fun p hp => by first | exact hp | simp_all) (by kernel_rfl) (by kernel_rfl) (by kernel_rfl)
  · have _hh := True.intro
    refine st_b 21 (show (decide (mi > 0)) = false by exact decide_eq_false (by omega)) (by kernel_rfl) ?_
    refine st_i 14 .i64 (x' := 5 + 1) (Go.IntWalk.i64_in _ (by omega)) (by kernel_rfl) ?_
    refine st_forget [0,1,2,3,4,5,6,7,8,47,48,49,50,51,52,53,54,55,56,57,58,59] (by kernel_rfl) ?_
    exact st_back back0 ((5 + 1, true)) (by first | omega | (simp only []; omega) | (simp; omega)) (by first | (refine b_eq (decide_eq_false ?_).symm; unfold uOk pos8 neg8 cnt1 LIM; omega) | (refine b_eq (decide_eq_decide.2 ?_); rw [qt]; unfold uOk pos8 neg8 cnt1 LIM; omega) | omega | (simp only []; omega) | (simp; omega) | assumption | simp_all) (fun p hp => by first | exact hp | simp_all) (by kernel_rfl) (by kernel_rfl) (by kernel_rfl)
  · have _hh := True.intro
    refine st_b 21 (show (decide (s > 0)) = false by exact decide_eq_false (by omega)) (by kernel_rfl) ?_
    by_cases k29 : s < 0
    · refine st_b 29 (decide_eq_true k29) (by kernel_rfl) ?_
      refine st_i 14 .i64 (x' := 6 + 1) (Go.IntWalk.i64_in _ (by omega)) (by kernel_rfl) ?_
      refine st_forget [0,1,2,3,4,5,6,7,8,47,48,49,50,51,52,53,54,55,56,57,58,59] (by kernel_rfl) ?_
      exact st_back back0 ((6 + 1, true)) (by first | omega | (simp only []; omega) | (simp; omega)) (by first | (refine b_eq (decide_eq_false ?_).symm; unfold uOk pos8 neg8 cnt1 LIM; omega) | (refine b_eq (decide_eq_decide.2 ?_); rw [qt]; unfold uOk pos8 neg8 cnt1 LIM; omega) | omega | (simp only []; omega) | (simp; omega) | assumption | simp_all) (fun p hp => by first | exact hp | simp_all) (by kernel_rfl) (by kernel_rfl) (by kernel_rfl)
    · refine st_b 29 (decide_eq_false k29) (by kernel_rfl) ?_
      refine st_i 14 .i64 (x' := 6 + 1) (Go.IntWalk.i64_in _ (by omega)) (by kernel_rfl) ?_
      refine st_forget [0,1,2,3,4,5,6,7,8,47,48,49,50,51,52,53,54,55,56,57,58,59] (by kernel_rfl) ?_
      exact st_back back0 ((6 + 1, false)) (by first | omega | (simp only []; omega) | (simp; omega)) (by first | (refine b_eq (decide_eq_false ?_).symm; unfold uOk pos8 neg8 cnt1 LIM; omega) | (refine b_eq (decide_eq_decide.2 ?_); rw [qt]; unfold uOk pos8 neg8 cnt1 LIM; omega) | omega | (simp only []; omega) | (simp; omega) | assumption | simp_all) (fun p hp => by first | exact hp | simp_all) (by kernel_rfl) (by kernel_rfl) (by kernel_rfl)
  · have _hh := True.intro
    refine st_b 21 (show (decide (s > 0)) = false by exact decide_eq_false (by omega)) (by kernel_rfl) ?_
    refine st_i 14 .i64 (x' := 6 + 1) (Go.IntWalk.i64_in _ (by omega)) (by kernel_rfl) ?_
    refine st_forget [0,1,2,3,4,5,6,7,8,47,48,49,50,51,52,53,54,55,56,57,58,59] (by kernel_rfl) ?_
    exact st_back back0 ((6 + 1, true)) (by first | omega | (simp only []; omega) | (simp; omega)) (by first | (refine b_eq (decide_eq_false ?_).symm; unfold uOk pos8 neg8 cnt1 LIM; omega) | (refine b_eq (decide_eq_decide.2 ?_); rw [qt]; unfold uOk pos8 neg8 cnt1 LIM; omega) | omega | (simp only []; omega) | (simp; omega) | assumption | simp_all) (fun p hp => by first | exact hp | simp_all) (by kernel_rfl) (by kernel_rfl) (by kernel_rfl)
  · have _hh := True.intro
    refine st_b 21 (show (decide (n > 0)) = false by exact decide_eq_false (by omega)) (by kernel_rfl) ?_
    by_cases k29 : n < 0
    · refine st_b 29 (decide_eq_true k29) (by kernel_rfl) ?_
      refine st_i 14 .i64 (x' := 7 + 1) (Go.IntWalk.i64_in _ (by omega)) (by kernel_rfl) ?_
      refine st_forget [0,1,2,3,4,5,6,7,8,47,48,49,50,51,52,53,54,55,56,57,58,59] (by kernel_rfl) ?_
      exact st_back back0 ((7 + 1, true)) (by first | omega | (simp only []; omega) | (simp; omega)) (by first | (refine b_eq (decide_eq_false ?_).symm; unfold uOk pos8 neg8 cnt1 LIM; omega) | (refine b_eq (decide_eq_decide.2 ?_); rw [qt]; unfold uOk pos8 neg8 cnt1 LIM; omega) | omega | (simp only []; omega) | (simp; omega) | assumption | simp_all) (fun p hp => by first | exact hp | simp_all) (by kernel_rfl) (by kernel_rfl) (by kernel_rfl)
    · refine st_b 29 (decide_eq_false k29) (by kernel_rfl) ?_
      refine st_i 14 .i64 (x' := 7 + 1) (Go.IntWalk.i64_in _ (by omega)) (by kernel_rfl) ?_
      refine st_forget [0,1,2,3,4,5,6,7,8,47,48,49,50,51,52,53,54,55,56,57,58,59] (by kernel_rfl) ?_
      exact st_back back0 ((7 + 1, false)) (by first | omega | (simp only []; omega) | (simp; omega)) (by first | (refine b_eq (decide_eq_false ?_).symm; unfold uOk pos8 neg8 cnt1 LIM; omega) | (refine b_eq (decide_eq_decide.2 ?_); rw [qt]; unfold uOk pos8 neg8 cnt1 LIM; omega) | omega | (simp only []; omega) | (simp; omega) | assumption | simp_all) (fun p hp => by first | exact hp | simp_all) (by kernel_rfl) (by kernel_rfl) (by kernel_rfl)
  · have _hh := True.intro
    refine st_b 21 (show (decide (n > 0)) = false by exact decide_eq_false (by omega)) (by kernel_rfl) ?_
    refine st_i 14 .i64 (x' := 7 + 1) (Go.IntWalk.i64_in _ (by omega)) (by kernel_rfl) ?_
    refine st_forget [0,1,2,3,4,5,6,7,8,47,48,49,50,51,52,53,54,55,56,57,58,59] (by kernel_rfl) ?_
    exact st_back back0 ((7 + 1, true)) (by first | omega | (simp only []; omega) | (simp; omega)) (by first | (refine b_eq (decide_eq_false ?_).symm; unfold uOk pos8 neg8 cnt1 LIM; omega) | (refine b_eq (decide_eq_decide.2 ?_); rw [qt]; unfold uOk pos8 neg8 cnt1 LIM; omega) | omega | (simp only []; omega) | (simp; omega) | assumption | simp_all) (fun p hp => by first | exact hp | simp_all) (by kernel_rfl) (by kernel_rfl) (by kernel_rfl)
  · have _hh := True.intro
    refine st_g ent113 (ut) sub0 (by kernel_rfl) (fun zq2 => ?_)
    refine st_g ent112 (fa (zq2)) (subC 0 rfl sub0) (by kernel_rfl) (fun zq3 => ?_)
    refine st_g ent114 (zulimit) sub0 (by kernel_rfl) (fun zq4 => ?_)
    refine st_fn ent111 (fzcmp (zq3) (zq4) (X) (9007199254740992000000000) (by exact Bits.fit bX (by decide)) (by exact Bits.fit bl.bits (by decide))) (subC 1 rfl (subC 0 rfl sub0)) (by kernel_rfl) ?_
    exact st_retv Tryz.func50 (show Value.bool (decide (cmpI X 9007199254740992000000000 < 0)) = _ by (refine b_eq (decide_eq_decide.2 ?_); rw [qt]; unfold uOk pos8 neg8 cnt1 LIM; omega)) (by kernel_rfl)
  · have _hh := True.intro
    refine st_g ent113 (ut) sub0 (by kernel_rfl) (fun zq2 => ?_)
    refine st_g ent112 (fa (zq2)) (subC 0 rfl sub0) (by kernel_rfl) (fun zq3 => ?_)
    refine st_g ent114 (zulimit) sub0 (by kernel_rfl) (fun zq4 => ?_)
    refine st_fn ent111 (fzcmp (zq3) (zq4) (X) (9007199254740992000000000) (by exact Bits.fit bX (by decide)) (by exact Bits.fit bl.bits (by decide))) (subC 1 rfl (subC 0 rfl sub0)) (by kernel_rfl) ?_
    exact st_retv Tryz.func50 (show Value.bool (decide (cmpI X 9007199254740992000000000 < 0)) = _ by (refine b_eq (decide_eq_decide.2 ?_); rw [qt]; unfold uOk pos8 neg8 cnt1 LIM; omega)) (by kernel_rfl)
end
end Go.Proofs.YtccllfegnijpiaaGreat
end
section
/-
  Durations: what may be, as the reference reckons it: fields of both signs.
-/
set_option linter.unusedVariables false
set_option linter.unusedSimpArgs false
set_option maxRecDepth 100000
namespace Go.Proofs.YtccllfegnijpiaaGreat
open Go Go.RowKit Go.Ev

section
variable (a b c d h mi s n : Int)
set_option maxHeartbeats 3200000 in
theorem zuright_m (i : all64 a b c d h mi s n) (hP : ¬ pos8 a b c d h mi s n) (hN : ¬ neg8 a b c d h mi s n) : Fn 50 [] [duv a b c d h mi s n] (.bool (decide (uOk a b c d h mi s n))) := by
  obtain ⟨i1, i2, i3, i4, i5, i6, i7, i8⟩ := i
  have bt : W128 (dtot d h mi s n) := by unfold I64 at *; unfold W128 dtot; omega
  have bl : W128 9007199254740992000000000 := by unfold W128; omega
  have ut := zutot a b c d h mi s n i4 i5 i6 i7 i8
  obtain ⟨X, hX⟩ : ∃ X : Int, X = ((dtot d h mi s n).natAbs : Int) := ⟨_, rfl⟩
  have bX : Bits 128 X := by rw [hX]; exact bt.bits.abs
  have fa : ∀ p : ZQ, FnZ 112 [(p, dtot d h mi s n)] [zv p] zv X := fun p => by rw [hX]; exact fzabs p _ (bt.bits.fit (by decide))
  have qt := cmpI_lt0 (a := X) (b := 9007199254740992000000000)
  refine fn_of Tryz.func50 rfl fun ww => ?_
  refine st_rowB ent110 (zufields (a) (b) (c) (d) (h) (mi) (s) (n)) (by kernel_rfl) ?_
  refine st_forget [0,1,3,4,5,6,7,8,47,48,49,50,51,52,53,54,55,56,57,58,59] (by kernel_rfl) ?_
  refine st_loop (X := Int × Bool × Bool) (fun x => ([SV.val (Value.agg #[vI64 a,vI64 b,vI64 c,vI64 d,vI64 h,vI64 mi,vI64 s,vI64 n]),SV.ptr 0 0,.any,SV.sl 1 0 8 8,.val (.bool x.2.1),.val (.bool x.2.2),.val (.int .i64 x.1),SV.val (Value.agg #[vI64 a,vI64 b,vI64 c,vI64 d,vI64 h,vI64 mi,vI64 s,vI64 n]),SV.sl 1 0 8 8,.any,.any,.any,.any,.any,.any,.any,.any,.any,.any,.any,.any,.any,.any,.any,.any,.any,.any,.any,.any,.any,.any,.any,.any,.any,.any,.any,.any,.any,.any,.any,.any,.any,.any,.any,.any,.any,.any,svZ,svZ,svZ,svZ,svZ,svZ,svZ,svZ,svZ,svZ,svZ,svZ,svZ],[⟨[SV.val (vI64 a),SV.val (vI64 b),SV.val (vI64 c),SV.val (vI64 d),SV.val (vI64 h),SV.val (vI64 mi),SV.val (vI64 s),SV.val (vI64 n)],43⟩,⟨[SV.val (vI64 a),SV.val (vI64 b),SV.val (vI64 c),SV.val (vI64 d),SV.val (vI64 h),SV.val (vI64 mi),SV.val (vI64 s),SV.val (vI64 n)],2⟩])) (fun _ => _) (fun k => 0 ≤ k.1 ∧ k.1 ≤ 8 ∧ (k.2.1 = false → (0 < k.1 → a ≤ 0) ∧ (1 < k.1 → b ≤ 0) ∧ (2 < k.1 → c ≤ 0) ∧ (3 < k.1 → d ≤ 0) ∧ (4 < k.1 → h ≤ 0) ∧ (5 < k.1 → mi ≤ 0) ∧ (6 < k.1 → s ≤ 0) ∧ (7 < k.1 → n ≤ 0)) ∧ (k.2.2 = false → (0 < k.1 → 0 ≤ a) ∧ (1 < k.1 → 0 ≤ b) ∧ (2 < k.1 → 0 ≤ c) ∧ (3 < k.1 → 0 ≤ d) ∧ (4 < k.1 → 0 ≤ h) ∧ (5 < k.1 → 0 ≤ mi) ∧ (6 < k.1 → 0 ≤ s) ∧ (7 < k.1 → 0 ≤ n))) (fun k => (8 - k.1).toNat) ((0,false,false)) (by kernel_rfl) (by kernel_rfl) Sub.refl (by first | omega | (simp; omega) | assumption | simp_all) (fun x px0 back0 => ?_)
  rcases x with ⟨y0_0, y0_1, y0_2⟩
  simp only at px0
  (have hk0 : y0_0 = 0 ∨ y0_0 = 1 ∨ y0_0 = 2 ∨ y0_0 = 3 ∨ y0_0 = 4 ∨ y0_0 = 5 ∨ y0_0 = 6 ∨ y0_0 = 7 ∨ y0_0 = 8 := (by omega); rcases hk0 with rfl | rfl | rfl | rfl | rfl | rfl | rfl | rfl | rfl <;> rcases y0_1 with _ | _ <;> rcases y0_2 with _ | _ <;> simp only [reduceCtorEq, false_implies, true_implies, true_and, and_true, forall_const] at px0)
  · have _hh := True.intro
    by_cases k21 : a > 0
    · refine st_b 21 (decide_eq_true k21) (by kernel_rfl) ?_
      refine st_b 29 (show (decide (a < 0)) = false by exact decide_eq_false (by omega)) (by kernel_rfl) ?_
      by_cases k38 : a > 4294967295
      · refine st_b 38 (decide_eq_true k38) (by kernel_rfl) ?_
        exact st_retv Tryz.func50 (show Value.bool (false) = _ by (exact b_eq (decide_eq_false (fun z => z.1.elim hP hN)).symm)) (by kernel_rfl)
      · refine st_b 38 (decide_eq_false k38) (by kernel_rfl) ?_
        refine st_b 44 (show (decide (a < -4294967295)) = false by exact decide_eq_false (by omega)) (by kernel_rfl) ?_
        refine st_i 14 .i64 (x' := 0 + 1) (Go.IntWalk.i64_in _ (by omega)) (by kernel_rfl) ?_
        refine st_forget [0,1,2,3,4,5,6,7,8,47,48,49,50,51,52,53,54,55,56,57,58,59] (by kernel_rfl) ?_
        exact st_back back0 ((0 + 1, true, false)) (by first | omega | (simp only []; omega) | (simp; omega)) (by first | (simp only [reduceCtorEq, false_implies, true_implies, true_and, and_true, forall_const]; omega) | (exact b_eq (decide_eq_false (fun z => z.1.elim hP hN)).symm) | (exact absurd (show neg8 a b c d h mi s n by unfold neg8; omega) hN) | (exact absurd (show pos8 a b c d h mi s n by unfold pos8; omega) hP) | omega | (simp only []; omega) | (simp; omega) | assumption | simp_all) (fun p hp => by first | exact hp | simp_all) (by kernel_rfl) (by kernel_rfl) (by kernel_rfl)
    · refine st_b 21 (decide_eq_false k21) (by kernel_rfl) ?_
      by_cases k29 : a < 0
      · refine st_b 29 (decide_eq_true k29) (by kernel_rfl) ?_
        refine st_b 38 (show (decide (a > 4294967295)) = false by exact decide_eq_false (by omega)) (by kernel_rfl) ?_
        by_cases k44 : a < -4294967295
        · refine st_b 44 (decide_eq_true k44) (by kernel_rfl) ?_
          exact st_retv Tryz.func50 (show Value.bool (false) = _ by (exact b_eq (decide_eq_false (fun z => z.1.elim hP hN)).symm)) (by kernel_rfl)
        · refine st_b 44 (decide_eq_false k44) (by kernel_rfl) ?_
          refine st_i 14 .i64 (x' := 0 + 1) (Go.IntWalk.i64_in _ (by omega)) (by kernel_rfl) ?_
          refine st_forget [0,1,2,3,4,5,6,7,8,47,48,49,50,51,52,53,54,55,56,57,58,59] (by kernel_rfl) ?_
          exact st_back back0 ((0 + 1, false, true)) (by first | omega | (simp only []; omega) | (simp; omega)) (by first | (simp only [reduceCtorEq, false_implies, true_implies, true_and, and_true, forall_const]; omega) | (exact b_eq (decide_eq_false (fun z => z.1.elim hP hN)).symm) | (exact absurd (show neg8 a b c d h mi s n by unfold neg8; omega) hN) | (exact absurd (show pos8 a b c d h mi s n by unfold pos8; omega) hP) | omega | (simp only []; omega) | (simp; omega) | assumption | simp_all) (fun p hp => by first | exact hp | simp_all) (by kernel_rfl) (by kernel_rfl) (by kernel_rfl)
      · refine st_b 29 (decide_eq_false k29) (by kernel_rfl) ?_
        refine st_b 38 (show (decide (a > 4294967295)) = false by exact decide_eq_false (by omega)) (by kernel_rfl) ?_
        refine st_b 44 (show (decide (a < -4294967295)) = false by exact decide_eq_false (by omega)) (by kernel_rfl) ?_
        refine st_i 14 .i64 (x' := 0 + 1) (Go.IntWalk.i64_in _ (by omega)) (by kernel_rfl) ?_
        refine st_forget [0,1,2,3,4,5,6,7,8,47,48,49,50,51,52,53,54,55,56,57,58,59] (by kernel_rfl) ?_
        exact st_back back0 ((0 + 1, false, false)) (by first | omega | (simp only []; omega) | (simp; omega)) (by first | (simp only [reduceCtorEq, false_implies, true_implies, true_and, and_true, forall_const]; omega) | (exact b_eq (decide_eq_false (fun z => z.1.elim hP hN)).symm) | (exact absurd (show neg8 a b c d h mi s n by unfold neg8; omega) hN) | (exact absurd (show pos8 a b c d h mi s n by unfold pos8; omega) hP) | omega | (simp only []; omega) | (simp; omega) | assumption | simp_all) (fun p hp => by first | exact hp | simp_all) (by kernel_rfl) (by kernel_rfl) (by kernel_rfl)
  · have _hh := True.intro
    by_cases k21 : a > 0
    · refine st_b 21 (decide_eq_true k21) (by kernel_rfl) ?_
      by_cases k38 : a > 4294967295
      · refine st_b 38 (decide_eq_true k38) (by kernel_rfl) ?_
        exact st_retv Tryz.func50 (show Value.bool (false) = _ by (exact b_eq (decide_eq_false (fun z => z.1.elim hP hN)).symm)) (by kernel_rfl)
      · refine st_b 38 (decide_eq_false k38) (by kernel_rfl) ?_
        refine st_b 44 (show (decide (a < -4294967295)) = false by exact decide_eq_false (by omega)) (by kernel_rfl) ?_
        refine st_i 14 .i64 (x' := 0 + 1) (Go.IntWalk.i64_in _ (by omega)) (by kernel_rfl) ?_
        refine st_forget [0,1,2,3,4,5,6,7,8,47,48,49,50,51,52,53,54,55,56,57,58,59] (by kernel_rfl) ?_
        exact st_back back0 ((0 + 1, true, true)) (by first | omega | (simp only []; omega) | (simp; omega)) (by first | (simp only [reduceCtorEq, false_implies, true_implies, true_and, and_true, forall_const]; omega) | (exact b_eq (decide_eq_false (fun z => z.1.elim hP hN)).symm) | (exact absurd (show neg8 a b c d h mi s n by unfold neg8; omega) hN) | (exact absurd (show pos8 a b c d h mi s n by unfold pos8; omega) hP) | omega | (simp only []; omega) | (simp; omega) | assumption | simp_all) (fun p hp => by first | exact hp | simp_all) (by kernel_rfl) (by kernel_rfl) (by kernel_rfl)
    · refine st_b 21 (decide_eq_false k21) (by kernel_rfl) ?_
      refine st_b 38 (show (decide (a > 4294967295)) = false by exact decide_eq_false (by omega)) (by kernel_rfl) ?_
      by_cases k44 : a < -4294967295
      · refine st_b 44 (decide_eq_true k44) (by kernel_rfl) ?_
        exact st_retv Tryz.func50 (show Value.bool (false) = _ by (exact b_eq (decide_eq_false (fun z => z.1.elim hP hN)).symm)) (by kernel_rfl)
      · refine st_b 44 (decide_eq_false k44) (by kernel_rfl) ?_
        refine st_i 14 .i64 (x' := 0 + 1) (Go.IntWalk.i64_in _ (by omega)) (by kernel_rfl) ?_
        refine st_forget [0,1,2,3,4,5,6,7,8,47,48,49,50,51,52,53,54,55,56,57,58,59] (by kernel_rfl) ?_
        exact st_back back0 ((0 + 1, false, true)) (by first | omega | (simp only []; omega) | (simp; omega)) (by first | (simp only [reduceCtorEq, false_implies, true_implies, true_and, and_true, forall_const]; omega) | (exact b_eq (decide_eq_false (fun z => z.1.elim hP hN)).symm) | (exact absurd (show neg8 a b c d h mi s n by unfold neg8; omega) hN) | (exact absurd (show pos8 a b c d h mi s n by unfold pos8; omega) hP) | omega | (simp only []; omega) | (simp; omega) | assumption | simp_all) (fun p hp => by first | exact hp | simp_all) (by kernel_rfl) (by kernel_rfl) (by kernel_rfl)
  · have _hh := True.intro
    by_cases k29 : a < 0
    · refine st_b 29 (decide_eq_true k29) (by kernel_rfl) ?_
      refine st_b 38 (show (decide (a > 4294967295)) = false by exact decide_eq_false (by omega)) (by kernel_rfl) ?_
      by_cases k44 : a < -4294967295
      · refine st_b 44 (decide_eq_true k44) (by kernel_rfl) ?_
        exact st_retv Tryz.func50 (show Value.bool (false) = _ by (exact b_eq (decide_eq_false (fun z => z.1.elim hP hN)).symm)) (by kernel_rfl)
      · refine st_b 44 (decide_eq_false k44) (by kernel_rfl) ?_
        refine st_i 14 .i64 (x' := 0 + 1) (Go.IntWalk.i64_in _ (by omega)) (by kernel_rfl) ?_
        refine st_forget [0,1,2,3,4,5,6,7,8,47,48,49,50,51,52,53,54,55,56,57,58,59] (by kernel_rfl) ?_
        exact st_back back0 ((0 + 1, true, true)) (by first | omega | (simp only []; omega) | (simp; omega)) (by first | (simp only [reduceCtorEq, false_implies, true_implies, true_and, and_true, forall_const]; omega) | (exact b_eq (decide_eq_false (fun z => z.1.elim hP hN)).symm) | (exact absurd (show neg8 a b c d h mi s n by unfold neg8; omega) hN) | (exact absurd (show pos8 a b c d h mi s n by unfold pos8; omega) hP) | omega | (simp only []; omega) | (simp; omega) | assumption | simp_all) (fun p hp => by first | exact hp | simp_all) (by kernel_rfl) (by kernel_rfl) (by kernel_rfl)
    · refine st_b 29 (decide_eq_false k29) (by kernel_rfl) ?_
      by_cases k38 : a > 4294967295
      · refine st_b 38 (decide_eq_true k38) (by kernel_rfl) ?_
        exact st_retv Tryz.func50 (show Value.bool (false) = _ by (exact b_eq (decide_eq_false (fun z => z.1.elim hP hN)).symm)) (by kernel_rfl)
      · refine st_b 38 (decide_eq_false k38) (by kernel_rfl) ?_
        refine st_b 44 (show (decide (a < -4294967295)) = false by exact decide_eq_false (by omega)) (by kernel_rfl) ?_
        refine st_i 14 .i64 (x' := 0 + 1) (Go.IntWalk.i64_in _ (by omega)) (by kernel_rfl) ?_
        refine st_forget [0,1,2,3,4,5,6,7,8,47,48,49,50,51,52,53,54,55,56,57,58,59] (by kernel_rfl) ?_
        exact st_back back0 ((0 + 1, true, false)) (by first | omega | (simp only []; omega) | (simp; omega)) (by first | (simp only [reduceCtorEq, false_implies, true_implies, true_and, and_true, forall_const]; omega) | (exact b_eq (decide_eq_false (fun z => z.1.elim hP hN)).symm) | (exact absurd (show neg8 a b c d h mi s n by unfold neg8; omega) hN) | (exact absurd (show pos8 a b c d h mi s n by unfold pos8; omega) hP) | omega | (simp only []; omega) | (simp; omega) | assumption | simp_all) (fun p hp => by first | exact hp | simp_all) (by kernel_rfl) (by kernel_rfl) (by kernel_rfl)
  · have _hh := True.intro
    by_cases k38 : a > 4294967295
    · refine st_b 38 (decide_eq_true k38) (by kernel_rfl) ?_
      exact st_retv Tryz.func50 (show Value.bool (false) = _ by (exact b_eq (decide_eq_false (fun z => z.1.elim hP hN)).symm)) (by kernel_rfl)
    · refine st_b 38 (decide_eq_false k38) (by kernel_rfl) ?_
      by_cases k44 : a < -4294967295
      · refine st_b 44 (decide_eq_true k44) (by kernel_rfl) ?_
        exact st_retv Tryz.func50 (show Value.bool (false) = _ by (exact b_eq (decide_eq_false (fun z => z.1.elim hP hN)).symm)) (by kernel_rfl)
      · refine st_b 44 (decide_eq_false k44) (by kernel_rfl) ?_
        refine st_i 14 .i64 (x' := 0 + 1) (Go.IntWalk.i64_in _ (by omega)) (by kernel_rfl) ?_
        refine st_forget [0,1,2,3,4,5,6,7,8,47,48,49,50,51,52,53,54,55,56,57,58,59] (by kernel_rfl) ?_
        exact st_back back0 ((0 + 1, true, true)) (by first | omega | (simp only []; omega) | (simp; omega)) (by first | (simp only [reduceCtorEq, false_implies, true_implies, true_and, and_true, forall_const]; omega) | (exact b_eq (decide_eq_false (fun z => z.1.elim hP hN)).symm) | (exact absurd (show neg8 a b c d h mi s n by unfold neg8; omega) hN) | (exact absurd (show pos8 a b c d h mi s n by unfold pos8; omega) hP) | omega | (simp only []; omega) | (simp; omega) | assumption | simp_all) (fun p hp => by first | exact hp | simp_all) (by kernel_rfl) (by kernel_rfl) (by kernel_rfl)
  · have _hh := True.intro
    by_cases k21 : b > 0
    · refine st_b 21 (decide_eq_true k21) (by kernel_rfl) ?_
      refine st_b 29 (show (decide (b < 0)) = false by exact decide_eq_false (by omega)) (by kernel_rfl) ?_
      by_cases k38 : b > 4294967295
      · refine st_b 38 (decide_eq_true k38) (by kernel_rfl) ?_
        exact st_retv Tryz.func50 (show Value.bool (false) = _ by (exact b_eq (decide_eq_false (fun z => z.1.elim hP hN)).symm)) (by kernel_rfl)
      · refine st_b 38 (decide_eq_false k38) (by kernel_rfl) ?_
        refine st_b 44 (show (decide (b < -4294967295)) = false by exact decide_eq_false (by omega)) (by kernel_rfl) ?_
        refine st_i 14 .i64 (x' := 1 + 1) (Go.IntWalk.i64_in _ (by omega)) (by kernel_rfl) ?_
        refine st_forget [0,1,2,3,4,5,6,7,8,47,48,49,50,51,52,53,54,55,56,57,58,59] (by kernel_rfl) ?_
        exact st_back back0 ((1 + 1, true, false)) (by first | omega | (simp only []; omega) | (simp; omega)) (by first | (simp only [reduceCtorEq, false_implies, true_implies, true_and, and_true, forall_const]; omega) | (exact b_eq (decide_eq_false (fun z => z.1.elim hP hN)).symm) | (exact absurd (show neg8 a b c d h mi s n by unfold neg8; omega) hN) | (exact absurd (show pos8 a b c d h mi s n by unfold pos8; omega) hP) | omega | (simp only []; omega) | (simp; omega) | assumption | simp_all) (fun p hp => by first | exact hp | simp_all) (by kernel_rfl) (by kernel_rfl) (by kernel_rfl)
    · refine st_b 21 (decide_eq_false k21) (by kernel_rfl) ?_
      by_cases k29 : b < 0
      · refine st_b 29 (decide_eq_true k29) (by kernel_rfl) ?_
        refine st_b 38 (show (decide (b > 4294967295)) = false by exact decide_eq_false (by omega)) (by kernel_rfl) ?_
        by_cases k44 : b < -4294967295
        · refine st_b 44 (decide_eq_true k44) (by kernel_rfl) ?_
          exact st_retv Tryz.func50 (show Value.bool (false) = _ by (exact b_eq (decide_eq_false (fun z => z.1.elim hP hN)).symm)) (by kernel_rfl)
        · refine st_b 44 (decide_eq_false k44) (by kernel_rfl) ?_
          refine st_i 14 .i64 (x' := 1 + 1) (Go.IntWalk.i64_in _ (by omega)) (by kernel_rfl) ?_
          refine st_forget [0,1,2,3,4,5,6,7,8,47,48,49,50,51,52,53,54,55,56,57,58,59] (by kernel_rfl) ?_
          exact st_back back0 ((1 + 1, false, true)) (by first | omega | (simp only []; omega) | (simp; omega)) (by first | (simp only [reduceCtorEq, false_implies, true_implies, true_and, and_true, forall_const]; omega) | (exact b_eq (decide_eq_false (fun z => z.1.elim hP hN)).symm) | (exact absurd (show neg8 a b c d h mi s n by unfold neg8; omega) hN) | (exact absurd (show pos8 a b c d h mi s n by unfold pos8; omega) hP) | omega | (simp only []; omega) | (simp; omega) | assumption | simp_all) (fun p hp => by first | exact hp | simp_all) (by kernel_rfl) (by kernel_rfl) (by kernel_rfl)
      · refine st_b 29 (decide_eq_false k29) (by kernel_rfl) ?_
        refine st_b 38 (show (decide (b > 4294967295)) = false by exact decide_eq_false (by omega)) (by kernel_rfl) ?_
        refine st_b 44 (show (decide (b < -4294967295)) = false by exact decide_eq_false (by omega)) (by kernel_rfl) ?_
        refine st_i 14 .i64 (x' := 1 + 1) (Go.IntWalk.i64_in _ (by omega)) (by kernel_rfl) ?_
        refine st_forget [0,1,2,3,4,5,6,7,8,47,48,49,50,51,52,53,54,55,56,57,58,59] (by kernel_rfl) ?_
        exact st_back back0 ((1 + 1, false, false)) (by first | omega | (simp only []; omega) | (simp; omega)) (by first | (simp only [reduceCtorEq, false_implies, true_implies, true_and, and_true, forall_const]; omega) | (exact b_eq (decide_eq_false (fun z => z.1.elim hP hN)).symm) | (exact absurd (show neg8 a b c d h mi s n by unfold neg8; omega) hN) | (exact absurd (show pos8 a b c d h mi s n by unfold pos8; omega) hP) | omega | (simp only []; omega) | (simp; omega) | assumption | simp_all) (fun p hp => by first | exact hp | simp_all) (by kernel_rfl) (by kernel_rfl) (by kernel_rfl)
  · have _hh := True.intro
    by_cases k21 : b > 0
    · refine st_b 21 (decide_eq_true k21) (by kernel_rfl) ?_
      by_cases k38 : b > 4294967295
      · refine st_b 38 (decide_eq_true k38) (by kernel_rfl) ?_
        exact st_retv Tryz.func50 (show Value.bool (false) = _ by (exact b_eq (decide_eq_false (fun z => z.1.elim hP hN)).symm)) (by kernel_rfl)
      · refine st_b 38 (decide_eq_false k38) (by kernel_rfl) ?_
        refine st_b 44 (show (decide (b < -4294967295)) = false by exact decide_eq_false (by omega)) (by kernel_rfl) ?_
        refine st_i 14 .i64 (x' := 1 + 1) (Go.IntWalk.i64_in _ (by omega)) (by kernel_rfl) ?_
        refine st_forget [0,1,2,3,4,5,6,7,8,47,48,49,50,51,52,53,54,55,56,57,58,59] (by kernel_rfl) ?_
        exact st_back back0 ((1 + 1, true, true)) (by first | omega | (simp only []; omega) | (simp; omega)) (by first | (simp only [reduceCtorEq, false_implies, true_implies, true_and, and_true, forall_const]; omega) | (exact b_eq (decide_eq_false (fun z => z.1.elim hP hN)).symm) | (exact absurd (show neg8 a b c d h mi s n by unfold neg8; omega) hN) | (exact absurd (show pos8 a b c d h mi s n by unfold pos8; omega) hP) | omega | (simp only []; omega) | (simp; omega) | assumption | simp_all) (fun p hp => by first | exact hp | simp_all) (by kernel_rfl) (by kernel_rfl) (by kernel_rfl)
    · refine st_b 21 (decide_eq_false k21) (by kernel_rfl) ?_
      refine st_b 38 (show (decide (b > 4294967295)) = false by exact decide_eq_false (by omega)) (by kernel_rfl) ?_
      by_cases k44 : b < -4294967295
      · refine st_b 44 (decide_eq_true k44) (by kernel_rfl) ?_
        exact st_retv Tryz.func50 (show Value.bool (false) = _ by (exact b_eq (decide_eq_false (fun z => z.1.elim hP hN)).symm)) (by kernel_rfl)
      · refine st_b 44 (decide_eq_false k44) (by kernel_rfl) ?_
        refine st_i 14 .i64 (x' := 1 + 1) (Go.IntWalk.i64_in _ (by omega)) (by kernel_rfl) ?_
        refine st_forget [0,1,2,3,4,5,6,7,8,47,48,49,50,51,52,53,54,55,56,57,58,59] (by kernel_rfl) ?_
        exact st_back back0 ((1 + 1, false, true)) (by first | omega | (simp only []; omega) | (simp; omega)) (by first | (simp only [reduceCtorEq, false_implies, true_implies, true_and, and_true, forall_const]; omega) | (exact b_eq (decide_eq_false (fun z => z.1.elim hP hN)).symm) | (exact absurd (show neg8 a b c d h mi s n by unfold neg8; omega) hN) | (exact absurd (show pos8 a b c d h mi s n by unfold pos8; omega) hP) | omega | (simp only []; omega) | (simp; omega) | assumption | simp_all) (fun p hp => by first | exact hp | simp_all) (by kernel_rfl) (by kernel_rfl) (by kernel_rfl)
  · have _hh := True.intro
    by_cases k29 : b < 0
    · refine st_b 29 (decide_eq_true k29) (by kernel_rfl) ?_
      refine st_b 38 (show (decide (b > 4294967295)) = false by exact decide_eq_false (by omega)) (by kernel_rfl) ?_
      by_cases k44 : b < -4294967295
      · refine st_b 44 (decide_eq_true k44) (by kernel_rfl) ?_
        exact st_retv Tryz.func50 (show Value.bool (false) = _ by (exact b_eq (decide_eq_false (fun z => z.1.elim hP hN)).symm)) (by kernel_rfl)
      · refine st_b 44 (decide_eq_false k44) (by kernel_rfl) ?_
        refine st_i 14 .i64 (x' := 1 + 1) (Go.IntWalk.i64_in _ (by omega)) (by kernel_rfl) ?_
        refine st_forget [0,1,2,3,4,5,6,7,8,47,48,49,50,51,52,53,54,55,56,57,58,59] (by kernel_rfl) ?_
        exact st_back back0 ((1 + 1, true, true)) (by first | omega | (simp only []; omega) | (simp; omega)) (by first | (simp only [reduceCtorEq, false_implies, true_implies, true_and, and_true, forall_const]; omega) | (exact b_eq (decide_eq_false (fun z => z.1.elim hP hN)).symm) | (exact absurd (show neg8 a b c d h mi s n by unfold neg8; omega) hN) | (exact absurd (show pos8 a b c d h mi s n by unfold pos8; omega) hP) | omega | (simp only []; omega) | (simp; omega) | assumption | simp_all) (fun p hp => by first | exact hp | simp_all) (by kernel_rfl) (by kernel_rfl) (by kernel_rfl)
    · refine st_b 29 (decide_eq_false k29) (by kernel_rfl) ?_
      by_cases k38 : b > 4294967295
      · refine st_b 38 (decide_eq_true k38) (by kernel_rfl) ?_
        exact st_retv Tryz.func50 (show Value.bool (false) = _ by (exact b_eq (decide_eq_false (fun z => z.1.elim hP hN)).symm)) (by kernel_rfl)
      · refine st_b 38 (decide_eq_false k38) (by kernel_rfl) ?_
        refine st_b 44 (show (decide (b < -4294967295)) = false by exact decide_eq_false (by omega)) (by kernel_rfl) ?_
        refine st_i 14 .i64 (x' := 1 + 1) (Go.IntWalk.i64_in _ (by omega)) (by kernel_rfl) ?_
        refine st_forget [0,1,2,3,4,5,6,7,8,47,48,49,50,51,52,53,54,55,56,57,58,59] (by kernel_rfl) ?_
        exact st_back back0 ((1 + 1, true, false)) (by first | omega | (simp only []; omega) | (simp; omega)) (by first | (simp only [reduceCtorEq, false_implies, true_implies, true_and, and_true, forall_const]; omega) | (exact b_eq (decide_eq_false (fun z => z.1.elim hP hN)).symm) | (exact absurd (show neg8 a b c d h mi s n by unfold neg8; omega) hN) | (exact absurd (show pos8 a b c d h mi s n by unfold pos8; omega) hP) | omega | (simp only []; omega) | (simp; omega) | assumption | simp_all) (fun p hp => by first | exact hp | simp_all) (by kernel_rfl) (by kernel_rfl) (by kernel_rfl)
  · have _hh := True.intro
    by_cases k38 : b > 4294967295
    · refine st_b 38 (decide_eq_true k38) (by kernel_rfl) ?_
      exact st_retv Tryz.func50 (show Value.bool (false) = _ by (exact b_eq (decide_eq_false (fun z => z.1.elim hP hN)).symm)) (by kernel_rfl)
    · refine st_b 38 (decide_eq_false k38) (by kernel_rfl) ?_
      by_cases k44 : b < -4294967295
      · refine st_b 44 (decide_eq_true k44) (by kernel_rfl) ?_
        exact st_retv Tryz.func50 (show Value.bool (false) = _ by (exact b_eq (decide_eq_false (fun z => z.1.elim hP hN)).symm)) (by kernel_rfl)
      · refine st_b 44 (decide_eq_false k44) (by kernel_rfl) ?_
        refine st_i 14 .i64 (x' := 1 + 1) (Go.IntWalk.i64_in _ (by omega)) (by kernel_rfl) ?_
        refine st_forget [0,1,2,3,4,5,6,7,8,47,48,49,50,51,52,53,54,55,56,57,58,59] (by kernel_rfl) ?_
        exact st_back back0 ((1 + 1, true, true)) (by first | omega | (simp only []; omega) | (simp; omega)) (by first | (simp only [reduceCtorEq, false_implies, true_implies, true_and, and_true, forall_const]; omega) | (exact b_eq (decide_eq_false (fun z => z.1.elim hP hN)).symm) | (exact absurd (show neg8 a b c d h mi s n by unfold neg8; omega) hN) | (exact absurd (show pos8 a b c d h mi s n by unfold pos8; omega) hP) | omega | (simp only []; omega) | (simp; omega) | assumption | simp_all) (fun p hp => by first | exact hp | simp_all) (by kernel_rfl) (by kernel_rfl) (by kernel_rfl)
  · have _hh := True.intro
    by_cases k21 : c > 0
    · refine st_b 21 (decide_eq_true k21) (by kernel_rfl) ?_
      refine st_b 29 (show (decide (c < 0)) = false by exact decide_eq_false (by omega)) (by kernel_rfl) ?_
      by_cases k38 : c > 4294967295
      · refine st_b 38 (decide_eq_true k38) (by kernel_rfl) ?_
        exact st_retv Tryz.func50 (show Value.bool (false) = _ by (exact b_eq (decide_eq_false (fun z => z.1.elim hP hN)).symm)) (by kernel_rfl)
      · refine st_b 38 (decide_eq_false k38) (by kernel_rfl) ?_
        refine st_b 44 (show (decide (c < -4294967295)) = false by exact decide_eq_false (by omega)) (by kernel_rfl) ?_
        refine st_i 14 .i64 (x' := 2 + 1) (Go.IntWalk.i64_in _ (by omega)) (by kernel_rfl) ?_
        refine st_forget [0,1,2,3,4,5,6,7,8,47,48,49,50,51,52,53,54,55,56,57,58,59] (by kernel_rfl) ?_
        exact st_back back0 ((2 + 1, true, false)) (by first | omega | (simp only []; omega) | (simp; omega)) (by first | (simp only [reduceCtorEq, false_implies, true_implies, true_and, and_true, forall_const]; omega) | (exact b_eq (decide_eq_false (fun z => z.1.elim hP hN)).symm) | (exact absurd (show neg8 a b c d h mi s n by unfold neg8; omega) hN) | (exact absurd (show pos8 a b c d h mi s n by unfold pos8; omega) hP) | omega | (simp only []; omega) | (simp; omega) | assumption | simp_all) (fun p hp => by first | exact hp | simp_all) (by kernel_rfl) (by kernel_rfl) (by kernel_rfl)
    · refine st_b 21 (decide_eq_false k21) (by kernel_rfl) ?_
      by_cases k29 : c < 0
      · refine st_b 29 (decide_eq_true k29) (by kernel_rfl) ?_
        refine st_b 38 (show (decide (c > 4294967295)) = false by exact decide_eq_false (by omega)) (by kernel_rfl) ?_
        by_cases k44 : c < -4294967295
        · refine st_b 44 (decide_eq_true k44) (by kernel_rfl) ?_
          exact st_retv Tryz.func50 (show Value.bool (false) = _ by (exact b_eq (decide_eq_false (fun z => z.1.elim hP hN)).symm)) (by kernel_rfl)
        · refine st_b 44 (decide_eq_false k44) (by kernel_rfl) ?_
          refine st_i 14 .i64 (x' := 2 + 1) (Go.IntWalk.i64_in _ (by omega)) (by kernel_rfl) ?_
          refine st_forget [0,1,2,3,4,5,6,7,8,47,48,49,50,51,52,53,54,55,56,57,58,59] (by kernel_rfl) ?_
          exact st_back back0 ((2 + 1, false, true)) (by first | omega | (simp only []; omega) | (simp; omega)) (by first | (simp only [reduceCtorEq, false_implies, true_implies, true_and, and_true, forall_const]; omega) | (exact b_eq (decide_eq_false (fun z => z.1.elim hP hN)).symm) | (exact absurd (show neg8 a b c d h mi s n by unfold neg8; omega) hN) | (exact absurd (show pos8 a b c d h mi s n by unfold pos8; omega) hP) | omega | (simp only []; omega) | (simp; omega) | assumption | simp_all) (fun p hp => by first | exact hp | simp_all) (by kernel_rfl) (by kernel_rfl) (by kernel_rfl)
      · refine st_b 29 (decide_eq_false k29) (by kernel_rfl) ?_
        refine st_b 38 (show (decide (c > 4294967295)) = false by exact decide_eq_false (by omega)) (by kernel_rfl) ?_
        refine st_b 44 (show (decide (c < -4294967295)) = false by exact decide_eq_false (by omega)) (by kernel_rfl) ?_
        refine st_i 14 .i64 (x' := 2 + 1) (Go.IntWalk.i64_in _ (by omega)) (by kernel_rfl) ?_
        refine st_forget [0,1,2,3,4,5,6,7,8,47,48,49,50,51,52,53,54,55,56,57,58,59] (by kernel_rfl) ?_
        exact st_back back0 ((2 + 1, false, false)) (by first | omega | (simp only []; omega) | (simp; omega)) (by first | (simp only [reduceCtorEq, false_implies, true_implies, true_and, and_true, forall_const]; omega) | (exact b_eq (decide_eq_false (fun z => z.1.elim hP hN)).symm) | (exact absurd (show neg8 a b c d h mi s n by unfold neg8; omega) hN) | (exact absurd (show pos8 a b c d h mi s n by unfold pos8; omega) hP) | omega | (simp only []; omega) | (simp; omega) | assumption | simp_all) (fun p hp => by first | exact hp | simp_all) (by kernel_rfl) (by kernel_rfl) (by kernel_rfl)
  · have _hh := True.intro
    by_cases k21 : c > 0
    · refine st_b 21 (decide_eq_true k21) (by kernel_rfl) ?_
      by_cases k38 : c > 4294967295
      · refine st_b 38 (decide_eq_true k38) (by kernel_rfl) ?_
        exact st_retv Tryz.func50 (show Value.bool (false) = _ by (exact b_eq (decide_eq_false (fun z => z.1.elim hP hN)).symm)) (by kernel_rfl)
      · refine st_b 38 (decide_eq_false k38) (by kernel_rfl) ?_
        refine st_b 44 (show (decide (c < -4294967295)) = false by exact decide_eq_false (by omega)) (by kernel_rfl) ?_
        refine st_i 14 .i64 (x' := 2 + 1) (Go.IntWalk.i64_in _ (by omega)) (by kernel_rfl) ?_
        refine st_forget [0,1,2,3,4,5,6,7,8,47,48,49,50,51,52,53,54,55,56,57,58,59] (by kernel_rfl) ?_
        exact st_back back0 ((2 + 1, true, true)) (by first | omega | (simp only []; omega) | (simp; omega)) (by first | (simp only [reduceCtorEq, false_implies, true_implies, true_and, and_true, forall_const]; omega) | (exact b_eq (decide_eq_false (fun z => z.1.elim hP hN)).symm) | (exact absurd (show neg8 a b c d h mi s n by unfold neg8; omega) hN) | (exact absurd (show pos8 a b c d h mi s n by unfold pos8; omega) hP) | omega | (simp only []; omega) | (simp; omega) | assumption | simp_all) (fun p hp => by first | exact hp | simp_all) (by kernel_rfl) (by kernel_rfl) (by kernel_rfl)
    · refine st_b 21 (decide_eq_false k21) (by kernel_rfl) ?_
      refine st_b 38 (show (decide (c > 4294967295)) = false by exact decide_eq_false (by omega)) (by kernel_rfl) ?_
      by_cases k44 : c < -4294967295
      · refine st_b 44 (decide_eq_true k44) (by kernel_rfl) ?_
        exact st_retv Tryz.func50 (show Value.bool (false) = _ by (exact b_eq (decide_eq_false (fun z => z.1.elim hP hN)).symm)) (by kernel_rfl)
      · refine st_b 44 (decide_eq_false k44) (by kernel_rfl) ?_
        refine st_i 14 .i64 (x' := 2 + 1) (Go.IntWalk.i64_in _ (by omega)) (by kernel_rfl) ?_
        refine st_forget [0,1,2,3,4,5,6,7,8,47,48,49,50,51,52,53,54,55,56,57,58,59] (by kernel_rfl) ?_
        exact st_back back0 ((2 + 1, false, true)) (by first | omega | (simp only []; omega) | (simp; omega)) (by first | (simp only [reduceCtorEq, false_implies, true_implies, true_and, and_true, forall_const]; omega) | (exact b_eq (decide_eq_false (fun z => z.1.elim hP hN)).symm) | (exact absurd (show neg8 a b c d h mi s n by unfold neg8; omega) hN) | (exact absurd (show pos8 a b c d h mi s n by unfold pos8; omega) hP) | omega | (simp only []; omega) | (simp; omega) | assumption | simp_all) (fun p hp => by first | exact hp | simp_all) (by kernel_rfl) (by kernel_rfl) (by kernel_rfl)
  · have _hh := True.intro
    by_cases k29 : c < 0
    · refine st_b 29 (decide_eq_true k29) (by kernel_rfl) ?_
      refine st_b 38 (show (decide (c > 4294967295)) = false by exact decide_eq_false (by omega)) (by kernel_rfl) ?_
      by_cases k44 : c < -4294967295
      · refine st_b 44 (decide_eq_true k44) (by kernel_rfl) ?_
        exact st_retv Tryz.func50 (show Value.bool (false) = _ by (exact b_eq (decide_eq_false (fun z => z.1.elim hP hN)).symm)) (by kernel_rfl)
      · refine st_b 44 (decide_eq_false k44) (by kernel_rfl) ?_
        refine st_i 14 .i64 (x' := 2 + 1) (Go.IntWalk.i64_in _ (by omega)) (by kernel_rfl) ?_
        refine st_forget [0,1,2,3,4,5,6,7,8,47,48,49,50,51,52,53,54,55,56,57,58,59] (by kernel_rfl) ?_
        exact st_back back0 ((2 + 1, true, true)) (by first | omega | (simp only []; omega) | (simp; omega)) (by first | (simp only [reduceCtorEq, false_implies, true_implies, true_and, and_true, forall_const]; omega) | (exact b_eq (decide_eq_false (fun z => z.1.elim hP hN)).symm) | (exact absurd (show neg8 a b c d h mi s n by unfold neg8; omega) hN) | (exact absurd (show pos8 a b c d h mi s n by unfold pos8; omega) hP) | omega | (simp only []; omega) | (simp; omega) | assumption | simp_all) (fun p hp => by first | exact hp | simp_all) (by kernel_rfl) (by kernel_rfl) (by kernel_rfl)
    · refine st_b 29 (decide_eq_false k29) (by kernel_rfl) ?_
      by_cases k38 : c > 4294967295
      · refine st_b 38 (decide_eq_true k38) (by kernel_rfl) ?_
        exact st_retv Tryz.func50 (show Value.bool (false) = _ by (exact b_eq (decide_eq_false (fun z => z.1.elim hP hN)).symm)) (by kernel_rfl)
      · refine st_b 38 (decide_eq_false k38) (by kernel_rfl) ?_
        refine st_b 44 (show (decide (c < -4294967295)) = false by exact decide_eq_false (by omega)) (by kernel_rfl) ?_
        refine st_i 14 .i64 (x' := 2 + 1) (Go.IntWalk.i64_in _ (by omega)) (by kernel_rfl) ?_
        refine st_forget [0,1,2,3,4,5,6,7,8,47,48,49,50,51,52,53,54,55,56,57,58,59] (by kernel_rfl) ?_
        exact st_back back0 ((2 + 1, true, false)) (by first | omega | (simp only []; omega) | (simp; omega)) (by first | (simp only [reduceCtorEq, false_implies, true_implies, true_and, and_true, forall_const]; omega) | (exact b_eq (decide_eq_false (fun z => z.1.elim hP hN)).symm) | (exact absurd (show neg8 a b c d h mi s n by unfold neg8; omega) hN) | (exact absurd (show pos8 a b c d h mi s n by unfold pos8; omega) hP) | omega | (simp only []; omega) | (simp; omega) | assumption | simp_all) (fun p hp => by first | exact hp | simp_all) (by kernel_rfl) (by kernel_rfl) (by kernel_rfl)
  · have _hh := True.intro
    by_cases k38 : c > 4294967295
    · refine st_b 38 (decide_eq_true k38) (by kernel_rfl) ?_
      exact st_retv Tryz.func50 (show Value.bool (false) = _ by (exact b_eq (decide_eq_false (fun z => z.1.elim hP hN)).symm)) (by kernel_rfl)
    · refine st_b 38 (decide_eq_false k38) (by kernel_rfl) ?_
      by_cases k44 : c < -4294967295
      · refine st_b 44 (decide_eq_true k44) (by kernel_rfl) ?_
        exact st_retv Tryz.func50 (show Value.bool (false) = _ by (exact b_eq (decide_eq_false (fun z => z.1.elim hP hN)).symm)) (by kernel_rfl)
      · refine st_b 44 (decide_eq_false k44) (by kernel_rfl) ?_
        refine st_i 14 .i64 (x' := 2 + 1) (Go.IntWalk.i64_in _ (by omega)) (by kernel_rfl) ?_
        refine st_forget [0,1,2,3,4,5,6,7,8,47,48,49,50,51,52,53,54,55,56,57,58,59] (by kernel_rfl) ?_
        exact st_back back0 ((2 + 1, true, true)) (by first | omega | (simp only []; omega) | (simp; omega)) (by first | (simp only [reduceCtorEq, false_implies, true_implies, true_and, and_true, forall_const]; omega) | (exact b_eq (decide_eq_false (fun z => z.1.elim hP hN)).symm) | (exact absurd (show neg8 a b c d h mi s n by unfold neg8; omega) hN) | (exact absurd (show pos8 a b c d h mi s n by unfold pos8; omega) hP) | omega | (simp only []; omega) | (simp; omega) | assumption | simp_all) (fun p hp => by first | exact hp | simp_all) (by kernel_rfl) (by kernel_rfl) (by kernel_rfl)
  · have _hh := True.intro
    by_cases k21 : d > 0
    · refine st_b 21 (decide_eq_true k21) (by kernel_rfl) ?_
      refine st_b 29 (show (decide (d < 0)) = false by exact decide_eq_false (by omega)) (by kernel_rfl) ?_
      refine st_i 14 .i64 (x' := 3 + 1) (Go.IntWalk.i64_in _ (by omega)) (by kernel_rfl) ?_
      refine st_forget [0,1,2,3,4,5,6,7,8,47,48,49,50,51,52,53,54,55,56,57,58,59] (by kernel_rfl) ?_
      exact st_back back0 ((3 + 1, true, false)) (by first | omega | (simp only []; omega) | (simp; omega)) (by first | (simp only [reduceCtorEq, false_implies, true_implies, true_and, and_true, forall_const]; omega) | (exact b_eq (decide_eq_false (fun z => z.1.elim hP hN)).symm) | (exact absurd (show neg8 a b c d h mi s n by unfold neg8; omega) hN) | (exact absurd (show pos8 a b c d h mi s n by unfold pos8; omega) hP) | omega | (simp only []; omega) | (simp; omega) | assumption | simp_all) (fun p hp => by first | exact hp | simp_all) (by kernel_rfl) (by kernel_rfl) (by kernel_rfl)
    · refine st_b 21 (decide_eq_false k21) (by kernel_rfl) ?_
      by_cases k29 : d < 0
      · refine st_b 29 (decide_eq_true k29) (by kernel_rfl) ?_
        refine st_i 14 .i64 (x' := 3 + 1) (Go.IntWalk.i64_in _ (by omega)) (by kernel_rfl) ?_
        refine st_forget [0,1,2,3,4,5,6,7,8,47,48,49,50,51,52,53,54,55,56,57,58,59] (by kernel_rfl) ?_
        exact st_back back0 ((3 + 1, false, true)) (by first | omega | (simp only []; omega) | (simp; omega)) (by first | (simp only [reduceCtorEq, false_implies, true_implies, true_and, and_true, forall_const]; omega) | (exact b_eq (decide_eq_false (fun z => z.1.elim hP hN)).symm) | (exact absurd (show neg8 a b c d h mi s n by unfold neg8; omega) hN) | (exact absurd (show pos8 a b c d h mi s n by unfold pos8; omega) hP) | omega | (simp only []; omega) | (simp; omega) | assumption | simp_all) (fun p hp => by first | exact hp | simp_all) (by kernel_rfl) (by kernel_rfl) (by kernel_rfl)
      · refine st_b 29 (decide_eq_false k29) (by kernel_rfl) ?_
        refine st_i 14 .i64 (x' := 3 + 1) (Go.IntWalk.i64_in _ (by omega)) (by kernel_rfl) ?_
        refine st_forget [0,1,2,3,4,5,6,7,8,47,48,49,50,51,52,53,54,55,56,57,58,59] (by kernel_rfl) ?_
        exact st_back back0 ((3 + 1, false, false)) (by first | omega | (simp only []; omega) | (simp; omega)) (by first | (simp only [reduceCtorEq, false_implies, true_implies, true_and, and_true, forall_const]; omega) | (exact b_eq (decide_eq_false (fun z => z.1.elim hP hN)).symm) | (exact absurd (show neg8 a b c d h mi s n by unfold neg8; omega) hN) | (exact absurd (show pos8 a b c d h mi s n by unfold pos8; omega) hP) | omega | (simp only []; omega) | (simp; omega) | assumption | simp_all) (fun p hp => by first | exact hp | simp_all) (by kernel_rfl) (by kernel_rfl) (by kernel_rfl)
  · have _hh := True.intro
    by_cases k21 : d > 0
    · refine st_b 21 (decide_eq_true k21) (by kernel_rfl) ?_
      refine st_i 14 .i64 (x' := 3 + 1) (Go.IntWalk.i64_in _ (by omega)) (by kernel_rfl) ?_
      refine st_forget [0,1,2,3,4,5,6,7,8,47,48,49,50,51,52,53,54,55,56,57,58,59] (by kernel_rfl) ?_
      exact st_back back0 ((3 + 1, true, true)) (by first | omega | (simp only []; omega) | (simp; omega)) (by first | (simp only [reduceCtorEq, false_implies, true_implies, true_and, and_true, forall_const]; omega) | (exact b_eq (decide_eq_false (fun z => z.1.elim hP hN)).symm) | (exact absurd (show neg8 a b c d h mi s n by unfold neg8; omega) hN) | (exact absurd (show pos8 a b c d h mi s n by unfold pos8; omega) hP) | omega | (simp only []; omega) | (simp; omega) | assumption | simp_all) (fun p hp => by first | exact hp | simp_all) (by kernel_rfl) (by kernel_rfl) (by kernel_rfl)
    · refine st_b 21 (decide_eq_false k21) (by kernel_rfl) ?_
      refine st_i 14 .i64 (x' := 3 + 1) (Go.IntWalk.i64_in _ (by omega)) (by kernel_rfl) ?_
      refine st_forget [0,1,2,3,4,5,6,7,8,47,48,49,50,51,52,53,54,55,56,57,58,59] (by kernel_rfl) ?_
      exact st_back back0 ((3 + 1, false, true)) (by first | omega | (simp only []; omega) | (simp; omega)) (by first | (simp only [reduceCtorEq, false_implies, true_implies, true_and, and_true, forall_const]; omega) | (exact b_eq (decide_eq_false (fun z => z.1.elim hP hN)).symm) | (exact absurd (show neg8 a b c d h mi s n by unfold neg8; omega) hN) | (exact absurd (show pos8 a b c d h mi s n by unfold pos8; omega) hP) | omega | (simp only []; omega) | (simp; omega) | assumption | simp_all) (fun p hp => by first | exact hp | simp_all) (by kernel_rfl) (by kernel_rfl) (by kernel_rfl)
  · have _hh := True.intro
    by_cases k29 : d < 0
    · refine st_b 29 (decide_eq_true k29) (by kernel_rfl) ?_
      refine st_i 14 .i64 (x' := 3 + 1) (Go.IntWalk.i64_in _ (by omega)) (by kernel_rfl) ?_
      refine st_forget [0,1,2,3,4,5,6,7,8,47,48,49,50,51,52,53,54,55,56,57,58,59] (by kernel_rfl) ?_
      exact st_back back0 ((3 + 1, true, true)) (by first | omega | (simp only []; omega) | (simp; omega)) (by first | (simp only [reduceCtorEq, false_implies, true_implies, true_and, and_true, forall_const]; omega) | (exact b_eq (decide_eq_false (fun z => z.1.elim hP hN)).symm) | (exact absurd (show neg8 a b c d h mi s n by unfold neg8; omega) hN) | (exact absurd (show pos8 a b c d h mi s n by unfold pos8; omega) hP) | omega | (simp only []; omega) | (simp; omega) | assumption | simp_all) (fun p hp => by first | exact hp | simp_all) (by kernel_rfl) (by kernel_rfl) (by kernel_rfl)
    · refine st_b 29 (decide_eq_false k29) (by kernel_rfl) ?_
      refine st_i 14 .i64 (x' := 3 + 1) (Go.IntWalk.i64_in _ (by omega)) (by kernel_rfl) ?_
      refine st_forget [0,1,2,3,4,5,6,7,8,47,48,49,50,51,52,53,54,55,56,57,58,59] (by kernel_rfl) ?_
      exact st_back back0 ((3 + 1, true, false)) (by first | omega | (simp only []; omega) | (simp; omega)) (by first | (simp only [reduceCtorEq, false_implies, true_implies, true_and, and_true, forall_const]; omega) | (exact b_eq (decide_eq_false (fun z => z.1.elim hP hN)).symm) | (exact absurd (show neg8 a b c d h mi s n by unfold neg8; omega) hN) | (exact absurd (show pos8 a b c d h mi s n by unfold pos8; omega) hP) | omega | (simp only []; omega) | (simp; omega) | assumption | simp_all) (fun p hp => by first | exact hp | simp_all) (by kernel_rfl) (by kernel_rfl) (by kernel_rfl)
  · have _hh := True.intro
    refine st_i 14 .i64 (x' := 3 + 1) (Go.IntWalk.i64_in _ (by omega)) (by kernel_rfl) ?_
    refine st_forget [0,1,2,3,4,5,6,7,8,47,48,49,50,51,52,53,54,55,56,57,58,59] (by kernel_rfl) ?_
    exact st_back back0 ((3 + 1, true, true)) (by first | omega | (simp only []; omega) | (simp; omega)) (by first | (simp only [reduceCtorEq, false_implies, true_implies, true_and, and_true, forall_const]; omega) | (exact b_eq (decide_eq_false (fun z => z.1.elim hP hN)).symm) | (exact absurd (show neg8 a b c d h mi s n by unfold neg8; omega) hN) | (exact absurd (show pos8 a b c d h mi s n by unfold pos8; omega) hP) | omega | (simp only []; omega) | (simp; omega) | assumption | simp_all) (fun p hp => by first | exact hp | simp_all) (by kernel_rfl) (by kernel_rfl) (by kernel_rfl)
  · have _hh := True.intro
    by_cases k21 : h > 0
    · refine st_b 21 (decide_eq_true k21) (by kernel_rfl) ?_
      refine st_b 29 (show (decide (h < 0)) = false by exact decide_eq_false (by omega)) (by kernel_rfl) ?_
      refine st_i 14 .i64 (x' := 4 + 1) (Go.IntWalk.i64_in _ (by omega)) (by kernel_rfl) ?_
      refine st_forget [0,1,2,3,4,5,6,7,8,47,48,49,50,51,52,53,54,55,56,57,58,59] (by kernel_rfl) ?_
      exact st_back back0 ((4 + 1, true, false)) (by first | omega | (simp only []; omega) | (simp; omega)) (by first | (simp only [reduceCtorEq, false_implies, true_implies, true_and, and_true, forall_const]; omega) | (exact b_eq (decide_eq_false (fun z => z.1.elim hP hN)).symm) | (exact absurd (show neg8 a b c d h mi s n by unfold neg8; omega) hN) | (exact absurd (show pos8 a b c d h mi s n by unfold pos8; omega) hP) | omega | (simp only []; omega) | (simp; omega) | assumption | simp_all) (fun p hp => by first | exact hp | simp_all) (by kernel_rfl) (by kernel_rfl) (by kernel_rfl)
    · refine st_b 21 (decide_eq_false k21) (by kernel_rfl) ?_
      by_cases k29 : h < 0
      · refine st_b 29 (decide_eq_true k29) (by kernel_rfl) ?_
        refine st_i 14 .i64 (x' := 4 + 1) (Go.IntWalk.i64_in _ (by omega)) (by kernel_rfl) ?_
        refine st_forget [0,1,2,3,4,5,6,7,8,47,48,49,50,51,52,53,54,55,56,57,58,59] (by kernel_rfl) ?_
        exact st_back back0 ((4 + 1, false, true)) (by first | omega | (simp only []; omega) | (simp; omega)) (by first | (simp only [reduceCtorEq, false_implies, true_implies, true_and, and_true, forall_const]; omega) | (exact b_eq (decide_eq_false (fun z => z.1.elim hP hN)).symm) | (exact absurd (show neg8 a b c d h mi s n by unfold neg8; omega) hN) | (exact absurd (show pos8 a b c d h mi s n by unfold pos8; omega) hP) | omega | (simp only []; omega) | (simp; omega) | assumption | simp_all) (fun p hp => by first | exact hp | simp_all) (by kernel_rfl) (by kernel_rfl) (by kernel_rfl)
      · refine st_b 29 (decide_eq_false k29) (by kernel_rfl) ?_
        refine st_i 14 .i64 (x' := 4 + 1) (Go.IntWalk.i64_in _ (by omega)) (by kernel_rfl) ?_
        refine st_forget [0,1,2,3,4,5,6,7,8,47,48,49,50,51,52,53,54,55,56,57,58,59] (by kernel_rfl) ?_
        exact st_back back0 ((4 + 1, false, false)) (by first | omega | (simp only []; omega) | (simp; omega)) (by first | (simp only [reduceCtorEq, false_implies, true_implies, true_and, and_true, forall_const]; omega) | (exact b_eq (decide_eq_false (fun z => z.1.elim hP hN)).symm) | (exact absurd (show neg8 a b c d h mi s n by unfold neg8; omega) hN) | (exact absurd (show pos8 a b c d h mi s n by unfold pos8; omega) hP) | omega | (simp only []; omega) | (simp; omega) | assumption | simp_all) (fun p hp => by first | exact hp | simp_all) (by kernel_rfl) (by kernel_rfl) (by kernel_rfl)
  · have _hh := True.intro
    by_cases k21 : h > 0
    · refine st_b 21 (decide_eq_true k21) (by kernel_rfl) ?_
      refine st_i 14 .i64 (x' := 4 + 1) (Go.IntWalk.i64_in _ (by omega)) (by kernel_rfl) ?_
      refine st_forget [0,1,2,3,4,5,6,7,8,47,48,49,50,51,52,53,54,55,56,57,58,59] (by kernel_rfl) ?_
      exact st_back back0 ((4 + 1, true, true)) (by first | omega | (simp only []; omega) | (simp; omega)) (by first | (simp only [reduceCtorEq, false_implies, true_implies, true_and, and_true, forall_const]; omega) | (exact b_eq (decide_eq_false (fun z => z.1.elim hP hN)).symm) | (exact absurd (show neg8 a b c d h mi s n by unfold neg8; omega) hN) | (exact absurd (show pos8 a b c d h mi s n by unfold pos8; omega) hP) | omega | (simp only []; omega) | (simp; omega) | assumption | simp_all) (fun p hp => by first | exact hp | simp_all) (by kernel_rfl) (by kernel_rfl) (by kernel_rfl)
    · refine st_b 21 (decide_eq_false k21) (by kernel_rfl) ?_
      refine st_i 14 .i64 (x' := 4 + 1) (Go.IntWalk.i64_in _ (by omega)) (by kernel_rfl) ?_
      refine st_forget [0,1,2,3,4,5,6,7,8,47,48,49,50,51,52,53,54,55,56,57,58,59] (by kernel_rfl) ?_
      exact st_back back0 ((4 + 1, false, true)) (by first | omega | (simp only []; omega) | (simp; omega)) (by first | (simp only [reduceCtorEq, false_implies, true_implies, true_and, and_true, forall_const]; omega) | (exact b_eq (decide_eq_false (fun z => z.1.elim hP hN)).symm) | (exact absurd (show neg8 a b c d h mi s n by unfold neg8; omega) hN) | (exact absurd (show pos8 a b c d h mi s n by unfold pos8; omega) hP) | omega | (simp only []; omega) | (simp; omega) | assumption | simp_all) (fun p hp => by first | exact hp | simp_all) (by kernel_rfl) (by kernel_rfl) (by kernel_rfl)
  · have _hh := True.intro
    by_cases k29 : h < 0
    · refine st_b 29 (decide_eq_true k29) (by kernel_rfl) ?_
      refine st_i 14 .i64 (x' := 4 + 1) (Go.IntWalk.i64_in _ (by omega)) (by kernel_rfl) ?_
      refine st_forget [0,1,2,3,4,5,6,7,8,47,48,49,50,51,52,53,54,55,56,57,58,59] (by kernel_rfl) ?_
      exact st_back back0 ((4 + 1, true, true)) (by first | omega | (simp only []; omega) | (simp; omega)) (by first | (simp only [reduceCtorEq, false_implies, true_implies, true_and, and_true, forall_const]; omega) | (exact b_eq (decide_eq_false (fun z => z.1.elim hP hN)).symm) | (exact absurd (show neg8 a b c d h mi s n by unfold neg8; omega) hN) | (exact absurd (show pos8 a b c d h mi s n by unfold pos8; omega) hP) | omega | (simp only []; omega) | (simp; omega) | assumption | simp_all) (fun p hp => by first | exact hp | simp_all) (by kernel_rfl) (by kernel_rfl) (by kernel_rfl)
    · refine st_b 29 (decide_eq_false k29) (by kernel_rfl) ?_
      refine st_i 14 .i64 (x' := 4 + 1) (Go.IntWalk.i64_in _ (by omega)) (by kernel_rfl) ?_
      refine st_forget [0,1,2,3,4,5,6,7,8,47,48,49,50,51,52,53,54,55,56,57,58,59] (by kernel_rfl) ?_
      exact st_back back0 ((4 + 1, true, false)) (by first | omega | (simp only []; omega) | (simp; omega)) (by first | (simp only [reduceCtorEq, false_implies, true_implies, true_and, and_true, forall_const]; omega) | (exact b_eq (decide_eq_false (fun z => z.1.elim hP hN)).symm) | (exact absurd (show neg8 a b c d h mi s n by unfold neg8; omega) hN) | (exact absurd (show pos8 a b c d h mi s n by unfold pos8; omega) hP) | omega | (simp only []; omega) | (simp; omega) | assumption | simp_all) (fun p hp => by first | exact hp | simp_all) (by kernel_rfl) (by kernel_rfl) (by kernel_rfl)
  · have _hh := True.intro
    refine st_i 14 .i64 (x' := 4 + 1) (Go.IntWalk.i64_in _ (by omega)) (by kernel_rfl) ?_
    refine st_forget [0,1,2,3,4,5,6,7,8,47,48,49,50,51,52,53,54,55,56,57,58,59] (by kernel_rfl) ?_
    exact st_back back0 ((4 + 1, true, true)) (by first | omega | (simp only []; omega) | (simp; omega)) (by first | (simp only [reduceCtorEq, false_implies, true_implies, true_and, and_true, forall_const]; omega) | (exact b_eq (decide_eq_false (fun z => z.1.elim hP hN)).symm) | (exact absurd (show neg8 a b c d h mi s n by unfold neg8; omega) hN) | (exact absurd (show pos8 a b c d h mi s n by unfold pos8; omega) hP) | omega | (simp only []; omega) | (simp; omega) | assumption | simp_all) (fun p hp => by first | exact hp | simp_all) (by kernel_rfl) (by kernel_rfl) (by kernel_rfl)
  · have _hh := True.intro
    by_cases k21 : mi > 0
    · refine st_b 21 (decide_eq_true k21) (by kernel_rfl) ?_
      refine st_b 29 (show (decide (mi < 0)) = false by exact decide_eq_false (by omega)) (by kernel_rfl) ?_
      refine st_i 14 .i64 (x' := 5 + 1) (Go.IntWalk.i64_in _ (by omega)) (by kernel_rfl) ?_
      refine st_forget [0,1,2,3,4,5,6,7,8,47,48,49,50,51,52,53,54,55,56,57,58,59] (by kernel_rfl) ?_
      exact st_back back0 ((5 + 1, true, false)) (by first | omega | (simp only []; omega) | (simp; omega)) (by first | (simp only [reduceCtorEq, false_implies, true_implies, true_and, and_true, forall_const]; omega) | (exact b_eq (decide_eq_false (fun z => z.1.elim hP hN)).symm) | (exact absurd (show neg8 a b c d h mi s n by unfold neg8; omega) hN) | (exact absurd (show pos8 a b c d h mi s n by unfold pos8; omega) hP) | omega | (simp only []; omega) | (simp; omega) | assumption | simp_all) (fun p hp => by first | exact hp | simp_all) (by kernel_rfl) (by kernel_rfl) (by kernel_rfl)
    · refine st_b 21 (decide_eq_false k21) (by kernel_rfl) ?_
      by_cases k29 : mi < 0
      · refine st_b 29 (decide_eq_true k29) (by kernel_rfl) ?_
        refine st_i 14 .i64 (x' := 5 + 1) (Go.IntWalk.i64_in _ (by omega)) (by kernel_rfl) ?_
        refine st_forget [0,1,2,3,4,5,6,7,8,47,48,49,50,51,52,53,54,55,56,57,58,59] (by kernel_rfl) ?_
        exact st_back back0 ((5 + 1, false, true)) (by first | omega | (simp only []; omega) | (simp; omega)) (by first | (simp only [reduceCtorEq, false_implies, true_implies, true_and, and_true, forall_const]; omega) | (exact b_eq (decide_eq_false (fun z => z.1.elim hP hN)).symm) | (exact absurd (show neg8 a b c d h mi s n by unfold neg8; omega) hN) | (exact absurd (show pos8 a b c d h mi s n by unfold pos8; omega) hP) | omega | (simp only []; omega) | (simp; omega) | assumption | simp_all) (fun p hp => by first | exact hp | simp_all) (by kernel_rfl) (by kernel_rfl) (by kernel_rfl)
      · refine st_b 29 (decide_eq_false k29) (by kernel_rfl) ?_
        refine st_i 14 .i64 (x' := 5 + 1) (Go.IntWalk.i64_in _ (by omega)) (by kernel_rfl) ?_
        refine st_forget [0,1,2,3,4,5,6,7,8,47,48,49,50,51,52,53,54,55,56,57,58,59] (by kernel_rfl) ?_
        exact st_back back0 ((5 + 1, false, false)) (by first | omega | (simp only []; omega) | (simp; omega)) (by first | (simp only [reduceCtorEq, false_implies, true_implies, true_and, and_true, forall_const]; omega) | (exact b_eq (decide_eq_false (fun z => z.1.elim hP hN)).symm) | (exact absurd (show neg8 a b c d h mi s n by unfold neg8; omega) hN) | (exact absurd (show pos8 a b c d h mi s n by unfold pos8; omega) hP) | omega | (simp only []; omega) | (simp; omega) | assumption | simp_all) (fun p hp => by first | exact hp | simp_all) (by kernel_rfl) (by kernel_rfl) (by kernel_rfl)
  · have _hh := True.intro
    by_cases k21 : mi > 0
    · refine st_b 21 (decide_eq_true k21) (by kernel_rfl) ?_
      refine st_i 14 .i64 (x' := 5 + 1) (Go.IntWalk.i64_in _ (by omega)) (by kernel_rfl) ?_
      refine st_forget [0,1,2,3,4,5,6,7,8,47,48,49,50,51,52,53,54,55,56,57,58,59] (by kernel_rfl) ?_
      exact st_back back0 ((5 + 1, true, true)) (by first | omega | (simp only []; omega) | (simp; omega)) (by first | (simp only [reduceCtorEq, false_implies, true_implies, true_and, and_true, forall_const]; omega) | (exact b_eq (decide_eq_false (fun z => z.1.elim hP hN)).symm) | (exact absurd (show neg8 a b c d h mi s n by unfold neg8; omega) hN) | (exact absurd (show pos8 a b c d h mi s n by unfold pos8; omega) hP) | omega | (simp only []; omega) | (simp; omega) | assumption | simp_all) (fun p hp => by first | exact hp | simp_all) (by kernel_rfl) (by kernel_rfl) (by kernel_rfl)
    · refine st_b 21 (decide_eq_false k21) (by kernel_rfl) ?_
      refine st_i 14 .i64 (x' := 5 + 1) (Go.IntWalk.i64_in _ (by omega)) (by kernel_rfl) ?_
      refine st_forget [0,1,2,3,4,5,6,7,8,47,48,49,50,51,52,53,54,55,56,57,58,59] (by kernel_rfl) ?_
      exact st_back back0 ((5 + 1, false, true)) (by first | omega | (simp only []; omega) | (simp; omega)) (by first | (simp only [reduceCtorEq, false_implies, true_implies, true_and, and_true, forall_const]; omega) | (exact b_eq (decide_eq_false (fun z => z.1.elim hP hN)).symm) | (exact absurd (show neg8 a b c d h mi s n by unfold neg8; omega) hN) | (exact absurd (show pos8 a b c d h mi s n by unfold pos8; omega) hP) | omega | (simp only []; omega) | (simp; omega) | assumption | simp_all) (fun p hp => by first | exact hp | simp_all) (by kernel_rfl) (by kernel_rfl) (by kernel_rfl)
  · have _hh := True.intro
    by_cases k29 : mi < 0
    · refine st_b 29 (decide_eq_true k29) (by kernel_rfl) ?_
      refine st_i 14 .i64 (x' := 5 + 1) (Go.IntWalk.i64_in _ (by omega)) (by kernel_rfl) ?_
      refine st_forget [0,1,2,3,4,5,6,7,8,47,48,49,50,51,52,53,54,55,56,57,58,59] (by kernel_rfl) ?_
      exact st_back back0 ((5 + 1, true, true)) (by first | omega | (simp only []; omega) | (simp; omega)) (by first | (simp only [reduceCtorEq, false_implies, true_implies, true_and, and_true, forall_const]; omega) | (exact b_eq (decide_eq_false (fun z => z.1.elim hP hN)).symm) | (exact absurd (show neg8 a b c d h mi s n by unfold neg8; omega) hN) | (exact absurd (show pos8 a b c d h mi s n by unfold pos8; omega) hP) | omega | (simp only []; omega) | (simp; omega) | assumption | simp_all) (fun p hp => by first | exact hp | simp_all) (by kernel_rfl) (by kernel_rfl) (by kernel_rfl)
    · refine st_b 29 (decide_eq_false k29) (by kernel_rfl) ?_
      refine st_i 14 .i64 (x' := 5 + 1) (Go.IntWalk.i64_in _ (by omega)) (by kernel_rfl) ?_
      refine st_forget [0,1,2,3,4,5,6,7,8,47,48,49,50,51,52,53,54,55,56,57,58,59] (by kernel_rfl) ?_
      exact st_back back0 ((5 + 1, true, false)) (by first | omega | (simp only []; omega) | (simp; omega)) (by first | (simp only [reduceCtorEq, false_implies, true_implies, true_and, and_true, forall_const]; omega) | (exact b_eq (decide_eq_false (fun z => z.1.elim hP hN)).symm) | (exact absurd (show neg8 a b c d h mi s n by unfold neg8; omega) hN) | (exact absurd (show pos8 a b c d h mi s n by unfold pos8; omega) hP) | omega | (simp only []; omega) | (simp; omega) | assumption | simp_all) (fun p hp => by first | exact hp | simp_all) (by kernel_rfl) (by kernel_rfl) (by kernel_rfl)
  · have _hh := True.intro
    refine st_i 14 .i64 (x' := 5 + 1) (Go.IntWalk.i64_in _ (by omega)) (by kernel_rfl) ?_
    refine st_forget [0,1,2,3,4,5,6,7,8,47,48,49,50,51,52,53,54,55,56,57,58,59] (by kernel_rfl) ?_
    exact st_back back0 ((5 + 1, true, true)) (by first | omega | (simp only []; omega) | (simp; omega)) (by first | (simp only [reduceCtorEq, false_implies, true_implies, true_and, and_true, forall_const]; omega) | (exact b_eq (decide_eq_false (fun z => z.1.elim hP hN)).symm) | (exact absurd (show neg8 a b c d h mi s n by unfold neg8; omega) hN) | (exact absurd (show pos8 a b c d h mi s n by unfold pos8; omega) hP) | omega | (simp only []; omega) | (simp; omega) | assumption | simp_all) (fun p hp => by first | exact hp | simp_all) (by kernel_rfl) (by kernel_rfl) (by kernel_rfl)
  · have _hh := True.intro
    by_cases k21 : s > 0
    · refine st_b 21 (decide_eq_true k21) (by kernel_rfl) ?_
      refine st_b 29 (show (decide (s < 0)) = false by exact decide_eq_false (by omega)) (by kernel_rfl) ?_
      refine st_i 14 .i64 (x' := 6 + 1) (Go.IntWalk.i64_in _ (by omega)) (by kernel_rfl) ?_
      refine st_forget [0,1,2,3,4,5,6,7,8,47,48,49,50,51,52,53,54,55,56,57,58,59] (by kernel_rfl) ?_
      exact st_back back0 ((6 + 1, true, false)) (by first | omega | (simp only []; omega) | (simp; omega)) (by first | (simp only [reduceCtorEq, false_implies, true_implies, true_and, and_true, forall_const]; omega) | (exact b_eq (decide_eq_false (fun z => z.1.elim hP hN)).symm) | (exact absurd (show neg8 a b c d h mi s n by unfold neg8; omega) hN) | (exact absurd (show pos8 a b c d h mi s n by unfold pos8; omega) hP) | omega | (simp only []; omega) | (simp; omega) | assumption | simp_all) (fun p hp => by first | exact hp | simp_all) (by kernel_rfl) (by kernel_rfl) (by kernel_rfl)
    · refine st_b 21 (decide_eq_false k21) (by kernel_rfl) ?_
      by_cases k29 : s < 0
      · refine st_b 29 (decide_eq_true k29) (by kernel_rfl) ?_
        refine st_i 14 .i64 (x' := 6 + 1) (Go.IntWalk.i64_in _ (by omega)) (by kernel_rfl) ?_
        refine st_forget [0,1,2,3,4,5,6,7,8,47,48,49,50,51,52,53,54,55,56,57,58,59] (by kernel_rfl) ?_
        exact st_back back0 ((6 + 1, false, true)) (by first | omega | (simp only []; omega) | (simp; omega)) (by first | (simp only [reduceCtorEq, false_implies, true_implies, true_and, and_true, forall_const]; omega) | (exact b_eq (decide_eq_false (fun z => z.1.elim hP hN)).symm) | (exact absurd (show neg8 a b c d h mi s n by unfold neg8; omega) hN) | (exact absurd (show pos8 a b c d h mi s n by unfold pos8; omega) hP) | omega | (simp only []; omega) | (simp; omega) | assumption | simp_all) (fun p hp => by first | exact hp | simp_all) (by kernel_rfl) (by kernel_rfl) (by kernel_rfl)
      · refine st_b 29 (decide_eq_false k29) (by kernel_rfl) ?_
        refine st_i 14 .i64 (x' := 6 + 1) (Go.IntWalk.i64_in _ (by omega)) (by kernel_rfl) ?_
        refine st_forget [0,1,2,3,4,5,6,7,8,47,48,49,50,51,52,53,54,55,56,57,58,59] (by kernel_rfl) ?_
        exact st_back back0 ((6 + 1, false, false)) (by first | omega | (simp only []; omega) | (simp; omega)) (by first | (simp only [reduceCtorEq, false_implies, true_implies, true_and, and_true, forall_const]; omega) | (exact b_eq (decide_eq_false (fun z => z.1.elim hP hN)).symm) | (exact absurd (show neg8 a b c d h mi s n by unfold neg8; omega) hN) | (exact absurd (show pos8 a b c d h mi s n by unfold pos8; omega) hP) | omega | (simp only []; omega) | (simp; omega) | assumption | simp_all) (fun p hp => by first | exact hp | simp_all) (by kernel_rfl) (by kernel_rfl) (by kernel_rfl)
  · have _hh := True.intro
    by_cases k21 : s > 0
    · refine st_b 21 (decide_eq_true k21) (by kernel_rfl) ?_
      refine st_i 14 .i64 (x' := 6 + 1) (Go.IntWalk.i64_in _ (by omega)) (by kernel_rfl) ?_
      refine st_forget [0,1,2,3,4,5,6,7,8,47,48,49,50,51,52,53,54,55,56,57,58,59] (by kernel_rfl) ?_
      exact st_back back0 ((6 + 1, true, true)) (by first | omega | (simp only []; omega) | (simp; omega)) (by first | (simp only [reduceCtorEq, false_implies, true_implies, true_and, and_true, forall_const]; omega) | (exact b_eq (decide_eq_false (fun z => z.1.elim hP hN)).symm) | (exact absurd (show neg8 a b c d h mi s n by unfold neg8; omega) hN) | (exact absurd (show pos8 a b c d h mi s n by unfold pos8; omega) hP) | omega | (simp only []; omega) | (simp; omega) | assumption | simp_all) (fun p hp => by first | exact hp | simp_all) (by kernel_rfl) (by kernel_rfl) (by kernel_rfl)
    · refine st_b 21 (decide_eq_false k21) (by kernel_rfl) ?_
      refine st_i 14 .i64 (x' := 6 + 1) (Go.IntWalk.i64_in _ (by omega)) (by kernel_rfl) ?_
      refine st_forget [0,1,2,3,4,5,6,7,8,47,48,49,50,51,52,53,54,55,56,57,58,59] (by kernel_rfl) ?_
      exact st_back back0 ((6 + 1, false, true)) (by first | omega | (simp only []; omega) | (simp; omega)) (by first | (simp only [reduceCtorEq, false_implies, true_implies, true_and, and_true, forall_const]; omega) | (exact b_eq (decide_eq_false (fun z => z.1.elim hP hN)).symm) | (exact absurd (show neg8 a b c d h mi s n by unfold neg8; omega) hN) | (exact absurd (show pos8 a b c d h mi s n by unfold pos8; omega) hP) | omega | (simp only []; omega) | (simp; omega) | assumption | simp_all) (fun p hp => by first | exact hp | simp_all) (by kernel_rfl) (by kernel_rfl) (by kernel_rfl)
  · have _hh := True.intro
    by_cases k29 : s < 0
    · refine st_b 29 (decide_eq_true k29) (by kernel_rfl) ?_
      refine st_i 14 .i64 (x' := 6 + 1) (Go.IntWalk.i64_in _ (by omega)) (by kernel_rfl) ?_
      refine st_forget [0,1,2,3,4,5,6,7,8,47,48,49,50,51,52,53,54,55,56,57,58,59] (by kernel_rfl) ?_
      exact st_back back0 ((6 + 1, true, true)) (by first | omega | (simp only []; omega) | (simp; omega)) (by first | (simp only [reduceCtorEq, false_implies, true_implies, true_and, and_true, forall_const]; omega) | (exact b_eq (decide_eq_false (fun z => z.1.elim hP hN)).symm) | (exact absurd (show neg8 a b c d h mi s n by unfold neg8; omega) hN) | (exact absurd (show pos8 a b c d h mi s n by unfold pos8; omega) hP) | omega | (simp only []; omega) | (simp; omega) | assumption | simp_all) (fun p hp => by first | exact hp | simp_all) (by kernel_rfl) (by kernel_rfl) (by kernel_rfl)
    · refine st_b 29 (decide_eq_false k29) (by kernel_rfl) ?_
      refine st_i 14 .i64 (x' := 6 + 1) (Go.IntWalk.i64_in _ (by omega)) (by kernel_rfl) ?_
      refine st_forget [0,1,2,3,4,5,6,7,8,47,48,49,50,51,52,53,54,55,56,57,58,59] (by kernel_rfl) ?_
      exact st_back back0 ((6 + 1, true, false)) (by first | omega | (simp only []; omega) | (simp; omega)) (by first | (simp only [reduceCtorEq, false_implies, true_implies, true_and, and_true, forall_const]; omega) | (exact b_eq (decide_eq_false (fun z => z.1.elim hP hN)).symm) | (exact absurd (show neg8 a b c d h mi s n by unfold neg8; omega) hN) | (exact absurd (show pos8 a b c d h mi s n by unfold pos8; omega) hP) | omega | (simp only []; omega) | (simp; omega) | assumption | simp_all) (fun p hp => by first | exact hp | simp_all) (by kernel_rfl) (by kernel_rfl) (by kernel_rfl)
  · have _hh := True.intro
    refine st_i 14 .i64 (x' := 6 + 1) (Go.IntWalk.i64_in _ (by omega)) (by kernel_rfl) ?_
    refine st_forget [0,1,2,3,4,5,6,7,8,47,48,49,50,51,52,53,54,55,56,57,58,59] (by kernel_rfl) ?_
    exact st_back back0 ((6 + 1, true, true)) (by first | omega | (simp only []; omega) | (simp; omega)) (by first | (simp only [reduceCtorEq, false_implies, true_implies, true_and, and_true, forall_const]; omega) | (exact b_eq (decide_eq_false (fun z => z.1.elim hP hN)).symm) | (exact absurd (show neg8 a b c d h mi s n by unfold neg8; omega) hN) | (exact absurd (show pos8 a b c d h mi s n by unfold pos8; omega) hP) | omega | (simp only []; omega) | (simp; omega) | assumption | simp_all) (fun p hp => by first | exact hp | simp_all) (by kernel_rfl) (by kernel_rfl) (by kernel_rfl)
  · have _hh := True.intro
    by_cases k21 : n > 0
    · refine st_b 21 (decide_eq_true k21) (by kernel_rfl) ?_
      refine st_b 29 (show (decide (n < 0)) = false by exact decide_eq_false (by omega)) (by kernel_rfl) ?_
      refine st_i 14 .i64 (x' := 7 + 1) (Go.IntWalk.i64_in _ (by omega)) (by kernel_rfl) ?_
      refine st_forget [0,1,2,3,4,5,6,7,8,47,48,49,50,51,52,53,54,55,56,57,58,59] (by kernel_rfl) ?_
      exact st_back back0 ((7 + 1, true, false)) (by first | omega | (simp only []; omega) | (simp; omega)) (by first | (simp only [reduceCtorEq, false_implies, true_implies, true_and, and_true, forall_const]; omega) | (exact b_eq (decide_eq_false (fun z => z.1.elim hP hN)).symm) | (exact absurd (show neg8 a b c d h mi s n by unfold neg8; omega) hN) | (exact absurd (show pos8 a b c d h mi s n by unfold pos8; omega) hP) | omega | (simp only []; omega) | (simp; omega) | assumption | simp_all) (fun p hp => by first | exact hp | simp_all) (by kernel_rfl) (by kernel_rfl) (by kernel_rfl)
    · refine st_b 21 (decide_eq_false k21) (by kernel_rfl) ?_
      by_cases k29 : n < 0
      · refine st_b 29 (decide_eq_true k29) (by kernel_rfl) ?_
        refine st_i 14 .i64 (x' := 7 + 1) (Go.IntWalk.i64_in _ (by omega)) (by kernel_rfl) ?_
        refine st_forget [0,1,2,3,4,5,6,7,8,47,48,49,50,51,52,53,54,55,56,57,58,59] (by kernel_rfl) ?_
        exact st_back back0 ((7 + 1, false, true)) (by first | omega | (simp only []; omega) | (simp; omega)) (by first | (simp only [reduceCtorEq, false_implies, true_implies, true_and, and_true, forall_const]; omega) | (exact b_eq (decide_eq_false (fun z => z.1.elim hP hN)).symm) | (exact absurd (show neg8 a b c d h mi s n by unfold neg8; omega) hN) | (exact absurd (show pos8 a b c d h mi s n by unfold pos8; omega) hP) | omega | (simp only []; omega) | (simp; omega) | assumption | simp_all) (fun p hp => by first | exact hp | simp_all) (by kernel_rfl) (by kernel_rfl) (by kernel_rfl)
      · refine st_b 29 (decide_eq_false k29) (by kernel_rfl) ?_
        refine st_i 14 .i64 (x' := 7 + 1) (Go.IntWalk.i64_in _ (by omega)) (by kernel_rfl) ?_
        refine st_forget [0,1,2,3,4,5,6,7,8,47,48,49,50,51,52,53,54,55,56,57,58,59] (by kernel_rfl) ?_
        exact st_back back0 ((7 + 1, false, false)) (by first | omega | (simp only []; omega) | (simp; omega)) (by first | (simp only [reduceCtorEq, false_implies, true_implies, true_and, and_true, forall_const]; omega) | (exact b_eq (decide_eq_false (fun z => z.1.elim hP hN)).symm) | (exact absurd (show neg8 a b c d h mi s n by unfold neg8; omega) hN) | (exact absurd (show pos8 a b c d h mi s n by unfold pos8; omega) hP) | omega | (simp only []; omega) | (simp; omega) | assumption | simp_all) (fun p hp => by first | exact hp | simp_all) (by kernel_rfl) (by kernel_rfl) (by kernel_rfl)
  · have _hh := True.intro
    by_cases k21 : n > 0
    · refine st_b 21 (decide_eq_true k21) (by kernel_rfl) ?_
      refine st_i 14 .i64 (x' := 7 + 1) (Go.IntWalk.i64_in _ (by omega)) (by kernel_rfl) ?_
      refine st_forget [0,1,2,3,4,5,6,7,8,47,48,49,50,51,52,53,54,55,56,57,58,59] (by kernel_rfl) ?_
      exact st_back back0 ((7 + 1, true, true)) (by first | omega | (simp only []; omega) | (simp; omega)) (by first | (simp only [reduceCtorEq, false_implies, true_implies, true_and, and_true, forall_const]; omega) | (exact b_eq (decide_eq_false (fun z => z.1.elim hP hN)).symm) | (exact absurd (show neg8 a b c d h mi s n by unfold neg8; omega) hN) | (exact absurd (show pos8 a b c d h mi s n by unfold pos8; omega) hP) | omega | (simp only []; omega) | (simp; omega) | assumption | simp_all) (fun p hp => by first | exact hp | simp_all) (by kernel_rfl) (by kernel_rfl) (by kernel_rfl)
    · refine st_b 21 (decide_eq_false k21) (by kernel_rfl) ?_
      refine st_i 14 .i64 (x' := 7 + 1) (Go.IntWalk.i64_in _ (by omega)) (by kernel_rfl) ?_
      refine st_forget [0,1,2,3,4,5,6,7,8,47,48,49,50,51,52,53,54,55,56,57,58,59] (by kernel_rfl) ?_
      exact st_back back0 ((7 + 1, false, true)) (by first | omega | (simp only []; omega) | (simp; omega)) (by first | (simp only [reduceCtorEq, false_implies, true_implies, true_and, and_true, forall_const]; omega) | (exact b_eq (decide_eq_false (fun z => z.1.elim hP hN)).symm) | (exact absurd (show neg8 a b c d h mi s n by unfold neg8; omega) hN) | (exact absurd (show pos8 a b c d h mi s n by unfold pos8; omega) hP) | omega | (simp only []; omega) | (simp; omega) | assumption | simp_all) (fun p hp => by first | exact hp | simp_all) (by kernel_rfl) (by kernel_rfl) (by kernel_rfl)
  · have _hh := True.intro
    by_cases k29 : n < 0
    · refine st_b 29 (decide_eq_true k29) (by kernel_rfl) ?_
      refine st_i 14 .i64 (x' := 7 + 1) (Go.IntWalk.i64_in _ (by omega)) (by kernel_rfl) ?_
      refine st_forget [0,1,2,3,4,5,6,7,8,47,48,49,50,51,52,53,54,55,56,57,58,59] (by kernel_rfl) ?_
      exact st_back back0 ((7 + 1, true, true)) (by first | omega | (simp only []; omega) | (simp; omega)) (by first | (simp only [reduceCtorEq, false_implies, true_implies, true_and, and_true, forall_const]; omega) | (exact b_eq (decide_eq_false (fun z => z.1.elim hP hN)).symm) | (exact absurd (show neg8 a b c d h mi s n by unfold neg8; omega) hN) | (exact absurd (show pos8 a b c d h mi s n by unfold pos8; omega) hP) | omega | (simp only []; omega) | (simp; omega) | assumption | simp_all) (fun p hp => by first | exact hp | simp_all) (by kernel_rfl) (by kernel_rfl) (by kernel_rfl)
    · refine st_b 29 (decide_eq_false k29) (by kernel_rfl) ?_
      refine st_i 14 .i64 (x' := 7 + 1) (Go.IntWalk.i64_in _ (by omega)) (by kernel_rfl) ?_
      refine st_forget [0,1,2,3,4,5,6,7,8,47,48,49,50,51,52,53,54,55,56,57,58,59] (by kernel_rfl) ?_
      exact st_back back0 ((7 + 1, true, false)) (by first | omega | (simp only []; omega) | (simp; omega)) (by first | (simp only [reduceCtorEq, false_implies, true_implies, true_and, and_true, forall_const]; omega) | (exact b_eq (decide_eq_false (fun z => z.1.elim hP hN)).symm) | (exact absurd (show neg8 a b c d h mi s n by unfold neg8; omega) hN) | (exact absurd (show pos8 a b c d h mi s n by unfold pos8; omega) hP) | omega | (simp only []; omega) | (simp; omega) | assumption | simp_all) (fun p hp => by first | exact hp | simp_all) (by kernel_rfl) (by kernel_rfl) (by kernel_rfl)
  · have _hh := True.intro
    refine st_i 14 .i64 (x' := 7 + 1) (Go.IntWalk.i64_in _ (by omega)) (by kernel_rfl) ?_
    refine st_forget [0,1,2,3,4,5,6,7,8,47,48,49,50,51,52,53,54,55,56,57,58,59] (by kernel_rfl) ?_
    exact st_back back0 ((7 + 1, true, true)) (by first | omega | (simp only []; omega) | (simp; omega)) (by first | (simp only [reduceCtorEq, false_implies, true_implies, true_and, and_true, forall_const]; omega) | (exact b_eq (decide_eq_false (fun z => z.1.elim hP hN)).symm) | (exact absurd (show neg8 a b c d h mi s n by unfold neg8; omega) hN) | (exact absurd (show pos8 a b c d h mi s n by unfold pos8; omega) hP) | omega | (simp only []; omega) | (simp; omega) | assumption | simp_all) (fun p hp => by first | exact hp | simp_all) (by kernel_rfl) (by kernel_rfl) (by kernel_rfl)
  · have _hh := True.intro
    refine st_g ent113 (ut) sub0 (by kernel_rfl) (fun zq2 => ?_)
    refine st_g ent112 (fa (zq2)) (subC 0 rfl sub0) (by kernel_rfl) (fun zq3 => ?_)
    refine st_g ent114 (zulimit) sub0 (by kernel_rfl) (fun zq4 => ?_)
    refine st_fn ent111 (fzcmp (zq3) (zq4) (X) (9007199254740992000000000) (by exact Bits.fit bX (by decide)) (by exact Bits.fit bl.bits (by decide))) (subC 1 rfl (subC 0 rfl sub0)) (by kernel_rfl) ?_
    exact st_retv Tryz.func50 (show Value.bool (decide (cmpI X 9007199254740992000000000 < 0)) = _ by (exact absurd (show neg8 a b c d h mi s n by unfold neg8; omega) hN)) (by kernel_rfl)
  · have _hh := True.intro
    refine st_g ent113 (ut) sub0 (by kernel_rfl) (fun zq2 => ?_)
    refine st_g ent112 (fa (zq2)) (subC 0 rfl sub0) (by kernel_rfl) (fun zq3 => ?_)
    refine st_g ent114 (zulimit) sub0 (by kernel_rfl) (fun zq4 => ?_)
    refine st_fn ent111 (fzcmp (zq3) (zq4) (X) (9007199254740992000000000) (by exact Bits.fit bX (by decide)) (by exact Bits.fit bl.bits (by decide))) (subC 1 rfl (subC 0 rfl sub0)) (by kernel_rfl) ?_
    exact st_retv Tryz.func50 (show Value.bool (decide (cmpI X 9007199254740992000000000 < 0)) = _ by (exact absurd (show neg8 a b c d h mi s n by unfold neg8; omega) hN)) (by kernel_rfl)
  · have _hh := True.intro
    refine st_g ent113 (ut) sub0 (by kernel_rfl) (fun zq2 => ?_)
    refine st_g ent112 (fa (zq2)) (subC 0 rfl sub0) (by kernel_rfl) (fun zq3 => ?_)
    refine st_g ent114 (zulimit) sub0 (by kernel_rfl) (fun zq4 => ?_)
    refine st_fn ent111 (fzcmp (zq3) (zq4) (X) (9007199254740992000000000) (by exact Bits.fit bX (by decide)) (by exact Bits.fit bl.bits (by decide))) (subC 1 rfl (subC 0 rfl sub0)) (by kernel_rfl) ?_
    exact st_retv Tryz.func50 (show Value.bool (decide (cmpI X 9007199254740992000000000 < 0)) = _ by (exact absurd (show pos8 a b c d h mi s n by unfold pos8; omega) hP)) (by kernel_rfl)
  · have _hh := True.intro
    exact st_retv Tryz.func50 (show Value.bool (false) = _ by (exact b_eq (decide_eq_false (fun z => z.1.elim hP hN)).symm)) (by kernel_rfl)
end
end Go.Proofs.YtccllfegnijpiaaGreat
end
section
/-
  round.up: the closures.
-/
set_option linter.unusedVariables false
set_option maxRecDepth 100000
namespace Go.Proofs.YtccllfegnijpiaaGreat
open Go Go.RowKit Go.Ev

def PlaceAt (k : Nat) (b : Bool) (x : Int) (e : Bool) (w : World) : Prop := w.heap[k]? = some (.cells #[.bool b, .int .i64 x, .bool e] 171 (0, 0))
def HalfAt (h k : Nat) (w : World) : Prop := w.heap[h]? = some (.cells #[.func (.func 149) #[] #[.pointer (some ⟨k, 0, none⟩)]] 184 (0, 0))
def ET : List TypeId := [171, 184]
theorem PlaceAt.stable (k : Nat) (b : Bool) (x : Int) (e : Bool) : Stable ET (PlaceAt k b x e) := fun w w' hk h => hk _ _ _ _ (by simp [ET]) h
theorem HalfAt.stable (h k : Nat) : Stable ET (HalfAt h k) := fun w w' hk q => hk _ _ _ _ (by simp [ET]) q
theorem PlaceAt.c0 {k : Nat} {b : Bool} {x : Int} {e : Bool} {w : World} (h : PlaceAt k b x e w) : w.cell? ⟨k, 0, none⟩ = some (.bool b) := by unfold PlaceAt at h; simp [World.cell?, h]
theorem PlaceAt.c1 {k : Nat} {b : Bool} {x : Int} {e : Bool} {w : World} (h : PlaceAt k b x e w) : w.cell? ⟨k, 1, none⟩ = some (.int .i64 x) := by unfold PlaceAt at h; simp [World.cell?, h]
theorem PlaceAt.c2 {k : Nat} {b : Bool} {x : Int} {e : Bool} {w : World} (h : PlaceAt k b x e w) : w.cell? ⟨k, 2, none⟩ = some (.bool e) := by unfold PlaceAt at h; simp [World.cell?, h]
theorem HalfAt.c0 {h k : Nat} {w : World} (q : HalfAt h k w) : w.cell? ⟨h, 0, none⟩ = some (.func (.func 149) #[] #[.pointer (some ⟨k, 0, none⟩)]) := by unfold HalfAt at q; simp [World.cell?, q]
/-- Does a half go up? -/
def halfB (x : Int) (tie : Bool) : Bool := if 0 < x then true else if x = 0 then tie else false
abbrev RB (w : World) (v : Value) : Ending → World → Prop := fun e w' => e = .returned v ∧ Below w.heap.size w w'
section
variable {f0 : FuncId} {w0 : World} {R : Ending → World → Prop} {G : World → Prop} {c : Cf}
structure Rw (C : Cx) (G : World → Prop) (c : Cf) : Prop where
  h : Run C G c
theorem u_of {f : FuncId} {fn : Func} {cd : Code} {args : List Value} {v : Value} {w : World} (hf : Tryz.prog.funcs[f]? = some fn) (hb : fn.body = some cd) (hs : Stable ET G) (hG : G w) (h : Rw ⟨Tryz.prog, f, ET, w, (RB w v)⟩ G (startS fn args)) : Calls Tryz.prog f args.toArray w (RB w v) :=
  calls_run ET G hf hb hs hG h.h
theorem u_load {T : TypeId} {ad : Addr} {v : Value} (h : ∀ w, G w → (loadVar T ad).run Tryz.prog w = .ok v w) (hc : loadAt (adv Tryz.prog ET 9999 400 c) = some (T, ad)) (hk : Rw ⟨Tryz.prog, f0, ET, w0, R⟩ G (resume (adv Tryz.prog ET 9999 400 c) (.val v))) : Rw ⟨Tryz.prog, f0, ET, w0, R⟩ G c :=
  ⟨run_adv mixed (run_ldv hc h hk.h)⟩
theorem u_b (t : Nat) {b b' : Bool} (hv : b = b') (h : (adv Tryz.prog ET t 400 c).fr[t]? = some (.val (.bool b))) (hk : Rw ⟨Tryz.prog, f0, ET, w0, R⟩ G (setS (adv Tryz.prog ET t 400 c) t (.bool b'))) : Rw ⟨Tryz.prog, f0, ET, w0, R⟩ G c :=
  ⟨run_adv mixed (run_pin h (by rw [hv]) hk.h)⟩
theorem u_call {f : FuncId} {vs : List Value} {v : Value} (he : Enters Tryz.prog f) (h : ∀ w, G w → Calls Tryz.prog f vs.toArray w (RB w v)) (hc : callAt (adv Tryz.prog ET 9999 400 c) = some (f, vs.map .val)) (hk : Rw ⟨Tryz.prog, f0, ET, w0, R⟩ G (resume (adv Tryz.prog ET 9999 400 c) (.val v))) : Rw ⟨Tryz.prog, f0, ET, w0, R⟩ G c :=
  ⟨run_adv mixed (run_call1 hc he v h hk.h)⟩
theorem u_ret {fn : Func} {v : Value} (hf : Tryz.prog.funcs[f0]? = some fn) (h : retAt Tryz.prog fn.results.toList (adv Tryz.prog ET 9999 400 c) = some v) : Rw ⟨Tryz.prog, f0, ET, w0, (RB w0 v)⟩ G c :=
  ⟨run_adv mixed (run_ret hf h fun w hb _ => ⟨rfl, hb⟩)⟩
end
theorem half_c (k : Nat) (b : Bool) (x : Int) (e tie : Bool) (w : World) (hp : PlaceAt k b x e w) : Calls Tryz.prog 149 #[.bool tie, .pointer (some ⟨k, 0, none⟩)] w (RB w (.bool (halfB x tie))) := by
  by_cases h0 : 0 < x
  · have hh : halfB x tie = true := if_pos h0
    rw [hh]
    refine u_of (args := [.bool tie, .pointer (some ⟨k, 0, none⟩)]) Tryz.func149 rfl (PlaceAt.stable k b x e) hp ?_
    refine u_load (fun w h => load_int h.c1) (by kernel_rfl) ?_
    refine u_b 6 (decide_eq_true h0) (by kernel_rfl) ?_
    exact u_ret Tryz.func149 (by kernel_rfl)
  · by_cases h1 : x = 0
    · have hh : halfB x tie = tie := by unfold halfB; rw [if_neg h0, if_pos h1]
      rw [hh]
      refine u_of (args := [.bool tie, .pointer (some ⟨k, 0, none⟩)]) Tryz.func149 rfl (PlaceAt.stable k b x e) hp ?_
      refine u_load (fun w h => load_int h.c1) (by kernel_rfl) ?_
      refine u_b 6 (decide_eq_false h0) (by kernel_rfl) ?_
      refine u_load (fun w h => load_int h.c1) (by kernel_rfl) ?_
      refine u_b 10 (beq_iff_eq.2 h1) (by kernel_rfl) ?_
      exact u_ret Tryz.func149 (by kernel_rfl)
    · have hh : halfB x tie = false := by unfold halfB; rw [if_neg h0, if_neg h1]
      rw [hh]
      refine u_of (args := [.bool tie, .pointer (some ⟨k, 0, none⟩)]) Tryz.func149 rfl (PlaceAt.stable k b x e) hp ?_
      refine u_load (fun w h => load_int h.c1) (by kernel_rfl) ?_
      refine u_b 6 (decide_eq_false h0) (by kernel_rfl) ?_
      refine u_load (fun w h => load_int h.c1) (by kernel_rfl) ?_
      refine u_b 10 (beq_eq_false_iff_ne.2 h1) (by kernel_rfl) ?_
      exact u_ret Tryz.func149 (by kernel_rfl)
theorem c2 (w : World) : Calls Tryz.prog 150 #[] w (RB w (.bool true)) := by
  refine u_of (args := []) (G := fun _ => True) Tryz.func150 rfl (fun _ _ _ _ => trivial) trivial ?_
  exact u_ret Tryz.func150 (by kernel_rfl)
theorem c3 (w : World) : Calls Tryz.prog 151 #[] w (RB w (.bool false)) := by
  refine u_of (args := []) (G := fun _ => True) Tryz.func151 rfl (fun _ _ _ _ => trivial) trivial ?_
  exact u_ret Tryz.func151 (by kernel_rfl)
section
variable (k h : Nat) (b : Bool) (x : Int) (e : Bool) (w : World)
theorem c4 (hp : PlaceAt k b x e w) : Calls Tryz.prog 152 #[.pointer (some ⟨k, 0, none⟩)] w (RB w (.bool (!b))) := by
  refine u_of (args := [.pointer (some ⟨k, 0, none⟩)]) Tryz.func152 rfl (PlaceAt.stable k b x e) hp ?_
  refine u_load (fun w h => load_bool h.c0) (by kernel_rfl) ?_
  exact u_ret Tryz.func152 (by kernel_rfl)
theorem c5 (hp : PlaceAt k b x e w) : Calls Tryz.prog 153 #[.pointer (some ⟨k, 0, none⟩)] w (RB w (.bool b)) := by
  refine u_of (args := [.pointer (some ⟨k, 0, none⟩)]) Tryz.func153 rfl (PlaceAt.stable k b x e) hp ?_
  refine u_load (fun w h => load_bool h.c0) (by kernel_rfl) ?_
  exact u_ret Tryz.func153 (by kernel_rfl)
def Both (w : World) : Prop := HalfAt h k w ∧ PlaceAt k b x e w
theorem Both.stable : Stable ET (Both k h b x e) := fun w w' hk q => ⟨HalfAt.stable h k w w' hk q.1, PlaceAt.stable k b x e w w' hk q.2⟩
theorem load_fn {a : Addr} {v : Value} {w : World} (hc : w.cell? a = some v) : (loadVar 184 a).run Tryz.prog w = .ok v w := load_cell (by kernel_rfl) hc
theorem c6 (hp : Both k h b x e w) : Calls Tryz.prog 154 #[.pointer (some ⟨h, 0, none⟩)] w (RB w (.bool (halfB x true))) := by
  refine u_of (args := [.pointer (some ⟨h, 0, none⟩)]) Tryz.func154 rfl (Both.stable k h b x e) hp ?_
  refine u_load (fun w q => load_fn q.1.c0) (by kernel_rfl) ?_
  refine u_call (vs := [.bool true, .pointer (some ⟨k, 0, none⟩)]) ent149 (fun w q => half_c k b x e true w q.2) (by kernel_rfl) ?_
  exact u_ret Tryz.func154 (by kernel_rfl)
theorem c7 (hp : Both k h b x e w) : Calls Tryz.prog 155 #[.pointer (some ⟨h, 0, none⟩)] w (RB w (.bool (halfB x false))) := by
  refine u_of (args := [.pointer (some ⟨h, 0, none⟩)]) Tryz.func155 rfl (Both.stable k h b x e) hp ?_
  refine u_load (fun w q => load_fn q.1.c0) (by kernel_rfl) ?_
  refine u_call (vs := [.bool false, .pointer (some ⟨k, 0, none⟩)]) ent149 (fun w q => half_c k b x e false w q.2) (by kernel_rfl) ?_
  exact u_ret Tryz.func155 (by kernel_rfl)
theorem c8 (hp : Both k h b x e w) : Calls Tryz.prog 156 #[.pointer (some ⟨h, 0, none⟩), .pointer (some ⟨k, 0, none⟩)] w (RB w (.bool (halfB x (!b)))) := by
  refine u_of (args := [.pointer (some ⟨h, 0, none⟩), .pointer (some ⟨k, 0, none⟩)]) Tryz.func156 rfl (Both.stable k h b x e) hp ?_
  refine u_load (fun w q => load_fn q.1.c0) (by kernel_rfl) ?_
  refine u_load (fun w q => load_bool q.2.c0) (by kernel_rfl) ?_
  refine u_call (vs := [.bool (!b), .pointer (some ⟨k, 0, none⟩)]) ent149 (fun w q => half_c k b x e (!b) w q.2) (by kernel_rfl) ?_
  exact u_ret Tryz.func156 (by kernel_rfl)
theorem c9 (hp : Both k h b x e w) : Calls Tryz.prog 157 #[.pointer (some ⟨h, 0, none⟩), .pointer (some ⟨k, 0, none⟩)] w (RB w (.bool (halfB x b))) := by
  refine u_of (args := [.pointer (some ⟨h, 0, none⟩), .pointer (some ⟨k, 0, none⟩)]) Tryz.func157 rfl (Both.stable k h b x e) hp ?_
  refine u_load (fun w q => load_fn q.1.c0) (by kernel_rfl) ?_
  refine u_load (fun w q => load_bool q.2.c0) (by kernel_rfl) ?_
  refine u_call (vs := [.bool b, .pointer (some ⟨k, 0, none⟩)]) ent149 (fun w q => half_c k b x e b w q.2) (by kernel_rfl) ?_
  exact u_ret Tryz.func157 (by kernel_rfl)
end
end Go.Proofs.YtccllfegnijpiaaGreat
end
section
/-
  divide.Fraction.
-/
set_option linter.unusedSimpArgs false
set_option linter.unusedVariables false
namespace Go.Proofs.YtccllfegnijpiaaGreat
open Go Go.RowKit

/-- The fraction has room. -/
def fOk (n d : Int) : Prop := d ≠ 0 ∧ W128 (frP n d) ∧ W128 (frQ n d)
instance (n d : Int) : Decidable (fOk n d) := by unfold fOk; exact inferInstance
end Go.Proofs.YtccllfegnijpiaaGreat
end
section
/-
  A total laid out, as the program and the reference do it; sums, rounding.
-/
set_option linter.unusedVariables false
set_option maxRecDepth 100000
namespace Go.Proofs.YtccllfegnijpiaaGreat
open Go Go.RowKit Go.Ev

section
variable (a b c d h mi s n : Int)
theorem uright (i : all64 a b c d h mi s n) : Fn 43 [] [duv a b c d h mi s n] (.bool (decide (uOk a b c d h mi s n))) := by
  by_cases ka : a = 0
  rotate_left
  · by_cases z : 0 < a
    · exact uright_p a b c d h mi s n i (sg8_1 (.inl z)) (.inl z)
    · exact uright_n a b c d h mi s n i (sg8_m (.inl (by omega))) (.inl (by omega))
  by_cases kb : b = 0
  rotate_left
  · by_cases z : 0 < b
    · exact uright_p a b c d h mi s n i (sg8_1 (.inr ⟨ka, (.inl z)⟩)) (.inr ⟨ka, (.inl z)⟩)
    · exact uright_n a b c d h mi s n i (sg8_m (.inr ⟨ka, (.inl (by omega))⟩)) (.inr ⟨ka, (.inl (by omega))⟩)
  by_cases kc : c = 0
  rotate_left
  · by_cases z : 0 < c
    · exact uright_p a b c d h mi s n i (sg8_1 (.inr ⟨ka, (.inr ⟨kb, (.inl z)⟩)⟩)) (.inr ⟨ka, (.inr ⟨kb, (.inl z)⟩)⟩)
    · exact uright_n a b c d h mi s n i (sg8_m (.inr ⟨ka, (.inr ⟨kb, (.inl (by omega))⟩)⟩)) (.inr ⟨ka, (.inr ⟨kb, (.inl (by omega))⟩)⟩)
  by_cases kd : d = 0
  rotate_left
  · by_cases z : 0 < d
    · exact uright_p a b c d h mi s n i (sg8_1 (.inr ⟨ka, (.inr ⟨kb, (.inr ⟨kc, (.inl z)⟩)⟩)⟩)) (.inr ⟨ka, (.inr ⟨kb, (.inr ⟨kc, (.inl z)⟩)⟩)⟩)
    · exact uright_n a b c d h mi s n i (sg8_m (.inr ⟨ka, (.inr ⟨kb, (.inr ⟨kc, (.inl (by omega))⟩)⟩)⟩)) (.inr ⟨ka, (.inr ⟨kb, (.inr ⟨kc, (.inl (by omega))⟩)⟩)⟩)
  by_cases kh : h = 0
  rotate_left
  · by_cases z : 0 < h
    · exact uright_p a b c d h mi s n i (sg8_1 (.inr ⟨ka, (.inr ⟨kb, (.inr ⟨kc, (.inr ⟨kd, (.inl z)⟩)⟩)⟩)⟩)) (.inr ⟨ka, (.inr ⟨kb, (.inr ⟨kc, (.inr ⟨kd, (.inl z)⟩)⟩)⟩)⟩)
    · exact uright_n a b c d h mi s n i (sg8_m (.inr ⟨ka, (.inr ⟨kb, (.inr ⟨kc, (.inr ⟨kd, (.inl (by omega))⟩)⟩)⟩)⟩)) (.inr ⟨ka, (.inr ⟨kb, (.inr ⟨kc, (.inr ⟨kd, (.inl (by omega))⟩)⟩)⟩)⟩)
  by_cases kmi : mi = 0
  rotate_left
  · by_cases z : 0 < mi
    · exact uright_p a b c d h mi s n i (sg8_1 (.inr ⟨ka, (.inr ⟨kb, (.inr ⟨kc, (.inr ⟨kd, (.inr ⟨kh, (.inl z)⟩)⟩)⟩)⟩)⟩)) (.inr ⟨ka, (.inr ⟨kb, (.inr ⟨kc, (.inr ⟨kd, (.inr ⟨kh, (.inl z)⟩)⟩)⟩)⟩)⟩)
    · exact uright_n a b c d h mi s n i (sg8_m (.inr ⟨ka, (.inr ⟨kb, (.inr ⟨kc, (.inr ⟨kd, (.inr ⟨kh, (.inl (by omega))⟩)⟩)⟩)⟩)⟩)) (.inr ⟨ka, (.inr ⟨kb, (.inr ⟨kc, (.inr ⟨kd, (.inr ⟨kh, (.inl (by omega))⟩)⟩)⟩)⟩)⟩)
  by_cases ks : s = 0
  rotate_left
  · by_cases z : 0 < s
    · exact uright_p a b c d h mi s n i (sg8_1 (.inr ⟨ka, (.inr ⟨kb, (.inr ⟨kc, (.inr ⟨kd, (.inr ⟨kh, (.inr ⟨kmi, (.inl z)⟩)⟩)⟩)⟩)⟩)⟩)) (.inr ⟨ka, (.inr ⟨kb, (.inr ⟨kc, (.inr ⟨kd, (.inr ⟨kh, (.inr ⟨kmi, (.inl z)⟩)⟩)⟩)⟩)⟩)⟩)
    · exact uright_n a b c d h mi s n i (sg8_m (.inr ⟨ka, (.inr ⟨kb, (.inr ⟨kc, (.inr ⟨kd, (.inr ⟨kh, (.inr ⟨kmi, (.inl (by omega))⟩)⟩)⟩)⟩)⟩)⟩)) (.inr ⟨ka, (.inr ⟨kb, (.inr ⟨kc, (.inr ⟨kd, (.inr ⟨kh, (.inr ⟨kmi, (.inl (by omega))⟩)⟩)⟩)⟩)⟩)⟩)
  by_cases kn : n = 0
  rotate_left
  · by_cases z : 0 < n
    · exact uright_p a b c d h mi s n i (sg8_1 (.inr ⟨ka, (.inr ⟨kb, (.inr ⟨kc, (.inr ⟨kd, (.inr ⟨kh, (.inr ⟨kmi, (.inr ⟨ks, z⟩)⟩)⟩)⟩)⟩)⟩)⟩)) (.inr ⟨ka, (.inr ⟨kb, (.inr ⟨kc, (.inr ⟨kd, (.inr ⟨kh, (.inr ⟨kmi, (.inr ⟨ks, z⟩)⟩)⟩)⟩)⟩)⟩)⟩)
    · exact uright_n a b c d h mi s n i (sg8_m (.inr ⟨ka, (.inr ⟨kb, (.inr ⟨kc, (.inr ⟨kd, (.inr ⟨kh, (.inr ⟨kmi, (.inr ⟨ks, (by omega)⟩)⟩)⟩)⟩)⟩)⟩)⟩)) (.inr ⟨ka, (.inr ⟨kb, (.inr ⟨kc, (.inr ⟨kd, (.inr ⟨kh, (.inr ⟨kmi, (.inr ⟨ks, (by omega)⟩)⟩)⟩)⟩)⟩)⟩)⟩)
  exact uright_z a b c d h mi s n i (sg8_0 ⟨ka, kb, kc, kd, kh, kmi, ks, kn⟩) ⟨ka, kb, kc, kd, kh, kmi, ks, kn⟩
theorem zuright (i : all64 a b c d h mi s n) : Fn 50 [] [duv a b c d h mi s n] (.bool (decide (uOk a b c d h mi s n))) := by
  by_cases hp : pos8 a b c d h mi s n
  · exact zuright_p a b c d h mi s n i hp
  · by_cases hn : neg8 a b c d h mi s n
    · exact zuright_n a b c d h mi s n i hn
    · exact zuright_m a b c d h mi s n i hp hn
theorem uright_y (i : all64 a b c d h mi s n) (k : uOk a b c d h mi s n) : Fn 43 [] [duv a b c d h mi s n] (.bool true) := by have := uright a b c d h mi s n i; rwa [decide_eq_true k] at this
theorem uright_f (i : all64 a b c d h mi s n) (k : ¬ uOk a b c d h mi s n) : Fn 43 [] [duv a b c d h mi s n] (.bool false) := by have := uright a b c d h mi s n i; rwa [decide_eq_false k] at this
theorem zuright_y (i : all64 a b c d h mi s n) (k : uOk a b c d h mi s n) : Fn 50 [] [duv a b c d h mi s n] (.bool true) := by have := zuright a b c d h mi s n i; rwa [decide_eq_true k] at this
theorem zuright_f (i : all64 a b c d h mi s n) (k : ¬ uOk a b c d h mi s n) : Fn 50 [] [duv a b c d h mi s n] (.bool false) := by have := zuright a b c d h mi s n i; rwa [decide_eq_false k] at this
theorem utotal_y (i : all64 a b c d h mi s n) (k : uOk a b c d h mi s n) : Fn 107 [] [duv a b c d h mi s n] (.tuple #[wv (dtot d h mi s n), .int .i64 0]) := by
  have r := uright_y a b c d h mi s n i k
  obtain ⟨i1, i2, i3, i4, i5, i6, i7, i8⟩ := i
  have t := utot a b c d h mi s n i4 i5 i6 i7 i8
  refine fn_of Tryz.func107 rfl fun ww => ?_
  refine st_fn ent43 (r) sub0 (by kernel_rfl) ?_
  refine st_fn ent102 (t) sub0 (by kernel_rfl) ?_
  exact st_ret Tryz.func107 (by kernel_rfl)
end
/-! laid out -/
theorem tch (x A B : Int) (hx : W128 x) (hA : 0 < A) (hB : 0 < B) (hd : B ∣ A) (hAW : A ≤ 86400000000000) (hBW : B ≤ 86400000000000) : Fn 45 [] [wv (x.tmod A), wv B] (.tuple #[wv ((x.tmod A).tdiv B), wv (x.tmod B), .int .i64 0]) := by
  obtain ⟨e1, e2, e3⟩ := td x A hA
  have m1 : -A < x.tmod A ∧ x.tmod A < A := by
    by_cases h : 0 ≤ x
    · have := e2 h; omega
    · have := e3 (by omega); omega
  obtain ⟨f1, f2, f3⟩ := td (x.tmod A) B hB
  have q1 : W128 ((x.tmod A).tdiv B) := by
    have key : ∀ q : Int, 0 ≤ q → q ≤ q * B := fun q h => by
      have := Int.mul_le_mul_of_nonneg_left (show 1 ≤ B by omega) h; omega
    by_cases h : 0 ≤ x.tmod A
    · have g := f2 h
      have := key _ g.1
      unfold W128; omega
    · have g := f3 (by omega)
      have := key (-((x.tmod A).tdiv B)) (by omega)
      rw [Int.neg_mul] at this
      unfold W128; omega
  have t := dtrunc_yes (x.tmod A) B (by unfold W128; omega) (by unfold W128; omega) (by omega) q1
  rwa [Int.tmod_tmod_of_dvd x hd] at t
theorem ttop (x B : Int) (hx : W128 x) (hB : 0 < B) (hBW : B ≤ 86400000000000) : Fn 45 [] [wv x, wv B] (.tuple #[wv (x.tdiv B), wv (x.tmod B), .int .i64 0]) ∧ W128 (x.tmod B) := by
  obtain ⟨e1, e2, e3⟩ := td x B hB
  have key : ∀ q : Int, 0 ≤ q → q ≤ q * B := fun q h => by
    have := Int.mul_le_mul_of_nonneg_left (show 1 ≤ B by omega) h; omega
  unfold W128 at hx
  by_cases h : 0 ≤ x
  · have g := e2 h
    have := key _ g.1
    exact ⟨dtrunc_yes x B (by unfold W128; omega) (by unfold W128; omega) (by omega) (by unfold W128; omega), by unfold W128; omega⟩
  · have g := e3 (by omega)
    have := key (-(x.tdiv B)) (by omega)
    rw [Int.neg_mul] at this
    exact ⟨dtrunc_yes x B (by unfold W128; omega) (by unfold W128; omega) (by omega) (by unfold W128; omega), by unfold W128; omega⟩
theorem tdiv_1 (x : Int) : x.tdiv 1 = x := Int.tdiv_one x
theorem tmod_1 (x : Int) : x.tmod 1 = 0 := Int.tmod_one x
theorem ulay4_y (x : Int) (hx : W128 x) (g : I64 (x.tdiv 86400000000000)) (k : uOk 0 0 0 (x.tdiv 86400000000000) ((x.tmod 86400000000000).tdiv 3600000000000) ((x.tmod 3600000000000).tdiv 60000000000) ((x.tmod 60000000000).tdiv 1000000000) (x.tmod 1000000000)) : Fn 63 [] [wv x, .int .i64 4] (.tuple #[duv 0 0 0 (x.tdiv 86400000000000) ((x.tmod 86400000000000).tdiv 3600000000000) ((x.tmod 3600000000000).tdiv 60000000000) ((x.tmod 60000000000).tdiv 1000000000) (x.tmod 1000000000), .int .i64 0]) := by
  obtain ⟨t0, m0⟩ := ttop x 86400000000000 hx (by omega) (by omega)
  have t1 := tch x 86400000000000 3600000000000 hx (by omega) (by omega) (by decide) (by omega) (by omega)
  have t2 := tch x 3600000000000 60000000000 hx (by omega) (by omega) (by decide) (by omega) (by omega)
  have t3 := tch x 60000000000 1000000000 hx (by omega) (by omega) (by decide) (by omega) (by omega)
  have t4 := tch x 1000000000 1 hx (by omega) (by omega) (by decide) (by omega) (by omega)
  rw [tdiv_1, tmod_1] at t4
  have g5 : I64 ((x.tmod 86400000000000).tdiv 3600000000000) := by have := td2 x 86400000000000 3600000000000 24 (by decide) (by omega) (by omega); unfold I64; omega
  have g6 : I64 ((x.tmod 3600000000000).tdiv 60000000000) := by have := td2 x 3600000000000 60000000000 60 (by decide) (by omega) (by omega); unfold I64; omega
  have g7 : I64 ((x.tmod 60000000000).tdiv 1000000000) := by have := td2 x 60000000000 1000000000 60 (by decide) (by omega) (by omega); unfold I64; omega
  have g8 : I64 (x.tmod 1000000000) := by
    obtain ⟨e1, e2, e3⟩ := td x 1000000000 (by omega)
    by_cases z : 0 ≤ x
    · have := e2 z; unfold I64; omega
    · have := e3 (by omega); unfold I64; omega
  have j1 : I64 86400000000000 := by unfold I64; omega
  have j2 : I64 3600000000000 := by unfold I64; omega
  have j3 : I64 60000000000 := by unfold I64; omega
  have j4 : I64 1000000000 := by unfold I64; omega
  have j5 : I64 1 := by unfold I64; omega
  have j0 : I64 0 := by unfold I64; omega
  have r := uright_y 0 0 0 (x.tdiv 86400000000000) ((x.tmod 86400000000000).tdiv 3600000000000) ((x.tmod 3600000000000).tdiv 60000000000) ((x.tmod 60000000000).tdiv 1000000000) (x.tmod 1000000000) ⟨j0, j0, j0, g, g5, g6, g7, g8⟩ k
  refine fn_of Tryz.func63 rfl fun ww => ?_
  refine st_fn ent96 (ulen4) sub0 (by kernel_rfl) ?_
  refine ufields_row 2 0 (by kernel_rfl) ?_
  refine st_round (by kernel_rfl) ?_
  refine st_fn ent96 (ulen4) sub0 (by kernel_rfl) ?_
  refine st_fn ent40 (wof_fn (86400000000000) (by assumption)) sub0 (by kernel_rfl) ?_
  refine st_fn ent45 (t0) sub0 (by kernel_rfl) ?_
  refine st_fn ent47 (wint_f (x.tdiv 86400000000000) (by assumption)) sub0 (by kernel_rfl) ?_
  refine st_i 21 .i64 (x' := 4 + 1) (Go.IntWalk.i64_in _ (by omega)) (by kernel_rfl) ?_
  refine st_round (by kernel_rfl) ?_
  refine st_fn ent96 (ulen5) sub0 (by kernel_rfl) ?_
  refine st_fn ent40 (wof_fn (3600000000000) (by assumption)) sub0 (by kernel_rfl) ?_
  refine st_fn ent45 (t1) sub0 (by kernel_rfl) ?_
  refine st_fn ent47 (wint_f ((x.tmod 86400000000000).tdiv 3600000000000) (by assumption)) sub0 (by kernel_rfl) ?_
  refine st_i 21 .i64 (x' := 4 + 1 + 1) (Go.IntWalk.i64_in _ (by omega)) (by kernel_rfl) ?_
  refine st_round (by kernel_rfl) ?_
  refine st_fn ent96 (ulen6) sub0 (by kernel_rfl) ?_
  refine st_fn ent40 (wof_fn (60000000000) (by assumption)) sub0 (by kernel_rfl) ?_
  refine st_fn ent45 (t2) sub0 (by kernel_rfl) ?_
  refine st_fn ent47 (wint_f ((x.tmod 3600000000000).tdiv 60000000000) (by assumption)) sub0 (by kernel_rfl) ?_
  refine st_i 21 .i64 (x' := 4 + 1 + 1 + 1) (Go.IntWalk.i64_in _ (by omega)) (by kernel_rfl) ?_
  refine st_round (by kernel_rfl) ?_
  refine st_fn ent96 (ulen7) sub0 (by kernel_rfl) ?_
  refine st_fn ent40 (wof_fn (1000000000) (by assumption)) sub0 (by kernel_rfl) ?_
  refine st_fn ent45 (t3) sub0 (by kernel_rfl) ?_
  refine st_fn ent47 (wint_f ((x.tmod 60000000000).tdiv 1000000000) (by assumption)) sub0 (by kernel_rfl) ?_
  refine st_i 21 .i64 (x' := 4 + 1 + 1 + 1 + 1) (Go.IntWalk.i64_in _ (by omega)) (by kernel_rfl) ?_
  refine st_round (by kernel_rfl) ?_
  refine st_fn ent96 (ulen8) sub0 (by kernel_rfl) ?_
  refine st_fn ent40 (wof_fn (1) (by assumption)) sub0 (by kernel_rfl) ?_
  refine st_fn ent45 (t4) sub0 (by kernel_rfl) ?_
  refine st_fn ent47 (wint_f (x.tmod 1000000000) (by assumption)) sub0 (by kernel_rfl) ?_
  refine st_i 21 .i64 (x' := 4 + 1 + 1 + 1 + 1 + 1) (Go.IntWalk.i64_in _ (by omega)) (by kernel_rfl) ?_
  refine st_round (by kernel_rfl) ?_
  refine st_fn ent43 (r) sub0 (by kernel_rfl) ?_
  exact st_ret Tryz.func63 (by kernel_rfl)
theorem ulay4_r (x : Int) (hx : W128 x) (g : I64 (x.tdiv 86400000000000)) (k : ¬ uOk 0 0 0 (x.tdiv 86400000000000) ((x.tmod 86400000000000).tdiv 3600000000000) ((x.tmod 3600000000000).tdiv 60000000000) ((x.tmod 60000000000).tdiv 1000000000) (x.tmod 1000000000)) : Fn 63 [] [wv x, .int .i64 4] (.tuple #[du0, .int .i64 4]) := by
  obtain ⟨t0, m0⟩ := ttop x 86400000000000 hx (by omega) (by omega)
  have t1 := tch x 86400000000000 3600000000000 hx (by omega) (by omega) (by decide) (by omega) (by omega)
  have t2 := tch x 3600000000000 60000000000 hx (by omega) (by omega) (by decide) (by omega) (by omega)
  have t3 := tch x 60000000000 1000000000 hx (by omega) (by omega) (by decide) (by omega) (by omega)
  have t4 := tch x 1000000000 1 hx (by omega) (by omega) (by decide) (by omega) (by omega)
  rw [tdiv_1, tmod_1] at t4
  have g5 : I64 ((x.tmod 86400000000000).tdiv 3600000000000) := by have := td2 x 86400000000000 3600000000000 24 (by decide) (by omega) (by omega); unfold I64; omega
  have g6 : I64 ((x.tmod 3600000000000).tdiv 60000000000) := by have := td2 x 3600000000000 60000000000 60 (by decide) (by omega) (by omega); unfold I64; omega
  have g7 : I64 ((x.tmod 60000000000).tdiv 1000000000) := by have := td2 x 60000000000 1000000000 60 (by decide) (by omega) (by omega); unfold I64; omega
  have g8 : I64 (x.tmod 1000000000) := by
    obtain ⟨e1, e2, e3⟩ := td x 1000000000 (by omega)
    by_cases z : 0 ≤ x
    · have := e2 z; unfold I64; omega
    · have := e3 (by omega); unfold I64; omega
  have j1 : I64 86400000000000 := by unfold I64; omega
  have j2 : I64 3600000000000 := by unfold I64; omega
  have j3 : I64 60000000000 := by unfold I64; omega
  have j4 : I64 1000000000 := by unfold I64; omega
  have j5 : I64 1 := by unfold I64; omega
  have j0 : I64 0 := by unfold I64; omega
  have r := uright_f 0 0 0 (x.tdiv 86400000000000) ((x.tmod 86400000000000).tdiv 3600000000000) ((x.tmod 3600000000000).tdiv 60000000000) ((x.tmod 60000000000).tdiv 1000000000) (x.tmod 1000000000) ⟨j0, j0, j0, g, g5, g6, g7, g8⟩ k
  refine fn_of Tryz.func63 rfl fun ww => ?_
  refine st_fn ent96 (ulen4) sub0 (by kernel_rfl) ?_
  refine ufields_row 2 0 (by kernel_rfl) ?_
  refine st_round (by kernel_rfl) ?_
  refine st_fn ent96 (ulen4) sub0 (by kernel_rfl) ?_
  refine st_fn ent40 (wof_fn (86400000000000) (by assumption)) sub0 (by kernel_rfl) ?_
  refine st_fn ent45 (t0) sub0 (by kernel_rfl) ?_
  refine st_fn ent47 (wint_f (x.tdiv 86400000000000) (by assumption)) sub0 (by kernel_rfl) ?_
  refine st_i 21 .i64 (x' := 4 + 1) (Go.IntWalk.i64_in _ (by omega)) (by kernel_rfl) ?_
  refine st_round (by kernel_rfl) ?_
  refine st_fn ent96 (ulen5) sub0 (by kernel_rfl) ?_
  refine st_fn ent40 (wof_fn (3600000000000) (by assumption)) sub0 (by kernel_rfl) ?_
  refine st_fn ent45 (t1) sub0 (by kernel_rfl) ?_
  refine st_fn ent47 (wint_f ((x.tmod 86400000000000).tdiv 3600000000000) (by assumption)) sub0 (by kernel_rfl) ?_
  refine st_i 21 .i64 (x' := 4 + 1 + 1) (Go.IntWalk.i64_in _ (by omega)) (by kernel_rfl) ?_
  refine st_round (by kernel_rfl) ?_
  refine st_fn ent96 (ulen6) sub0 (by kernel_rfl) ?_
  refine st_fn ent40 (wof_fn (60000000000) (by assumption)) sub0 (by kernel_rfl) ?_
  refine st_fn ent45 (t2) sub0 (by kernel_rfl) ?_
  refine st_fn ent47 (wint_f ((x.tmod 3600000000000).tdiv 60000000000) (by assumption)) sub0 (by kernel_rfl) ?_
  refine st_i 21 .i64 (x' := 4 + 1 + 1 + 1) (Go.IntWalk.i64_in _ (by omega)) (by kernel_rfl) ?_
  refine st_round (by kernel_rfl) ?_
  refine st_fn ent96 (ulen7) sub0 (by kernel_rfl) ?_
  refine st_fn ent40 (wof_fn (1000000000) (by assumption)) sub0 (by kernel_rfl) ?_
  refine st_fn ent45 (t3) sub0 (by kernel_rfl) ?_
  refine st_fn ent47 (wint_f ((x.tmod 60000000000).tdiv 1000000000) (by assumption)) sub0 (by kernel_rfl) ?_
  refine st_i 21 .i64 (x' := 4 + 1 + 1 + 1 + 1) (Go.IntWalk.i64_in _ (by omega)) (by kernel_rfl) ?_
  refine st_round (by kernel_rfl) ?_
  refine st_fn ent96 (ulen8) sub0 (by kernel_rfl) ?_
  refine st_fn ent40 (wof_fn (1) (by assumption)) sub0 (by kernel_rfl) ?_
  refine st_fn ent45 (t4) sub0 (by kernel_rfl) ?_
  refine st_fn ent47 (wint_f (x.tmod 1000000000) (by assumption)) sub0 (by kernel_rfl) ?_
  refine st_i 21 .i64 (x' := 4 + 1 + 1 + 1 + 1 + 1) (Go.IntWalk.i64_in _ (by omega)) (by kernel_rfl) ?_
  refine st_round (by kernel_rfl) ?_
  refine st_fn ent43 (r) sub0 (by kernel_rfl) ?_
  exact st_ret Tryz.func63 (by kernel_rfl)
theorem ulay4_o (x : Int) (hx : W128 x) (g : ¬ I64 (x.tdiv 86400000000000)) : Fn 63 [] [wv x, .int .i64 4] (.tuple #[du0, .int .i64 4]) := by
  obtain ⟨t0, m0⟩ := ttop x 86400000000000 hx (by omega) (by omega)
  have t1 := tch x 86400000000000 3600000000000 hx (by omega) (by omega) (by decide) (by omega) (by omega)
  have t2 := tch x 3600000000000 60000000000 hx (by omega) (by omega) (by decide) (by omega) (by omega)
  have t3 := tch x 60000000000 1000000000 hx (by omega) (by omega) (by decide) (by omega) (by omega)
  have t4 := tch x 1000000000 1 hx (by omega) (by omega) (by decide) (by omega) (by omega)
  rw [tdiv_1, tmod_1] at t4
  have g5 : I64 ((x.tmod 86400000000000).tdiv 3600000000000) := by have := td2 x 86400000000000 3600000000000 24 (by decide) (by omega) (by omega); unfold I64; omega
  have g6 : I64 ((x.tmod 3600000000000).tdiv 60000000000) := by have := td2 x 3600000000000 60000000000 60 (by decide) (by omega) (by omega); unfold I64; omega
  have g7 : I64 ((x.tmod 60000000000).tdiv 1000000000) := by have := td2 x 60000000000 1000000000 60 (by decide) (by omega) (by omega); unfold I64; omega
  have g8 : I64 (x.tmod 1000000000) := by
    obtain ⟨e1, e2, e3⟩ := td x 1000000000 (by omega)
    by_cases z : 0 ≤ x
    · have := e2 z; unfold I64; omega
    · have := e3 (by omega); unfold I64; omega
  have j1 : I64 86400000000000 := by unfold I64; omega
  have j2 : I64 3600000000000 := by unfold I64; omega
  have j3 : I64 60000000000 := by unfold I64; omega
  have j4 : I64 1000000000 := by unfold I64; omega
  have j5 : I64 1 := by unfold I64; omega
  have j0 : I64 0 := by unfold I64; omega
  refine fn_of Tryz.func63 rfl fun ww => ?_
  refine st_fn ent96 (ulen4) sub0 (by kernel_rfl) ?_
  refine ufields_row 2 0 (by kernel_rfl) ?_
  refine st_round (by kernel_rfl) ?_
  refine st_fn ent96 (ulen4) sub0 (by kernel_rfl) ?_
  refine st_fn ent40 (wof_fn (86400000000000) (by assumption)) sub0 (by kernel_rfl) ?_
  refine st_fn ent45 (t0) sub0 (by kernel_rfl) ?_
  refine st_fn ent47 (wint_n (x.tdiv 86400000000000) (by assumption)) sub0 (by kernel_rfl) ?_
  exact st_ret Tryz.func63 (by kernel_rfl)
theorem ulay5_y (x : Int) (hx : W128 x) (g : I64 (x.tdiv 3600000000000)) (k : uOk 0 0 0 0 (x.tdiv 3600000000000) ((x.tmod 3600000000000).tdiv 60000000000) ((x.tmod 60000000000).tdiv 1000000000) (x.tmod 1000000000)) : Fn 63 [] [wv x, .int .i64 5] (.tuple #[duv 0 0 0 0 (x.tdiv 3600000000000) ((x.tmod 3600000000000).tdiv 60000000000) ((x.tmod 60000000000).tdiv 1000000000) (x.tmod 1000000000), .int .i64 0]) := by
  obtain ⟨t0, m0⟩ := ttop x 3600000000000 hx (by omega) (by omega)
  have t1 := tch x 3600000000000 60000000000 hx (by omega) (by omega) (by decide) (by omega) (by omega)
  have t2 := tch x 60000000000 1000000000 hx (by omega) (by omega) (by decide) (by omega) (by omega)
  have t3 := tch x 1000000000 1 hx (by omega) (by omega) (by decide) (by omega) (by omega)
  rw [tdiv_1, tmod_1] at t3
  have g6 : I64 ((x.tmod 3600000000000).tdiv 60000000000) := by have := td2 x 3600000000000 60000000000 60 (by decide) (by omega) (by omega); unfold I64; omega
  have g7 : I64 ((x.tmod 60000000000).tdiv 1000000000) := by have := td2 x 60000000000 1000000000 60 (by decide) (by omega) (by omega); unfold I64; omega
  have g8 : I64 (x.tmod 1000000000) := by
    obtain ⟨e1, e2, e3⟩ := td x 1000000000 (by omega)
    by_cases z : 0 ≤ x
    · have := e2 z; unfold I64; omega
    · have := e3 (by omega); unfold I64; omega
  have j1 : I64 86400000000000 := by unfold I64; omega
  have j2 : I64 3600000000000 := by unfold I64; omega
  have j3 : I64 60000000000 := by unfold I64; omega
  have j4 : I64 1000000000 := by unfold I64; omega
  have j5 : I64 1 := by unfold I64; omega
  have j0 : I64 0 := by unfold I64; omega
  have r := uright_y 0 0 0 0 (x.tdiv 3600000000000) ((x.tmod 3600000000000).tdiv 60000000000) ((x.tmod 60000000000).tdiv 1000000000) (x.tmod 1000000000) ⟨j0, j0, j0, j0, g, g6, g7, g8⟩ k
  refine fn_of Tryz.func63 rfl fun ww => ?_
  refine st_fn ent96 (ulen5) sub0 (by kernel_rfl) ?_
  refine ufields_row 2 0 (by kernel_rfl) ?_
  refine st_round (by kernel_rfl) ?_
  refine st_fn ent96 (ulen5) sub0 (by kernel_rfl) ?_
  refine st_fn ent40 (wof_fn (3600000000000) (by assumption)) sub0 (by kernel_rfl) ?_
  refine st_fn ent45 (t0) sub0 (by kernel_rfl) ?_
  refine st_fn ent47 (wint_f (x.tdiv 3600000000000) (by assumption)) sub0 (by kernel_rfl) ?_
  refine st_i 21 .i64 (x' := 5 + 1) (Go.IntWalk.i64_in _ (by omega)) (by kernel_rfl) ?_
  refine st_round (by kernel_rfl) ?_
  refine st_fn ent96 (ulen6) sub0 (by kernel_rfl) ?_
  refine st_fn ent40 (wof_fn (60000000000) (by assumption)) sub0 (by kernel_rfl) ?_
  refine st_fn ent45 (t1) sub0 (by kernel_rfl) ?_
  refine st_fn ent47 (wint_f ((x.tmod 3600000000000).tdiv 60000000000) (by assumption)) sub0 (by kernel_rfl) ?_
  refine st_i 21 .i64 (x' := 5 + 1 + 1) (Go.IntWalk.i64_in _ (by omega)) (by kernel_rfl) ?_
  refine st_round (by kernel_rfl) ?_
  refine st_fn ent96 (ulen7) sub0 (by kernel_rfl) ?_
  refine st_fn ent40 (wof_fn (1000000000) (by assumption)) sub0 (by kernel_rfl) ?_
  refine st_fn ent45 (t2) sub0 (by kernel_rfl) ?_
  refine st_fn ent47 (wint_f ((x.tmod 60000000000).tdiv 1000000000) (by assumption)) sub0 (by kernel_rfl) ?_
  refine st_i 21 .i64 (x' := 5 + 1 + 1 + 1) (Go.IntWalk.i64_in _ (by omega)) (by kernel_rfl) ?_
  refine st_round (by kernel_rfl) ?_
  refine st_fn ent96 (ulen8) sub0 (by kernel_rfl) ?_
  refine st_fn ent40 (wof_fn (1) (by assumption)) sub0 (by kernel_rfl) ?_
  refine st_fn ent45 (t3) sub0 (by kernel_rfl) ?_
  refine st_fn ent47 (wint_f (x.tmod 1000000000) (by assumption)) sub0 (by kernel_rfl) ?_
  refine st_i 21 .i64 (x' := 5 + 1 + 1 + 1 + 1) (Go.IntWalk.i64_in _ (by omega)) (by kernel_rfl) ?_
  refine st_round (by kernel_rfl) ?_
  refine st_fn ent43 (r) sub0 (by kernel_rfl) ?_
  exact st_ret Tryz.func63 (by kernel_rfl)
theorem ulay5_r (x : Int) (hx : W128 x) (g : I64 (x.tdiv 3600000000000)) (k : ¬ uOk 0 0 0 0 (x.tdiv 3600000000000) ((x.tmod 3600000000000).tdiv 60000000000) ((x.tmod 60000000000).tdiv 1000000000) (x.tmod 1000000000)) : Fn 63 [] [wv x, .int .i64 5] (.tuple #[du0, .int .i64 4]) := by
  obtain ⟨t0, m0⟩ := ttop x 3600000000000 hx (by omega) (by omega)
  have t1 := tch x 3600000000000 60000000000 hx (by omega) (by omega) (by decide) (by omega) (by omega)
  have t2 := tch x 60000000000 1000000000 hx (by omega) (by omega) (by decide) (by omega) (by omega)
  have t3 := tch x 1000000000 1 hx (by omega) (by omega) (by decide) (by omega) (by omega)
  rw [tdiv_1, tmod_1] at t3
  have g6 : I64 ((x.tmod 3600000000000).tdiv 60000000000) := by have := td2 x 3600000000000 60000000000 60 (by decide) (by omega) (by omega); unfold I64; omega
  have g7 : I64 ((x.tmod 60000000000).tdiv 1000000000) := by have := td2 x 60000000000 1000000000 60 (by decide) (by omega) (by omega); unfold I64; omega
  have g8 : I64 (x.tmod 1000000000) := by
    obtain ⟨e1, e2, e3⟩ := td x 1000000000 (by omega)
    by_cases z : 0 ≤ x
    · have := e2 z; unfold I64; omega
    · have := e3 (by omega); unfold I64; omega
  have j1 : I64 86400000000000 := by unfold I64; omega
  have j2 : I64 3600000000000 := by unfold I64; omega
  have j3 : I64 60000000000 := by unfold I64; omega
  have j4 : I64 1000000000 := by unfold I64; omega
  have j5 : I64 1 := by unfold I64; omega
  have j0 : I64 0 := by unfold I64; omega
  have r := uright_f 0 0 0 0 (x.tdiv 3600000000000) ((x.tmod 3600000000000).tdiv 60000000000) ((x.tmod 60000000000).tdiv 1000000000) (x.tmod 1000000000) ⟨j0, j0, j0, j0, g, g6, g7, g8⟩ k
  refine fn_of Tryz.func63 rfl fun ww => ?_
  refine st_fn ent96 (ulen5) sub0 (by kernel_rfl) ?_
  refine ufields_row 2 0 (by kernel_rfl) ?_
  refine st_round (by kernel_rfl) ?_
  refine st_fn ent96 (ulen5) sub0 (by kernel_rfl) ?_
  refine st_fn ent40 (wof_fn (3600000000000) (by assumption)) sub0 (by kernel_rfl) ?_
  refine st_fn ent45 (t0) sub0 (by kernel_rfl) ?_
  refine st_fn ent47 (wint_f (x.tdiv 3600000000000) (by assumption)) sub0 (by kernel_rfl) ?_
  refine st_i 21 .i64 (x' := 5 + 1) (Go.IntWalk.i64_in _ (by omega)) (by kernel_rfl) ?_
  refine st_round (by kernel_rfl) ?_
  refine st_fn ent96 (ulen6) sub0 (by kernel_rfl) ?_
  refine st_fn ent40 (wof_fn (60000000000) (by assumption)) sub0 (by kernel_rfl) ?_
  refine st_fn ent45 (t1) sub0 (by kernel_rfl) ?_
  refine st_fn ent47 (wint_f ((x.tmod 3600000000000).tdiv 60000000000) (by assumption)) sub0 (by kernel_rfl) ?_
  refine st_i 21 .i64 (x' := 5 + 1 + 1) (Go.IntWalk.i64_in _ (by omega)) (by kernel_rfl) ?_
  refine st_round (by kernel_rfl) ?_
  refine st_fn ent96 (ulen7) sub0 (by kernel_rfl) ?_
  refine st_fn ent40 (wof_fn (1000000000) (by assumption)) sub0 (by kernel_rfl) ?_
  refine st_fn ent45 (t2) sub0 (by kernel_rfl) ?_
  refine st_fn ent47 (wint_f ((x.tmod 60000000000).tdiv 1000000000) (by assumption)) sub0 (by kernel_rfl) ?_
  refine st_i 21 .i64 (x' := 5 + 1 + 1 + 1) (Go.IntWalk.i64_in _ (by omega)) (by kernel_rfl) ?_
  refine st_round (by kernel_rfl) ?_
  refine st_fn ent96 (ulen8) sub0 (by kernel_rfl) ?_
  refine st_fn ent40 (wof_fn (1) (by assumption)) sub0 (by kernel_rfl) ?_
  refine st_fn ent45 (t3) sub0 (by kernel_rfl) ?_
  refine st_fn ent47 (wint_f (x.tmod 1000000000) (by assumption)) sub0 (by kernel_rfl) ?_
  refine st_i 21 .i64 (x' := 5 + 1 + 1 + 1 + 1) (Go.IntWalk.i64_in _ (by omega)) (by kernel_rfl) ?_
  refine st_round (by kernel_rfl) ?_
  refine st_fn ent43 (r) sub0 (by kernel_rfl) ?_
  exact st_ret Tryz.func63 (by kernel_rfl)
theorem ulay5_o (x : Int) (hx : W128 x) (g : ¬ I64 (x.tdiv 3600000000000)) : Fn 63 [] [wv x, .int .i64 5] (.tuple #[du0, .int .i64 4]) := by
  obtain ⟨t0, m0⟩ := ttop x 3600000000000 hx (by omega) (by omega)
  have t1 := tch x 3600000000000 60000000000 hx (by omega) (by omega) (by decide) (by omega) (by omega)
  have t2 := tch x 60000000000 1000000000 hx (by omega) (by omega) (by decide) (by omega) (by omega)
  have t3 := tch x 1000000000 1 hx (by omega) (by omega) (by decide) (by omega) (by omega)
  rw [tdiv_1, tmod_1] at t3
  have g6 : I64 ((x.tmod 3600000000000).tdiv 60000000000) := by have := td2 x 3600000000000 60000000000 60 (by decide) (by omega) (by omega); unfold I64; omega
  have g7 : I64 ((x.tmod 60000000000).tdiv 1000000000) := by have := td2 x 60000000000 1000000000 60 (by decide) (by omega) (by omega); unfold I64; omega
  have g8 : I64 (x.tmod 1000000000) := by
    obtain ⟨e1, e2, e3⟩ := td x 1000000000 (by omega)
    by_cases z : 0 ≤ x
    · have := e2 z; unfold I64; omega
    · have := e3 (by omega); unfold I64; omega
  have j1 : I64 86400000000000 := by unfold I64; omega
  have j2 : I64 3600000000000 := by unfold I64; omega
  have j3 : I64 60000000000 := by unfold I64; omega
  have j4 : I64 1000000000 := by unfold I64; omega
  have j5 : I64 1 := by unfold I64; omega
  have j0 : I64 0 := by unfold I64; omega
  refine fn_of Tryz.func63 rfl fun ww => ?_
  refine st_fn ent96 (ulen5) sub0 (by kernel_rfl) ?_
  refine ufields_row 2 0 (by kernel_rfl) ?_
  refine st_round (by kernel_rfl) ?_
  refine st_fn ent96 (ulen5) sub0 (by kernel_rfl) ?_
  refine st_fn ent40 (wof_fn (3600000000000) (by assumption)) sub0 (by kernel_rfl) ?_
  refine st_fn ent45 (t0) sub0 (by kernel_rfl) ?_
  refine st_fn ent47 (wint_n (x.tdiv 3600000000000) (by assumption)) sub0 (by kernel_rfl) ?_
  exact st_ret Tryz.func63 (by kernel_rfl)
theorem ulay6_y (x : Int) (hx : W128 x) (g : I64 (x.tdiv 60000000000)) (k : uOk 0 0 0 0 0 (x.tdiv 60000000000) ((x.tmod 60000000000).tdiv 1000000000) (x.tmod 1000000000)) : Fn 63 [] [wv x, .int .i64 6] (.tuple #[duv 0 0 0 0 0 (x.tdiv 60000000000) ((x.tmod 60000000000).tdiv 1000000000) (x.tmod 1000000000), .int .i64 0]) := by
  obtain ⟨t0, m0⟩ := ttop x 60000000000 hx (by omega) (by omega)
  have t1 := tch x 60000000000 1000000000 hx (by omega) (by omega) (by decide) (by omega) (by omega)
  have t2 := tch x 1000000000 1 hx (by omega) (by omega) (by decide) (by omega) (by omega)
  rw [tdiv_1, tmod_1] at t2
  have g7 : I64 ((x.tmod 60000000000).tdiv 1000000000) := by have := td2 x 60000000000 1000000000 60 (by decide) (by omega) (by omega); unfold I64; omega
  have g8 : I64 (x.tmod 1000000000) := by
    obtain ⟨e1, e2, e3⟩ := td x 1000000000 (by omega)
    by_cases z : 0 ≤ x
    · have := e2 z; unfold I64; omega
    · have := e3 (by omega); unfold I64; omega
  have j1 : I64 86400000000000 := by unfold I64; omega
  have j2 : I64 3600000000000 := by unfold I64; omega
  have j3 : I64 60000000000 := by unfold I64; omega
  have j4 : I64 1000000000 := by unfold I64; omega
  have j5 : I64 1 := by unfold I64; omega
  have j0 : I64 0 := by unfold I64; omega
  have r := uright_y 0 0 0 0 0 (x.tdiv 60000000000) ((x.tmod 60000000000).tdiv 1000000000) (x.tmod 1000000000) ⟨j0, j0, j0, j0, j0, g, g7, g8⟩ k
  refine fn_of Tryz.func63 rfl fun ww => ?_
  refine st_fn ent96 (ulen6) sub0 (by kernel_rfl) ?_
  refine ufields_row 2 0 (by kernel_rfl) ?_
  refine st_round (by kernel_rfl) ?_
  refine st_fn ent96 (ulen6) sub0 (by kernel_rfl) ?_
  refine st_fn ent40 (wof_fn (60000000000) (by assumption)) sub0 (by kernel_rfl) ?_
  refine st_fn ent45 (t0) sub0 (by kernel_rfl) ?_
  refine st_fn ent47 (wint_f (x.tdiv 60000000000) (by assumption)) sub0 (by kernel_rfl) ?_
  refine st_i 21 .i64 (x' := 6 + 1) (Go.IntWalk.i64_in _ (by omega)) (by kernel_rfl) ?_
  refine st_round (by kernel_rfl) ?_
  refine st_fn ent96 (ulen7) sub0 (by kernel_rfl) ?_
  refine st_fn ent40 (wof_fn (1000000000) (by assumption)) sub0 (by kernel_rfl) ?_
  refine st_fn ent45 (t1) sub0 (by kernel_rfl) ?_
  refine st_fn ent47 (wint_f ((x.tmod 60000000000).tdiv 1000000000) (by assumption)) sub0 (by kernel_rfl) ?_
  refine st_i 21 .i64 (x' := 6 + 1 + 1) (Go.IntWalk.i64_in _ (by omega)) (by kernel_rfl) ?_
  refine st_round (by kernel_rfl) ?_
  refine st_fn ent96 (ulen8) sub0 (by kernel_rfl) ?_
  refine st_fn ent40 (wof_fn (1) (by assumption)) sub0 (by kernel_rfl) ?_
  refine st_fn ent45 (t2) sub0 (by kernel_rfl) ?_
  refine st_fn ent47 (wint_f (x.tmod 1000000000) (by assumption)) sub0 (by kernel_rfl) ?_
  refine st_i 21 .i64 (x' := 6 + 1 + 1 + 1) (Go.IntWalk.i64_in _ (by omega)) (by kernel_rfl) ?_
  refine st_round (by kernel_rfl) ?_
  refine st_fn ent43 (r) sub0 (by kernel_rfl) ?_
  exact st_ret Tryz.func63 (by kernel_rfl)
theorem ulay6_r (x : Int) (hx : W128 x) (g : I64 (x.tdiv 60000000000)) (k : ¬ uOk 0 0 0 0 0 (x.tdiv 60000000000) ((x.tmod 60000000000).tdiv 1000000000) (x.tmod 1000000000)) : Fn 63 [] [wv x, .int .i64 6] (.tuple #[du0, .int .i64 4]) := by
  obtain ⟨t0, m0⟩ := ttop x 60000000000 hx (by omega) (by omega)
  have t1 := tch x 60000000000 1000000000 hx (by omega) (by omega) (by decide) (by omega) (by omega)
  have t2 := tch x 1000000000 1 hx (by omega) (by omega) (by decide) (by omega) (by omega)
  rw [tdiv_1, tmod_1] at t2
  have g7 : I64 ((x.tmod 60000000000).tdiv 1000000000) := by have := td2 x 60000000000 1000000000 60 (by decide) (by omega) (by omega); unfold I64; omega
  have g8 : I64 (x.tmod 1000000000) := by
    obtain ⟨e1, e2, e3⟩ := td x 1000000000 (by omega)
    by_cases z : 0 ≤ x
    · have := e2 z; unfold I64; omega
    · have := e3 (by omega); unfold I64; omega
  have j1 : I64 86400000000000 := by unfold I64; omega
  have j2 : I64 3600000000000 := by unfold I64; omega
  have j3 : I64 60000000000 := by unfold I64; omega
  have j4 : I64 1000000000 := by unfold I64; omega
  have j5 : I64 1 := by unfold I64; omega
  have j0 : I64 0 := by unfold I64; omega
  have r := uright_f 0 0 0 0 0 (x.tdiv 60000000000) ((x.tmod 60000000000).tdiv 1000000000) (x.tmod 1000000000) ⟨j0, j0, j0, j0, j0, g, g7, g8⟩ k
  refine fn_of Tryz.func63 rfl fun ww => ?_
  refine st_fn ent96 (ulen6) sub0 (by kernel_rfl) ?_
  refine ufields_row 2 0 (by kernel_rfl) ?_
  refine st_round (by kernel_rfl) ?_
  refine st_fn ent96 (ulen6) sub0 (by kernel_rfl) ?_
  refine st_fn ent40 (wof_fn (60000000000) (by assumption)) sub0 (by kernel_rfl) ?_
  refine st_fn ent45 (t0) sub0 (by kernel_rfl) ?_
  refine st_fn ent47 (wint_f (x.tdiv 60000000000) (by assumption)) sub0 (by kernel_rfl) ?_
  refine st_i 21 .i64 (x' := 6 + 1) (Go.IntWalk.i64_in _ (by omega)) (by kernel_rfl) ?_
  refine st_round (by kernel_rfl) ?_
  refine st_fn ent96 (ulen7) sub0 (by kernel_rfl) ?_
  refine st_fn ent40 (wof_fn (1000000000) (by assumption)) sub0 (by kernel_rfl) ?_
  refine st_fn ent45 (t1) sub0 (by kernel_rfl) ?_
  refine st_fn ent47 (wint_f ((x.tmod 60000000000).tdiv 1000000000) (by assumption)) sub0 (by kernel_rfl) ?_
  refine st_i 21 .i64 (x' := 6 + 1 + 1) (Go.IntWalk.i64_in _ (by omega)) (by kernel_rfl) ?_
  refine st_round (by kernel_rfl) ?_
  refine st_fn ent96 (ulen8) sub0 (by kernel_rfl) ?_
  refine st_fn ent40 (wof_fn (1) (by assumption)) sub0 (by kernel_rfl) ?_
  refine st_fn ent45 (t2) sub0 (by kernel_rfl) ?_
  refine st_fn ent47 (wint_f (x.tmod 1000000000) (by assumption)) sub0 (by kernel_rfl) ?_
  refine st_i 21 .i64 (x' := 6 + 1 + 1 + 1) (Go.IntWalk.i64_in _ (by omega)) (by kernel_rfl) ?_
  refine st_round (by kernel_rfl) ?_
  refine st_fn ent43 (r) sub0 (by kernel_rfl) ?_
  exact st_ret Tryz.func63 (by kernel_rfl)
theorem ulay6_o (x : Int) (hx : W128 x) (g : ¬ I64 (x.tdiv 60000000000)) : Fn 63 [] [wv x, .int .i64 6] (.tuple #[du0, .int .i64 4]) := by
  obtain ⟨t0, m0⟩ := ttop x 60000000000 hx (by omega) (by omega)
  have t1 := tch x 60000000000 1000000000 hx (by omega) (by omega) (by decide) (by omega) (by omega)
  have t2 := tch x 1000000000 1 hx (by omega) (by omega) (by decide) (by omega) (by omega)
  rw [tdiv_1, tmod_1] at t2
  have g7 : I64 ((x.tmod 60000000000).tdiv 1000000000) := by have := td2 x 60000000000 1000000000 60 (by decide) (by omega) (by omega); unfold I64; omega
  have g8 : I64 (x.tmod 1000000000) := by
    obtain ⟨e1, e2, e3⟩ := td x 1000000000 (by omega)
    by_cases z : 0 ≤ x
    · have := e2 z; unfold I64; omega
    · have := e3 (by omega); unfold I64; omega
  have j1 : I64 86400000000000 := by unfold I64; omega
  have j2 : I64 3600000000000 := by unfold I64; omega
  have j3 : I64 60000000000 := by unfold I64; omega
  have j4 : I64 1000000000 := by unfold I64; omega
  have j5 : I64 1 := by unfold I64; omega
  have j0 : I64 0 := by unfold I64; omega
  refine fn_of Tryz.func63 rfl fun ww => ?_
  refine st_fn ent96 (ulen6) sub0 (by kernel_rfl) ?_
  refine ufields_row 2 0 (by kernel_rfl) ?_
  refine st_round (by kernel_rfl) ?_
  refine st_fn ent96 (ulen6) sub0 (by kernel_rfl) ?_
  refine st_fn ent40 (wof_fn (60000000000) (by assumption)) sub0 (by kernel_rfl) ?_
  refine st_fn ent45 (t0) sub0 (by kernel_rfl) ?_
  refine st_fn ent47 (wint_n (x.tdiv 60000000000) (by assumption)) sub0 (by kernel_rfl) ?_
  exact st_ret Tryz.func63 (by kernel_rfl)
theorem ulay7_y (x : Int) (hx : W128 x) (g : I64 (x.tdiv 1000000000)) (k : uOk 0 0 0 0 0 0 (x.tdiv 1000000000) (x.tmod 1000000000)) : Fn 63 [] [wv x, .int .i64 7] (.tuple #[duv 0 0 0 0 0 0 (x.tdiv 1000000000) (x.tmod 1000000000), .int .i64 0]) := by
  obtain ⟨t0, m0⟩ := ttop x 1000000000 hx (by omega) (by omega)
  have t1 := tch x 1000000000 1 hx (by omega) (by omega) (by decide) (by omega) (by omega)
  rw [tdiv_1, tmod_1] at t1
  have g8 : I64 (x.tmod 1000000000) := by
    obtain ⟨e1, e2, e3⟩ := td x 1000000000 (by omega)
    by_cases z : 0 ≤ x
    · have := e2 z; unfold I64; omega
    · have := e3 (by omega); unfold I64; omega
  have j1 : I64 86400000000000 := by unfold I64; omega
  have j2 : I64 3600000000000 := by unfold I64; omega
  have j3 : I64 60000000000 := by unfold I64; omega
  have j4 : I64 1000000000 := by unfold I64; omega
  have j5 : I64 1 := by unfold I64; omega
  have j0 : I64 0 := by unfold I64; omega
  have r := uright_y 0 0 0 0 0 0 (x.tdiv 1000000000) (x.tmod 1000000000) ⟨j0, j0, j0, j0, j0, j0, g, g8⟩ k
  refine fn_of Tryz.func63 rfl fun ww => ?_
  refine st_fn ent96 (ulen7) sub0 (by kernel_rfl) ?_
  refine ufields_row 2 0 (by kernel_rfl) ?_
  refine st_round (by kernel_rfl) ?_
  refine st_fn ent96 (ulen7) sub0 (by kernel_rfl) ?_
  refine st_fn ent40 (wof_fn (1000000000) (by assumption)) sub0 (by kernel_rfl) ?_
  refine st_fn ent45 (t0) sub0 (by kernel_rfl) ?_
  refine st_fn ent47 (wint_f (x.tdiv 1000000000) (by assumption)) sub0 (by kernel_rfl) ?_
  refine st_i 21 .i64 (x' := 7 + 1) (Go.IntWalk.i64_in _ (by omega)) (by kernel_rfl) ?_
  refine st_round (by kernel_rfl) ?_
  refine st_fn ent96 (ulen8) sub0 (by kernel_rfl) ?_
  refine st_fn ent40 (wof_fn (1) (by assumption)) sub0 (by kernel_rfl) ?_
  refine st_fn ent45 (t1) sub0 (by kernel_rfl) ?_
  refine st_fn ent47 (wint_f (x.tmod 1000000000) (by assumption)) sub0 (by kernel_rfl) ?_
  refine st_i 21 .i64 (x' := 7 + 1 + 1) (Go.IntWalk.i64_in _ (by omega)) (by kernel_rfl) ?_
  refine st_round (by kernel_rfl) ?_
  refine st_fn ent43 (r) sub0 (by kernel_rfl) ?_
  exact st_ret Tryz.func63 (by kernel_rfl)
theorem ulay7_r (x : Int) (hx : W128 x) (g : I64 (x.tdiv 1000000000)) (k : ¬ uOk 0 0 0 0 0 0 (x.tdiv 1000000000) (x.tmod 1000000000)) : Fn 63 [] [wv x, .int .i64 7] (.tuple #[du0, .int .i64 4]) := by
  obtain ⟨t0, m0⟩ := ttop x 1000000000 hx (by omega) (by omega)
  have t1 := tch x 1000000000 1 hx (by omega) (by omega) (by decide) (by omega) (by omega)
  rw [tdiv_1, tmod_1] at t1
  have g8 : I64 (x.tmod 1000000000) := by
    obtain ⟨e1, e2, e3⟩ := td x 1000000000 (by omega)
    by_cases z : 0 ≤ x
    · have := e2 z; unfold I64; omega
    · have := e3 (by omega); unfold I64; omega
  have j1 : I64 86400000000000 := by unfold I64; omega
  have j2 : I64 3600000000000 := by unfold I64; omega
  have j3 : I64 60000000000 := by unfold I64; omega
  have j4 : I64 1000000000 := by unfold I64; omega
  have j5 : I64 1 := by unfold I64; omega
  have j0 : I64 0 := by unfold I64; omega
  have r := uright_f 0 0 0 0 0 0 (x.tdiv 1000000000) (x.tmod 1000000000) ⟨j0, j0, j0, j0, j0, j0, g, g8⟩ k
  refine fn_of Tryz.func63 rfl fun ww => ?_
  refine st_fn ent96 (ulen7) sub0 (by kernel_rfl) ?_
  refine ufields_row 2 0 (by kernel_rfl) ?_
  refine st_round (by kernel_rfl) ?_
  refine st_fn ent96 (ulen7) sub0 (by kernel_rfl) ?_
  refine st_fn ent40 (wof_fn (1000000000) (by assumption)) sub0 (by kernel_rfl) ?_
  refine st_fn ent45 (t0) sub0 (by kernel_rfl) ?_
  refine st_fn ent47 (wint_f (x.tdiv 1000000000) (by assumption)) sub0 (by kernel_rfl) ?_
  refine st_i 21 .i64 (x' := 7 + 1) (Go.IntWalk.i64_in _ (by omega)) (by kernel_rfl) ?_
  refine st_round (by kernel_rfl) ?_
  refine st_fn ent96 (ulen8) sub0 (by kernel_rfl) ?_
  refine st_fn ent40 (wof_fn (1) (by assumption)) sub0 (by kernel_rfl) ?_
  refine st_fn ent45 (t1) sub0 (by kernel_rfl) ?_
  refine st_fn ent47 (wint_f (x.tmod 1000000000) (by assumption)) sub0 (by kernel_rfl) ?_
  refine st_i 21 .i64 (x' := 7 + 1 + 1) (Go.IntWalk.i64_in _ (by omega)) (by kernel_rfl) ?_
  refine st_round (by kernel_rfl) ?_
  refine st_fn ent43 (r) sub0 (by kernel_rfl) ?_
  exact st_ret Tryz.func63 (by kernel_rfl)
theorem ulay7_o (x : Int) (hx : W128 x) (g : ¬ I64 (x.tdiv 1000000000)) : Fn 63 [] [wv x, .int .i64 7] (.tuple #[du0, .int .i64 4]) := by
  obtain ⟨t0, m0⟩ := ttop x 1000000000 hx (by omega) (by omega)
  have t1 := tch x 1000000000 1 hx (by omega) (by omega) (by decide) (by omega) (by omega)
  rw [tdiv_1, tmod_1] at t1
  have g8 : I64 (x.tmod 1000000000) := by
    obtain ⟨e1, e2, e3⟩ := td x 1000000000 (by omega)
    by_cases z : 0 ≤ x
    · have := e2 z; unfold I64; omega
    · have := e3 (by omega); unfold I64; omega
  have j1 : I64 86400000000000 := by unfold I64; omega
  have j2 : I64 3600000000000 := by unfold I64; omega
  have j3 : I64 60000000000 := by unfold I64; omega
  have j4 : I64 1000000000 := by unfold I64; omega
  have j5 : I64 1 := by unfold I64; omega
  have j0 : I64 0 := by unfold I64; omega
  refine fn_of Tryz.func63 rfl fun ww => ?_
  refine st_fn ent96 (ulen7) sub0 (by kernel_rfl) ?_
  refine ufields_row 2 0 (by kernel_rfl) ?_
  refine st_round (by kernel_rfl) ?_
  refine st_fn ent96 (ulen7) sub0 (by kernel_rfl) ?_
  refine st_fn ent40 (wof_fn (1000000000) (by assumption)) sub0 (by kernel_rfl) ?_
  refine st_fn ent45 (t0) sub0 (by kernel_rfl) ?_
  refine st_fn ent47 (wint_n (x.tdiv 1000000000) (by assumption)) sub0 (by kernel_rfl) ?_
  exact st_ret Tryz.func63 (by kernel_rfl)
theorem ulay8_y (x : Int) (hx : W128 x) (g : I64 x) (k : uOk 0 0 0 0 0 0 0 x) : Fn 63 [] [wv x, .int .i64 8] (.tuple #[duv 0 0 0 0 0 0 0 x, .int .i64 0]) := by
  obtain ⟨t0, m0⟩ := ttop x 1 hx (by omega) (by omega)
  rw [tdiv_1, tmod_1] at t0
  have j1 : I64 86400000000000 := by unfold I64; omega
  have j2 : I64 3600000000000 := by unfold I64; omega
  have j3 : I64 60000000000 := by unfold I64; omega
  have j4 : I64 1000000000 := by unfold I64; omega
  have j5 : I64 1 := by unfold I64; omega
  have j0 : I64 0 := by unfold I64; omega
  have r := uright_y 0 0 0 0 0 0 0 x ⟨j0, j0, j0, j0, j0, j0, j0, g⟩ k
  refine fn_of Tryz.func63 rfl fun ww => ?_
  refine st_fn ent96 (ulen8) sub0 (by kernel_rfl) ?_
  refine ufields_row 2 0 (by kernel_rfl) ?_
  refine st_round (by kernel_rfl) ?_
  refine st_fn ent96 (ulen8) sub0 (by kernel_rfl) ?_
  refine st_fn ent40 (wof_fn (1) (by assumption)) sub0 (by kernel_rfl) ?_
  refine st_fn ent45 (t0) sub0 (by kernel_rfl) ?_
  refine st_fn ent47 (wint_f (x) (by assumption)) sub0 (by kernel_rfl) ?_
  refine st_i 21 .i64 (x' := 8 + 1) (Go.IntWalk.i64_in _ (by omega)) (by kernel_rfl) ?_
  refine st_round (by kernel_rfl) ?_
  refine st_fn ent43 (r) sub0 (by kernel_rfl) ?_
  exact st_ret Tryz.func63 (by kernel_rfl)
theorem ulay8_r (x : Int) (hx : W128 x) (g : I64 x) (k : ¬ uOk 0 0 0 0 0 0 0 x) : Fn 63 [] [wv x, .int .i64 8] (.tuple #[du0, .int .i64 4]) := by
  obtain ⟨t0, m0⟩ := ttop x 1 hx (by omega) (by omega)
  rw [tdiv_1, tmod_1] at t0
  have j1 : I64 86400000000000 := by unfold I64; omega
  have j2 : I64 3600000000000 := by unfold I64; omega
  have j3 : I64 60000000000 := by unfold I64; omega
  have j4 : I64 1000000000 := by unfold I64; omega
  have j5 : I64 1 := by unfold I64; omega
  have j0 : I64 0 := by unfold I64; omega
  have r := uright_f 0 0 0 0 0 0 0 x ⟨j0, j0, j0, j0, j0, j0, j0, g⟩ k
  refine fn_of Tryz.func63 rfl fun ww => ?_
  refine st_fn ent96 (ulen8) sub0 (by kernel_rfl) ?_
  refine ufields_row 2 0 (by kernel_rfl) ?_
  refine st_round (by kernel_rfl) ?_
  refine st_fn ent96 (ulen8) sub0 (by kernel_rfl) ?_
  refine st_fn ent40 (wof_fn (1) (by assumption)) sub0 (by kernel_rfl) ?_
  refine st_fn ent45 (t0) sub0 (by kernel_rfl) ?_
  refine st_fn ent47 (wint_f (x) (by assumption)) sub0 (by kernel_rfl) ?_
  refine st_i 21 .i64 (x' := 8 + 1) (Go.IntWalk.i64_in _ (by omega)) (by kernel_rfl) ?_
  refine st_round (by kernel_rfl) ?_
  refine st_fn ent43 (r) sub0 (by kernel_rfl) ?_
  exact st_ret Tryz.func63 (by kernel_rfl)
theorem ulay8_o (x : Int) (hx : W128 x) (g : ¬ I64 x) : Fn 63 [] [wv x, .int .i64 8] (.tuple #[du0, .int .i64 4]) := by
  obtain ⟨t0, m0⟩ := ttop x 1 hx (by omega) (by omega)
  rw [tdiv_1, tmod_1] at t0
  have j1 : I64 86400000000000 := by unfold I64; omega
  have j2 : I64 3600000000000 := by unfold I64; omega
  have j3 : I64 60000000000 := by unfold I64; omega
  have j4 : I64 1000000000 := by unfold I64; omega
  have j5 : I64 1 := by unfold I64; omega
  have j0 : I64 0 := by unfold I64; omega
  refine fn_of Tryz.func63 rfl fun ww => ?_
  refine st_fn ent96 (ulen8) sub0 (by kernel_rfl) ?_
  refine ufields_row 2 0 (by kernel_rfl) ?_
  refine st_round (by kernel_rfl) ?_
  refine st_fn ent96 (ulen8) sub0 (by kernel_rfl) ?_
  refine st_fn ent40 (wof_fn (1) (by assumption)) sub0 (by kernel_rfl) ?_
  refine st_fn ent45 (t0) sub0 (by kernel_rfl) ?_
  refine st_fn ent47 (wint_n (x) (by assumption)) sub0 (by kernel_rfl) ?_
  exact st_ret Tryz.func63 (by kernel_rfl)
end Go.Proofs.YtccllfegnijpiaaGreat
end
section
/-
  Ratio, by the program and by the reference.
-/
set_option linter.unusedVariables false
set_option maxRecDepth 100000
namespace Go.Proofs.YtccllfegnijpiaaGreat
open Go Go.RowKit Go.Ev

theorem z_neg {w : World} {q : ZQ} {x : Int} (h : ZOf q x w) : q.n = decide (x < 0) := (isZ_sign h).2
end Go.Proofs.YtccllfegnijpiaaGreat
end
