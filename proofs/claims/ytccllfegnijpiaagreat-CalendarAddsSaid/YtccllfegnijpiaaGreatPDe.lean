/-
  Texts joined: Duzn, Duzm, Upa, Dfr, Due, Dul, Duh, Cav, Cuv, Enz, Plz, Caz, Duj, In, Inn, Cay. Each says at its head what it shows.
-/
import Derived.OpenShut
import Derived.WideShapes
import Derived.Test.YtccllfegnijpiaaGreatPDd
section
/-
  Durations: what may be, as the reference reckons it: no field above 0.
-/
set_option linter.unusedVariables false
set_option maxRecDepth 100000
namespace Go.Proofs.YtccllfegnijpiaaGreat
open Go Go.RowKit Go.Ev

section
variable (a b c d h mi s n : Int)
theorem zuright_n (i : all64 a b c d h mi s n) (hk : neg8 a b c d h mi s n) : Fn 50 [] [duv a b c d h mi s n] (.bool (decide (uOk a b c d h mi s n))) := by
  obtain ⟨i1, i2, i3, i4, i5, i6, i7, i8⟩ := i
  have bt : W128 (dtot d h mi s n) := by unfold I64 at *; unfold W128 dtot; omega
  have bl : W128 9007199254740992000000000 := by unfold W128; omega
  have ut := zutot a b c d h mi s n i4 i5 i6 i7 i8
  obtain ⟨X, hX⟩ : ∃ X : Int, X = ((dtot d h mi s n).natAbs : Int) := ⟨_, rfl⟩
  have bX : Bits 128 X := by rw [hX]; exact bt.bits.abs
  have fa : ∀ p : ZQ, FnZ 112 [(p, dtot d h mi s n)] [zv p] zv X := fun p => by rw [hX]; exact fzabs p _ (bt.bits.fit (by decide))
  have qt := cmpI_lt0 (a := X) (b := 9007199254740992000000000)
  unfold neg8 at hk
  obtain ⟨k1, k2, k3, k4, k5, k6, k7, k8⟩ := hk
  refine fn_of Tryz.func50 rfl fun ww => ?_
  refine st_rowB ent110 (zufields (a) (b) (c) (d) (h) (mi) (s) (n)) (by kernel_rfl) ?_
  refine st_forget [0, 1, 3, 4, 5, 6, 7, 8, 47, 48, 49, 50, 51, 52, 53, 54, 55, 56, 57, 58, 59] (by kernel_rfl) ?_
  refine st_loop (X := Int × Bool) (fun x => ([SV.val (Value.agg #[Value.int IntKind.i64 a, Value.int IntKind.i64 b, Value.int IntKind.i64 c, Value.int IntKind.i64 d, Value.int IntKind.i64 h, Value.int IntKind.i64 mi, Value.int IntKind.i64 s, Value.int IntKind.i64 n]), SV.ptr 0 0, .any, SV.sl 1 0 8 8, .val (.bool false), .val (.bool x.2), .val (.int .i64 x.1), SV.val (Value.agg #[Value.int IntKind.i64 a, Value.int IntKind.i64 b, Value.int IntKind.i64 c, Value.int IntKind.i64 d, Value.int IntKind.i64 h, Value.int IntKind.i64 mi, Value.int IntKind.i64 s, Value.int IntKind.i64 n]), SV.sl 1 0 8 8, .any, .any, .any, .any, .any, .any, .any, .any, .any, .any, .any, .any, .any, .any, .any, .any, .any, .any, .any, .any, .any, .any, .any, .any, .any, .any, .any, .any, .any, .any, .any, .any, .any, .any, .any, .any, .any, .any, SV.val (Value.tuple #[]), SV.val (Value.tuple #[]), SV.val (Value.tuple #[]), SV.val (Value.tuple #[]), SV.val (Value.tuple #[]), SV.val (Value.tuple #[]), SV.val (Value.tuple #[]), SV.val (Value.tuple #[]), SV.val (Value.tuple #[]), SV.val (Value.tuple #[]), SV.val (Value.tuple #[]), SV.val (Value.tuple #[]), SV.val (Value.tuple #[])], [⟨[SV.val (Value.int IntKind.i64 a), SV.val (Value.int IntKind.i64 b), SV.val (Value.int IntKind.i64 c), SV.val (Value.int IntKind.i64 d), SV.val (Value.int IntKind.i64 h), SV.val (Value.int IntKind.i64 mi), SV.val (Value.int IntKind.i64 s), SV.val (Value.int IntKind.i64 n)], 43⟩, ⟨[SV.val (Value.int IntKind.i64 a), SV.val (Value.int IntKind.i64 b), SV.val (Value.int IntKind.i64 c), SV.val (Value.int IntKind.i64 d), SV.val (Value.int IntKind.i64 h), SV.val (Value.int IntKind.i64 mi), SV.val (Value.int IntKind.i64 s), SV.val (Value.int IntKind.i64 n)], 2⟩])) (fun _ => _) (fun k => 0 ≤ k.1 ∧ k.1 ≤ 8 ∧ (0 < k.1 → -4294967295 ≤ a ∧ a ≤ 4294967295) ∧ (1 < k.1 → -4294967295 ≤ b ∧ b ≤ 4294967295) ∧ (2 < k.1 → -4294967295 ≤ c ∧ c ≤ 4294967295)) (fun k => (8 - k.1).toNat) ((0, false)) (by kernel_rfl) (by kernel_rfl) Sub.refl (by first | omega | (simp; omega) | assumption | simp_all) (fun x px0 back0 => ?_)
  rcases x with ⟨y0_0, y0_1⟩
  simp only at px0
  (have hk0 : y0_0 = 0 ∨ y0_0 = 1 ∨ y0_0 = 2 ∨ y0_0 = 3 ∨ y0_0 = 4 ∨ y0_0 = 5 ∨ y0_0 = 6 ∨ y0_0 = 7 ∨ y0_0 = 8 := (by omega); rcases hk0 with rfl | rfl | rfl | rfl | rfl | rfl | rfl | rfl | rfl <;> rcases y0_1 with _ | _)
  · have _hh := True.intro
    refine st_b 21 (show (decide (a > 0)) = false by exact decide_eq_false (by omega)) (by kernel_rfl) ?_
    by_cases k29 : a < 0
    · refine st_b 29 (decide_eq_true k29) (by kernel_rfl) ?_
      refine st_b 38 (show (decide (a > 4294967295)) = false by exact decide_eq_false (by omega)) (by kernel_rfl) ?_
      by_cases k44 : a < -4294967295
      · refine st_b 44 (decide_eq_true k44) (by kernel_rfl) ?_
        exact st_retv Tryz.func50 (show Value.bool (false) = _ by (refine b_eq (decide_eq_false ?_).symm; unfold uOk pos8 neg8 cnt1 LIM; omega)) (by kernel_rfl)
      · refine st_b 44 (decide_eq_false k44) (by kernel_rfl) ?_
        refine st_i 14 .i64 (x' := 0 + 1) (Go.IntWalk.i64_in _ (by omega)) (by kernel_rfl) ?_
        refine st_forget [0, 1, 2, 3, 4, 5, 6, 7, 8, 47, 48, 49, 50, 51, 52, 53, 54, 55, 56, 57, 58, 59] (by kernel_rfl) ?_
        exact st_back back0 ((0 + 1, true)) (by first | omega | (simp only []; omega) | (simp; omega)) (by first | (refine b_eq (decide_eq_false ?_).symm; unfold uOk pos8 neg8 cnt1 LIM; omega) | (refine b_eq (decide_eq_decide.2 ?_); rw [qt]; unfold uOk pos8 neg8 cnt1 LIM; omega) | omega | (simp only []; omega) | (simp; omega) | assumption | simp_all) (fun p hp => by first | exact hp | simp_all) (by kernel_rfl) (by kernel_rfl) (by kernel_rfl)
    · refine st_b 29 (decide_eq_false k29) (by kernel_rfl) ?_
      refine st_b 38 (show (decide (a > 4294967295)) = false by exact decide_eq_false (by omega)) (by kernel_rfl) ?_
      refine st_b 44 (show (decide (a < -4294967295)) = false by exact decide_eq_false (by omega)) (by kernel_rfl) ?_
      refine st_i 14 .i64 (x' := 0 + 1) (Go.IntWalk.i64_in _ (by omega)) (by kernel_rfl) ?_
      refine st_forget [0, 1, 2, 3, 4, 5, 6, 7, 8, 47, 48, 49, 50, 51, 52, 53, 54, 55, 56, 57, 58, 59] (by kernel_rfl) ?_
      exact st_back back0 ((0 + 1, false)) (by first | omega | (simp only []; omega) | (simp; omega)) (by first | (refine b_eq (decide_eq_false ?_).symm; unfold uOk pos8 neg8 cnt1 LIM; omega) | (refine b_eq (decide_eq_decide.2 ?_); rw [qt]; unfold uOk pos8 neg8 cnt1 LIM; omega) | omega | (simp only []; omega) | (simp; omega) | assumption | simp_all) (fun p hp => by first | exact hp | simp_all) (by kernel_rfl) (by kernel_rfl) (by kernel_rfl)
  · have _hh := True.intro
    refine st_b 21 (show (decide (a > 0)) = false by exact decide_eq_false (by omega)) (by kernel_rfl) ?_
    refine st_b 38 (show (decide (a > 4294967295)) = false by exact decide_eq_false (by omega)) (by kernel_rfl) ?_
    by_cases k44 : a < -4294967295
    · refine st_b 44 (decide_eq_true k44) (by kernel_rfl) ?_
      exact st_retv Tryz.func50 (show Value.bool (false) = _ by (refine b_eq (decide_eq_false ?_).symm; unfold uOk pos8 neg8 cnt1 LIM; omega)) (by kernel_rfl)
    · refine st_b 44 (decide_eq_false k44) (by kernel_rfl) ?_
      refine st_i 14 .i64 (x' := 0 + 1) (Go.IntWalk.i64_in _ (by omega)) (by kernel_rfl) ?_
      refine st_forget [0, 1, 2, 3, 4, 5, 6, 7, 8, 47, 48, 49, 50, 51, 52, 53, 54, 55, 56, 57, 58, 59] (by kernel_rfl) ?_
      exact st_back back0 ((0 + 1, true)) (by first | omega | (simp only []; omega) | (simp; omega)) (by first | (refine b_eq (decide_eq_false ?_).symm; unfold uOk pos8 neg8 cnt1 LIM; omega) | (refine b_eq (decide_eq_decide.2 ?_); rw [qt]; unfold uOk pos8 neg8 cnt1 LIM; omega) | omega | (simp only []; omega) | (simp; omega) | assumption | simp_all) (fun p hp => by first | exact hp | simp_all) (by kernel_rfl) (by kernel_rfl) (by kernel_rfl)
  · have _hh := True.intro
    refine st_b 21 (show (decide (b > 0)) = false by exact decide_eq_false (by omega)) (by kernel_rfl) ?_
    by_cases k29 : b < 0
    · refine st_b 29 (decide_eq_true k29) (by kernel_rfl) ?_
      refine st_b 38 (show (decide (b > 4294967295)) = false by exact decide_eq_false (by omega)) (by kernel_rfl) ?_
      by_cases k44 : b < -4294967295
      · refine st_b 44 (decide_eq_true k44) (by kernel_rfl) ?_
        exact st_retv Tryz.func50 (show Value.bool (false) = _ by (refine b_eq (decide_eq_false ?_).symm; unfold uOk pos8 neg8 cnt1 LIM; omega)) (by kernel_rfl)
      · refine st_b 44 (decide_eq_false k44) (by kernel_rfl) ?_
        refine st_i 14 .i64 (x' := 1 + 1) (Go.IntWalk.i64_in _ (by omega)) (by kernel_rfl) ?_
        refine st_forget [0, 1, 2, 3, 4, 5, 6, 7, 8, 47, 48, 49, 50, 51, 52, 53, 54, 55, 56, 57, 58, 59] (by kernel_rfl) ?_
        exact st_back back0 ((1 + 1, true)) (by first | omega | (simp only []; omega) | (simp; omega)) (by first | (refine b_eq (decide_eq_false ?_).symm; unfold uOk pos8 neg8 cnt1 LIM; omega) | (refine b_eq (decide_eq_decide.2 ?_); rw [qt]; unfold uOk pos8 neg8 cnt1 LIM; omega) | omega | (simp only []; omega) | (simp; omega) | assumption | simp_all) (fun p hp => by first | exact hp | simp_all) (by kernel_rfl) (by kernel_rfl) (by kernel_rfl)
    · refine st_b 29 (decide_eq_false k29) (by kernel_rfl) ?_
      refine st_b 38 (show (decide (b > 4294967295)) = false by exact decide_eq_false (by omega)) (by kernel_rfl) ?_
      refine st_b 44 (show (decide (b < -4294967295)) = false by exact decide_eq_false (by omega)) (by kernel_rfl) ?_
      refine st_i 14 .i64 (x' := 1 + 1) (Go.IntWalk.i64_in _ (by omega)) (by kernel_rfl) ?_
      refine st_forget [0, 1, 2, 3, 4, 5, 6, 7, 8, 47, 48, 49, 50, 51, 52, 53, 54, 55, 56, 57, 58, 59] (by kernel_rfl) ?_
      exact st_back back0 ((1 + 1, false)) (by first | omega | (simp only []; omega) | (simp; omega)) (by first | (refine b_eq (decide_eq_false ?_).symm; unfold uOk pos8 neg8 cnt1 LIM; omega) | (refine b_eq (decide_eq_decide.2 ?_); rw [qt]; unfold uOk pos8 neg8 cnt1 LIM; omega) | omega | (simp only []; omega) | (simp; omega) | assumption | simp_all) (fun p hp => by first | exact hp | simp_all) (by kernel_rfl) (by kernel_rfl) (by kernel_rfl)
  · have _hh := True.intro
    refine st_b 21 (show (decide (b > 0)) = false by exact decide_eq_false (by omega)) (by kernel_rfl) ?_
    refine st_b 38 (show (decide (b > 4294967295)) = false by exact decide_eq_false (by omega)) (by kernel_rfl) ?_
    by_cases k44 : b < -4294967295
    · refine st_b 44 (decide_eq_true k44) (by kernel_rfl) ?_
      exact st_retv Tryz.func50 (show Value.bool (false) = _ by (refine b_eq (decide_eq_false ?_).symm; unfold uOk pos8 neg8 cnt1 LIM; omega)) (by kernel_rfl)
    · refine st_b 44 (decide_eq_false k44) (by kernel_rfl) ?_
      refine st_i 14 .i64 (x' := 1 + 1) (Go.IntWalk.i64_in _ (by omega)) (by kernel_rfl) ?_
      refine st_forget [0, 1, 2, 3, 4, 5, 6, 7, 8, 47, 48, 49, 50, 51, 52, 53, 54, 55, 56, 57, 58, 59] (by kernel_rfl) ?_
      exact st_back back0 ((1 + 1, true)) (by first | omega | (simp only []; omega) | (simp; omega)) (by first | (refine b_eq (decide_eq_false ?_).symm; unfold uOk pos8 neg8 cnt1 LIM; omega) | (refine b_eq (decide_eq_decide.2 ?_); rw [qt]; unfold uOk pos8 neg8 cnt1 LIM; omega) | omega | (simp only []; omega) | (simp; omega) | assumption | simp_all) (fun p hp => by first | exact hp | simp_all) (by kernel_rfl) (by kernel_rfl) (by kernel_rfl)
  · have _hh := True.intro
    refine st_b 21 (show (decide (c > 0)) = false by exact decide_eq_false (by omega)) (by kernel_rfl) ?_
    by_cases k29 : c < 0
    · refine st_b 29 (decide_eq_true k29) (by kernel_rfl) ?_
      refine st_b 38 (show (decide (c > 4294967295)) = false by exact decide_eq_false (by omega)) (by kernel_rfl) ?_
      by_cases k44 : c < -4294967295
      · refine st_b 44 (decide_eq_true k44) (by kernel_rfl) ?_
        exact st_retv Tryz.func50 (show Value.bool (false) = _ by (refine b_eq (decide_eq_false ?_).symm; unfold uOk pos8 neg8 cnt1 LIM; omega)) (by kernel_rfl)
      · refine st_b 44 (decide_eq_false k44) (by kernel_rfl) ?_
        refine st_i 14 .i64 (x' := 2 + 1) (Go.IntWalk.i64_in _ (by omega)) (by kernel_rfl) ?_
        refine st_forget [0, 1, 2, 3, 4, 5, 6, 7, 8, 47, 48, 49, 50, 51, 52, 53, 54, 55, 56, 57, 58, 59] (by kernel_rfl) ?_
        exact st_back back0 ((2 + 1, true)) (by first | omega | (simp only []; omega) | (simp; omega)) (by first | (refine b_eq (decide_eq_false ?_).symm; unfold uOk pos8 neg8 cnt1 LIM; omega) | (refine b_eq (decide_eq_decide.2 ?_); rw [qt]; unfold uOk pos8 neg8 cnt1 LIM; omega) | omega | (simp only []; omega) | (simp; omega) | assumption | simp_all) (fun p hp => by first | exact hp | simp_all) (by kernel_rfl) (by kernel_rfl) (by kernel_rfl)
    · refine st_b 29 (decide_eq_false k29) (by kernel_rfl) ?_
      refine st_b 38 (show (decide (c > 4294967295)) = false by exact decide_eq_false (by omega)) (by kernel_rfl) ?_
      refine st_b 44 (show (decide (c < -4294967295)) = false by exact decide_eq_false (by omega)) (by kernel_rfl) ?_
      refine st_i 14 .i64 (x' := 2 + 1) (Go.IntWalk.i64_in _ (by omega)) (by kernel_rfl) ?_
      refine st_forget [0, 1, 2, 3, 4, 5, 6, 7, 8, 47, 48, 49, 50, 51, 52, 53, 54, 55, 56, 57, 58, 59] (by kernel_rfl) ?_
      exact st_back back0 ((2 + 1, false)) (by first | omega | (simp only []; omega) | (simp; omega)) (by first | (refine b_eq (decide_eq_false ?_).symm; unfold uOk pos8 neg8 cnt1 LIM; omega) | (refine b_eq (decide_eq_decide.2 ?_); rw [qt]; unfold uOk pos8 neg8 cnt1 LIM; omega) | omega | (simp only []; omega) | (simp; omega) | assumption | simp_all) (fun p hp => by first | exact hp | simp_all) (by kernel_rfl) (by kernel_rfl) (by kernel_rfl)
  · have _hh := True.intro
    refine st_b 21 (show (decide (c > 0)) = false by exact decide_eq_false (by omega)) (by kernel_rfl) ?_
    refine st_b 38 (show (decide (c > 4294967295)) = false by exact decide_eq_false (by omega)) (by kernel_rfl) ?_
    by_cases k44 : c < -4294967295
    · refine st_b 44 (decide_eq_true k44) (by kernel_rfl) ?_
      exact st_retv Tryz.func50 (show Value.bool (false) = _ by (refine b_eq (decide_eq_false ?_).symm; unfold uOk pos8 neg8 cnt1 LIM; omega)) (by kernel_rfl)
    · refine st_b 44 (decide_eq_false k44) (by kernel_rfl) ?_
      refine st_i 14 .i64 (x' := 2 + 1) (Go.IntWalk.i64_in _ (by omega)) (by kernel_rfl) ?_
      refine st_forget [0, 1, 2, 3, 4, 5, 6, 7, 8, 47, 48, 49, 50, 51, 52, 53, 54, 55, 56, 57, 58, 59] (by kernel_rfl) ?_
      exact st_back back0 ((2 + 1, true)) (by first | omega | (simp only []; omega) | (simp; omega)) (by first | (refine b_eq (decide_eq_false ?_).symm; unfold uOk pos8 neg8 cnt1 LIM; omega) | (refine b_eq (decide_eq_decide.2 ?_); rw [qt]; unfold uOk pos8 neg8 cnt1 LIM; omega) | omega | (simp only []; omega) | (simp; omega) | assumption | simp_all) (fun p hp => by first | exact hp | simp_all) (by kernel_rfl) (by kernel_rfl) (by kernel_rfl)
  · have _hh := True.intro
    refine st_b 21 (show (decide (d > 0)) = false by exact decide_eq_false (by omega)) (by kernel_rfl) ?_
    by_cases k29 : d < 0
    · refine st_b 29 (decide_eq_true k29) (by kernel_rfl) ?_
      refine st_i 14 .i64 (x' := 3 + 1) (Go.IntWalk.i64_in _ (by omega)) (by kernel_rfl) ?_
      refine st_forget [0, 1, 2, 3, 4, 5, 6, 7, 8, 47, 48, 49, 50, 51, 52, 53, 54, 55, 56, 57, 58, 59] (by kernel_rfl) ?_
      exact st_back back0 ((3 + 1, true)) (by first | omega | (simp only []; omega) | (simp; omega)) (by first | (refine b_eq (decide_eq_false ?_).symm; unfold uOk pos8 neg8 cnt1 LIM; omega) | (refine b_eq (decide_eq_decide.2 ?_); rw [qt]; unfold uOk pos8 neg8 cnt1 LIM; omega) | omega | (simp only []; omega) | (simp; omega) | assumption | simp_all) (fun p hp => by first | exact hp | simp_all) (by kernel_rfl) (by kernel_rfl) (by kernel_rfl)
    · refine st_b 29 (decide_eq_false k29) (by kernel_rfl) ?_
      refine st_i 14 .i64 (x' := 3 + 1) (Go.IntWalk.i64_in _ (by omega)) (by kernel_rfl) ?_
      refine st_forget [0, 1, 2, 3, 4, 5, 6, 7, 8, 47, 48, 49, 50, 51, 52, 53, 54, 55, 56, 57, 58, 59] (by kernel_rfl) ?_
      exact st_back back0 ((3 + 1, false)) (by first | omega | (simp only []; omega) | (simp; omega)) (by first | (refine b_eq (decide_eq_false ?_).symm; unfold uOk pos8 neg8 cnt1 LIM; omega) | (refine b_eq (decide_eq_decide.2 ?_); rw [qt]; unfold uOk pos8 neg8 cnt1 LIM; omega) | omega | (simp only []; omega) | (simp; omega) | assumption | simp_all) (fun p hp => by first | exact hp | simp_all) (by kernel_rfl) (by kernel_rfl) (by kernel_rfl)
  · have _hh := True.intro
    refine st_b 21 (show (decide (d > 0)) = false by exact decide_eq_false (by omega)) (by kernel_rfl) ?_
    refine st_i 14 .i64 (x' := 3 + 1) (Go.IntWalk.i64_in _ (by omega)) (by kernel_rfl) ?_
    refine st_forget [0, 1, 2, 3, 4, 5, 6, 7, 8, 47, 48, 49, 50, 51, 52, 53, 54, 55, 56, 57, 58, 59] (by kernel_rfl) ?_
    exact st_back back0 ((3 + 1, true)) (by first | omega | (simp only []; omega) | (simp; omega)) (by first | (refine b_eq (decide_eq_false ?_).symm; unfold uOk pos8 neg8 cnt1 LIM; omega) | (refine b_eq (decide_eq_decide.2 ?_); rw [qt]; unfold uOk pos8 neg8 cnt1 LIM; omega) | omega | (simp only []; omega) | (simp; omega) | assumption | simp_all) (fun p hp => by first | exact hp | simp_all) (by kernel_rfl) (by kernel_rfl) (by kernel_rfl)
  · have _hh := True.intro
    refine st_b 21 (show (decide (h > 0)) = false by exact decide_eq_false (by omega)) (by kernel_rfl) ?_
    by_cases k29 : h < 0
    · refine st_b 29 (decide_eq_true k29) (by kernel_rfl) ?_
      refine st_i 14 .i64 (x' := 4 + 1) (Go.IntWalk.i64_in _ (by omega)) (by kernel_rfl) ?_
      refine st_forget [0, 1, 2, 3, 4, 5, 6, 7, 8, 47, 48, 49, 50, 51, 52, 53, 54, 55, 56, 57, 58, 59] (by kernel_rfl) ?_
      exact st_back back0 ((4 + 1, true)) (by first | omega | (simp only []; omega) | (simp; omega)) (by first | (refine b_eq (decide_eq_false ?_).symm; unfold uOk pos8 neg8 cnt1 LIM; omega) | (refine b_eq (decide_eq_decide.2 ?_); rw [qt]; unfold uOk pos8 neg8 cnt1 LIM; omega) | omega | (simp only []; omega) | (simp; omega) | assumption | simp_all) (fun p hp => by first | exact hp | simp_all) (by kernel_rfl) (by kernel_rfl) (by kernel_rfl)
    · refine st_b 29 (decide_eq_false k29) (by kernel_rfl) ?_
      refine st_i 14 .i64 (x' := 4 + 1) (Go.IntWalk.i64_in _ (by omega)) (by kernel_rfl) ?_
      refine st_forget [0, 1, 2, 3, 4, 5, 6, 7, 8, 47, 48, 49, 50, 51, 52, 53, 54, 55, 56, 57, 58, 59] (by kernel_rfl) ?_
      exact st_back back0 ((4 + 1, false)) (by first | omega | (simp only []; omega) | (simp; omega)) (by first | (refine b_eq (decide_eq_false ?_).symm; unfold uOk pos8 neg8 cnt1 LIM; omega) | (refine b_eq (decide_eq_decide.2 ?_); rw [qt]; unfold uOk pos8 neg8 cnt1 LIM; omega) | omega | (simp only []; omega) | (simp; omega) | assumption | simp_all) (fun p hp => by first | exact hp | simp_all) (by kernel_rfl) (by kernel_rfl) (by kernel_rfl)
  · have _hh := True.intro
    refine st_b 21 (show (decide (h > 0)) = false by exact decide_eq_false (by omega)) (by kernel_rfl) ?_
    refine st_i 14 .i64 (x' := 4 + 1) (Go.IntWalk.i64_in _ (by omega)) (by kernel_rfl) ?_
    refine st_forget [0, 1, 2, 3, 4, 5, 6, 7, 8, 47, 48, 49, 50, 51, 52, 53, 54, 55, 56, 57, 58, 59] (by kernel_rfl) ?_
    exact st_back back0 ((4 + 1, true)) (by first | omega | (simp only []; omega) | (simp; omega)) (by first | (refine b_eq (decide_eq_false ?_).symm; unfold uOk pos8 neg8 cnt1 LIM; omega) | (refine b_eq (decide_eq_decide.2 ?_); rw [qt]; unfold uOk pos8 neg8 cnt1 LIM; omega) | omega | (simp only []; omega) | (simp; omega) | assumption | simp_all) (fun p hp => by first | exact hp | simp_all) (by kernel_rfl) (by kernel_rfl) (by kernel_rfl)
  · have _hh := True.intro
    refine st_b 21 (show (decide (mi > 0)) = false by exact decide_eq_false (by omega)) (by kernel_rfl) ?_
    by_cases k29 : mi < 0
    · refine st_b 29 (decide_eq_true k29) (by kernel_rfl) ?_
      refine st_i 14 .i64 (x' := 5 + 1) (Go.IntWalk.i64_in _ (by omega)) (by kernel_rfl) ?_
      refine st_forget [0, 1, 2, 3, 4, 5, 6, 7, 8, 47, 48, 49, 50, 51, 52, 53, 54, 55, 56, 57, 58, 59] (by kernel_rfl) ?_
      exact st_back back0 ((5 + 1, true)) (by first | omega | (simp only []; omega) | (simp; omega)) (by first | (refine b_eq (decide_eq_false ?_).symm; unfold uOk pos8 neg8 cnt1 LIM; omega) | (refine b_eq (decide_eq_decide.2 ?_); rw [qt]; unfold uOk pos8 neg8 cnt1 LIM; omega) | omega | (simp only []; omega) | (simp; omega) | assumption | simp_all) (fun p hp => by first | exact hp | simp_all) (by kernel_rfl) (by kernel_rfl) (by kernel_rfl)
    · refine st_b 29 (decide_eq_false k29) (by kernel_rfl) ?_
      refine st_i 14 .i64 (x' := 5 + 1) (Go.IntWalk.i64_in _ (by omega)) (by kernel_rfl) ?_
      refine st_forget [0, 1, 2, 3, 4, 5, 6, 7, 8, 47, 48, 49, 50, 51, 52, 53, 54, 55, 56, 57, 58, 59] (by kernel_rfl) ?_
      exact st_back back0 ((5 + 1, false)) (by first | omega | (simp only []; omega) | (simp; omega)) (by first | (refine b_eq (decide_eq_false ?_).symm; unfold uOk pos8 neg8 cnt1 LIM; omega) | (refine b_eq (decide_eq_decide.2 ?_); rw [qt]; unfold uOk pos8 neg8 cnt1 LIM; omega) | omega | (simp only []; omega) | (simp; omega) | assumption | simp_all) (fun p hp => by first | exact hp | simp_all) (by kernel_rfl) (by kernel_rfl) (by kernel_rfl)
  · have _hh := True.intro
    refine st_b 21 (show (decide (mi > 0)) = false by exact decide_eq_false (by omega)) (by kernel_rfl) ?_
    refine st_i 14 .i64 (x' := 5 + 1) (Go.IntWalk.i64_in _ (by omega)) (by kernel_rfl) ?_
    refine st_forget [0, 1, 2, 3, 4, 5, 6, 7, 8, 47, 48, 49, 50, 51, 52, 53, 54, 55, 56, 57, 58, 59] (by kernel_rfl) ?_
    exact st_back back0 ((5 + 1, true)) (by first | omega | (simp only []; omega) | (simp; omega)) (by first | (refine b_eq (decide_eq_false ?_).symm; unfold uOk pos8 neg8 cnt1 LIM; omega) | (refine b_eq (decide_eq_decide.2 ?_); rw [qt]; unfold uOk pos8 neg8 cnt1 LIM; omega) | omega | (simp only []; omega) | (simp; omega) | assumption | simp_all) (fun p hp => by first | exact hp | simp_all) (by kernel_rfl) (by kernel_rfl) (by kernel_rfl)
  · have _hh := True.intro
    refine st_b 21 (show (decide (s > 0)) = false by exact decide_eq_false (by omega)) (by kernel_rfl) ?_
    by_cases k29 : s < 0
    · refine st_b 29 (decide_eq_true k29) (by kernel_rfl) ?_
      refine st_i 14 .i64 (x' := 6 + 1) (Go.IntWalk.i64_in _ (by omega)) (by kernel_rfl) ?_
      refine st_forget [0, 1, 2, 3, 4, 5, 6, 7, 8, 47, 48, 49, 50, 51, 52, 53, 54, 55, 56, 57, 58, 59] (by kernel_rfl) ?_
      exact st_back back0 ((6 + 1, true)) (by first | omega | (simp only []; omega) | (simp; omega)) (by first | (refine b_eq (decide_eq_false ?_).symm; unfold uOk pos8 neg8 cnt1 LIM; omega) | (refine b_eq (decide_eq_decide.2 ?_); rw [qt]; unfold uOk pos8 neg8 cnt1 LIM; omega) | omega | (simp only []; omega) | (simp; omega) | assumption | simp_all) (fun p hp => by first | exact hp | simp_all) (by kernel_rfl) (by kernel_rfl) (by kernel_rfl)
    · refine st_b 29 (decide_eq_false k29) (by kernel_rfl) ?_
      refine st_i 14 .i64 (x' := 6 + 1) (Go.IntWalk.i64_in _ (by omega)) (by kernel_rfl) ?_
      refine st_forget [0, 1, 2, 3, 4, 5, 6, 7, 8, 47, 48, 49, 50, 51, 52, 53, 54, 55, 56, 57, 58, 59] (by kernel_rfl) ?_
      exact st_back back0 ((6 + 1, false)) (by first | omega | (simp only []; omega) | (simp; omega)) (by first | (refine b_eq (decide_eq_false ?_).symm; unfold uOk pos8 neg8 cnt1 LIM; omega) | (refine b_eq (decide_eq_decide.2 ?_); rw [qt]; unfold uOk pos8 neg8 cnt1 LIM; omega) | omega | (simp only []; omega) | (simp; omega) | assumption | simp_all) (fun p hp => by first | exact hp | simp_all) (by kernel_rfl) (by kernel_rfl) (by kernel_rfl)
  · have _hh := True.intro
    refine st_b 21 (show (decide (s > 0)) = false by exact decide_eq_false (by omega)) (by kernel_rfl) ?_
    refine st_i 14 .i64 (x' := 6 + 1) (Go.IntWalk.i64_in _ (by omega)) (by kernel_rfl) ?_
    refine st_forget [0, 1, 2, 3, 4, 5, 6, 7, 8, 47, 48, 49, 50, 51, 52, 53, 54, 55, 56, 57, 58, 59] (by kernel_rfl) ?_
    exact st_back back0 ((6 + 1, true)) (by first | omega | (simp only []; omega) | (simp; omega)) (by first | (refine b_eq (decide_eq_false ?_).symm; unfold uOk pos8 neg8 cnt1 LIM; omega) | (refine b_eq (decide_eq_decide.2 ?_); rw [qt]; unfold uOk pos8 neg8 cnt1 LIM; omega) | omega | (simp only []; omega) | (simp; omega) | assumption | simp_all) (fun p hp => by first | exact hp | simp_all) (by kernel_rfl) (by kernel_rfl) (by kernel_rfl)
  · have _hh := True.intro
    refine st_b 21 (show (decide (n > 0)) = false by exact decide_eq_false (by omega)) (by kernel_rfl) ?_
    by_cases k29 : n < 0
    · refine st_b 29 (decide_eq_true k29) (by kernel_rfl) ?_
      refine st_i 14 .i64 (x' := 7 + 1) (Go.IntWalk.i64_in _ (by omega)) (by kernel_rfl) ?_
      refine st_forget [0, 1, 2, 3, 4, 5, 6, 7, 8, 47, 48, 49, 50, 51, 52, 53, 54, 55, 56, 57, 58, 59] (by kernel_rfl) ?_
      exact st_back back0 ((7 + 1, true)) (by first | omega | (simp only []; omega) | (simp; omega)) (by first | (refine b_eq (decide_eq_false ?_).symm; unfold uOk pos8 neg8 cnt1 LIM; omega) | (refine b_eq (decide_eq_decide.2 ?_); rw [qt]; unfold uOk pos8 neg8 cnt1 LIM; omega) | omega | (simp only []; omega) | (simp; omega) | assumption | simp_all) (fun p hp => by first | exact hp | simp_all) (by kernel_rfl) (by kernel_rfl) (by kernel_rfl)
    · refine st_b 29 (decide_eq_false k29) (by kernel_rfl) ?_
      refine st_i 14 .i64 (x' := 7 + 1) (Go.IntWalk.i64_in _ (by omega)) (by kernel_rfl) ?_
      refine st_forget [0, 1, 2, 3, 4, 5, 6, 7, 8, 47, 48, 49, 50, 51, 52, 53, 54, 55, 56, 57, 58, 59] (by kernel_rfl) ?_
      exact st_back back0 ((7 + 1, false)) (by first | omega | (simp only []; omega) | (simp; omega)) (by first | (refine b_eq (decide_eq_false ?_).symm; unfold uOk pos8 neg8 cnt1 LIM; omega) | (refine b_eq (decide_eq_decide.2 ?_); rw [qt]; unfold uOk pos8 neg8 cnt1 LIM; omega) | omega | (simp only []; omega) | (simp; omega) | assumption | simp_all) (fun p hp => by first | exact hp | simp_all) (by kernel_rfl) (by kernel_rfl) (by kernel_rfl)
  · have _hh := True.intro
    refine st_b 21 (show (decide (n > 0)) = false by exact decide_eq_false (by omega)) (by kernel_rfl) ?_
    refine st_i 14 .i64 (x' := 7 + 1) (Go.IntWalk.i64_in _ (by omega)) (by kernel_rfl) ?_
    refine st_forget [0, 1, 2, 3, 4, 5, 6, 7, 8, 47, 48, 49, 50, 51, 52, 53, 54, 55, 56, 57, 58, 59] (by kernel_rfl) ?_
    exact st_back back0 ((7 + 1, true)) (by first | omega | (simp only []; omega) | (simp; omega)) (by first | (refine b_eq (decide_eq_false ?_).symm; unfold uOk pos8 neg8 cnt1 LIM; omega) | (refine b_eq (decide_eq_decide.2 ?_); rw [qt]; unfold uOk pos8 neg8 cnt1 LIM; omega) | omega | (simp only []; omega) | (simp; omega) | assumption | simp_all) (fun p hp => by first | exact hp | simp_all) (by kernel_rfl) (by kernel_rfl) (by kernel_rfl)
  · have _hh := True.intro
    refine st_g ent113 (ut) sub0 (by kernel_rfl) (fun zq2 => ?_)
    refine st_g ent112 (fa (zq2)) (subC 0 rfl sub0) (by kernel_rfl) (fun zq3 => ?_)
    refine st_g ent114 (zulimit) sub0 (by kernel_rfl) (fun zq4 => ?_)
    refine st_fn ent111 (fzcmp (zq3) (zq4) (X) (9007199254740992000000000) (by exact Bits.fit bX (by decide)) (by exact Bits.fit bl.bits (by decide))) (subC 1 rfl (subC 0 rfl sub0)) (by kernel_rfl) ?_
    exact st_retv Tryz.func50 (show Value.bool (decide (cmpI X 9007199254740992000000000 < 0)) = _ by (refine b_eq (decide_eq_decide.2 ?_); rw [qt]; unfold uOk pos8 neg8 cnt1 LIM; omega)) (by kernel_rfl)
  · have _hh := True.intro
    refine st_g ent113 (ut) sub0 (by kernel_rfl) (fun zq2 => ?_)
    refine st_g ent112 (fa (zq2)) (subC 0 rfl sub0) (by kernel_rfl) (fun zq3 => ?_)
    refine st_g ent114 (zulimit) sub0 (by kernel_rfl) (fun zq4 => ?_)
    refine st_fn ent111 (fzcmp (zq3) (zq4) (X) (9007199254740992000000000) (by exact Bits.fit bX (by decide)) (by exact Bits.fit bl.bits (by decide))) (subC 1 rfl (subC 0 rfl sub0)) (by kernel_rfl) ?_
    exact st_retv Tryz.func50 (show Value.bool (decide (cmpI X 9007199254740992000000000 < 0)) = _ by (refine b_eq (decide_eq_decide.2 ?_); rw [qt]; unfold uOk pos8 neg8 cnt1 LIM; omega)) (by kernel_rfl)
end
end Go.Proofs.YtccllfegnijpiaaGreat
end
section
/-
  Durations: what may be, as the reference reckons it: fields of both signs.
-/
set_option linter.unusedVariables false
set_option linter.unusedSimpArgs false
set_option maxRecDepth 100000
namespace Go.Proofs.YtccllfegnijpiaaGreat
open Go Go.RowKit Go.Ev

section
variable (a b c d h mi s n : Int)
set_option maxHeartbeats 3200000 in
theorem zuright_m (i : all64 a b c d h mi s n) (hP : ¬ pos8 a b c d h mi s n) (hN : ¬ neg8 a b c d h mi s n) : Fn 50 [] [duv a b c d h mi s n] (.bool (decide (uOk a b c d h mi s n))) := by
  obtain ⟨i1, i2, i3, i4, i5, i6, i7, i8⟩ := i
  have bt : W128 (dtot d h mi s n) := by unfold I64 at *; unfold W128 dtot; omega
  have bl : W128 9007199254740992000000000 := by unfold W128; omega
  have ut := zutot a b c d h mi s n i4 i5 i6 i7 i8
  obtain ⟨X, hX⟩ : ∃ X : Int, X = ((dtot d h mi s n).natAbs : Int) := ⟨_, rfl⟩
  have bX : Bits 128 X := by rw [hX]; exact bt.bits.abs
  have fa : ∀ p : ZQ, FnZ 112 [(p, dtot d h mi s n)] [zv p] zv X := fun p => by rw [hX]; exact fzabs p _ (bt.bits.fit (by decide))
  have qt := cmpI_lt0 (a := X) (b := 9007199254740992000000000)
  refine fn_of Tryz.func50 rfl fun ww => ?_
  refine st_rowB ent110 (zufields (a) (b) (c) (d) (h) (mi) (s) (n)) (by kernel_rfl) ?_
  refine st_forget [0, 1, 3, 4, 5, 6, 7, 8, 47, 48, 49, 50, 51, 52, 53, 54, 55, 56, 57, 58, 59] (by kernel_rfl) ?_
  refine st_loop (X := Int × Bool × Bool) (fun x => ([SV.val (Value.agg #[Value.int IntKind.i64 a, Value.int IntKind.i64 b, Value.int IntKind.i64 c, Value.int IntKind.i64 d, Value.int IntKind.i64 h, Value.int IntKind.i64 mi, Value.int IntKind.i64 s, Value.int IntKind.i64 n]), SV.ptr 0 0, .any, SV.sl 1 0 8 8, .val (.bool x.2.1), .val (.bool x.2.2), .val (.int .i64 x.1), SV.val (Value.agg #[Value.int IntKind.i64 a, Value.int IntKind.i64 b, Value.int IntKind.i64 c, Value.int IntKind.i64 d, Value.int IntKind.i64 h, Value.int IntKind.i64 mi, Value.int IntKind.i64 s, Value.int IntKind.i64 n]), SV.sl 1 0 8 8, .any, .any, .any, .any, .any, .any, .any, .any, .any, .any, .any, .any, .any, .any, .any, .any, .any, .any, .any, .any, .any, .any, .any, .any, .any, .any, .any, .any, .any, .any, .any, .any, .any, .any, .any, .any, .any, .any, SV.val (Value.tuple #[]), SV.val (Value.tuple #[]), SV.val (Value.tuple #[]), SV.val (Value.tuple #[]), SV.val (Value.tuple #[]), SV.val (Value.tuple #[]), SV.val (Value.tuple #[]), SV.val (Value.tuple #[]), SV.val (Value.tuple #[]), SV.val (Value.tuple #[]), SV.val (Value.tuple #[]), SV.val (Value.tuple #[]), SV.val (Value.tuple #[])], [⟨[SV.val (Value.int IntKind.i64 a), SV.val (Value.int IntKind.i64 b), SV.val (Value.int IntKind.i64 c), SV.val (Value.int IntKind.i64 d), SV.val (Value.int IntKind.i64 h), SV.val (Value.int IntKind.i64 mi), SV.val (Value.int IntKind.i64 s), SV.val (Value.int IntKind.i64 n)], 43⟩, ⟨[SV.val (Value.int IntKind.i64 a), SV.val (Value.int IntKind.i64 b), SV.val (Value.int IntKind.i64 c), SV.val (Value.int IntKind.i64 d), SV.val (Value.int IntKind.i64 h), SV.val (Value.int IntKind.i64 mi), SV.val (Value.int IntKind.i64 s), SV.val (Value.int IntKind.i64 n)], 2⟩])) (fun _ => _) (fun k => 0 ≤ k.1 ∧ k.1 ≤ 8 ∧ (k.2.1 = false → (0 < k.1 → a ≤ 0) ∧ (1 < k.1 → b ≤ 0) ∧ (2 < k.1 → c ≤ 0) ∧ (3 < k.1 → d ≤ 0) ∧ (4 < k.1 → h ≤ 0) ∧ (5 < k.1 → mi ≤ 0) ∧ (6 < k.1 → s ≤ 0) ∧ (7 < k.1 → n ≤ 0)) ∧ (k.2.2 = false → (0 < k.1 → 0 ≤ a) ∧ (1 < k.1 → 0 ≤ b) ∧ (2 < k.1 → 0 ≤ c) ∧ (3 < k.1 → 0 ≤ d) ∧ (4 < k.1 → 0 ≤ h) ∧ (5 < k.1 → 0 ≤ mi) ∧ (6 < k.1 → 0 ≤ s) ∧ (7 < k.1 → 0 ≤ n))) (fun k => (8 - k.1).toNat) ((0, false, false)) (by kernel_rfl) (by kernel_rfl) Sub.refl (by first | omega | (simp; omega) | assumption | simp_all) (fun x px0 back0 => ?_)
  rcases x with ⟨y0_0, y0_1, y0_2⟩
  simp only at px0
  (have hk0 : y0_0 = 0 ∨ y0_0 = 1 ∨ y0_0 = 2 ∨ y0_0 = 3 ∨ y0_0 = 4 ∨ y0_0 = 5 ∨ y0_0 = 6 ∨ y0_0 = 7 ∨ y0_0 = 8 := (by omega); rcases hk0 with rfl | rfl | rfl | rfl | rfl | rfl | rfl | rfl | rfl <;> rcases y0_1 with _ | _ <;> rcases y0_2 with _ | _ <;> simp only [reduceCtorEq, false_implies, true_implies, true_and, and_true, forall_const] at px0)
  · have _hh := True.intro
    by_cases k21 : a > 0
    · refine st_b 21 (decide_eq_true k21) (by kernel_rfl) ?_
      refine st_b 29 (show (decide (a < 0)) = false by exact decide_eq_false (by omega)) (by kernel_rfl) ?_
      by_cases k38 : a > 4294967295
      · refine st_b 38 (decide_eq_true k38) (by kernel_rfl) ?_
        exact st_retv Tryz.func50 (show Value.bool (false) = _ by (exact b_eq (decide_eq_false (fun z => z.1.elim hP hN)).symm)) (by kernel_rfl)
      · refine st_b 38 (decide_eq_false k38) (by kernel_rfl) ?_
        refine st_b 44 (show (decide (a < -4294967295)) = false by exact decide_eq_false (by omega)) (by kernel_rfl) ?_
        refine st_i 14 .i64 (x' := 0 + 1) (Go.IntWalk.i64_in _ (by omega)) (by kernel_rfl) ?_
        refine st_forget [0, 1, 2, 3, 4, 5, 6, 7, 8, 47, 48, 49, 50, 51, 52, 53, 54, 55, 56, 57, 58, 59] (by kernel_rfl) ?_
        exact st_back back0 ((0 + 1, true, false)) (by first | omega | (simp only []; omega) | (simp; omega)) (by first | (simp only [reduceCtorEq, false_implies, true_implies, true_and, and_true, forall_const]; omega) | (exact b_eq (decide_eq_false (fun z => z.1.elim hP hN)).symm) | (exact absurd (show neg8 a b c d h mi s n by unfold neg8; omega) hN) | (exact absurd (show pos8 a b c d h mi s n by unfold pos8; omega) hP) | omega | (simp only []; omega) | (simp; omega) | assumption | simp_all) (fun p hp => by first | exact hp | simp_all) (by kernel_rfl) (by kernel_rfl) (by kernel_rfl)
    · refine st_b 21 (decide_eq_false k21) (by kernel_rfl) ?_
      by_cases k29 : a < 0
      · refine st_b 29 (decide_eq_true k29) (by kernel_rfl) ?_
        refine st_b 38 (show (decide (a > 4294967295)) = false by exact decide_eq_false (by omega)) (by kernel_rfl) ?_
        by_cases k44 : a < -4294967295
        · refine st_b 44 (decide_eq_true k44) (by kernel_rfl) ?_
          exact st_retv Tryz.func50 (show Value.bool (false) = _ by (exact b_eq (decide_eq_false (fun z => z.1.elim hP hN)).symm)) (by kernel_rfl)
        · refine st_b 44 (decide_eq_false k44) (by kernel_rfl) ?_
          refine st_i 14 .i64 (x' := 0 + 1) (Go.IntWalk.i64_in _ (by omega)) (by kernel_rfl) ?_
          refine st_forget [0, 1, 2, 3, 4, 5, 6, 7, 8, 47, 48, 49, 50, 51, 52, 53, 54, 55, 56, 57, 58, 59] (by kernel_rfl) ?_
          exact st_back back0 ((0 + 1, false, true)) (by first | omega | (simp only []; omega) | (simp; omega)) (by first | (simp only [reduceCtorEq, false_implies, true_implies, true_and, and_true, forall_const]; omega) | (exact b_eq (decide_eq_false (fun z => z.1.elim hP hN)).symm) | (exact absurd (show neg8 a b c d h mi s n by unfold neg8; omega) hN) | (exact absurd (show pos8 a b c d h mi s n by unfold pos8; omega) hP) | omega | (simp only []; omega) | (simp; omega) | assumption | simp_all) (fun p hp => by first | exact hp | simp_all) (by kernel_rfl) (by kernel_rfl) (by kernel_rfl)
      · refine st_b 29 (decide_eq_false k29) (by kernel_rfl) ?_
        refine st_b 38 (show (decide (a > 4294967295)) = false by exact decide_eq_false (by omega)) (by kernel_rfl) ?_
        refine st_b 44 (show (decide (a < -4294967295)) = false by exact decide_eq_false (by omega)) (by kernel_rfl) ?_
        refine st_i 14 .i64 (x' := 0 + 1) (Go.IntWalk.i64_in _ (by omega)) (by kernel_rfl) ?_
        refine st_forget [0, 1, 2, 3, 4, 5, 6, 7, 8, 47, 48, 49, 50, 51, 52, 53, 54, 55, 56, 57, 58, 59] (by kernel_rfl) ?_
        exact st_back back0 ((0 + 1, false, false)) (by first | omega | (simp only []; omega) | (simp; omega)) (by first | (simp only [reduceCtorEq, false_implies, true_implies, true_and, and_true, forall_const]; omega) | (exact b_eq (decide_eq_false (fun z => z.1.elim hP hN)).symm) | (exact absurd (show neg8 a b c d h mi s n by unfold neg8; omega) hN) | (exact absurd (show pos8 a b c d h mi s n by unfold pos8; omega) hP) | omega | (simp only []; omega) | (simp; omega) | assumption | simp_all) (fun p hp => by first | exact hp | simp_all) (by kernel_rfl) (by kernel_rfl) (by kernel_rfl)
  · have _hh := True.intro
    by_cases k21 : a > 0
    · refine st_b 21 (decide_eq_true k21) (by kernel_rfl) ?_
      by_cases k38 : a > 4294967295
      · refine st_b 38 (decide_eq_true k38) (by kernel_rfl) ?_
        exact st_retv Tryz.func50 (show Value.bool (false) = _ by (exact b_eq (decide_eq_false (fun z => z.1.elim hP hN)).symm)) (by kernel_rfl)
      · refine st_b 38 (decide_eq_false k38) (by kernel_rfl) ?_
        refine st_b 44 (show (decide (a < -4294967295)) = false by exact decide_eq_false (by omega)) (by kernel_rfl) ?_
        refine st_i 14 .i64 (x' := 0 + 1) (Go.IntWalk.i64_in _ (by omega)) (by kernel_rfl) ?_
        refine st_forget [0, 1, 2, 3, 4, 5, 6, 7, 8, 47, 48, 49, 50, 51, 52, 53, 54, 55, 56, 57, 58, 59] (by kernel_rfl) ?_
        exact st_back back0 ((0 + 1, true, true)) (by first | omega | (simp only []; omega) | (simp; omega)) (by first | (simp only [reduceCtorEq, false_implies, true_implies, true_and, and_true, forall_const]; omega) | (exact b_eq (decide_eq_false (fun z => z.1.elim hP hN)).symm) | (exact absurd (show neg8 a b c d h mi s n by unfold neg8; omega) hN) | (exact absurd (show pos8 a b c d h mi s n by unfold pos8; omega) hP) | omega | (simp only []; omega) | (simp; omega) | assumption | simp_all) (fun p hp => by first | exact hp | simp_all) (by kernel_rfl) (by kernel_rfl) (by kernel_rfl)
    · refine st_b 21 (decide_eq_false k21) (by kernel_rfl) ?_
      refine st_b 38 (show (decide (a > 4294967295)) = false by exact decide_eq_false (by omega)) (by kernel_rfl) ?_
      by_cases k44 : a < -4294967295
      · refine st_b 44 (decide_eq_true k44) (by kernel_rfl) ?_
        exact st_retv Tryz.func50 (show Value.bool (false) = _ by (exact b_eq (decide_eq_false (fun z => z.1.elim hP hN)).symm)) (by kernel_rfl)
      · refine st_b 44 (decide_eq_false k44) (by kernel_rfl) ?_
        refine st_i 14 .i64 (x' := 0 + 1) (Go.IntWalk.i64_in _ (by omega)) (by kernel_rfl) ?_
        refine st_forget [0, 1, 2, 3, 4, 5, 6, 7, 8, 47, 48, 49, 50, 51, 52, 53, 54, 55, 56, 57, 58, 59] (by kernel_rfl) ?_
        exact st_back back0 ((0 + 1, false, true)) (by first | omega | (simp only []; omega) | (simp; omega)) (by first | (simp only [reduceCtorEq, false_implies, true_implies, true_and, and_true, forall_const]; omega) | (exact b_eq (decide_eq_false (fun z => z.1.elim hP hN)).symm) | (exact absurd (show neg8 a b c d h mi s n by unfold neg8; omega) hN) | (exact absurd (show pos8 a b c d h mi s n by unfold pos8; omega) hP) | omega | (simp only []; omega) | (simp; omega) | assumption | simp_all) (fun p hp => by first | exact hp | simp_all) (by kernel_rfl) (by kernel_rfl) (by kernel_rfl)
  · have _hh := True.intro
    by_cases k29 : a < 0
    · refine st_b 29 (decide_eq_true k29) (by kernel_rfl) ?_
      refine st_b 38 (show (decide (a > 4294967295)) = false by exact decide_eq_false (by omega)) (by kernel_rfl) ?_
      by_cases k44 : a < -4294967295
      · refine st_b 44 (decide_eq_true k44) (by kernel_rfl) ?_
        exact st_retv Tryz.func50 (show Value.bool (false) = _ by (exact b_eq (decide_eq_false (fun z => z.1.elim hP hN)).symm)) (by kernel_rfl)
      · refine st_b 44 (decide_eq_false k44) (by kernel_rfl) ?_
        refine st_i 14 .i64 (x' := 0 + 1) (Go.IntWalk.i64_in _ (by omega)) (by kernel_rfl) ?_
        refine st_forget [0, 1, 2, 3, 4, 5, 6, 7, 8, 47, 48, 49, 50, 51, 52, 53, 54, 55, 56, 57, 58, 59] (by kernel_rfl) ?_
        exact st_back back0 ((0 + 1, true, true)) (by first | omega | (simp only []; omega) | (simp; omega)) (by first | (simp only [reduceCtorEq, false_implies, true_implies, true_and, and_true, forall_const]; omega) | (exact b_eq (decide_eq_false (fun z => z.1.elim hP hN)).symm) | (exact absurd (show neg8 a b c d h mi s n by unfold neg8; omega) hN) | (exact absurd (show pos8 a b c d h mi s n by unfold pos8; omega) hP) | omega | (simp only []; omega) | (simp; omega) | assumption | simp_all) (fun p hp => by first | exact hp | simp_all) (by kernel_rfl) (by kernel_rfl) (by kernel_rfl)
    · refine st_b 29 (decide_eq_false k29) (by kernel_rfl) ?_
      by_cases k38 : a > 4294967295
      · refine st_b 38 (decide_eq_true k38) (by kernel_rfl) ?_
        exact st_retv Tryz.func50 (show Value.bool (false) = _ by (exact b_eq (decide_eq_false (fun z => z.1.elim hP hN)).symm)) (by kernel_rfl)
      · refine st_b 38 (decide_eq_false k38) (by kernel_rfl) ?_
        refine st_b 44 (show (decide (a < -4294967295)) = false by exact decide_eq_false (by omega)) (by kernel_rfl) ?_
        refine st_i 14 .i64 (x' := 0 + 1) (Go.IntWalk.i64_in _ (by omega)) (by kernel_rfl) ?_
        refine st_forget [0, 1, 2, 3, 4, 5, 6, 7, 8, 47, 48, 49, 50, 51, 52, 53, 54, 55, 56, 57, 58, 59] (by kernel_rfl) ?_
        exact st_back back0 ((0 + 1, true, false)) (by first | omega | (simp only []; omega) | (simp; omega)) (by first | (simp only [reduceCtorEq, false_implies, true_implies, true_and, and_true, forall_const]; omega) | (exact b_eq (decide_eq_false (fun z => z.1.elim hP hN)).symm) | (exact absurd (show neg8 a b c d h mi s n by unfold neg8; omega) hN) | (exact absurd (show pos8 a b c d h mi s n by unfold pos8; omega) hP) | omega | (simp only []; omega) | (simp; omega) | assumption | simp_all) (fun p hp => by first | exact hp | simp_all) (by kernel_rfl) (by kernel_rfl) (by kernel_rfl)
  · have _hh := True.intro
    by_cases k38 : a > 4294967295
    · refine st_b 38 (decide_eq_true k38) (by kernel_rfl) ?_
      exact st_retv Tryz.func50 (show Value.bool (false) = _ by (exact b_eq (decide_eq_false (fun z => z.1.elim hP hN)).symm)) (by kernel_rfl)
    · refine st_b 38 (decide_eq_false k38) (by kernel_rfl) ?_
      by_cases k44 : a < -4294967295
      · refine st_b 44 (decide_eq_true k44) (by kernel_rfl) ?_
        exact st_retv Tryz.func50 (show Value.bool (false) = _ by (exact b_eq (decide_eq_false (fun z => z.1.elim hP hN)).symm)) (by kernel_rfl)
      · refine st_b 44 (decide_eq_false k44) (by kernel_rfl) ?_
        refine st_i 14 .i64 (x' := 0 + 1) (Go.IntWalk.i64_in _ (by omega)) (by kernel_rfl) ?_
        refine st_forget [0, 1, 2, 3, 4, 5, 6, 7, 8, 47, 48, 49, 50, 51, 52, 53, 54, 55, 56, 57, 58, 59] (by kernel_rfl) ?_
        exact st_back back0 ((0 + 1, true, true)) (by first | omega | (simp only []; omega) | (simp; omega)) (by first | (simp only [reduceCtorEq, false_implies, true_implies, true_and, and_true, forall_const]; omega) | (exact b_eq (decide_eq_false (fun z => z.1.elim hP hN)).symm) | (exact absurd (show neg8 a b c d h mi s n by unfold neg8; omega) hN) | (exact absurd (show pos8 a b c d h mi s n by unfold pos8; omega) hP) | omega | (simp only []; omega) | (simp; omega) | assumption | simp_all) (fun p hp => by first | exact hp | simp_all) (by kernel_rfl) (by kernel_rfl) (by kernel_rfl)
  · have _hh := True.intro
    by_cases k21 : b > 0
    · refine st_b 21 (decide_eq_true k21) (by kernel_rfl) ?_
      refine st_b 29 (show (decide (b < 0)) = false by exact decide_eq_false (by omega)) (by kernel_rfl) ?_
      by_cases k38 : b > 4294967295
      · refine st_b 38 (decide_eq_true k38) (by kernel_rfl) ?_
        exact st_retv Tryz.func50 (show Value.bool (false) = _ by (exact b_eq (decide_eq_false (fun z => z.1.elim hP hN)).symm)) (by kernel_rfl)
      · refine st_b 38 (decide_eq_false k38) (by kernel_rfl) ?_
        refine st_b 44 (show (decide (b < -4294967295)) = false by exact decide_eq_false (by omega)) (by kernel_rfl) ?_
        refine st_i 14 .i64 (x' := 1 + 1) (Go.IntWalk.i64_in _ (by omega)) (by kernel_rfl) ?_
        refine st_forget [0, 1, 2, 3, 4, 5, 6, 7, 8, 47, 48, 49, 50, 51, 52, 53, 54, 55, 56, 57, 58, 59] (by kernel_rfl) ?_
        exact st_back back0 ((1 + 1, true, false)) (by first | omega | (simp only []; omega) | (simp; omega)) (by first | (simp only [reduceCtorEq, false_implies, true_implies, true_and, and_true, forall_const]; omega) | (exact b_eq (decide_eq_false (fun z => z.1.elim hP hN)).symm) | (exact absurd (show neg8 a b c d h mi s n by unfold neg8; omega) hN) | (exact absurd (show pos8 a b c d h mi s n by unfold pos8; omega) hP) | omega | (simp only []; omega) | (simp; omega) | assumption | simp_all) (fun p hp => by first | exact hp | simp_all) (by kernel_rfl) (by kernel_rfl) (by kernel_rfl)
    · refine st_b 21 (decide_eq_false k21) (by kernel_rfl) ?_
      by_cases k29 : b < 0
      · refine st_b 29 (decide_eq_true k29) (by kernel_rfl) ?_
        refine st_b 38 (show (decide (b > 4294967295)) = false by exact decide_eq_false (by omega)) (by kernel_rfl) ?_
        by_cases k44 : b < -4294967295
        · refine st_b 44 (decide_eq_true k44) (by kernel_rfl) ?_
          exact st_retv Tryz.func50 (show Value.bool (false) = _ by (exact b_eq (decide_eq_false (fun z => z.1.elim hP hN)).symm)) (by kernel_rfl)
        · refine st_b 44 (decide_eq_false k44) (by kernel_rfl) ?_
          refine st_i 14 .i64 (x' := 1 + 1) (Go.IntWalk.i64_in _ (by omega)) (by kernel_rfl) ?_
          refine st_forget [0, 1, 2, 3, 4, 5, 6, 7, 8, 47, 48, 49, 50, 51, 52, 53, 54, 55, 56, 57, 58, 59] (by kernel_rfl) ?_
          exact st_back back0 ((1 + 1, false, true)) (by first | omega | (simp only []; omega) | (simp; omega)) (by first | (simp only [reduceCtorEq, false_implies, true_implies, true_and, and_true, forall_const]; omega) | (exact b_eq (decide_eq_false (fun z => z.1.elim hP hN)).symm) | (exact absurd (show neg8 a b c d h mi s n by unfold neg8; omega) hN) | (exact absurd (show pos8 a b c d h mi s n by unfold pos8; omega) hP) | omega | (simp only []; omega) | (simp; omega) | assumption | simp_all) (fun p hp => by first | exact hp | simp_all) (by kernel_rfl) (by kernel_rfl) (by kernel_rfl)
      · refine st_b 29 (decide_eq_false k29) (by kernel_rfl) ?_
        refine st_b 38 (show (decide (b > 4294967295)) = false by exact decide_eq_false (by omega)) (by kernel_rfl) ?_
        refine st_b 44 (show (decide (b < -4294967295)) = false by exact decide_eq_false (by omega)) (by kernel_rfl) ?_
        refine st_i 14 .i64 (x' := 1 + 1) (Go.IntWalk.i64_in _ (by omega)) (by kernel_rfl) ?_
        refine st_forget [0, 1, 2, 3, 4, 5, 6, 7, 8, 47, 48, 49, 50, 51, 52, 53, 54, 55, 56, 57, 58, 59] (by kernel_rfl) ?_
        exact st_back back0 ((1 + 1, false, false)) (by first | omega | (simp only []; omega) | (simp; omega)) (by first | (simp only [reduceCtorEq, false_implies, true_implies, true_and, and_true, forall_const]; omega) | (exact b_eq (decide_eq_false (fun z => z.1.elim hP hN)).symm) | (exact absurd (show neg8 a b c d h mi s n by unfold neg8; omega) hN) | (exact absurd (show pos8 a b c d h mi s n by unfold pos8; omega) hP) | omega | (simp only []; omega) | (simp; omega) | assumption | simp_all) (fun p hp => by first | exact hp | simp_all) (by kernel_rfl) (by kernel_rfl) (by kernel_rfl)
  · have _hh := True.intro
    by_cases k21 : b > 0
    · refine st_b 21 (decide_eq_true k21) (by kernel_rfl) ?_
      by_cases k38 : b > 4294967295
      · refine st_b 38 (decide_eq_true k38) (by kernel_rfl) ?_
        exact st_retv Tryz.func50 (show Value.bool (false) = _ by (exact b_eq (decide_eq_false (fun z => z.1.elim hP hN)).symm)) (by kernel_rfl)
      · refine st_b 38 (decide_eq_false k38) (by kernel_rfl) ?_
        refine st_b 44 (show (decide (b < -4294967295)) = false by exact decide_eq_false (by omega)) (by kernel_rfl) ?_
        refine st_i 14 .i64 (x' := 1 + 1) (Go.IntWalk.i64_in _ (by omega)) (by kernel_rfl) ?_
        refine st_forget [0, 1, 2, 3, 4, 5, 6, 7, 8, 47, 48, 49, 50, 51, 52, 53, 54, 55, 56, 57, 58, 59] (by kernel_rfl) ?_
        exact st_back back0 ((1 + 1, true, true)) (by first | omega | (simp only []; omega) | (simp; omega)) (by first | (simp only [reduceCtorEq, false_implies, true_implies, true_and, and_true, forall_const]; omega) | (exact b_eq (decide_eq_false (fun z => z.1.elim hP hN)).symm) | (exact absurd (show neg8 a b c d h mi s n by unfold neg8; omega) hN) | (exact absurd (show pos8 a b c d h mi s n by unfold pos8; omega) hP) | omega | (simp only []; omega) | (simp; omega) | assumption | simp_all) (fun p hp => by first | exact hp | simp_all) (by kernel_rfl) (by kernel_rfl) (by kernel_rfl)
    · refine st_b 21 (decide_eq_false k21) (by kernel_rfl) ?_
      refine st_b 38 (show (decide (b > 4294967295)) = false by exact decide_eq_false (by omega)) (by kernel_rfl) ?_
      by_cases k44 : b < -4294967295
      · refine st_b 44 (decide_eq_true k44) (by kernel_rfl) ?_
        exact st_retv Tryz.func50 (show Value.bool (false) = _ by (exact b_eq (decide_eq_false (fun z => z.1.elim hP hN)).symm)) (by kernel_rfl)
      · refine st_b 44 (decide_eq_false k44) (by kernel_rfl) ?_
        refine st_i 14 .i64 (x' := 1 + 1) (Go.IntWalk.i64_in _ (by omega)) (by kernel_rfl) ?_
        refine st_forget [0, 1, 2, 3, 4, 5, 6, 7, 8, 47, 48, 49, 50, 51, 52, 53, 54, 55, 56, 57, 58, 59] (by kernel_rfl) ?_
        exact st_back back0 ((1 + 1, false, true)) (by first | omega | (simp only []; omega) | (simp; omega)) (by first | (simp only [reduceCtorEq, false_implies, true_implies, true_and, and_true, forall_const]; omega) | (exact b_eq (decide_eq_false (fun z => z.1.elim hP hN)).symm) | (exact absurd (show neg8 a b c d h mi s n by unfold neg8; omega) hN) | (exact absurd (show pos8 a b c d h mi s n by unfold pos8; omega) hP) | omega | (simp only []; omega) | (simp; omega) | assumption | simp_all) (fun p hp => by first | exact hp | simp_all) (by kernel_rfl) (by kernel_rfl) (by kernel_rfl)
  · have _hh := True.intro
    by_cases k29 : b < 0
    · refine st_b 29 (decide_eq_true k29) (by kernel_rfl) ?_
      refine st_b 38 (show (decide (b > 4294967295)) = false by exact decide_eq_false (by omega)) (by kernel_rfl) ?_
      by_cases k44 : b < -4294967295
      · refine st_b 44 (decide_eq_true k44) (by kernel_rfl) ?_
        exact st_retv Tryz.func50 (show Value.bool (false) = _ by (exact b_eq (decide_eq_false (fun z => z.1.elim hP hN)).symm)) (by kernel_rfl)
      · refine st_b 44 (decide_eq_false k44) (by kernel_rfl) ?_
        refine st_i 14 .i64 (x' := 1 + 1) (Go.IntWalk.i64_in _ (by omega)) (by kernel_rfl) ?_
        refine st_forget [0, 1, 2, 3, 4, 5, 6, 7, 8, 47, 48, 49, 50, 51, 52, 53, 54, 55, 56, 57, 58, 59] (by kernel_rfl) ?_
        exact st_back back0 ((1 + 1, true, true)) (by first | omega | (simp only []; omega) | (simp; omega)) (by first | (simp only [reduceCtorEq, false_implies, true_implies, true_and, and_true, forall_const]; omega) | (exact b_eq (decide_eq_false (fun z => z.1.elim hP hN)).symm) | (exact absurd (show neg8 a b c d h mi s n by unfold neg8; omega) hN) | (exact absurd (show pos8 a b c d h mi s n by unfold pos8; omega) hP) | omega | (simp only []; omega) | (simp; omega) | assumption | simp_all) (fun p hp => by first | exact hp | simp_all) (by kernel_rfl) (by kernel_rfl) (by kernel_rfl)
    · refine st_b 29 (decide_eq_false k29) (by kernel_rfl) ?_
      by_cases k38 : b > 4294967295
      · refine st_b 38 (decide_eq_true k38) (by kernel_rfl) ?_
        exact st_retv Tryz.func50 (show Value.bool (false) = _ by (exact b_eq (decide_eq_false (fun z => z.1.elim hP hN)).symm)) (by kernel_rfl)
      · refine st_b 38 (decide_eq_false k38) (by kernel_rfl) ?_
        refine st_b 44 (show (decide (b < -4294967295)) = false by exact decide_eq_false (by omega)) (by kernel_rfl) ?_
        refine st_i 14 .i64 (x' := 1 + 1) (Go.IntWalk.i64_in _ (by omega)) (by kernel_rfl) ?_
        refine st_forget [0, 1, 2, 3, 4, 5, 6, 7, 8, 47, 48, 49, 50, 51, 52, 53, 54, 55, 56, 57, 58, 59] (by kernel_rfl) ?_
        exact st_back back0 ((1 + 1, true, false)) (by first | omega | (simp only []; omega) | (simp; omega)) (by first | (simp only [reduceCtorEq, false_implies, true_implies, true_and, and_true, forall_const]; omega) | (exact b_eq (decide_eq_false (fun z => z.1.elim hP hN)).symm) | (exact absurd (show neg8 a b c d h mi s n by unfold neg8; omega) hN) | (exact absurd (show pos8 a b c d h mi s n by unfold pos8; omega) hP) | omega | (simp only []; omega) | (simp; omega) | assumption | simp_all) (fun p hp => by first | exact hp | simp_all) (by kernel_rfl) (by kernel_rfl) (by kernel_rfl)
  · have _hh := True.intro
    by_cases k38 : b > 4294967295
    · refine st_b 38 (decide_eq_true k38) (by kernel_rfl) ?_
      exact st_retv Tryz.func50 (show Value.bool (false) = _ by (exact b_eq (decide_eq_false (fun z => z.1.elim hP hN)).symm)) (by kernel_rfl)
    · refine st_b 38 (decide_eq_false k38) (by kernel_rfl) ?_
      by_cases k44 : b < -4294967295
      · refine st_b 44 (decide_eq_true k44) (by kernel_rfl) ?_
        exact st_retv Tryz.func50 (show Value.bool (false) = _ by (exact b_eq (decide_eq_false (fun z => z.1.elim hP hN)).symm)) (by kernel_rfl)
      · refine st_b 44 (decide_eq_false k44) (by kernel_rfl) ?_
        refine st_i 14 .i64 (x' := 1 + 1) (Go.IntWalk.i64_in _ (by omega)) (by kernel_rfl) ?_
        refine st_forget [0, 1, 2, 3, 4, 5, 6, 7, 8, 47, 48, 49, 50, 51, 52, 53, 54, 55, 56, 57, 58, 59] (by kernel_rfl) ?_
        exact st_back back0 ((1 + 1, true, true)) (by first | omega | (simp only []; omega) | (simp; omega)) (by first | (simp only [reduceCtorEq, false_implies, true_implies, true_and, and_true, forall_const]; omega) | (exact b_eq (decide_eq_false (fun z => z.1.elim hP hN)).symm) | (exact absurd (show neg8 a b c d h mi s n by unfold neg8; omega) hN) | (exact absurd (show pos8 a b c d h mi s n by unfold pos8; omega) hP) | omega | (simp only []; omega) | (simp; omega) | assumption | simp_all) (fun p hp => by first | exact hp | simp_all) (by kernel_rfl) (by kernel_rfl) (by kernel_rfl)
  · have _hh := True.intro
    by_cases k21 : c > 0
    · refine st_b 21 (decide_eq_true k21) (by kernel_rfl) ?_
      refine st_b 29 (show (decide (c < 0)) = false by exact decide_eq_false (by omega)) (by kernel_rfl) ?_
      by_cases k38 : c > 4294967295
      · refine st_b 38 (decide_eq_true k38) (by kernel_rfl) ?_
        exact st_retv Tryz.func50 (show Value.bool (false) = _ by (exact b_eq (decide_eq_false (fun z => z.1.elim hP hN)).symm)) (by kernel_rfl)
      · refine st_b 38 (decide_eq_false k38) (by kernel_rfl) ?_
        refine st_b 44 (show (decide (c < -4294967295)) = false by exact decide_eq_false (by omega)) (by kernel_rfl) ?_
        refine st_i 14 .i64 (x' := 2 + 1) (Go.IntWalk.i64_in _ (by omega)) (by kernel_rfl) ?_
        refine st_forget [0, 1, 2, 3, 4, 5, 6, 7, 8, 47, 48, 49, 50, 51, 52, 53, 54, 55, 56, 57, 58, 59] (by kernel_rfl) ?_
        exact st_back back0 ((2 + 1, true, false)) (by first | omega | (simp only []; omega) | (simp; omega)) (by first | (simp only [reduceCtorEq, false_implies, true_implies, true_and, and_true, forall_const]; omega) | (exact b_eq (decide_eq_false (fun z => z.1.elim hP hN)).symm) | (exact absurd (show neg8 a b c d h mi s n by unfold neg8; omega) hN) | (exact absurd (show pos8 a b c d h mi s n by unfold pos8; omega) hP) | omega | (simp only []; omega) | (simp; omega) | assumption | simp_all) (fun p hp => by first | exact hp | simp_all) (by kernel_rfl) (by kernel_rfl) (by kernel_rfl)
    · refine st_b 21 (decide_eq_false k21) (by kernel_rfl) ?_
      by_cases k29 : c < 0
      · refine st_b 29 (decide_eq_true k29) (by kernel_rfl) ?_
        refine st_b 38 (show (decide (c > 4294967295)) = false by exact decide_eq_false (by omega)) (by kernel_rfl) ?_
        by_cases k44 : c < -4294967295
        · refine st_b 44 (decide_eq_true k44) (by kernel_rfl) ?_
          exact st_retv Tryz.func50 (show Value.bool (false) = _ by (exact b_eq (decide_eq_false (fun z => z.1.elim hP hN)).symm)) (by kernel_rfl)
        · refine st_b 44 (decide_eq_false k44) (by kernel_rfl) ?_
          refine st_i 14 .i64 (x' := 2 + 1) (Go.IntWalk.i64_in _ (by omega)) (by kernel_rfl) ?_
          refine st_forget [0, 1, 2, 3, 4, 5, 6, 7, 8, 47, 48, 49, 50, 51, 52, 53, 54, 55, 56, 57, 58, 59] (by kernel_rfl) ?_
          exact st_back back0 ((2 + 1, false, true)) (by first | omega | (simp only []; omega) | (simp; omega)) (by first | (simp only [reduceCtorEq, false_implies, true_implies, true_and, and_true, forall_const]; omega) | (exact b_eq (decide_eq_false (fun z => z.1.elim hP hN)).symm) | (exact absurd (show neg8 a b c d h mi s n by unfold neg8; omega) hN) | (exact absurd (show pos8 a b c d h mi s n by unfold pos8; omega) hP) | omega | (simp only []; omega) | (simp; omega) | assumption | simp_all) (fun p hp => by first | exact hp | simp_all) (by kernel_rfl) (by kernel_rfl) (by kernel_rfl)
      · refine st_b 29 (decide_eq_false k29) (by kernel_rfl) ?_
        refine st_b 38 (show (decide (c > 4294967295)) = false by exact decide_eq_false (by omega)) (by kernel_rfl) ?_
        refine st_b 44 (show (decide (c < -4294967295)) = false by exact decide_eq_false (by omega)) (by kernel_rfl) ?_
        refine st_i 14 .i64 (x' := 2 + 1) (Go.IntWalk.i64_in _ (by omega)) (by kernel_rfl) ?_
        refine st_forget [0, 1, 2, 3, 4, 5, 6, 7, 8, 47, 48, 49, 50, 51, 52, 53, 54, 55, 56, 57, 58, 59] (by kernel_rfl) ?_
        exact st_back back0 ((2 + 1, false, false)) (by first | omega | (simp only []; omega) | (simp; omega)) (by first | (simp only [reduceCtorEq, false_implies, true_implies, true_and, and_true, forall_const]; omega) | (exact b_eq (decide_eq_false (fun z => z.1.elim hP hN)).symm) | (exact absurd (show neg8 a b c d h mi s n by unfold neg8; omega) hN) | (exact absurd (show pos8 a b c d h mi s n by unfold pos8; omega) hP) | omega | (simp only []; omega) | (simp; omega) | assumption | simp_all) (fun p hp => by first | exact hp | simp_all) (by kernel_rfl) (by kernel_rfl) (by kernel_rfl)
  · have _hh := True.intro
    by_cases k21 : c > 0
    · refine st_b 21 (decide_eq_true k21) (by kernel_rfl) ?_
      by_cases k38 : c > 4294967295
      · refine st_b 38 (decide_eq_true k38) (by kernel_rfl) ?_
        exact st_retv Tryz.func50 (show Value.bool (false) = _ by (exact b_eq (decide_eq_false (fun z => z.1.elim hP hN)).symm)) (by kernel_rfl)
      · refine st_b 38 (decide_eq_false k38) (by kernel_rfl) ?_
        refine st_b 44 (show (decide (c < -4294967295)) = false by exact decide_eq_false (by omega)) (by kernel_rfl) ?_
        refine st_i 14 .i64 (x' := 2 + 1) (Go.IntWalk.i64_in _ (by omega)) (by kernel_rfl) ?_
        refine st_forget [0, 1, 2, 3, 4, 5, 6, 7, 8, 47, 48, 49, 50, 51, 52, 53, 54, 55, 56, 57, 58, 59] (by kernel_rfl) ?_
        exact st_back back0 ((2 + 1, true, true)) (by first | omega | (simp only []; omega) | (simp; omega)) (by first | (simp only [reduceCtorEq, false_implies, true_implies, true_and, and_true, forall_const]; omega) | (exact b_eq (decide_eq_false (fun z => z.1.elim hP hN)).symm) | (exact absurd (show neg8 a b c d h mi s n by unfold neg8; omega) hN) | (exact absurd (show pos8 a b c d h mi s n by unfold pos8; omega) hP) | omega | (simp only []; omega) | (simp; omega) | assumption | simp_all) (fun p hp => by first | exact hp | simp_all) (by kernel_rfl) (by kernel_rfl) (by kernel_rfl)
    · refine st_b 21 (decide_eq_false k21) (by kernel_rfl) ?_
      refine st_b 38 (show (decide (c > 4294967295)) = false by exact decide_eq_false (by omega)) (by kernel_rfl) ?_
      by_cases k44 : c < -4294967295
      · refine st_b 44 (decide_eq_true k44) (by kernel_rfl) ?_
        exact st_retv Tryz.func50 (show Value.bool (false) = _ by (exact b_eq (decide_eq_false (fun z => z.1.elim hP hN)).symm)) (by kernel_rfl)
      · refine st_b 44 (decide_eq_false k44) (by kernel_rfl) ?_
        refine st_i 14 .i64 (x' := 2 + 1) (Go.IntWalk.i64_in _ (by omega)) (by kernel_rfl) ?_
        refine st_forget [0, 1, 2, 3, 4, 5, 6, 7, 8, 47, 48, 49, 50, 51, 52, 53, 54, 55, 56, 57, 58, 59] (by kernel_rfl) ?_
        exact st_back back0 ((2 + 1, false, true)) (by first | omega | (simp only []; omega) | (simp; omega)) (by first | (simp only [reduceCtorEq, false_implies, true_implies, true_and, and_true, forall_const]; omega) | (exact b_eq (decide_eq_false (fun z => z.1.elim hP hN)).symm) | (exact absurd (show neg8 a b c d h mi s n by unfold neg8; omega) hN) | (exact absurd (show pos8 a b c d h mi s n by unfold pos8; omega) hP) | omega | (simp only []; omega) | (simp; omega) | assumption | simp_all) (fun p hp => by first | exact hp | simp_all) (by kernel_rfl) (by kernel_rfl) (by kernel_rfl)
  · have _hh := True.intro
    by_cases k29 : c < 0
    · refine st_b 29 (decide_eq_true k29) (by kernel_rfl) ?_
      refine st_b 38 (show (decide (c > 4294967295)) = false by exact decide_eq_false (by omega)) (by kernel_rfl) ?_
      by_cases k44 : c < -4294967295
      · refine st_b 44 (decide_eq_true k44) (by kernel_rfl) ?_
        exact st_retv Tryz.func50 (show Value.bool (false) = _ by (exact b_eq (decide_eq_false (fun z => z.1.elim hP hN)).symm)) (by kernel_rfl)
      · refine st_b 44 (decide_eq_false k44) (by kernel_rfl) ?_
        refine st_i 14 .i64 (x' := 2 + 1) (Go.IntWalk.i64_in _ (by omega)) (by kernel_rfl) ?_
        refine st_forget [0, 1, 2, 3, 4, 5, 6, 7, 8, 47, 48, 49, 50, 51, 52, 53, 54, 55, 56, 57, 58, 59] (by kernel_rfl) ?_
        exact st_back back0 ((2 + 1, true, true)) (by first | omega | (simp only []; omega) | (simp; omega)) (by first | (simp only [reduceCtorEq, false_implies, true_implies, true_and, and_true, forall_const]; omega) | (exact b_eq (decide_eq_false (fun z => z.1.elim hP hN)).symm) | (exact absurd (show neg8 a b c d h mi s n by unfold neg8; omega) hN) | (exact absurd (show pos8 a b c d h mi s n by unfold pos8; omega) hP) | omega | (simp only []; omega) | (simp; omega) | assumption | simp_all) (fun p hp => by first | exact hp | simp_all) (by kernel_rfl) (by kernel_rfl) (by kernel_rfl)
    · refine st_b 29 (decide_eq_false k29) (by kernel_rfl) ?_
      by_cases k38 : c > 4294967295
      · refine st_b 38 (decide_eq_true k38) (by kernel_rfl) ?_
        exact st_retv Tryz.func50 (show Value.bool (false) = _ by (exact b_eq (decide_eq_false (fun z => z.1.elim hP hN)).symm)) (by kernel_rfl)
      · refine st_b 38 (decide_eq_false k38) (by kernel_rfl) ?_
        refine st_b 44 (show (decide (c < -4294967295)) = false by exact decide_eq_false (by omega)) (by kernel_rfl) ?_
        refine st_i 14 .i64 (x' := 2 + 1) (Go.IntWalk.i64_in _ (by omega)) (by kernel_rfl) ?_
        refine st_forget [0, 1, 2, 3, 4, 5, 6, 7, 8, 47, 48, 49, 50, 51, 52, 53, 54, 55, 56, 57, 58, 59] (by kernel_rfl) ?_
        exact st_back back0 ((2 + 1, true, false)) (by first | omega | (simp only []; omega) | (simp; omega)) (by first | (simp only [reduceCtorEq, false_implies, true_implies, true_and, and_true, forall_const]; omega) | (exact b_eq (decide_eq_false (fun z => z.1.elim hP hN)).symm) | (exact absurd (show neg8 a b c d h mi s n by unfold neg8; omega) hN) | (exact absurd (show pos8 a b c d h mi s n by unfold pos8; omega) hP) | omega | (simp only []; omega) | (simp; omega) | assumption | simp_all) (fun p hp => by first | exact hp | simp_all) (by kernel_rfl) (by kernel_rfl) (by kernel_rfl)
  · have _hh := True.intro
    by_cases k38 : c > 4294967295
    · refine st_b 38 (decide_eq_true k38) (by kernel_rfl) ?_
      exact st_retv Tryz.func50 (show Value.bool (false) = _ by (exact b_eq (decide_eq_false (fun z => z.1.elim hP hN)).symm)) (by kernel_rfl)
    · refine st_b 38 (decide_eq_false k38) (by kernel_rfl) ?_
      by_cases k44 : c < -4294967295
      · refine st_b 44 (decide_eq_true k44) (by kernel_rfl) ?_
        exact st_retv Tryz.func50 (show Value.bool (false) = _ by (exact b_eq (decide_eq_false (fun z => z.1.elim hP hN)).symm)) (by kernel_rfl)
      · refine st_b 44 (decide_eq_false k44) (by kernel_rfl) ?_
        refine st_i 14 .i64 (x' := 2 + 1) (Go.IntWalk.i64_in _ (by omega)) (by kernel_rfl) ?_
        refine st_forget [0, 1, 2, 3, 4, 5, 6, 7, 8, 47, 48, 49, 50, 51, 52, 53, 54, 55, 56, 57, 58, 59] (by kernel_rfl) ?_
        exact st_back back0 ((2 + 1, true, true)) (by first | omega | (simp only []; omega) | (simp; omega)) (by first | (simp only [reduceCtorEq, false_implies, true_implies, true_and, and_true, forall_const]; omega) | (exact b_eq (decide_eq_false (fun z => z.1.elim hP hN)).symm) | (exact absurd (show neg8 a b c d h mi s n by unfold neg8; omega) hN) | (exact absurd (show pos8 a b c d h mi s n by unfold pos8; omega) hP) | omega | (simp only []; omega) | (simp; omega) | assumption | simp_all) (fun p hp => by first | exact hp | simp_all) (by kernel_rfl) (by kernel_rfl) (by kernel_rfl)
  · have _hh := True.intro
    by_cases k21 : d > 0
    · refine st_b 21 (decide_eq_true k21) (by kernel_rfl) ?_
      refine st_b 29 (show (decide (d < 0)) = false by exact decide_eq_false (by omega)) (by kernel_rfl) ?_
      refine st_i 14 .i64 (x' := 3 + 1) (Go.IntWalk.i64_in _ (by omega)) (by kernel_rfl) ?_
      refine st_forget [0, 1, 2, 3, 4, 5, 6, 7, 8, 47, 48, 49, 50, 51, 52, 53, 54, 55, 56, 57, 58, 59] (by kernel_rfl) ?_
      exact st_back back0 ((3 + 1, true, false)) (by first | omega | (simp only []; omega) | (simp; omega)) (by first | (simp only [reduceCtorEq, false_implies, true_implies, true_and, and_true, forall_const]; omega) | (exact b_eq (decide_eq_false (fun z => z.1.elim hP hN)).symm) | (exact absurd (show neg8 a b c d h mi s n by unfold neg8; omega) hN) | (exact absurd (show pos8 a b c d h mi s n by unfold pos8; omega) hP) | omega | (simp only []; omega) | (simp; omega) | assumption | simp_all) (fun p hp => by first | exact hp | simp_all) (by kernel_rfl) (by kernel_rfl) (by kernel_rfl)
    · refine st_b 21 (decide_eq_false k21) (by kernel_rfl) ?_
      by_cases k29 : d < 0
      · refine st_b 29 (decide_eq_true k29) (by kernel_rfl) ?_
        refine st_i 14 .i64 (x' := 3 + 1) (Go.IntWalk.i64_in _ (by omega)) (by kernel_rfl) ?_
        refine st_forget [0, 1, 2, 3, 4, 5, 6, 7, 8, 47, 48, 49, 50, 51, 52, 53, 54, 55, 56, 57, 58, 59] (by kernel_rfl) ?_
        exact st_back back0 ((3 + 1, false, true)) (by first | omega | (simp only []; omega) | (simp; omega)) (by first | (simp only [reduceCtorEq, false_implies, true_implies, true_and, and_true, forall_const]; omega) | (exact b_eq (decide_eq_false (fun z => z.1.elim hP hN)).symm) | (exact absurd (show neg8 a b c d h mi s n by unfold neg8; omega) hN) | (exact absurd (show pos8 a b c d h mi s n by unfold pos8; omega) hP) | omega | (simp only []; omega) | (simp; omega) | assumption | simp_all) (fun p hp => by first | exact hp | simp_all) (by kernel_rfl) (by kernel_rfl) (by kernel_rfl)
      · refine st_b 29 (decide_eq_false k29) (by kernel_rfl) ?_
        refine st_i 14 .i64 (x' := 3 + 1) (Go.IntWalk.i64_in _ (by omega)) (by kernel_rfl) ?_
        refine st_forget [0, 1, 2, 3, 4, 5, 6, 7, 8, 47, 48, 49, 50, 51, 52, 53, 54, 55, 56, 57, 58, 59] (by kernel_rfl) ?_
        exact st_back back0 ((3 + 1, false, false)) (by first | omega | (simp only []; omega) | (simp; omega)) (by first | (simp only [reduceCtorEq, false_implies, true_implies, true_and, and_true, forall_const]; omega) | (exact b_eq (decide_eq_false (fun z => z.1.elim hP hN)).symm) | (exact absurd (show neg8 a b c d h mi s n by unfold neg8; omega) hN) | (exact absurd (show pos8 a b c d h mi s n by unfold pos8; omega) hP) | omega | (simp only []; omega) | (simp; omega) | assumption | simp_all) (fun p hp => by first | exact hp | simp_all) (by kernel_rfl) (by kernel_rfl) (by kernel_rfl)
  · have _hh := True.intro
    by_cases k21 : d > 0
    · refine st_b 21 (decide_eq_true k21) (by kernel_rfl) ?_
      refine st_i 14 .i64 (x' := 3 + 1) (Go.IntWalk.i64_in _ (by omega)) (by kernel_rfl) ?_
      refine st_forget [0, 1, 2, 3, 4, 5, 6, 7, 8, 47, 48, 49, 50, 51, 52, 53, 54, 55, 56, 57, 58, 59] (by kernel_rfl) ?_
      exact st_back back0 ((3 + 1, true, true)) (by first | omega | (simp only []; omega) | (simp; omega)) (by first | (simp only [reduceCtorEq, false_implies, true_implies, true_and, and_true, forall_const]; omega) | (exact b_eq (decide_eq_false (fun z => z.1.elim hP hN)).symm) | (exact absurd (show neg8 a b c d h mi s n by unfold neg8; omega) hN) | (exact absurd (show pos8 a b c d h mi s n by unfold pos8; omega) hP) | omega | (simp only []; omega) | (simp; omega) | assumption | simp_all) (fun p hp => by first | exact hp | simp_all) (by kernel_rfl) (by kernel_rfl) (by kernel_rfl)
    · refine st_b 21 (decide_eq_false k21) (by kernel_rfl) ?_
      refine st_i 14 .i64 (x' := 3 + 1) (Go.IntWalk.i64_in _ (by omega)) (by kernel_rfl) ?_
      refine st_forget [0, 1, 2, 3, 4, 5, 6, 7, 8, 47, 48, 49, 50, 51, 52, 53, 54, 55, 56, 57, 58, 59] (by kernel_rfl) ?_
      exact st_back back0 ((3 + 1, false, true)) (by first | omega | (simp only []; omega) | (simp; omega)) (by first | (simp only [reduceCtorEq, false_implies, true_implies, true_and, and_true, forall_const]; omega) | (exact b_eq (decide_eq_false (fun z => z.1.elim hP hN)).symm) | (exact absurd (show neg8 a b c d h mi s n by unfold neg8; omega) hN) | (exact absurd (show pos8 a b c d h mi s n by unfold pos8; omega) hP) | omega | (simp only []; omega) | (simp; omega) | assumption | simp_all) (fun p hp => by first | exact hp | simp_all) (by kernel_rfl) (by kernel_rfl) (by kernel_rfl)
  · have _hh := True.intro
    by_cases k29 : d < 0
    · refine st_b 29 (decide_eq_true k29) (by kernel_rfl) ?_
      refine st_i 14 .i64 (x' := 3 + 1) (Go.IntWalk.i64_in _ (by omega)) (by kernel_rfl) ?_
      refine st_forget [0, 1, 2, 3, 4, 5, 6, 7, 8, 47, 48, 49, 50, 51, 52, 53, 54, 55, 56, 57, 58, 59] (by kernel_rfl) ?_
      exact st_back back0 ((3 + 1, true, true)) (by first | omega | (simp only []; omega) | (simp; omega)) (by first | (simp only [reduceCtorEq, false_implies, true_implies, true_and, and_true, forall_const]; omega) | (exact b_eq (decide_eq_false (fun z => z.1.elim hP hN)).symm) | (exact absurd (show neg8 a b c d h mi s n by unfold neg8; omega) hN) | (exact absurd (show pos8 a b c d h mi s n by unfold pos8; omega) hP) | omega | (simp only []; omega) | (simp; omega) | assumption | simp_all) (fun p hp => by first | exact hp | simp_all) (by kernel_rfl) (by kernel_rfl) (by kernel_rfl)
    · refine st_b 29 (decide_eq_false k29) (by kernel_rfl) ?_
      refine st_i 14 .i64 (x' := 3 + 1) (Go.IntWalk.i64_in _ (by omega)) (by kernel_rfl) ?_
      refine st_forget [0, 1, 2, 3, 4, 5, 6, 7, 8, 47, 48, 49, 50, 51, 52, 53, 54, 55, 56, 57, 58, 59] (by kernel_rfl) ?_
      exact st_back back0 ((3 + 1, true, false)) (by first | omega | (simp only []; omega) | (simp; omega)) (by first | (simp only [reduceCtorEq, false_implies, true_implies, true_and, and_true, forall_const]; omega) | (exact b_eq (decide_eq_false (fun z => z.1.elim hP hN)).symm) | (exact absurd (show neg8 a b c d h mi s n by unfold neg8; omega) hN) | (exact absurd (show pos8 a b c d h mi s n by unfold pos8; omega) hP) | omega | (simp only []; omega) | (simp; omega) | assumption | simp_all) (fun p hp => by first | exact hp | simp_all) (by kernel_rfl) (by kernel_rfl) (by kernel_rfl)
  · have _hh := True.intro
    refine st_i 14 .i64 (x' := 3 + 1) (Go.IntWalk.i64_in _ (by omega)) (by kernel_rfl) ?_
    refine st_forget [0, 1, 2, 3, 4, 5, 6, 7, 8, 47, 48, 49, 50, 51, 52, 53, 54, 55, 56, 57, 58, 59] (by kernel_rfl) ?_
    exact st_back back0 ((3 + 1, true, true)) (by first | omega | (simp only []; omega) | (simp; omega)) (by first | (simp only [reduceCtorEq, false_implies, true_implies, true_and, and_true, forall_const]; omega) | (exact b_eq (decide_eq_false (fun z => z.1.elim hP hN)).symm) | (exact absurd (show neg8 a b c d h mi s n by unfold neg8; omega) hN) | (exact absurd (show pos8 a b c d h mi s n by unfold pos8; omega) hP) | omega | (simp only []; omega) | (simp; omega) | assumption | simp_all) (fun p hp => by first | exact hp | simp_all) (by kernel_rfl) (by kernel_rfl) (by kernel_rfl)
  · have _hh := True.intro
    by_cases k21 : h > 0
    · refine st_b 21 (decide_eq_true k21) (by kernel_rfl) ?_
      refine st_b 29 (show (decide (h < 0)) = false by exact decide_eq_false (by omega)) (by kernel_rfl) ?_
      refine st_i 14 .i64 (x' := 4 + 1) (Go.IntWalk.i64_in _ (by omega)) (by kernel_rfl) ?_
      refine st_forget [0, 1, 2, 3, 4, 5, 6, 7, 8, 47, 48, 49, 50, 51, 52, 53, 54, 55, 56, 57, 58, 59] (by kernel_rfl) ?_
      exact st_back back0 ((4 + 1, true, false)) (by first | omega | (simp only []; omega) | (simp; omega)) (by first | (simp only [reduceCtorEq, false_implies, true_implies, true_and, and_true, forall_const]; omega) | (exact b_eq (decide_eq_false (fun z => z.1.elim hP hN)).symm) | (exact absurd (show neg8 a b c d h mi s n by unfold neg8; omega) hN) | (exact absurd (show pos8 a b c d h mi s n by unfold pos8; omega) hP) | omega | (simp only []; omega) | (simp; omega) | assumption | simp_all) (fun p hp => by first | exact hp | simp_all) (by kernel_rfl) (by kernel_rfl) (by kernel_rfl)
    · refine st_b 21 (decide_eq_false k21) (by kernel_rfl) ?_
      by_cases k29 : h < 0
      · refine st_b 29 (decide_eq_true k29) (by kernel_rfl) ?_
        refine st_i 14 .i64 (x' := 4 + 1) (Go.IntWalk.i64_in _ (by omega)) (by kernel_rfl) ?_
        refine st_forget [0, 1, 2, 3, 4, 5, 6, 7, 8, 47, 48, 49, 50, 51, 52, 53, 54, 55, 56, 57, 58, 59] (by kernel_rfl) ?_
        exact st_back back0 ((4 + 1, false, true)) (by first | omega | (simp only []; omega) | (simp; omega)) (by first | (simp only [reduceCtorEq, false_implies, true_implies, true_and, and_true, forall_const]; omega) | (exact b_eq (decide_eq_false (fun z => z.1.elim hP hN)).symm) | (exact absurd (show neg8 a b c d h mi s n by unfold neg8; omega) hN) | (exact absurd (show pos8 a b c d h mi s n by unfold pos8; omega) hP) | omega | (simp only []; omega) | (simp; omega) | assumption | simp_all) (fun p hp => by first | exact hp | simp_all) (by kernel_rfl) (by kernel_rfl) (by kernel_rfl)
      · refine st_b 29 (decide_eq_false k29) (by kernel_rfl) ?_
        refine st_i 14 .i64 (x' := 4 + 1) (Go.IntWalk.i64_in _ (by omega)) (by kernel_rfl) ?_
        refine st_forget [0, 1, 2, 3, 4, 5, 6, 7, 8, 47, 48, 49, 50, 51, 52, 53, 54, 55, 56, 57, 58, 59] (by kernel_rfl) ?_
        exact st_back back0 ((4 + 1, false, false)) (by first | omega | (simp only []; omega) | (simp; omega)) (by first | (simp only [reduceCtorEq, false_implies, true_implies, true_and, and_true, forall_const]; omega) | (exact b_eq (decide_eq_false (fun z => z.1.elim hP hN)).symm) | (exact absurd (show neg8 a b c d h mi s n by unfold neg8; omega) hN) | (exact absurd (show pos8 a b c d h mi s n by unfold pos8; omega) hP) | omega | (simp only []; omega) | (simp; omega) | assumption | simp_all) (fun p hp => by first | exact hp | simp_all) (by kernel_rfl) (by kernel_rfl) (by kernel_rfl)
  · have _hh := True.intro
    by_cases k21 : h > 0
    · refine st_b 21 (decide_eq_true k21) (by kernel_rfl) ?_
      refine st_i 14 .i64 (x' := 4 + 1) (Go.IntWalk.i64_in _ (by omega)) (by kernel_rfl) ?_
      refine st_forget [0, 1, 2, 3, 4, 5, 6, 7, 8, 47, 48, 49, 50, 51, 52, 53, 54, 55, 56, 57, 58, 59] (by kernel_rfl) ?_
      exact st_back back0 ((4 + 1, true, true)) (by first | omega | (simp only []; omega) | (simp; omega)) (by first | (simp only [reduceCtorEq, false_implies, true_implies, true_and, and_true, forall_const]; omega) | (exact b_eq (decide_eq_false (fun z => z.1.elim hP hN)).symm) | (exact absurd (show neg8 a b c d h mi s n by unfold neg8; omega) hN) | (exact absurd (show pos8 a b c d h mi s n by unfold pos8; omega) hP) | omega | (simp only []; omega) | (simp; omega) | assumption | simp_all) (fun p hp => by first | exact hp | simp_all) (by kernel_rfl) (by kernel_rfl) (by kernel_rfl)
    · refine st_b 21 (decide_eq_false k21) (by kernel_rfl) ?_
      refine st_i 14 .i64 (x' := 4 + 1) (Go.IntWalk.i64_in _ (by omega)) (by kernel_rfl) ?_
      refine st_forget [0, 1, 2, 3, 4, 5, 6, 7, 8, 47, 48, 49, 50, 51, 52, 53, 54, 55, 56, 57, 58, 59] (by kernel_rfl) ?_
      exact st_back back0 ((4 + 1, false, true)) (by first | omega | (simp only []; omega) | (simp; omega)) (by first | (simp only [reduceCtorEq, false_implies, true_implies, true_and, and_true, forall_const]; omega) | (exact b_eq (decide_eq_false (fun z => z.1.elim hP hN)).symm) | (exact absurd (show neg8 a b c d h mi s n by unfold neg8; omega) hN) | (exact absurd (show pos8 a b c d h mi s n by unfold pos8; omega) hP) | omega | (simp only []; omega) | (simp; omega) | assumption | simp_all) (fun p hp => by first | exact hp | simp_all) (by kernel_rfl) (by kernel_rfl) (by kernel_rfl)
  · have _hh := True.intro
    by_cases k29 : h < 0
    · refine st_b 29 (decide_eq_true k29) (by kernel_rfl) ?_
      refine st_i 14 .i64 (x' := 4 + 1) (Go.IntWalk.i64_in _ (by omega)) (by kernel_rfl) ?_
      refine st_forget [0, 1, 2, 3, 4, 5, 6, 7, 8, 47, 48, 49, 50, 51, 52, 53, 54, 55, 56, 57, 58, 59] (by kernel_rfl) ?_
      exact st_back back0 ((4 + 1, true, true)) (by first | omega | (simp only []; omega) | (simp; omega)) (by first | (simp only [reduceCtorEq, false_implies, true_implies, true_and, and_true, forall_const]; omega) | (exact b_eq (decide_eq_false (fun z => z.1.elim hP hN)).symm) | (exact absurd (show neg8 a b c d h mi s n by unfold neg8; omega) hN) | (exact absurd (show pos8 a b c d h mi s n by unfold pos8; omega) hP) | omega | (simp only []; omega) | (simp; omega) | assumption | simp_all) (fun p hp => by first | exact hp | simp_all) (by kernel_rfl) (by kernel_rfl) (by kernel_rfl)
    · refine st_b 29 (decide_eq_false k29) (by kernel_rfl) ?_
      refine st_i 14 .i64 (x' := 4 + 1) (Go.IntWalk.i64_in _ (by omega)) (by kernel_rfl) ?_
      refine st_forget [0, 1, 2, 3, 4, 5, 6, 7, 8, 47, 48, 49, 50, 51, 52, 53, 54, 55, 56, 57, 58, 59] (by kernel_rfl) ?_
      exact st_back back0 ((4 + 1, true, false)) (by first | omega | (simp only []; omega) | (simp; omega)) (by first | (simp only [reduceCtorEq, false_implies, true_implies, true_and, and_true, forall_const]; omega) | (exact b_eq (decide_eq_false (fun z => z.1.elim hP hN)).symm) | (exact absurd (show neg8 a b c d h mi s n by unfold neg8; omega) hN) | (exact absurd (show pos8 a b c d h mi s n by unfold pos8; omega) hP) | omega | (simp only []; omega) | (simp; omega) | assumption | simp_all) (fun p hp => by first | exact hp | simp_all) (by kernel_rfl) (by kernel_rfl) (by kernel_rfl)
  · have _hh := True.intro
    refine st_i 14 .i64 (x' := 4 + 1) (Go.IntWalk.i64_in _ (by omega)) (by kernel_rfl) ?_
    refine st_forget [0, 1, 2, 3, 4, 5, 6, 7, 8, 47, 48, 49, 50, 51, 52, 53, 54, 55, 56, 57, 58, 59] (by kernel_rfl) ?_
    exact st_back back0 ((4 + 1, true, true)) (by first | omega | (simp only []; omega) | (simp; omega)) (by first | (simp only [reduceCtorEq, false_implies, true_implies, true_and, and_true, forall_const]; omega) | (exact b_eq (decide_eq_false (fun z => z.1.elim hP hN)).symm) | (exact absurd (show neg8 a b c d h mi s n by unfold neg8; omega) hN) | (exact absurd (show pos8 a b c d h mi s n by unfold pos8; omega) hP) | omega | (simp only []; omega) | (simp; omega) | assumption | simp_all) (fun p hp => by first | exact hp | simp_all) (by kernel_rfl) (by kernel_rfl) (by kernel_rfl)
  · have _hh := True.intro
    by_cases k21 : mi > 0
    · refine st_b 21 (decide_eq_true k21) (by kernel_rfl) ?_
      refine st_b 29 (show (decide (mi < 0)) = false by exact decide_eq_false (by omega)) (by kernel_rfl) ?_
      refine st_i 14 .i64 (x' := 5 + 1) (Go.IntWalk.i64_in _ (by omega)) (by kernel_rfl) ?_
      refine st_forget [0, 1, 2, 3, 4, 5, 6, 7, 8, 47, 48, 49, 50, 51, 52, 53, 54, 55, 56, 57, 58, 59] (by kernel_rfl) ?_
      exact st_back back0 ((5 + 1, true, false)) (by first | omega | (simp only []; omega) | (simp; omega)) (by first | (simp only [reduceCtorEq, false_implies, true_implies, true_and, and_true, forall_const]; omega) | (exact b_eq (decide_eq_false (fun z => z.1.elim hP hN)).symm) | (exact absurd (show neg8 a b c d h mi s n by unfold neg8; omega) hN) | (exact absurd (show pos8 a b c d h mi s n by unfold pos8; omega) hP) | omega | (simp only []; omega) | (simp; omega) | assumption | simp_all) (fun p hp => by first | exact hp | simp_all) (by kernel_rfl) (by kernel_rfl) (by kernel_rfl)
    · refine st_b 21 (decide_eq_false k21) (by kernel_rfl) ?_
      by_cases k29 : mi < 0
      · refine st_b 29 (decide_eq_true k29) (by kernel_rfl) ?_
        refine st_i 14 .i64 (x' := 5 + 1) (Go.IntWalk.i64_in _ (by omega)) (by kernel_rfl) ?_
        refine st_forget [0, 1, 2, 3, 4, 5, 6, 7, 8, 47, 48, 49, 50, 51, 52, 53, 54, 55, 56, 57, 58, 59] (by kernel_rfl) ?_
        exact st_back back0 ((5 + 1, false, true)) (by first | omega | (simp only []; omega) | (simp; omega)) (by first | (simp only [reduceCtorEq, false_implies, true_implies, true_and, and_true, forall_const]; omega) | (exact b_eq (decide_eq_false (fun z => z.1.elim hP hN)).symm) | (exact absurd (show neg8 a b c d h mi s n by unfold neg8; omega) hN) | (exact absurd (show pos8 a b c d h mi s n by unfold pos8; omega) hP) | omega | (simp only []; omega) | (simp; omega) | assumption | simp_all) (fun p hp => by first | exact hp | simp_all) (by kernel_rfl) (by kernel_rfl) (by kernel_rfl)
      · refine st_b 29 (decide_eq_false k29) (by kernel_rfl) ?_
        refine st_i 14 .i64 (x' := 5 + 1) (Go.IntWalk.i64_in _ (by omega)) (by kernel_rfl) ?_
        refine st_forget [0, 1, 2, 3, 4, 5, 6, 7, 8, 47, 48, 49, 50, 51, 52, 53, 54, 55, 56, 57, 58, 59] (by kernel_rfl) ?_
        exact st_back back0 ((5 + 1, false, false)) (by first | omega | (simp only []; omega) | (simp; omega)) (by first | (simp only [reduceCtorEq, false_implies, true_implies, true_and, and_true, forall_const]; omega) | (exact b_eq (decide_eq_false (fun z => z.1.elim hP hN)).symm) | (exact absurd (show neg8 a b c d h mi s n by unfold neg8; omega) hN) | (exact absurd (show pos8 a b c d h mi s n by unfold pos8; omega) hP) | omega | (simp only []; omega) | (simp; omega) | assumption | simp_all) (fun p hp => by first | exact hp | simp_all) (by kernel_rfl) (by kernel_rfl) (by kernel_rfl)
  · have _hh := True.intro
    by_cases k21 : mi > 0
    · refine st_b 21 (decide_eq_true k21) (by kernel_rfl) ?_
      refine st_i 14 .i64 (x' := 5 + 1) (Go.IntWalk.i64_in _ (by omega)) (by kernel_rfl) ?_
      refine st_forget [0, 1, 2, 3, 4, 5, 6, 7, 8, 47, 48, 49, 50, 51, 52, 53, 54, 55, 56, 57, 58, 59] (by kernel_rfl) ?_
      exact st_back back0 ((5 + 1, true, true)) (by first | omega | (simp only []; omega) | (simp; omega)) (by first | (simp only [reduceCtorEq, false_implies, true_implies, true_and, and_true, forall_const]; omega) | (exact b_eq (decide_eq_false (fun z => z.1.elim hP hN)).symm) | (exact absurd (show neg8 a b c d h mi s n by unfold neg8; omega) hN) | (exact absurd (show pos8 a b c d h mi s n by unfold pos8; omega) hP) | omega | (simp only []; omega) | (simp; omega) | assumption | simp_all) (fun p hp => by first | exact hp | simp_all) (by kernel_rfl) (by kernel_rfl) (by kernel_rfl)
    · refine st_b 21 (decide_eq_false k21) (by kernel_rfl) ?_
      refine st_i 14 .i64 (x' := 5 + 1) (Go.IntWalk.i64_in _ (by omega)) (by kernel_rfl) ?_
      refine st_forget [0, 1, 2, 3, 4, 5, 6, 7, 8, 47, 48, 49, 50, 51, 52, 53, 54, 55, 56, 57, 58, 59] (by kernel_rfl) ?_
      exact st_back back0 ((5 + 1, false, true)) (by first | omega | (simp only []; omega) | (simp; omega)) (by first | (simp only [reduceCtorEq, false_implies, true_implies, true_and, and_true, forall_const]; omega) | (exact b_eq (decide_eq_false (fun z => z.1.elim hP hN)).symm) | (exact absurd (show neg8 a b c d h mi s n by unfold neg8; omega) hN) | (exact absurd (show pos8 a b c d h mi s n by unfold pos8; omega) hP) | omega | (simp only []; omega) | (simp; omega) | assumption | simp_all) (fun p hp => by first | exact hp | simp_all) (by kernel_rfl) (by kernel_rfl) (by kernel_rfl)
  · have _hh := True.intro
    by_cases k29 : mi < 0
    · refine st_b 29 (decide_eq_true k29) (by kernel_rfl) ?_
      refine st_i 14 .i64 (x' := 5 + 1) (Go.IntWalk.i64_in _ (by omega)) (by kernel_rfl) ?_
      refine st_forget [0, 1, 2, 3, 4, 5, 6, 7, 8, 47, 48, 49, 50, 51, 52, 53, 54, 55, 56, 57, 58, 59] (by kernel_rfl) ?_
      exact st_back back0 ((5 + 1, true, true)) (by first | omega | (simp only []; omega) | (simp; omega)) (by first | (simp only [reduceCtorEq, false_implies, true_implies, true_and, and_true, forall_const]; omega) | (exact b_eq (decide_eq_false (fun z => z.1.elim hP hN)).symm) | (exact absurd (show neg8 a b c d h mi s n by unfold neg8; omega) hN) | (exact absurd (show pos8 a b c d h mi s n by unfold pos8; omega) hP) | omega | (simp only []; omega) | (simp; omega) | assumption | simp_all) (fun p hp => by first | exact hp | simp_all) (by kernel_rfl) (by kernel_rfl) (by kernel_rfl)
    · refine st_b 29 (decide_eq_false k29) (by kernel_rfl) ?_
      refine st_i 14 .i64 (x' := 5 + 1) (Go.IntWalk.i64_in _ (by omega)) (by kernel_rfl) ?_
      refine st_forget [0, 1, 2, 3, 4, 5, 6, 7, 8, 47, 48, 49, 50, 51, 52, 53, 54, 55, 56, 57, 58, 59] (by kernel_rfl) ?_
      exact st_back back0 ((5 + 1, true, false)) (by first | omega | (simp only []; omega) | (simp; omega)) (by first | (simp only [reduceCtorEq, false_implies, true_implies, true_and, and_true, forall_const]; omega) | (exact b_eq (decide_eq_false (fun z => z.1.elim hP hN)).symm) | (exact absurd (show neg8 a b c d h mi s n by unfold neg8; omega) hN) | (exact absurd (show pos8 a b c d h mi s n by unfold pos8; omega) hP) | omega | (simp only []; omega) | (simp; omega) | assumption | simp_all) (fun p hp => by first | exact hp | simp_all) (by kernel_rfl) (by kernel_rfl) (by kernel_rfl)
  · have _hh := True.intro
    refine st_i 14 .i64 (x' := 5 + 1) (Go.IntWalk.i64_in _ (by omega)) (by kernel_rfl) ?_
    refine st_forget [0, 1, 2, 3, 4, 5, 6, 7, 8, 47, 48, 49, 50, 51, 52, 53, 54, 55, 56, 57, 58, 59] (by kernel_rfl) ?_
    exact st_back back0 ((5 + 1, true, true)) (by first | omega | (simp only []; omega) | (simp; omega)) (by first | (simp only [reduceCtorEq, false_implies, true_implies, true_and, and_true, forall_const]; omega) | (exact b_eq (decide_eq_false (fun z => z.1.elim hP hN)).symm) | (exact absurd (show neg8 a b c d h mi s n by unfold neg8; omega) hN) | (exact absurd (show pos8 a b c d h mi s n by unfold pos8; omega) hP) | omega | (simp only []; omega) | (simp; omega) | assumption | simp_all) (fun p hp => by first | exact hp | simp_all) (by kernel_rfl) (by kernel_rfl) (by kernel_rfl)
  · have _hh := True.intro
    by_cases k21 : s > 0
    · refine st_b 21 (decide_eq_true k21) (by kernel_rfl) ?_
      refine st_b 29 (show (decide (s < 0)) = false by exact decide_eq_false (by omega)) (by kernel_rfl) ?_
      refine st_i 14 .i64 (x' := 6 + 1) (Go.IntWalk.i64_in _ (by omega)) (by kernel_rfl) ?_
      refine st_forget [0, 1, 2, 3, 4, 5, 6, 7, 8, 47, 48, 49, 50, 51, 52, 53, 54, 55, 56, 57, 58, 59] (by kernel_rfl) ?_
      exact st_back back0 ((6 + 1, true, false)) (by first | omega | (simp only []; omega) | (simp; omega)) (by first | (simp only [reduceCtorEq, false_implies, true_implies, true_and, and_true, forall_const]; omega) | (exact b_eq (decide_eq_false (fun z => z.1.elim hP hN)).symm) | (exact absurd (show neg8 a b c d h mi s n by unfold neg8; omega) hN) | (exact absurd (show pos8 a b c d h mi s n by unfold pos8; omega) hP) | omega | (simp only []; omega) | (simp; omega) | assumption | simp_all) (fun p hp => by first | exact hp | simp_all) (by kernel_rfl) (by kernel_rfl) (by kernel_rfl)
    · refine st_b 21 (decide_eq_false k21) (by kernel_rfl) ?_
      by_cases k29 : s < 0
      · refine st_b 29 (decide_eq_true k29) (by kernel_rfl) ?_
        refine st_i 14 .i64 (x' := 6 + 1) (Go.IntWalk.i64_in _ (by omega)) (by kernel_rfl) ?_
        refine st_forget [0, 1, 2, 3, 4, 5, 6, 7, 8, 47, 48, 49, 50, 51, 52, 53, 54, 55, 56, 57, 58, 59] (by kernel_rfl) ?_
        exact st_back back0 ((6 + 1, false, true)) (by first | omega | (simp only []; omega) | (simp; omega)) (by first | (simp only [reduceCtorEq, false_implies, true_implies, true_and, and_true, forall_const]; omega) | (exact b_eq (decide_eq_false (fun z => z.1.elim hP hN)).symm) | (exact absurd (show neg8 a b c d h mi s n by unfold neg8; omega) hN) | (exact absurd (show pos8 a b c d h mi s n by unfold pos8; omega) hP) | omega | (simp only []; omega) | (simp; omega) | assumption | simp_all) (fun p hp => by first | exact hp | simp_all) (by kernel_rfl) (by kernel_rfl) (by kernel_rfl)
      · refine st_b 29 (decide_eq_false k29) (by kernel_rfl) ?_
        refine st_i 14 .i64 (x' := 6 + 1) (Go.IntWalk.i64_in _ (by omega)) (by kernel_rfl) ?_
        refine st_forget [0, 1, 2, 3, 4, 5, 6, 7, 8, 47, 48, 49, 50, 51, 52, 53, 54, 55, 56, 57, 58, 59] (by kernel_rfl) ?_
        exact st_back back0 ((6 + 1, false, false)) (by first | omega | (simp only []; omega) | (simp; omega)) (by first | (simp only [reduceCtorEq, false_implies, true_implies, true_and, and_true, forall_const]; omega) | (exact b_eq (decide_eq_false (fun z => z.1.elim hP hN)).symm) | (exact absurd (show neg8 a b c d h mi s n by unfold neg8; omega) hN) | (exact absurd (show pos8 a b c d h mi s n by unfold pos8; omega) hP) | omega | (simp only []; omega) | (simp; omega) | assumption | simp_all) (fun p hp => by first | exact hp | simp_all) (by kernel_rfl) (by kernel_rfl) (by kernel_rfl)
  · have _hh := True.intro
    by_cases k21 : s > 0
    · refine st_b 21 (decide_eq_true k21) (by kernel_rfl) ?_
      refine st_i 14 .i64 (x' := 6 + 1) (Go.IntWalk.i64_in _ (by omega)) (by kernel_rfl) ?_
      refine st_forget [0, 1, 2, 3, 4, 5, 6, 7, 8, 47, 48, 49, 50, 51, 52, 53, 54, 55, 56, 57, 58, 59] (by kernel_rfl) ?_
      exact st_back back0 ((6 + 1, true, true)) (by first | omega | (simp only []; omega) | (simp; omega)) (by first | (simp only [reduceCtorEq, false_implies, true_implies, true_and, and_true, forall_const]; omega) | (exact b_eq (decide_eq_false (fun z => z.1.elim hP hN)).symm) | (exact absurd (show neg8 a b c d h mi s n by unfold neg8; omega) hN) | (exact absurd (show pos8 a b c d h mi s n by unfold pos8; omega) hP) | omega | (simp only []; omega) | (simp; omega) | assumption | simp_all) (fun p hp => by first | exact hp | simp_all) (by kernel_rfl) (by kernel_rfl) (by kernel_rfl)
    · refine st_b 21 (decide_eq_false k21) (by kernel_rfl) ?_
      refine st_i 14 .i64 (x' := 6 + 1) (Go.IntWalk.i64_in _ (by omega)) (by kernel_rfl) ?_
      refine st_forget [0, 1, 2, 3, 4, 5, 6, 7, 8, 47, 48, 49, 50, 51, 52, 53, 54, 55, 56, 57, 58, 59] (by kernel_rfl) ?_
      exact st_back back0 ((6 + 1, false, true)) (by first | omega | (simp only []; omega) | (simp; omega)) (by first | (simp only [reduceCtorEq, false_implies, true_implies, true_and, and_true, forall_const]; omega) | (exact b_eq (decide_eq_false (fun z => z.1.elim hP hN)).symm) | (exact absurd (show neg8 a b c d h mi s n by unfold neg8; omega) hN) | (exact absurd (show pos8 a b c d h mi s n by unfold pos8; omega) hP) | omega | (simp only []; omega) | (simp; omega) | assumption | simp_all) (fun p hp => by first | exact hp | simp_all) (by kernel_rfl) (by kernel_rfl) (by kernel_rfl)
  · have _hh := True.intro
    by_cases k29 : s < 0
    · refine st_b 29 (decide_eq_true k29) (by kernel_rfl) ?_
      refine st_i 14 .i64 (x' := 6 + 1) (Go.IntWalk.i64_in _ (by omega)) (by kernel_rfl) ?_
      refine st_forget [0, 1, 2, 3, 4, 5, 6, 7, 8, 47, 48, 49, 50, 51, 52, 53, 54, 55, 56, 57, 58, 59] (by kernel_rfl) ?_
      exact st_back back0 ((6 + 1, true, true)) (by first | omega | (simp only []; omega) | (simp; omega)) (by first | (simp only [reduceCtorEq, false_implies, true_implies, true_and, and_true, forall_const]; omega) | (exact b_eq (decide_eq_false (fun z => z.1.elim hP hN)).symm) | (exact absurd (show neg8 a b c d h mi s n by unfold neg8; omega) hN) | (exact absurd (show pos8 a b c d h mi s n by unfold pos8; omega) hP) | omega | (simp only []; omega) | (simp; omega) | assumption | simp_all) (fun p hp => by first | exact hp | simp_all) (by kernel_rfl) (by kernel_rfl) (by kernel_rfl)
    · refine st_b 29 (decide_eq_false k29) (by kernel_rfl) ?_
      refine st_i 14 .i64 (x' := 6 + 1) (Go.IntWalk.i64_in _ (by omega)) (by kernel_rfl) ?_
      refine st_forget [0, 1, 2, 3, 4, 5, 6, 7, 8, 47, 48, 49, 50, 51, 52, 53, 54, 55, 56, 57, 58, 59] (by kernel_rfl) ?_
      exact st_back back0 ((6 + 1, true, false)) (by first | omega | (simp only []; omega) | (simp; omega)) (by first | (simp only [reduceCtorEq, false_implies, true_implies, true_and, and_true, forall_const]; omega) | (exact b_eq (decide_eq_false (fun z => z.1.elim hP hN)).symm) | (exact absurd (show neg8 a b c d h mi s n by unfold neg8; omega) hN) | (exact absurd (show pos8 a b c d h mi s n by unfold pos8; omega) hP) | omega | (simp only []; omega) | (simp; omega) | assumption | simp_all) (fun p hp => by first | exact hp | simp_all) (by kernel_rfl) (by kernel_rfl) (by kernel_rfl)
  · have _hh := True.intro
    refine st_i 14 .i64 (x' := 6 + 1) (Go.IntWalk.i64_in _ (by omega)) (by kernel_rfl) ?_
    refine st_forget [0, 1, 2, 3, 4, 5, 6, 7, 8, 47, 48, 49, 50, 51, 52, 53, 54, 55, 56, 57, 58, 59] (by kernel_rfl) ?_
    exact st_back back0 ((6 + 1, true, true)) (by first | omega | (simp only []; omega) | (simp; omega)) (by first | (simp only [reduceCtorEq, false_implies, true_implies, true_and, and_true, forall_const]; omega) | (exact b_eq (decide_eq_false (fun z => z.1.elim hP hN)).symm) | (exact absurd (show neg8 a b c d h mi s n by unfold neg8; omega) hN) | (exact absurd (show pos8 a b c d h mi s n by unfold pos8; omega) hP) | omega | (simp only []; omega) | (simp; omega) | assumption | simp_all) (fun p hp => by first | exact hp | simp_all) (by kernel_rfl) (by kernel_rfl) (by kernel_rfl)
  · have _hh := True.intro
    by_cases k21 : n > 0
    · refine st_b 21 (decide_eq_true k21) (by kernel_rfl) ?_
      refine st_b 29 (show (decide (n < 0)) = false by exact decide_eq_false (by omega)) (by kernel_rfl) ?_
      refine st_i 14 .i64 (x' := 7 + 1) (Go.IntWalk.i64_in _ (by omega)) (by kernel_rfl) ?_
      refine st_forget [0, 1, 2, 3, 4, 5, 6, 7, 8, 47, 48, 49, 50, 51, 52, 53, 54, 55, 56, 57, 58, 59] (by kernel_rfl) ?_
      exact st_back back0 ((7 + 1, true, false)) (by first | omega | (simp only []; omega) | (simp; omega)) (by first | (simp only [reduceCtorEq, false_implies, true_implies, true_and, and_true, forall_const]; omega) | (exact b_eq (decide_eq_false (fun z => z.1.elim hP hN)).symm) | (exact absurd (show neg8 a b c d h mi s n by unfold neg8; omega) hN) | (exact absurd (show pos8 a b c d h mi s n by unfold pos8; omega) hP) | omega | (simp only []; omega) | (simp; omega) | assumption | simp_all) (fun p hp => by first | exact hp | simp_all) (by kernel_rfl) (by kernel_rfl) (by kernel_rfl)
    · refine st_b 21 (decide_eq_false k21) (by kernel_rfl) ?_
      by_cases k29 : n < 0
      · refine st_b 29 (decide_eq_true k29) (by kernel_rfl) ?_
        refine st_i 14 .i64 (x' := 7 + 1) (Go.IntWalk.i64_in _ (by omega)) (by kernel_rfl) ?_
        refine st_forget [0, 1, 2, 3, 4, 5, 6, 7, 8, 47, 48, 49, 50, 51, 52, 53, 54, 55, 56, 57, 58, 59] (by kernel_rfl) ?_
        exact st_back back0 ((7 + 1, false, true)) (by first | omega | (simp only []; omega) | (simp; omega)) (by first | (simp only [reduceCtorEq, false_implies, true_implies, true_and, and_true, forall_const]; omega) | (exact b_eq (decide_eq_false (fun z => z.1.elim hP hN)).symm) | (exact absurd (show neg8 a b c d h mi s n by unfold neg8; omega) hN) | (exact absurd (show pos8 a b c d h mi s n by unfold pos8; omega) hP) | omega | (simp only []; omega) | (simp; omega) | assumption | simp_all) (fun p hp => by first | exact hp | simp_all) (by kernel_rfl) (by kernel_rfl) (by kernel_rfl)
      · refine st_b 29 (decide_eq_false k29) (by kernel_rfl) ?_
        refine st_i 14 .i64 (x' := 7 + 1) (Go.IntWalk.i64_in _ (by omega)) (by kernel_rfl) ?_
        refine st_forget [0, 1, 2, 3, 4, 5, 6, 7, 8, 47, 48, 49, 50, 51, 52, 53, 54, 55, 56, 57, 58, 59] (by kernel_rfl) ?_
        exact st_back back0 ((7 + 1, false, false)) (by first | omega | (simp only []; omega) | (simp; omega)) (by first | (simp only [reduceCtorEq, false_implies, true_implies, true_and, and_true, forall_const]; omega) | (exact b_eq (decide_eq_false (fun z => z.1.elim hP hN)).symm) | (exact absurd (show neg8 a b c d h mi s n by unfold neg8; omega) hN) | (exact absurd (show pos8 a b c d h mi s n by unfold pos8; omega) hP) | omega | (simp only []; omega) | (simp; omega) | assumption | simp_all) (fun p hp => by first | exact hp | simp_all) (by kernel_rfl) (by kernel_rfl) (by kernel_rfl)
  · have _hh := True.intro
    by_cases k21 : n > 0
    · refine st_b 21 (decide_eq_true k21) (by kernel_rfl) ?_
      refine st_i 14 .i64 (x' := 7 + 1) (Go.IntWalk.i64_in _ (by omega)) (by kernel_rfl) ?_
      refine st_forget [0, 1, 2, 3, 4, 5, 6, 7, 8, 47, 48, 49, 50, 51, 52, 53, 54, 55, 56, 57, 58, 59] (by kernel_rfl) ?_
      exact st_back back0 ((7 + 1, true, true)) (by first | omega | (simp only []; omega) | (simp; omega)) (by first | (simp only [reduceCtorEq, false_implies, true_implies, true_and, and_true, forall_const]; omega) | (exact b_eq (decide_eq_false (fun z => z.1.elim hP hN)).symm) | (exact absurd (show neg8 a b c d h mi s n by unfold neg8; omega) hN) | (exact absurd (show pos8 a b c d h mi s n by unfold pos8; omega) hP) | omega | (simp only []; omega) | (simp; omega) | assumption | simp_all) (fun p hp => by first | exact hp | simp_all) (by kernel_rfl) (by kernel_rfl) (by kernel_rfl)
    · refine st_b 21 (decide_eq_false k21) (by kernel_rfl) ?_
      refine st_i 14 .i64 (x' := 7 + 1) (Go.IntWalk.i64_in _ (by omega)) (by kernel_rfl) ?_
      refine st_forget [0, 1, 2, 3, 4, 5, 6, 7, 8, 47, 48, 49, 50, 51, 52, 53, 54, 55, 56, 57, 58, 59] (by kernel_rfl) ?_
      exact st_back back0 ((7 + 1, false, true)) (by first | omega | (simp only []; omega) | (simp; omega)) (by first | (simp only [reduceCtorEq, false_implies, true_implies, true_and, and_true, forall_const]; omega) | (exact b_eq (decide_eq_false (fun z => z.1.elim hP hN)).symm) | (exact absurd (show neg8 a b c d h mi s n by unfold neg8; omega) hN) | (exact absurd (show pos8 a b c d h mi s n by unfold pos8; omega) hP) | omega | (simp only []; omega) | (simp; omega) | assumption | simp_all) (fun p hp => by first | exact hp | simp_all) (by kernel_rfl) (by kernel_rfl) (by kernel_rfl)
  · have _hh := True.intro
    by_cases k29 : n < 0
    · refine st_b 29 (decide_eq_true k29) (by kernel_rfl) ?_
      refine st_i 14 .i64 (x' := 7 + 1) (Go.IntWalk.i64_in _ (by omega)) (by kernel_rfl) ?_
      refine st_forget [0, 1, 2, 3, 4, 5, 6, 7, 8, 47, 48, 49, 50, 51, 52, 53, 54, 55, 56, 57, 58, 59] (by kernel_rfl) ?_
      exact st_back back0 ((7 + 1, true, true)) (by first | omega | (simp only []; omega) | (simp; omega)) (by first | (simp only [reduceCtorEq, false_implies, true_implies, true_and, and_true, forall_const]; omega) | (exact b_eq (decide_eq_false (fun z => z.1.elim hP hN)).symm) | (exact absurd (show neg8 a b c d h mi s n by unfold neg8; omega) hN) | (exact absurd (show pos8 a b c d h mi s n by unfold pos8; omega) hP) | omega | (simp only []; omega) | (simp; omega) | assumption | simp_all) (fun p hp => by first | exact hp | simp_all) (by kernel_rfl) (by kernel_rfl) (by kernel_rfl)
    · refine st_b 29 (decide_eq_false k29) (by kernel_rfl) ?_
      refine st_i 14 .i64 (x' := 7 + 1) (Go.IntWalk.i64_in _ (by omega)) (by kernel_rfl) ?_
      refine st_forget [0, 1, 2, 3, 4, 5, 6, 7, 8, 47, 48, 49, 50, 51, 52, 53, 54, 55, 56, 57, 58, 59] (by kernel_rfl) ?_
      exact st_back back0 ((7 + 1, true, false)) (by first | omega | (simp only []; omega) | (simp; omega)) (by first | (simp only [reduceCtorEq, false_implies, true_implies, true_and, and_true, forall_const]; omega) | (exact b_eq (decide_eq_false (fun z => z.1.elim hP hN)).symm) | (exact absurd (show neg8 a b c d h mi s n by unfold neg8; omega) hN) | (exact absurd (show pos8 a b c d h mi s n by unfold pos8; omega) hP) | omega | (simp only []; omega) | (simp; omega) | assumption | simp_all) (fun p hp => by first | exact hp | simp_all) (by kernel_rfl) (by kernel_rfl) (by kernel_rfl)
  · have _hh := True.intro
    refine st_i 14 .i64 (x' := 7 + 1) (Go.IntWalk.i64_in _ (by omega)) (by kernel_rfl) ?_
    refine st_forget [0, 1, 2, 3, 4, 5, 6, 7, 8, 47, 48, 49, 50, 51, 52, 53, 54, 55, 56, 57, 58, 59] (by kernel_rfl) ?_
    exact st_back back0 ((7 + 1, true, true)) (by first | omega | (simp only []; omega) | (simp; omega)) (by first | (simp only [reduceCtorEq, false_implies, true_implies, true_and, and_true, forall_const]; omega) | (exact b_eq (decide_eq_false (fun z => z.1.elim hP hN)).symm) | (exact absurd (show neg8 a b c d h mi s n by unfold neg8; omega) hN) | (exact absurd (show pos8 a b c d h mi s n by unfold pos8; omega) hP) | omega | (simp only []; omega) | (simp; omega) | assumption | simp_all) (fun p hp => by first | exact hp | simp_all) (by kernel_rfl) (by kernel_rfl) (by kernel_rfl)
  · have _hh := True.intro
    refine st_g ent113 (ut) sub0 (by kernel_rfl) (fun zq2 => ?_)
    refine st_g ent112 (fa (zq2)) (subC 0 rfl sub0) (by kernel_rfl) (fun zq3 => ?_)
    refine st_g ent114 (zulimit) sub0 (by kernel_rfl) (fun zq4 => ?_)
    refine st_fn ent111 (fzcmp (zq3) (zq4) (X) (9007199254740992000000000) (by exact Bits.fit bX (by decide)) (by exact Bits.fit bl.bits (by decide))) (subC 1 rfl (subC 0 rfl sub0)) (by kernel_rfl) ?_
    exact st_retv Tryz.func50 (show Value.bool (decide (cmpI X 9007199254740992000000000 < 0)) = _ by (exact absurd (show neg8 a b c d h mi s n by unfold neg8; omega) hN)) (by kernel_rfl)
  · have _hh := True.intro
    refine st_g ent113 (ut) sub0 (by kernel_rfl) (fun zq2 => ?_)
    refine st_g ent112 (fa (zq2)) (subC 0 rfl sub0) (by kernel_rfl) (fun zq3 => ?_)
    refine st_g ent114 (zulimit) sub0 (by kernel_rfl) (fun zq4 => ?_)
    refine st_fn ent111 (fzcmp (zq3) (zq4) (X) (9007199254740992000000000) (by exact Bits.fit bX (by decide)) (by exact Bits.fit bl.bits (by decide))) (subC 1 rfl (subC 0 rfl sub0)) (by kernel_rfl) ?_
    exact st_retv Tryz.func50 (show Value.bool (decide (cmpI X 9007199254740992000000000 < 0)) = _ by (exact absurd (show neg8 a b c d h mi s n by unfold neg8; omega) hN)) (by kernel_rfl)
  · have _hh := True.intro
    refine st_g ent113 (ut) sub0 (by kernel_rfl) (fun zq2 => ?_)
    refine st_g ent112 (fa (zq2)) (subC 0 rfl sub0) (by kernel_rfl) (fun zq3 => ?_)
    refine st_g ent114 (zulimit) sub0 (by kernel_rfl) (fun zq4 => ?_)
    refine st_fn ent111 (fzcmp (zq3) (zq4) (X) (9007199254740992000000000) (by exact Bits.fit bX (by decide)) (by exact Bits.fit bl.bits (by decide))) (subC 1 rfl (subC 0 rfl sub0)) (by kernel_rfl) ?_
    exact st_retv Tryz.func50 (show Value.bool (decide (cmpI X 9007199254740992000000000 < 0)) = _ by (exact absurd (show pos8 a b c d h mi s n by unfold pos8; omega) hP)) (by kernel_rfl)
  · have _hh := True.intro
    exact st_retv Tryz.func50 (show Value.bool (false) = _ by (exact b_eq (decide_eq_false (fun z => z.1.elim hP hN)).symm)) (by kernel_rfl)
end
end Go.Proofs.YtccllfegnijpiaaGreat
end
section
/-
  round.up: the closures.
-/
set_option linter.unusedVariables false
set_option maxRecDepth 100000
namespace Go.Proofs.YtccllfegnijpiaaGreat
open Go Go.RowKit Go.Ev

def PlaceAt (k : Nat) (b : Bool) (x : Int) (e : Bool) (w : World) : Prop := w.heap[k]? = some (.cells #[.bool b, .int .i64 x, .bool e] 171 (0, 0))
def HalfAt (h k : Nat) (w : World) : Prop := w.heap[h]? = some (.cells #[.func (.func 149) #[] #[.pointer (some ⟨k, 0, none⟩)]] 184 (0, 0))
def ET : List TypeId := [171, 184]
theorem PlaceAt.stable (k : Nat) (b : Bool) (x : Int) (e : Bool) : Stable ET (PlaceAt k b x e) := fun w w' hk h => hk _ _ _ _ (by simp [ET]) h
theorem HalfAt.stable (h k : Nat) : Stable ET (HalfAt h k) := fun w w' hk q => hk _ _ _ _ (by simp [ET]) q
theorem PlaceAt.c0 {k : Nat} {b : Bool} {x : Int} {e : Bool} {w : World} (h : PlaceAt k b x e w) : w.cell? ⟨k, 0, none⟩ = some (.bool b) := by unfold PlaceAt at h; simp [World.cell?, h]
theorem PlaceAt.c1 {k : Nat} {b : Bool} {x : Int} {e : Bool} {w : World} (h : PlaceAt k b x e w) : w.cell? ⟨k, 1, none⟩ = some (.int .i64 x) := by unfold PlaceAt at h; simp [World.cell?, h]
theorem PlaceAt.c2 {k : Nat} {b : Bool} {x : Int} {e : Bool} {w : World} (h : PlaceAt k b x e w) : w.cell? ⟨k, 2, none⟩ = some (.bool e) := by unfold PlaceAt at h; simp [World.cell?, h]
theorem HalfAt.c0 {h k : Nat} {w : World} (q : HalfAt h k w) : w.cell? ⟨h, 0, none⟩ = some (.func (.func 149) #[] #[.pointer (some ⟨k, 0, none⟩)]) := by unfold HalfAt at q; simp [World.cell?, q]
/-- Does a half go up? -/
def halfB (x : Int) (tie : Bool) : Bool := if 0 < x then true else if x = 0 then tie else false
abbrev RB (w : World) (v : Value) : Ending → World → Prop := fun e w' => e = .returned v ∧ Below w.heap.size w w'
section
variable {f0 : FuncId} {w0 : World} {R : Ending → World → Prop} {G : World → Prop} {c : Cf}
structure Rw (C : Cx) (G : World → Prop) (c : Cf) : Prop where
  h : Run C G c
theorem u_of {f : FuncId} {fn : Func} {cd : Code} {args : List Value} {v : Value} {w : World} (hf : Tryz.prog.funcs[f]? = some fn) (hb : fn.body = some cd) (hs : Stable ET G) (hG : G w) (h : Rw ⟨Tryz.prog, f, ET, w, (RB w v)⟩ G (startS fn args)) : Calls Tryz.prog f args.toArray w (RB w v) :=
  calls_run ET G hf hb hs hG h.h
theorem u_load {T : TypeId} {ad : Addr} {v : Value} (h : ∀ w, G w → (loadVar T ad).run Tryz.prog w = .ok v w) (hc : loadAt (adv Tryz.prog ET 9999 400 c) = some (T, ad)) (hk : Rw ⟨Tryz.prog, f0, ET, w0, R⟩ G (resume (adv Tryz.prog ET 9999 400 c) (.val v))) : Rw ⟨Tryz.prog, f0, ET, w0, R⟩ G c :=
  ⟨run_adv mixed (run_ldv hc h hk.h)⟩
theorem u_b (t : Nat) {b b' : Bool} (hv : b = b') (h : (adv Tryz.prog ET t 400 c).fr[t]? = some (.val (.bool b))) (hk : Rw ⟨Tryz.prog, f0, ET, w0, R⟩ G (setS (adv Tryz.prog ET t 400 c) t (.bool b'))) : Rw ⟨Tryz.prog, f0, ET, w0, R⟩ G c :=
  ⟨run_adv mixed (run_pin h (by rw [hv]) hk.h)⟩
theorem u_call {f : FuncId} {vs : List Value} {v : Value} (he : Enters Tryz.prog f) (h : ∀ w, G w → Calls Tryz.prog f vs.toArray w (RB w v)) (hc : callAt (adv Tryz.prog ET 9999 400 c) = some (f, vs.map .val)) (hk : Rw ⟨Tryz.prog, f0, ET, w0, R⟩ G (resume (adv Tryz.prog ET 9999 400 c) (.val v))) : Rw ⟨Tryz.prog, f0, ET, w0, R⟩ G c :=
  ⟨run_adv mixed (run_call1 hc he v h hk.h)⟩
theorem u_ret {fn : Func} {v : Value} (hf : Tryz.prog.funcs[f0]? = some fn) (h : retAt Tryz.prog fn.results.toList (adv Tryz.prog ET 9999 400 c) = some v) : Rw ⟨Tryz.prog, f0, ET, w0, (RB w0 v)⟩ G c :=
  ⟨run_adv mixed (run_ret hf h fun w hb _ => ⟨rfl, hb⟩)⟩
end
theorem half_c (k : Nat) (b : Bool) (x : Int) (e tie : Bool) (w : World) (hp : PlaceAt k b x e w) : Calls Tryz.prog 149 #[.bool tie, .pointer (some ⟨k, 0, none⟩)] w (RB w (.bool (halfB x tie))) := by
  by_cases h0 : 0 < x
  · have hh : halfB x tie = true := if_pos h0
    rw [hh]
    refine u_of (args := [.bool tie, .pointer (some ⟨k, 0, none⟩)]) Tryz.func149 rfl (PlaceAt.stable k b x e) hp ?_
    refine u_load (fun w h => load_int h.c1) (by kernel_rfl) ?_
    refine u_b 6 (decide_eq_true h0) (by kernel_rfl) ?_
    exact u_ret Tryz.func149 (by kernel_rfl)
  · by_cases h1 : x = 0
    · have hh : halfB x tie = tie := by unfold halfB; rw [if_neg h0, if_pos h1]
      rw [hh]
      refine u_of (args := [.bool tie, .pointer (some ⟨k, 0, none⟩)]) Tryz.func149 rfl (PlaceAt.stable k b x e) hp ?_
      refine u_load (fun w h => load_int h.c1) (by kernel_rfl) ?_
      refine u_b 6 (decide_eq_false h0) (by kernel_rfl) ?_
      refine u_load (fun w h => load_int h.c1) (by kernel_rfl) ?_
      refine u_b 10 (beq_iff_eq.2 h1) (by kernel_rfl) ?_
      exact u_ret Tryz.func149 (by kernel_rfl)
    · have hh : halfB x tie = false := by unfold halfB; rw [if_neg h0, if_neg h1]
      rw [hh]
      refine u_of (args := [.bool tie, .pointer (some ⟨k, 0, none⟩)]) Tryz.func149 rfl (PlaceAt.stable k b x e) hp ?_
      refine u_load (fun w h => load_int h.c1) (by kernel_rfl) ?_
      refine u_b 6 (decide_eq_false h0) (by kernel_rfl) ?_
      refine u_load (fun w h => load_int h.c1) (by kernel_rfl) ?_
      refine u_b 10 (beq_eq_false_iff_ne.2 h1) (by kernel_rfl) ?_
      exact u_ret Tryz.func149 (by kernel_rfl)
theorem c2 (w : World) : Calls Tryz.prog 150 #[] w (RB w (.bool true)) := by
  refine u_of (args := []) (G := fun _ => True) Tryz.func150 rfl (fun _ _ _ _ => trivial) trivial ?_
  exact u_ret Tryz.func150 (by kernel_rfl)
theorem c3 (w : World) : Calls Tryz.prog 151 #[] w (RB w (.bool false)) := by
  refine u_of (args := []) (G := fun _ => True) Tryz.func151 rfl (fun _ _ _ _ => trivial) trivial ?_
  exact u_ret Tryz.func151 (by kernel_rfl)
section
variable (k h : Nat) (b : Bool) (x : Int) (e : Bool) (w : World)
theorem c4 (hp : PlaceAt k b x e w) : Calls Tryz.prog 152 #[.pointer (some ⟨k, 0, none⟩)] w (RB w (.bool (!b))) := by
  refine u_of (args := [.pointer (some ⟨k, 0, none⟩)]) Tryz.func152 rfl (PlaceAt.stable k b x e) hp ?_
  refine u_load (fun w h => load_bool h.c0) (by kernel_rfl) ?_
  exact u_ret Tryz.func152 (by kernel_rfl)
theorem c5 (hp : PlaceAt k b x e w) : Calls Tryz.prog 153 #[.pointer (some ⟨k, 0, none⟩)] w (RB w (.bool b)) := by
  refine u_of (args := [.pointer (some ⟨k, 0, none⟩)]) Tryz.func153 rfl (PlaceAt.stable k b x e) hp ?_
  refine u_load (fun w h => load_bool h.c0) (by kernel_rfl) ?_
  exact u_ret Tryz.func153 (by kernel_rfl)
def Both (w : World) : Prop := HalfAt h k w ∧ PlaceAt k b x e w
theorem Both.stable : Stable ET (Both k h b x e) := fun w w' hk q => ⟨HalfAt.stable h k w w' hk q.1, PlaceAt.stable k b x e w w' hk q.2⟩
theorem load_fn {a : Addr} {v : Value} {w : World} (hc : w.cell? a = some v) : (loadVar 184 a).run Tryz.prog w = .ok v w := load_cell (by kernel_rfl) hc
theorem c6 (hp : Both k h b x e w) : Calls Tryz.prog 154 #[.pointer (some ⟨h, 0, none⟩)] w (RB w (.bool (halfB x true))) := by
  refine u_of (args := [.pointer (some ⟨h, 0, none⟩)]) Tryz.func154 rfl (Both.stable k h b x e) hp ?_
  refine u_load (fun w q => load_fn q.1.c0) (by kernel_rfl) ?_
  refine u_call (vs := [.bool true, .pointer (some ⟨k, 0, none⟩)]) ent149 (fun w q => half_c k b x e true w q.2) (by kernel_rfl) ?_
  exact u_ret Tryz.func154 (by kernel_rfl)
theorem c7 (hp : Both k h b x e w) : Calls Tryz.prog 155 #[.pointer (some ⟨h, 0, none⟩)] w (RB w (.bool (halfB x false))) := by
  refine u_of (args := [.pointer (some ⟨h, 0, none⟩)]) Tryz.func155 rfl (Both.stable k h b x e) hp ?_
  refine u_load (fun w q => load_fn q.1.c0) (by kernel_rfl) ?_
  refine u_call (vs := [.bool false, .pointer (some ⟨k, 0, none⟩)]) ent149 (fun w q => half_c k b x e false w q.2) (by kernel_rfl) ?_
  exact u_ret Tryz.func155 (by kernel_rfl)
theorem c8 (hp : Both k h b x e w) : Calls Tryz.prog 156 #[.pointer (some ⟨h, 0, none⟩), .pointer (some ⟨k, 0, none⟩)] w (RB w (.bool (halfB x (!b)))) := by
  refine u_of (args := [.pointer (some ⟨h, 0, none⟩), .pointer (some ⟨k, 0, none⟩)]) Tryz.func156 rfl (Both.stable k h b x e) hp ?_
  refine u_load (fun w q => load_fn q.1.c0) (by kernel_rfl) ?_
  refine u_load (fun w q => load_bool q.2.c0) (by kernel_rfl) ?_
  refine u_call (vs := [.bool (!b), .pointer (some ⟨k, 0, none⟩)]) ent149 (fun w q => half_c k b x e (!b) w q.2) (by kernel_rfl) ?_
  exact u_ret Tryz.func156 (by kernel_rfl)
theorem c9 (hp : Both k h b x e w) : Calls Tryz.prog 157 #[.pointer (some ⟨h, 0, none⟩), .pointer (some ⟨k, 0, none⟩)] w (RB w (.bool (halfB x b))) := by
  refine u_of (args := [.pointer (some ⟨h, 0, none⟩), .pointer (some ⟨k, 0, none⟩)]) Tryz.func157 rfl (Both.stable k h b x e) hp ?_
  refine u_load (fun w q => load_fn q.1.c0) (by kernel_rfl) ?_
  refine u_load (fun w q => load_bool q.2.c0) (by kernel_rfl) ?_
  refine u_call (vs := [.bool b, .pointer (some ⟨k, 0, none⟩)]) ent149 (fun w q => half_c k b x e b w q.2) (by kernel_rfl) ?_
  exact u_ret Tryz.func157 (by kernel_rfl)
end
end Go.Proofs.YtccllfegnijpiaaGreat
end
section
/-
  divide.Fraction.
-/
set_option linter.unusedSimpArgs false
set_option linter.unusedVariables false
namespace Go.Proofs.YtccllfegnijpiaaGreat
open Go Go.RowKit

/-- The fraction has room. -/
def fOk (n d : Int) : Prop := d ≠ 0 ∧ W128 (frP n d) ∧ W128 (frQ n d)
instance (n d : Int) : Decidable (fOk n d) := by unfold fOk; exact inferInstance
end Go.Proofs.YtccllfegnijpiaaGreat
end
section
/-
  A total laid out, as the program and the reference do it; sums, rounding.
-/
set_option linter.unusedVariables false
set_option maxRecDepth 100000
namespace Go.Proofs.YtccllfegnijpiaaGreat
open Go Go.RowKit Go.Ev

section
variable (a b c d h mi s n : Int)
theorem uright (i : all64 a b c d h mi s n) : Fn 43 [] [duv a b c d h mi s n] (.bool (decide (uOk a b c d h mi s n))) := by
  by_cases ka : a = 0
  rotate_left
  · by_cases z : 0 < a
    · exact uright_p a b c d h mi s n i (sg8_1 (.inl z)) (.inl z)
    · exact uright_n a b c d h mi s n i (sg8_m (.inl (by omega))) (.inl (by omega))
  by_cases kb : b = 0
  rotate_left
  · by_cases z : 0 < b
    · exact uright_p a b c d h mi s n i (sg8_1 (.inr ⟨ka, (.inl z)⟩)) (.inr ⟨ka, (.inl z)⟩)
    · exact uright_n a b c d h mi s n i (sg8_m (.inr ⟨ka, (.inl (by omega))⟩)) (.inr ⟨ka, (.inl (by omega))⟩)
  by_cases kc : c = 0
  rotate_left
  · by_cases z : 0 < c
    · exact uright_p a b c d h mi s n i (sg8_1 (.inr ⟨ka, (.inr ⟨kb, (.inl z)⟩)⟩)) (.inr ⟨ka, (.inr ⟨kb, (.inl z)⟩)⟩)
    · exact uright_n a b c d h mi s n i (sg8_m (.inr ⟨ka, (.inr ⟨kb, (.inl (by omega))⟩)⟩)) (.inr ⟨ka, (.inr ⟨kb, (.inl (by omega))⟩)⟩)
  by_cases kd : d = 0
  rotate_left
  · by_cases z : 0 < d
    · exact uright_p a b c d h mi s n i (sg8_1 (.inr ⟨ka, (.inr ⟨kb, (.inr ⟨kc, (.inl z)⟩)⟩)⟩)) (.inr ⟨ka, (.inr ⟨kb, (.inr ⟨kc, (.inl z)⟩)⟩)⟩)
    · exact uright_n a b c d h mi s n i (sg8_m (.inr ⟨ka, (.inr ⟨kb, (.inr ⟨kc, (.inl (by omega))⟩)⟩)⟩)) (.inr ⟨ka, (.inr ⟨kb, (.inr ⟨kc, (.inl (by omega))⟩)⟩)⟩)
  by_cases kh : h = 0
  rotate_left
  · by_cases z : 0 < h
    · exact uright_p a b c d h mi s n i (sg8_1 (.inr ⟨ka, (.inr ⟨kb, (.inr ⟨kc, (.inr ⟨kd, (.inl z)⟩)⟩)⟩)⟩)) (.inr ⟨ka, (.inr ⟨kb, (.inr ⟨kc, (.inr ⟨kd, (.inl z)⟩)⟩)⟩)⟩)
    · exact uright_n a b c d h mi s n i (sg8_m (.inr ⟨ka, (.inr ⟨kb, (.inr ⟨kc, (.inr ⟨kd, (.inl (by omega))⟩)⟩)⟩)⟩)) (.inr ⟨ka, (.inr ⟨kb, (.inr ⟨kc, (.inr ⟨kd, (.inl (by omega))⟩)⟩)⟩)⟩)
  by_cases kmi : mi = 0
  rotate_left
  · by_cases z : 0 < mi
    · exact uright_p a b c d h mi s n i (sg8_1 (.inr ⟨ka, (.inr ⟨kb, (.inr ⟨kc, (.inr ⟨kd, (.inr ⟨kh, (.inl z)⟩)⟩)⟩)⟩)⟩)) (.inr ⟨ka, (.inr ⟨kb, (.inr ⟨kc, (.inr ⟨kd, (.inr ⟨kh, (.inl z)⟩)⟩)⟩)⟩)⟩)
    · exact uright_n a b c d h mi s n i (sg8_m (.inr ⟨ka, (.inr ⟨kb, (.inr ⟨kc, (.inr ⟨kd, (.inr ⟨kh, (.inl (by omega))⟩)⟩)⟩)⟩)⟩)) (.inr ⟨ka, (.inr ⟨kb, (.inr ⟨kc, (.inr ⟨kd, (.inr ⟨kh, (.inl (by omega))⟩)⟩)⟩)⟩)⟩)
  by_cases ks : s = 0
  rotate_left
  · by_cases z : 0 < s
    · exact uright_p a b c d h mi s n i (sg8_1 (.inr ⟨ka, (.inr ⟨kb, (.inr ⟨kc, (.inr ⟨kd, (.inr ⟨kh, (.inr ⟨kmi, (.inl z)⟩)⟩)⟩)⟩)⟩)⟩)) (.inr ⟨ka, (.inr ⟨kb, (.inr ⟨kc, (.inr ⟨kd, (.inr ⟨kh, (.inr ⟨kmi, (.inl z)⟩)⟩)⟩)⟩)⟩)⟩)
    · exact uright_n a b c d h mi s n i (sg8_m (.inr ⟨ka, (.inr ⟨kb, (.inr ⟨kc, (.inr ⟨kd, (.inr ⟨kh, (.inr ⟨kmi, (.inl (by omega))⟩)⟩)⟩)⟩)⟩)⟩)) (.inr ⟨ka, (.inr ⟨kb, (.inr ⟨kc, (.inr ⟨kd, (.inr ⟨kh, (.inr ⟨kmi, (.inl (by omega))⟩)⟩)⟩)⟩)⟩)⟩)
  by_cases kn : n = 0
  rotate_left
  · by_cases z : 0 < n
    · exact uright_p a b c d h mi s n i (sg8_1 (.inr ⟨ka, (.inr ⟨kb, (.inr ⟨kc, (.inr ⟨kd, (.inr ⟨kh, (.inr ⟨kmi, (.inr ⟨ks, z⟩)⟩)⟩)⟩)⟩)⟩)⟩)) (.inr ⟨ka, (.inr ⟨kb, (.inr ⟨kc, (.inr ⟨kd, (.inr ⟨kh, (.inr ⟨kmi, (.inr ⟨ks, z⟩)⟩)⟩)⟩)⟩)⟩)⟩)
    · exact uright_n a b c d h mi s n i (sg8_m (.inr ⟨ka, (.inr ⟨kb, (.inr ⟨kc, (.inr ⟨kd, (.inr ⟨kh, (.inr ⟨kmi, (.inr ⟨ks, (by omega)⟩)⟩)⟩)⟩)⟩)⟩)⟩)) (.inr ⟨ka, (.inr ⟨kb, (.inr ⟨kc, (.inr ⟨kd, (.inr ⟨kh, (.inr ⟨kmi, (.inr ⟨ks, (by omega)⟩)⟩)⟩)⟩)⟩)⟩)⟩)
  exact uright_z a b c d h mi s n i (sg8_0 ⟨ka, kb, kc, kd, kh, kmi, ks, kn⟩) ⟨ka, kb, kc, kd, kh, kmi, ks, kn⟩
theorem zuright (i : all64 a b c d h mi s n) : Fn 50 [] [duv a b c d h mi s n] (.bool (decide (uOk a b c d h mi s n))) := by
  by_cases hp : pos8 a b c d h mi s n
  · exact zuright_p a b c d h mi s n i hp
  · by_cases hn : neg8 a b c d h mi s n
    · exact zuright_n a b c d h mi s n i hn
    · exact zuright_m a b c d h mi s n i hp hn
theorem uright_y (i : all64 a b c d h mi s n) (k : uOk a b c d h mi s n) : Fn 43 [] [duv a b c d h mi s n] (.bool true) := by have := uright a b c d h mi s n i; rwa [decide_eq_true k] at this
theorem uright_f (i : all64 a b c d h mi s n) (k : ¬ uOk a b c d h mi s n) : Fn 43 [] [duv a b c d h mi s n] (.bool false) := by have := uright a b c d h mi s n i; rwa [decide_eq_false k] at this
theorem zuright_y (i : all64 a b c d h mi s n) (k : uOk a b c d h mi s n) : Fn 50 [] [duv a b c d h mi s n] (.bool true) := by have := zuright a b c d h mi s n i; rwa [decide_eq_true k] at this
theorem zuright_f (i : all64 a b c d h mi s n) (k : ¬ uOk a b c d h mi s n) : Fn 50 [] [duv a b c d h mi s n] (.bool false) := by have := zuright a b c d h mi s n i; rwa [decide_eq_false k] at this
theorem utotal_y (i : all64 a b c d h mi s n) (k : uOk a b c d h mi s n) : Fn 107 [] [duv a b c d h mi s n] (.tuple #[wv (dtot d h mi s n), .int .i64 0]) := by
  have r := uright_y a b c d h mi s n i k
  obtain ⟨i1, i2, i3, i4, i5, i6, i7, i8⟩ := i
  have t := utot a b c d h mi s n i4 i5 i6 i7 i8
  refine fn_of Tryz.func107 rfl fun ww => ?_
  refine st_fn ent43 (r) sub0 (by kernel_rfl) ?_
  refine st_fn ent102 (t) sub0 (by kernel_rfl) ?_
  exact st_ret Tryz.func107 (by kernel_rfl)
end
/-! laid out -/
theorem tch (x A B : Int) (hx : W128 x) (hA : 0 < A) (hB : 0 < B) (hd : B ∣ A) (hAW : A ≤ 86400000000000) (hBW : B ≤ 86400000000000) : Fn 45 [] [wv (x.tmod A), wv B] (.tuple #[wv ((x.tmod A).tdiv B), wv (x.tmod B), .int .i64 0]) := by
  obtain ⟨e1, e2, e3⟩ := td x A hA
  have m1 : -A < x.tmod A ∧ x.tmod A < A := by
    by_cases h : 0 ≤ x
    · have := e2 h; omega
    · have := e3 (by omega); omega
  obtain ⟨f1, f2, f3⟩ := td (x.tmod A) B hB
  have q1 : W128 ((x.tmod A).tdiv B) := by
    have key : ∀ q : Int, 0 ≤ q → q ≤ q * B := fun q h => by
      have := Int.mul_le_mul_of_nonneg_left (show 1 ≤ B by omega) h; omega
    by_cases h : 0 ≤ x.tmod A
    · have g := f2 h
      have := key _ g.1
      unfold W128; omega
    · have g := f3 (by omega)
      have := key (-((x.tmod A).tdiv B)) (by omega)
      rw [Int.neg_mul] at this
      unfold W128; omega
  have t := dtrunc_yes (x.tmod A) B (by unfold W128; omega) (by unfold W128; omega) (by omega) q1
  rwa [Int.tmod_tmod_of_dvd x hd] at t
theorem ttop (x B : Int) (hx : W128 x) (hB : 0 < B) (hBW : B ≤ 86400000000000) : Fn 45 [] [wv x, wv B] (.tuple #[wv (x.tdiv B), wv (x.tmod B), .int .i64 0]) ∧ W128 (x.tmod B) := by
  obtain ⟨e1, e2, e3⟩ := td x B hB
  have key : ∀ q : Int, 0 ≤ q → q ≤ q * B := fun q h => by
    have := Int.mul_le_mul_of_nonneg_left (show 1 ≤ B by omega) h; omega
  unfold W128 at hx
  by_cases h : 0 ≤ x
  · have g := e2 h
    have := key _ g.1
    exact ⟨dtrunc_yes x B (by unfold W128; omega) (by unfold W128; omega) (by omega) (by unfold W128; omega), by unfold W128; omega⟩
  · have g := e3 (by omega)
    have := key (-(x.tdiv B)) (by omega)
    rw [Int.neg_mul] at this
    exact ⟨dtrunc_yes x B (by unfold W128; omega) (by unfold W128; omega) (by omega) (by unfold W128; omega), by unfold W128; omega⟩
theorem tdiv_1 (x : Int) : x.tdiv 1 = x := Int.tdiv_one x
theorem tmod_1 (x : Int) : x.tmod 1 = 0 := Int.tmod_one x
theorem ulay4_y (x : Int) (hx : W128 x) (g : I64 (x.tdiv 86400000000000)) (k : uOk 0 0 0 (x.tdiv 86400000000000) ((x.tmod 86400000000000).tdiv 3600000000000) ((x.tmod 3600000000000).tdiv 60000000000) ((x.tmod 60000000000).tdiv 1000000000) (x.tmod 1000000000)) : Fn 63 [] [wv x, .int .i64 4] (.tuple #[duv 0 0 0 (x.tdiv 86400000000000) ((x.tmod 86400000000000).tdiv 3600000000000) ((x.tmod 3600000000000).tdiv 60000000000) ((x.tmod 60000000000).tdiv 1000000000) (x.tmod 1000000000), .int .i64 0]) := by
  obtain ⟨t0, m0⟩ := ttop x 86400000000000 hx (by omega) (by omega)
  have t1 := tch x 86400000000000 3600000000000 hx (by omega) (by omega) (by decide) (by omega) (by omega)
  have t2 := tch x 3600000000000 60000000000 hx (by omega) (by omega) (by decide) (by omega) (by omega)
  have t3 := tch x 60000000000 1000000000 hx (by omega) (by omega) (by decide) (by omega) (by omega)
  have t4 := tch x 1000000000 1 hx (by omega) (by omega) (by decide) (by omega) (by omega)
  rw [tdiv_1, tmod_1] at t4
  have g5 : I64 ((x.tmod 86400000000000).tdiv 3600000000000) := by have := td2 x 86400000000000 3600000000000 24 (by decide) (by omega) (by omega); unfold I64; omega
  have g6 : I64 ((x.tmod 3600000000000).tdiv 60000000000) := by have := td2 x 3600000000000 60000000000 60 (by decide) (by omega) (by omega); unfold I64; omega
  have g7 : I64 ((x.tmod 60000000000).tdiv 1000000000) := by have := td2 x 60000000000 1000000000 60 (by decide) (by omega) (by omega); unfold I64; omega
  have g8 : I64 (x.tmod 1000000000) := by
    obtain ⟨e1, e2, e3⟩ := td x 1000000000 (by omega)
    by_cases z : 0 ≤ x
    · have := e2 z; unfold I64; omega
    · have := e3 (by omega); unfold I64; omega
  have j1 : I64 86400000000000 := by unfold I64; omega
  have j2 : I64 3600000000000 := by unfold I64; omega
  have j3 : I64 60000000000 := by unfold I64; omega
  have j4 : I64 1000000000 := by unfold I64; omega
  have j5 : I64 1 := by unfold I64; omega
  have j0 : I64 0 := by unfold I64; omega
  have r := uright_y 0 0 0 (x.tdiv 86400000000000) ((x.tmod 86400000000000).tdiv 3600000000000) ((x.tmod 3600000000000).tdiv 60000000000) ((x.tmod 60000000000).tdiv 1000000000) (x.tmod 1000000000) ⟨j0, j0, j0, g, g5, g6, g7, g8⟩ k
  refine fn_of Tryz.func63 rfl fun ww => ?_
  refine st_fn ent96 (ulen4) sub0 (by kernel_rfl) ?_
  refine ufields_row 2 0 (by kernel_rfl) ?_
  refine st_round (by kernel_rfl) ?_
  refine st_fn ent96 (ulen4) sub0 (by kernel_rfl) ?_
  refine st_fn ent40 (wof_fn (86400000000000) (by assumption)) sub0 (by kernel_rfl) ?_
  refine st_fn ent45 (t0) sub0 (by kernel_rfl) ?_
  refine st_fn ent47 (wint_f (x.tdiv 86400000000000) (by assumption)) sub0 (by kernel_rfl) ?_
  refine st_i 21 .i64 (x' := 4 + 1) (Go.IntWalk.i64_in _ (by omega)) (by kernel_rfl) ?_
  refine st_round (by kernel_rfl) ?_
  refine st_fn ent96 (ulen5) sub0 (by kernel_rfl) ?_
  refine st_fn ent40 (wof_fn (3600000000000) (by assumption)) sub0 (by kernel_rfl) ?_
  refine st_fn ent45 (t1) sub0 (by kernel_rfl) ?_
  refine st_fn ent47 (wint_f ((x.tmod 86400000000000).tdiv 3600000000000) (by assumption)) sub0 (by kernel_rfl) ?_
  refine st_i 21 .i64 (x' := 4 + 1 + 1) (Go.IntWalk.i64_in _ (by omega)) (by kernel_rfl) ?_
  refine st_round (by kernel_rfl) ?_
  refine st_fn ent96 (ulen6) sub0 (by kernel_rfl) ?_
  refine st_fn ent40 (wof_fn (60000000000) (by assumption)) sub0 (by kernel_rfl) ?_
  refine st_fn ent45 (t2) sub0 (by kernel_rfl) ?_
  refine st_fn ent47 (wint_f ((x.tmod 3600000000000).tdiv 60000000000) (by assumption)) sub0 (by kernel_rfl) ?_
  refine st_i 21 .i64 (x' := 4 + 1 + 1 + 1) (Go.IntWalk.i64_in _ (by omega)) (by kernel_rfl) ?_
  refine st_round (by kernel_rfl) ?_
  refine st_fn ent96 (ulen7) sub0 (by kernel_rfl) ?_
  refine st_fn ent40 (wof_fn (1000000000) (by assumption)) sub0 (by kernel_rfl) ?_
  refine st_fn ent45 (t3) sub0 (by kernel_rfl) ?_
  refine st_fn ent47 (wint_f ((x.tmod 60000000000).tdiv 1000000000) (by assumption)) sub0 (by kernel_rfl) ?_
  refine st_i 21 .i64 (x' := 4 + 1 + 1 + 1 + 1) (Go.IntWalk.i64_in _ (by omega)) (by kernel_rfl) ?_
  refine st_round (by kernel_rfl) ?_
  refine st_fn ent96 (ulen8) sub0 (by kernel_rfl) ?_
  refine st_fn ent40 (wof_fn (1) (by assumption)) sub0 (by kernel_rfl) ?_
  refine st_fn ent45 (t4) sub0 (by kernel_rfl) ?_
  refine st_fn ent47 (wint_f (x.tmod 1000000000) (by assumption)) sub0 (by kernel_rfl) ?_
  refine st_i 21 .i64 (x' := 4 + 1 + 1 + 1 + 1 + 1) (Go.IntWalk.i64_in _ (by omega)) (by kernel_rfl) ?_
  refine st_round (by kernel_rfl) ?_
  refine st_fn ent43 (r) sub0 (by kernel_rfl) ?_
  exact st_ret Tryz.func63 (by kernel_rfl)
theorem ulay5_y (x : Int) (hx : W128 x) (g : I64 (x.tdiv 3600000000000)) (k : uOk 0 0 0 0 (x.tdiv 3600000000000) ((x.tmod 3600000000000).tdiv 60000000000) ((x.tmod 60000000000).tdiv 1000000000) (x.tmod 1000000000)) : Fn 63 [] [wv x, .int .i64 5] (.tuple #[duv 0 0 0 0 (x.tdiv 3600000000000) ((x.tmod 3600000000000).tdiv 60000000000) ((x.tmod 60000000000).tdiv 1000000000) (x.tmod 1000000000), .int .i64 0]) := by
  obtain ⟨t0, m0⟩ := ttop x 3600000000000 hx (by omega) (by omega)
  have t1 := tch x 3600000000000 60000000000 hx (by omega) (by omega) (by decide) (by omega) (by omega)
  have t2 := tch x 60000000000 1000000000 hx (by omega) (by omega) (by decide) (by omega) (by omega)
  have t3 := tch x 1000000000 1 hx (by omega) (by omega) (by decide) (by omega) (by omega)
  rw [tdiv_1, tmod_1] at t3
  have g6 : I64 ((x.tmod 3600000000000).tdiv 60000000000) := by have := td2 x 3600000000000 60000000000 60 (by decide) (by omega) (by omega); unfold I64; omega
  have g7 : I64 ((x.tmod 60000000000).tdiv 1000000000) := by have := td2 x 60000000000 1000000000 60 (by decide) (by omega) (by omega); unfold I64; omega
  have g8 : I64 (x.tmod 1000000000) := by
    obtain ⟨e1, e2, e3⟩ := td x 1000000000 (by omega)
    by_cases z : 0 ≤ x
    · have := e2 z; unfold I64; omega
    · have := e3 (by omega); unfold I64; omega
  have j1 : I64 86400000000000 := by unfold I64; omega
  have j2 : I64 3600000000000 := by unfold I64; omega
  have j3 : I64 60000000000 := by unfold I64; omega
  have j4 : I64 1000000000 := by unfold I64; omega
  have j5 : I64 1 := by unfold I64; omega
  have j0 : I64 0 := by unfold I64; omega
  have r := uright_y 0 0 0 0 (x.tdiv 3600000000000) ((x.tmod 3600000000000).tdiv 60000000000) ((x.tmod 60000000000).tdiv 1000000000) (x.tmod 1000000000) ⟨j0, j0, j0, j0, g, g6, g7, g8⟩ k
  refine fn_of Tryz.func63 rfl fun ww => ?_
  refine st_fn ent96 (ulen5) sub0 (by kernel_rfl) ?_
  refine ufields_row 2 0 (by kernel_rfl) ?_
  refine st_round (by kernel_rfl) ?_
  refine st_fn ent96 (ulen5) sub0 (by kernel_rfl) ?_
  refine st_fn ent40 (wof_fn (3600000000000) (by assumption)) sub0 (by kernel_rfl) ?_
  refine st_fn ent45 (t0) sub0 (by kernel_rfl) ?_
  refine st_fn ent47 (wint_f (x.tdiv 3600000000000) (by assumption)) sub0 (by kernel_rfl) ?_
  refine st_i 21 .i64 (x' := 5 + 1) (Go.IntWalk.i64_in _ (by omega)) (by kernel_rfl) ?_
  refine st_round (by kernel_rfl) ?_
  refine st_fn ent96 (ulen6) sub0 (by kernel_rfl) ?_
  refine st_fn ent40 (wof_fn (60000000000) (by assumption)) sub0 (by kernel_rfl) ?_
  refine st_fn ent45 (t1) sub0 (by kernel_rfl) ?_
  refine st_fn ent47 (wint_f ((x.tmod 3600000000000).tdiv 60000000000) (by assumption)) sub0 (by kernel_rfl) ?_
  refine st_i 21 .i64 (x' := 5 + 1 + 1) (Go.IntWalk.i64_in _ (by omega)) (by kernel_rfl) ?_
  refine st_round (by kernel_rfl) ?_
  refine st_fn ent96 (ulen7) sub0 (by kernel_rfl) ?_
  refine st_fn ent40 (wof_fn (1000000000) (by assumption)) sub0 (by kernel_rfl) ?_
  refine st_fn ent45 (t2) sub0 (by kernel_rfl) ?_
  refine st_fn ent47 (wint_f ((x.tmod 60000000000).tdiv 1000000000) (by assumption)) sub0 (by kernel_rfl) ?_
  refine st_i 21 .i64 (x' := 5 + 1 + 1 + 1) (Go.IntWalk.i64_in _ (by omega)) (by kernel_rfl) ?_
  refine st_round (by kernel_rfl) ?_
  refine st_fn ent96 (ulen8) sub0 (by kernel_rfl) ?_
  refine st_fn ent40 (wof_fn (1) (by assumption)) sub0 (by kernel_rfl) ?_
  refine st_fn ent45 (t3) sub0 (by kernel_rfl) ?_
  refine st_fn ent47 (wint_f (x.tmod 1000000000) (by assumption)) sub0 (by kernel_rfl) ?_
  refine st_i 21 .i64 (x' := 5 + 1 + 1 + 1 + 1) (Go.IntWalk.i64_in _ (by omega)) (by kernel_rfl) ?_
  refine st_round (by kernel_rfl) ?_
  refine st_fn ent43 (r) sub0 (by kernel_rfl) ?_
  exact st_ret Tryz.func63 (by kernel_rfl)
theorem ulay6_y (x : Int) (hx : W128 x) (g : I64 (x.tdiv 60000000000)) (k : uOk 0 0 0 0 0 (x.tdiv 60000000000) ((x.tmod 60000000000).tdiv 1000000000) (x.tmod 1000000000)) : Fn 63 [] [wv x, .int .i64 6] (.tuple #[duv 0 0 0 0 0 (x.tdiv 60000000000) ((x.tmod 60000000000).tdiv 1000000000) (x.tmod 1000000000), .int .i64 0]) := by
  obtain ⟨t0, m0⟩ := ttop x 60000000000 hx (by omega) (by omega)
  have t1 := tch x 60000000000 1000000000 hx (by omega) (by omega) (by decide) (by omega) (by omega)
  have t2 := tch x 1000000000 1 hx (by omega) (by omega) (by decide) (by omega) (by omega)
  rw [tdiv_1, tmod_1] at t2
  have g7 : I64 ((x.tmod 60000000000).tdiv 1000000000) := by have := td2 x 60000000000 1000000000 60 (by decide) (by omega) (by omega); unfold I64; omega
  have g8 : I64 (x.tmod 1000000000) := by
    obtain ⟨e1, e2, e3⟩ := td x 1000000000 (by omega)
    by_cases z : 0 ≤ x
    · have := e2 z; unfold I64; omega
    · have := e3 (by omega); unfold I64; omega
  have j1 : I64 86400000000000 := by unfold I64; omega
  have j2 : I64 3600000000000 := by unfold I64; omega
  have j3 : I64 60000000000 := by unfold I64; omega
  have j4 : I64 1000000000 := by unfold I64; omega
  have j5 : I64 1 := by unfold I64; omega
  have j0 : I64 0 := by unfold I64; omega
  have r := uright_y 0 0 0 0 0 (x.tdiv 60000000000) ((x.tmod 60000000000).tdiv 1000000000) (x.tmod 1000000000) ⟨j0, j0, j0, j0, j0, g, g7, g8⟩ k
  refine fn_of Tryz.func63 rfl fun ww => ?_
  refine st_fn ent96 (ulen6) sub0 (by kernel_rfl) ?_
  refine ufields_row 2 0 (by kernel_rfl) ?_
  refine st_round (by kernel_rfl) ?_
  refine st_fn ent96 (ulen6) sub0 (by kernel_rfl) ?_
  refine st_fn ent40 (wof_fn (60000000000) (by assumption)) sub0 (by kernel_rfl) ?_
  refine st_fn ent45 (t0) sub0 (by kernel_rfl) ?_
  refine st_fn ent47 (wint_f (x.tdiv 60000000000) (by assumption)) sub0 (by kernel_rfl) ?_
  refine st_i 21 .i64 (x' := 6 + 1) (Go.IntWalk.i64_in _ (by omega)) (by kernel_rfl) ?_
  refine st_round (by kernel_rfl) ?_
  refine st_fn ent96 (ulen7) sub0 (by kernel_rfl) ?_
  refine st_fn ent40 (wof_fn (1000000000) (by assumption)) sub0 (by kernel_rfl) ?_
  refine st_fn ent45 (t1) sub0 (by kernel_rfl) ?_
  refine st_fn ent47 (wint_f ((x.tmod 60000000000).tdiv 1000000000) (by assumption)) sub0 (by kernel_rfl) ?_
  refine st_i 21 .i64 (x' := 6 + 1 + 1) (Go.IntWalk.i64_in _ (by omega)) (by kernel_rfl) ?_
  refine st_round (by kernel_rfl) ?_
  refine st_fn ent96 (ulen8) sub0 (by kernel_rfl) ?_
  refine st_fn ent40 (wof_fn (1) (by assumption)) sub0 (by kernel_rfl) ?_
  refine st_fn ent45 (t2) sub0 (by kernel_rfl) ?_
  refine st_fn ent47 (wint_f (x.tmod 1000000000) (by assumption)) sub0 (by kernel_rfl) ?_
  refine st_i 21 .i64 (x' := 6 + 1 + 1 + 1) (Go.IntWalk.i64_in _ (by omega)) (by kernel_rfl) ?_
  refine st_round (by kernel_rfl) ?_
  refine st_fn ent43 (r) sub0 (by kernel_rfl) ?_
  exact st_ret Tryz.func63 (by kernel_rfl)
theorem ulay7_y (x : Int) (hx : W128 x) (g : I64 (x.tdiv 1000000000)) (k : uOk 0 0 0 0 0 0 (x.tdiv 1000000000) (x.tmod 1000000000)) : Fn 63 [] [wv x, .int .i64 7] (.tuple #[duv 0 0 0 0 0 0 (x.tdiv 1000000000) (x.tmod 1000000000), .int .i64 0]) := by
  obtain ⟨t0, m0⟩ := ttop x 1000000000 hx (by omega) (by omega)
  have t1 := tch x 1000000000 1 hx (by omega) (by omega) (by decide) (by omega) (by omega)
  rw [tdiv_1, tmod_1] at t1
  have g8 : I64 (x.tmod 1000000000) := by
    obtain ⟨e1, e2, e3⟩ := td x 1000000000 (by omega)
    by_cases z : 0 ≤ x
    · have := e2 z; unfold I64; omega
    · have := e3 (by omega); unfold I64; omega
  have j1 : I64 86400000000000 := by unfold I64; omega
  have j2 : I64 3600000000000 := by unfold I64; omega
  have j3 : I64 60000000000 := by unfold I64; omega
  have j4 : I64 1000000000 := by unfold I64; omega
  have j5 : I64 1 := by unfold I64; omega
  have j0 : I64 0 := by unfold I64; omega
  have r := uright_y 0 0 0 0 0 0 (x.tdiv 1000000000) (x.tmod 1000000000) ⟨j0, j0, j0, j0, j0, j0, g, g8⟩ k
  refine fn_of Tryz.func63 rfl fun ww => ?_
  refine st_fn ent96 (ulen7) sub0 (by kernel_rfl) ?_
  refine ufields_row 2 0 (by kernel_rfl) ?_
  refine st_round (by kernel_rfl) ?_
  refine st_fn ent96 (ulen7) sub0 (by kernel_rfl) ?_
  refine st_fn ent40 (wof_fn (1000000000) (by assumption)) sub0 (by kernel_rfl) ?_
  refine st_fn ent45 (t0) sub0 (by kernel_rfl) ?_
  refine st_fn ent47 (wint_f (x.tdiv 1000000000) (by assumption)) sub0 (by kernel_rfl) ?_
  refine st_i 21 .i64 (x' := 7 + 1) (Go.IntWalk.i64_in _ (by omega)) (by kernel_rfl) ?_
  refine st_round (by kernel_rfl) ?_
  refine st_fn ent96 (ulen8) sub0 (by kernel_rfl) ?_
  refine st_fn ent40 (wof_fn (1) (by assumption)) sub0 (by kernel_rfl) ?_
  refine st_fn ent45 (t1) sub0 (by kernel_rfl) ?_
  refine st_fn ent47 (wint_f (x.tmod 1000000000) (by assumption)) sub0 (by kernel_rfl) ?_
  refine st_i 21 .i64 (x' := 7 + 1 + 1) (Go.IntWalk.i64_in _ (by omega)) (by kernel_rfl) ?_
  refine st_round (by kernel_rfl) ?_
  refine st_fn ent43 (r) sub0 (by kernel_rfl) ?_
  exact st_ret Tryz.func63 (by kernel_rfl)
theorem ulay8_y (x : Int) (hx : W128 x) (g : I64 x) (k : uOk 0 0 0 0 0 0 0 x) : Fn 63 [] [wv x, .int .i64 8] (.tuple #[duv 0 0 0 0 0 0 0 x, .int .i64 0]) := by
  obtain ⟨t0, m0⟩ := ttop x 1 hx (by omega) (by omega)
  rw [tdiv_1, tmod_1] at t0
  have j1 : I64 86400000000000 := by unfold I64; omega
  have j2 : I64 3600000000000 := by unfold I64; omega
  have j3 : I64 60000000000 := by unfold I64; omega
  have j4 : I64 1000000000 := by unfold I64; omega
  have j5 : I64 1 := by unfold I64; omega
  have j0 : I64 0 := by unfold I64; omega
  have r := uright_y 0 0 0 0 0 0 0 x ⟨j0, j0, j0, j0, j0, j0, j0, g⟩ k
  refine fn_of Tryz.func63 rfl fun ww => ?_
  refine st_fn ent96 (ulen8) sub0 (by kernel_rfl) ?_
  refine ufields_row 2 0 (by kernel_rfl) ?_
  refine st_round (by kernel_rfl) ?_
  refine st_fn ent96 (ulen8) sub0 (by kernel_rfl) ?_
  refine st_fn ent40 (wof_fn (1) (by assumption)) sub0 (by kernel_rfl) ?_
  refine st_fn ent45 (t0) sub0 (by kernel_rfl) ?_
  refine st_fn ent47 (wint_f (x) (by assumption)) sub0 (by kernel_rfl) ?_
  refine st_i 21 .i64 (x' := 8 + 1) (Go.IntWalk.i64_in _ (by omega)) (by kernel_rfl) ?_
  refine st_round (by kernel_rfl) ?_
  refine st_fn ent43 (r) sub0 (by kernel_rfl) ?_
  exact st_ret Tryz.func63 (by kernel_rfl)
end Go.Proofs.YtccllfegnijpiaaGreat
end
section
/-
  Durations: a total laid out; the other sign; sums; increments; rounding.
-/
set_option linter.unusedVariables false
set_option linter.unusedSimpArgs false
set_option maxRecDepth 100000
namespace Go.Proofs.YtccllfegnijpiaaGreat
open Go Go.RowKit Go.Ev

section
variable (u x : Int)
abbrev lav (u x : Int) : Value := .tuple #[duv 0 0 0 (l4 u x) (l5 u x) (l6 u x) (l7 u x) (l8 u x), .int .i64 0]
theorem ulay_y (hx : W128 x) (k : layOk u x) : Fn 63 [] [wv x, .int .i64 u] (lav u x) := by
  have r := lay_ok k
  obtain ⟨⟨k1, k2⟩, k3, k4⟩ := k
  have r := r.1
  rcases units k1 k2 with rfl | rfl | rfl | rfl | rfl <;> simp only [l4, l5, l6, l7, l8, ulen, lav, Int.reduceEq, Int.reduceLE, if_true, if_false, tdiv_1] at r k4 ⊢
  · exact ulay4_y x hx k4 r
  · exact ulay5_y x hx k4 r
  · exact ulay6_y x hx k4 r
  · exact ulay7_y x hx k4 r
  · exact ulay8_y x hx k4 r
variable (p : ZQ)
end
end Go.Proofs.YtccllfegnijpiaaGreat
end
section
/-
  Durations: increments, sums, rounding; the laws DurationUnits, DurationLays, DurationTotals.
-/
set_option linter.unusedVariables false
set_option linter.unusedSimpArgs false
set_option maxRecDepth 100000
namespace Go.Proofs.YtccllfegnijpiaaGreat
open Go Go.RowKit Go.Ev

section
variable (u i : Int)
theorem i64_0 : I64 0 := by unfold I64; omega
theorem I64.w' {x : Int} (h : I64 x) : W128 x := h.w
end
end Go.Proofs.YtccllfegnijpiaaGreat
end
section
/-
  Durations put to days and to date-times: what the program answers of layer 19.
-/
set_option linter.unusedVariables false
set_option linter.unusedSimpArgs false
set_option maxRecDepth 100000
namespace Go.Proofs.YtccllfegnijpiaaGreat
open Go Go.RowKit Go.Ev

abbrev dv0 : Value := dv 0 0 0
section
variable (y m d n T : Int)
theorem creg_cy (m1 : 1 ≤ m) (m2 : m ≤ 12) (d1 : 1 ≤ d) (k : dOk y m (cD y m d)) : Fn 109 [] [.int .i64 y, .int .i64 m, .int .i64 d, .int .i64 1] (.tuple #[dv y m (cD y m d), .int .i64 0]) := by
  have c1 := cmonth y m
  obtain ⟨l, hl⟩ : ∃ l, l = mlen y m := ⟨_, rfl⟩
  have hc : cD y m d = if l < d then l else d := by rw [hl]; rfl
  rw [hc] at k ⊢
  rw [← hl] at c1
  by_cases q : l < d
  · rw [if_pos q] at k ⊢
    refine fn_of Tryz.func109 rfl fun ww => ?_
    refine st_i 16 IntKind.i64 (x := if 1 > m then 1 else m) (if_neg (by omega)) (by kernel_rfl) ?_
    refine st_i 17 IntKind.i64 (x := if 12 < m then 12 else m) (if_neg (by omega)) (by kernel_rfl) ?_
    refine st_i 19 IntKind.i64 (x := if 1 > d then 1 else d) (if_neg (by omega)) (by kernel_rfl) ?_
    refine st_fn ent121 (c1) sub0 (by kernel_rfl) ?_
    refine st_i 23 IntKind.i64 (x := if l < d then l else d) (if_pos q) (by kernel_rfl) ?_
    refine st_fn ent42 (cright5_yes (y) (m) (l) (by assumption)) sub0 (by kernel_rfl) ?_
    exact st_ret Tryz.func109 (by kernel_rfl)
  · rw [if_neg q] at k ⊢
    refine fn_of Tryz.func109 rfl fun ww => ?_
    refine st_i 16 IntKind.i64 (x := if 1 > m then 1 else m) (if_neg (by omega)) (by kernel_rfl) ?_
    refine st_i 17 IntKind.i64 (x := if 12 < m then 12 else m) (if_neg (by omega)) (by kernel_rfl) ?_
    refine st_i 19 IntKind.i64 (x := if 1 > d then 1 else d) (if_neg (by omega)) (by kernel_rfl) ?_
    refine st_fn ent121 (c1) sub0 (by kernel_rfl) ?_
    refine st_i 23 IntKind.i64 (x := if l < d then l else d) (if_neg q) (by kernel_rfl) ?_
    refine st_fn ent42 (cright5_yes (y) (m) (d) (by assumption)) sub0 (by kernel_rfl) ?_
    exact st_ret Tryz.func109 (by kernel_rfl)
theorem creg_cn (m1 : 1 ≤ m) (m2 : m ≤ 12) (d1 : 1 ≤ d) (k : ¬ dOk y m (cD y m d)) : Fn 109 [] [.int .i64 y, .int .i64 m, .int .i64 d, .int .i64 1] (.tuple #[dv0, .int .i64 4]) := by
  have c1 := cmonth y m
  obtain ⟨l, hl⟩ : ∃ l, l = mlen y m := ⟨_, rfl⟩
  have hc : cD y m d = if l < d then l else d := by rw [hl]; rfl
  rw [hc] at k
  rw [← hl] at c1
  by_cases q : l < d
  · rw [if_pos q] at k
    refine fn_of Tryz.func109 rfl fun ww => ?_
    refine st_i 16 IntKind.i64 (x := if 1 > m then 1 else m) (if_neg (by omega)) (by kernel_rfl) ?_
    refine st_i 17 IntKind.i64 (x := if 12 < m then 12 else m) (if_neg (by omega)) (by kernel_rfl) ?_
    refine st_i 19 IntKind.i64 (x := if 1 > d then 1 else d) (if_neg (by omega)) (by kernel_rfl) ?_
    refine st_fn ent121 (c1) sub0 (by kernel_rfl) ?_
    refine st_i 23 IntKind.i64 (x := if l < d then l else d) (if_pos q) (by kernel_rfl) ?_
    refine st_fn ent42 (cright5_no (y) (m) (l) (by assumption)) sub0 (by kernel_rfl) ?_
    exact st_ret Tryz.func109 (by kernel_rfl)
  · rw [if_neg q] at k
    refine fn_of Tryz.func109 rfl fun ww => ?_
    refine st_i 16 IntKind.i64 (x := if 1 > m then 1 else m) (if_neg (by omega)) (by kernel_rfl) ?_
    refine st_i 17 IntKind.i64 (x := if 12 < m then 12 else m) (if_neg (by omega)) (by kernel_rfl) ?_
    refine st_i 19 IntKind.i64 (x := if 1 > d then 1 else d) (if_neg (by omega)) (by kernel_rfl) ?_
    refine st_fn ent121 (c1) sub0 (by kernel_rfl) ?_
    refine st_i 23 IntKind.i64 (x := if l < d then l else d) (if_neg q) (by kernel_rfl) ?_
    refine st_fn ent42 (cright5_no (y) (m) (d) (by assumption)) sub0 (by kernel_rfl) ?_
    exact st_ret Tryz.func109 (by kernel_rfl)
theorem creg_rf (m1 : 1 ≤ m) (m2 : m ≤ 12) (d1 : 1 ≤ d) (q : mlen y m < d) : Fn 109 [] [.int .i64 y, .int .i64 m, .int .i64 d, .int .i64 2] (.tuple #[dv0, .int .i64 5]) := by
  refine fn_of Tryz.func109 rfl fun ww => ?_
  refine st_b 27 (show (decide (d < 1)) = false by exact decide_eq_false (by omega)) (by kernel_rfl) ?_
  refine st_fn ent121 (cmonth (y) (m)) sub0 (by kernel_rfl) ?_
  refine st_b 33 (show (decide (d > mlen y m)) = true by exact decide_eq_true (by omega)) (by kernel_rfl) ?_
  exact st_ret Tryz.func109 (by kernel_rfl)
theorem creg_ry (m1 : 1 ≤ m) (m2 : m ≤ 12) (d1 : 1 ≤ d) (q : d ≤ mlen y m) (k : dOk y m d) : Fn 109 [] [.int .i64 y, .int .i64 m, .int .i64 d, .int .i64 2] (.tuple #[dv y m d, .int .i64 0]) := by
  refine fn_of Tryz.func109 rfl fun ww => ?_
  refine st_b 27 (show (decide (d < 1)) = false by exact decide_eq_false (by omega)) (by kernel_rfl) ?_
  refine st_fn ent121 (cmonth (y) (m)) sub0 (by kernel_rfl) ?_
  refine st_b 33 (show (decide (d > mlen y m)) = false by exact decide_eq_false (by omega)) (by kernel_rfl) ?_
  refine st_fn ent42 (cright5_yes (y) (m) (d) (by assumption)) sub0 (by kernel_rfl) ?_
  exact st_ret Tryz.func109 (by kernel_rfl)
theorem creg_rn (m1 : 1 ≤ m) (m2 : m ≤ 12) (d1 : 1 ≤ d) (q : d ≤ mlen y m) (k : ¬ dOk y m d) : Fn 109 [] [.int .i64 y, .int .i64 m, .int .i64 d, .int .i64 2] (.tuple #[dv0, .int .i64 4]) := by
  refine fn_of Tryz.func109 rfl fun ww => ?_
  refine st_b 27 (show (decide (d < 1)) = false by exact decide_eq_false (by omega)) (by kernel_rfl) ?_
  refine st_fn ent121 (cmonth (y) (m)) sub0 (by kernel_rfl) ?_
  refine st_b 33 (show (decide (d > mlen y m)) = false by exact decide_eq_false (by omega)) (by kernel_rfl) ?_
  refine st_fn ent42 (cright5_no (y) (m) (d) (by assumption)) sub0 (by kernel_rfl) ?_
  exact st_ret Tryz.func109 (by kernel_rfl)
variable (o k A B C e : Int)
theorem cknown_y (h : o = 1 ∨ o = 2) : Fn 44 [] [.int .i64 o] (.bool true) := by
  rcases h with rfl | rfl
  · refine fn_of Tryz.func44 rfl fun ww => ?_
    exact st_ret Tryz.func44 (by kernel_rfl)
  · refine fn_of Tryz.func44 rfl fun ww => ?_
    exact st_ret Tryz.func44 (by kernel_rfl)
theorem cknown_n (h : ¬ (o = 1 ∨ o = 2)) : Fn 44 [] [.int .i64 o] (.bool false) := by
  have h1 : o ≠ 1 := fun q => h (.inl q)
  have h2 : o ≠ 2 := fun q => h (.inr q)
  refine fn_of Tryz.func44 rfl fun ww => ?_
  refine st_b 4 (show (o == 1) = false by exact decide_eq_false (by omega)) (by kernel_rfl) ?_
  exact st_retv Tryz.func44 (show Value.bool (o == 2) = _ by simp_all) (by kernel_rfl)
theorem cmov_e (hl : Fn 108 [] [dv y m d, .int .i64 k] (dv (lY T) (lM T) d)) (hr : Fn 109 [] [.int .i64 (lY T), .int .i64 (lM T), .int .i64 d, .int .i64 o] (.tuple #[dv0, .int .i64 e])) (he : e ≠ 0) :
    Fn 48 [] [dv y m d, .int .i64 k, .int .i64 n, .int .i64 o] (.tuple #[dv0, .int .i64 e]) := by
  refine fn_of Tryz.func48 rfl fun ww => ?_
  refine st_fn ent108 (hl) sub0 (by kernel_rfl) ?_
  refine st_fn ent109 (hr) sub0 (by kernel_rfl) ?_
  refine st_b 27 (show (e != 0) = true by exact bne_iff_ne.2 (by omega)) (by kernel_rfl) ?_
  exact st_ret Tryz.func48 (by kernel_rfl)
theorem cmov_v (Y M D : Int) (hl : Fn 108 [] [dv y m d, .int .i64 k] (dv (lY T) (lM T) d)) (hr : Fn 109 [] [.int .i64 (lY T), .int .i64 (lM T), .int .i64 d, .int .i64 o] (.tuple #[dv Y M D, .int .i64 0])) (ha : Fn 66 [] [dv Y M D, .int .i64 n] (.tuple #[dv A B C, .int .i64 e])) :
    Fn 48 [] [dv y m d, .int .i64 k, .int .i64 n, .int .i64 o] (.tuple #[dv A B C, .int .i64 e]) := by
  refine fn_of Tryz.func48 rfl fun ww => ?_
  refine st_fn ent108 (hl) sub0 (by kernel_rfl) ?_
  refine st_fn ent109 (hr) sub0 (by kernel_rfl) ?_
  refine st_fn ent66 (ha) sub0 (by kernel_rfl) ?_
  exact st_ret Tryz.func48 (by kernel_rfl)
end
theorem uOk_bd {a b c d h mi s n : Int} (k : uOk a b c d h mi s n) : (-4294967295 ≤ a ∧ a ≤ 4294967295) ∧ (-4294967295 ≤ b ∧ b ≤ 4294967295) ∧ (-4294967295 ≤ c ∧ c ≤ 4294967295) ∧ (-104249991400 ≤ d ∧ d ≤ 104249991400) ∧ (-9007199254740992000000000 < dtot 0 h mi s n ∧ dtot 0 h mi s n < 9007199254740992000000000) := by
  unfold uOk pos8 neg8 cnt1 dtot LIM at k; unfold dtot; omega
theorem uOk_part {a b c d h mi s n : Int} (k : uOk a b c d h mi s n) : uOk 0 0 0 0 h mi s n := by
  unfold uOk pos8 neg8 cnt1 dtot LIM at *; omega
theorem all64_part {a b c d h mi s n : Int} (i : all64 a b c d h mi s n) : all64 0 0 0 0 h mi s n := ⟨i64_0, i64_0, i64_0, i64_0, i.2.2.2.2.1, i.2.2.2.2.2.1, i.2.2.2.2.2.2.1, i.2.2.2.2.2.2.2⟩
section
variable (a b c d h mi s n : Int)
theorem cpart (i : all64 a b c d h mi s n) (k : uOk a b c d h mi s n) : Fn 46 [] [duv a b c d h mi s n] (wv (dtot 0 h mi s n)) := by
  have t := utotal_y 0 0 0 0 h mi s n (all64_part i) (uOk_part k)
  clear i k
  refine fn_of Tryz.func46 rfl fun ww => ?_
  refine st_fn ent107 (t) sub0 (by kernel_rfl) ?_
  exact st_ret Tryz.func46 (by kernel_rfl)
variable (Y M D o A B C e : Int)
theorem cadt_a (i : all64 a b c d h mi s n) (k : ¬ (dOk Y M D ∧ uOk a b c d h mi s n ∧ (o = 1 ∨ o = 2))) : Fn 12 [] [dv Y M D, duv a b c d h mi s n, .int .i64 o] (.tuple #[dv0, .int .i64 1]) := by
  by_cases k1 : dOk Y M D
  · have r1 := cright5_yes Y M D k1
    by_cases k2 : uOk a b c d h mi s n
    · have r2 := uright_y a b c d h mi s n i k2
      have k3 : ¬ (o = 1 ∨ o = 2) := fun q => k ⟨k1, k2, q⟩
      have r3 := cknown_n o k3
      clear i k k1 k2 k3
      refine fn_of Tryz.func12 rfl fun ww => ?_
      refine st_fn ent42 (r1) sub0 (by kernel_rfl) ?_
      refine st_fn ent43 (r2) sub0 (by kernel_rfl) ?_
      refine st_fn ent44 (r3) sub0 (by kernel_rfl) ?_
      exact st_ret Tryz.func12 (by kernel_rfl)
    · have r2 := uright_f a b c d h mi s n i k2
      clear i k k1 k2
      refine fn_of Tryz.func12 rfl fun ww => ?_
      refine st_fn ent42 (r1) sub0 (by kernel_rfl) ?_
      refine st_fn ent43 (r2) sub0 (by kernel_rfl) ?_
      exact st_ret Tryz.func12 (by kernel_rfl)
  · have r1 := cright5_no Y M D k1
    clear i k k1
    refine fn_of Tryz.func12 rfl fun ww => ?_
    refine st_fn ent42 (r1) sub0 (by kernel_rfl) ?_
    exact st_ret Tryz.func12 (by kernel_rfl)
theorem cadt_v (i : all64 a b c d h mi s n) (k1 : dOk Y M D) (k2 : uOk a b c d h mi s n) (k3 : o = 1 ∨ o = 2) (q : Int) (hq : (dtot 0 h mi s n).tdiv 86400000000000 = q) (hm : Fn 48 [] [dv Y M D, .int .i64 (12 * a + b), .int .i64 (d + 7 * c + q), .int .i64 o] (.tuple #[dv A B C, .int .i64 e])) :
    Fn 12 [] [dv Y M D, duv a b c d h mi s n, .int .i64 o] (.tuple #[dv A B C, .int .i64 e]) := by
  have r1 := cright5_yes Y M D k1
  have r2 := uright_y a b c d h mi s n i k2
  have r3 := cknown_y o k3
  have r4 := cpart a b c d h mi s n i k2
  obtain ⟨b1, b2, b3, b4, b5⟩ := uOk_bd k2
  have tt := td (dtot 0 h mi s n) 86400000000000 (by omega)
  have qb : -104249991400 ≤ q ∧ q ≤ 104249991400 := by rw [← hq]; omega
  have iq : I64 q := by unfold I64; omega
  have r5 := dtrunc_yes (dtot 0 h mi s n) 86400000000000 (by unfold W128; omega) (by unfold W128; omega) (by omega) (by rw [hq]; exact iq.w)
  rw [hq] at r5
  have i8 : I64 86400000000000 := by unfold I64; omega
  clear i k1 k2 k3 hq tt b5
  refine fn_of Tryz.func12 rfl fun ww => ?_
  refine st_fn ent42 (r1) sub0 (by kernel_rfl) ?_
  refine st_fn ent43 (r2) sub0 (by kernel_rfl) ?_
  refine st_fn ent44 (r3) sub0 (by kernel_rfl) ?_
  refine st_fn ent46 (r4) sub0 (by kernel_rfl) ?_
  refine st_fn ent40 (wof_fn (86400000000000) (by assumption)) sub0 (by kernel_rfl) ?_
  refine st_fn ent45 (r5) sub0 (by kernel_rfl) ?_
  refine st_fn ent47 (wint_f (q) (by assumption)) sub0 (by kernel_rfl) ?_
  refine st_i 43 .i64 (x' := 12 * a) (Go.IntWalk.i64_in _ (by omega)) (by kernel_rfl) ?_
  refine st_i 46 .i64 (x' := 12 * a + b) (Go.IntWalk.i64_in _ (by omega)) (by kernel_rfl) ?_
  refine st_i 51 .i64 (x' := 7 * c) (Go.IntWalk.i64_in _ (by omega)) (by kernel_rfl) ?_
  refine st_i 52 .i64 (x' := d + 7 * c) (Go.IntWalk.i64_in _ (by omega)) (by kernel_rfl) ?_
  refine st_i 54 .i64 (x' := d + 7 * c + q) (Go.IntWalk.i64_in _ (by omega)) (by kernel_rfl) ?_
  refine st_fn ent48 (hm) sub0 (by kernel_rfl) ?_
  exact st_ret Tryz.func12 (by kernel_rfl)
end
/-! date-times -/
theorem fcadd (h m s n w Q R : Int) (k : tOk h m s n) (hb : -9007199254740992000000000 < w ∧ w < 9007199254740992000000000) (hQ : (tnan h m s n + w).fdiv 86400000000000 = Q) (hR : (tnan h m s n + w).fmod 86400000000000 = R) :
    Fn 58 [] [tv h m s n, wv w] (.tuple #[tv (tH R) (tM R) (tS R) (tN R), .int .i64 Q, .int .i64 0]) := by
  have hw : W128 w := by unfold W128; omega
  have b := tnan_bd k
  have db := dby_f w 86400000000000 hw (by omega) (by unfold I64; omega)
  have e1 : w.fdiv 86400000000000 * 86400000000000 + w.fmod 86400000000000 = w ∧ 0 ≤ w.fmod 86400000000000 ∧ w.fmod 86400000000000 < 86400000000000 := x_split w
  have e2 : Q * 86400000000000 + R = tnan h m s n + w ∧ 0 ≤ R ∧ R < 86400000000000 := by rw [← hQ, ← hR]; exact x_split _
  generalize w.fdiv 86400000000000 = q at *
  generalize w.fmod 86400000000000 = r at *
  have nn := fcnanos_yes h m s n k
  generalize tnan h m s n = t at *
  clear hQ hR k
  obtain ⟨e1, e3, e4⟩ := e1
  obtain ⟨e2, e5, e6⟩ := e2
  by_cases c : t + r < 86400000000000
  · obtain rfl : Q = q := by omega
    obtain rfl : R = t + r := by omega
    have iq : I64 Q := by unfold I64; omega
    refine fn_of Tryz.func58 rfl fun ww => ?_
    refine st_fn ent64 (nn) sub0 (by kernel_rfl) ?_
    refine st_fn ent78 (db) sub0 (by kernel_rfl) ?_
    refine st_i 31 .i64 (x' := t + r) (Go.IntWalk.i64_in _ (by omega)) (by kernel_rfl) ?_
    refine st_b 33 (show (decide (t + r ≥ 86400000000000)) = false by exact decide_eq_false (by omega)) (by kernel_rfl) ?_
    refine st_fn ent47 (wint_f (Q) (by assumption)) sub0 (by kernel_rfl) ?_
    refine st_fn ent80 (fcof_yes (t + r) (by assumption) (by assumption)) sub0 (by kernel_rfl) ?_
    exact st_ret Tryz.func58 (by kernel_rfl)
  · obtain rfl : Q = q + 1 := by omega
    obtain rfl : R = t + r - 86400000000000 := by omega
    have iq : I64 (q + 1) := by unfold I64; omega
    have w1 : W128 q := by unfold W128; omega
    have w2 : W128 (q + 1) := iq.w
    have i1 : I64 1 := by unfold I64; omega
    refine fn_of Tryz.func58 rfl fun ww => ?_
    refine st_fn ent64 (nn) sub0 (by kernel_rfl) ?_
    refine st_fn ent78 (db) sub0 (by kernel_rfl) ?_
    refine st_i 31 .i64 (x' := t + r) (Go.IntWalk.i64_in _ (by omega)) (by kernel_rfl) ?_
    refine st_b 33 (show (decide (t + r ≥ 86400000000000)) = true by exact decide_eq_true (by omega)) (by kernel_rfl) ?_
    refine st_i 35 .i64 (x' := t + r - 86400000000000) (Go.IntWalk.i64_in _ (by omega)) (by kernel_rfl) ?_
    refine st_fn ent40 (wof_fn (1) (by assumption)) sub0 (by kernel_rfl) ?_
    refine st_fn ent21 (wadd_yes (q) (1) (by assumption) (by (unfold W128; omega)) (by assumption)) sub0 (by kernel_rfl) ?_
    refine st_fn ent47 (wint_f (q + 1) (by assumption)) sub0 (by kernel_rfl) ?_
    refine st_fn ent80 (fcof_yes (t + r - 86400000000000) (by assumption) (by assumption)) sub0 (by kernel_rfl) ?_
    exact st_ret Tryz.func58 (by kernel_rfl)
section
variable (y mo D h m s n a b c d hh mi ss nn o A B C e : Int)
theorem cad_a (i : all64 a b c d hh mi ss nn) (k : ¬ (pOk y mo D h m s n ∧ uOk a b c d hh mi ss nn ∧ (o = 1 ∨ o = 2))) : Fn 15 [] [ptv y mo D h m s n, duv a b c d hh mi ss nn, .int .i64 o] (.tuple #[pt0, .int .i64 1]) := by
  by_cases k1 : pOk y mo D h m s n
  · have r1 := pright_yes y mo D h m s n k1
    by_cases k2 : uOk a b c d hh mi ss nn
    · have r2 := uright_y a b c d hh mi ss nn i k2
      have k3 : ¬ (o = 1 ∨ o = 2) := fun q => k ⟨k1, k2, q⟩
      have r3 := cknown_n o k3
      clear i k k1 k2 k3
      refine fn_of Tryz.func15 rfl fun ww => ?_
      refine st_fn ent57 (r1) sub0 (by kernel_rfl) ?_
      refine st_fn ent43 (r2) sub0 (by kernel_rfl) ?_
      refine st_fn ent44 (r3) sub0 (by kernel_rfl) ?_
      exact st_ret Tryz.func15 (by kernel_rfl)
    · have r2 := uright_f a b c d hh mi ss nn i k2
      clear i k k1 k2
      refine fn_of Tryz.func15 rfl fun ww => ?_
      refine st_fn ent57 (r1) sub0 (by kernel_rfl) ?_
      refine st_fn ent43 (r2) sub0 (by kernel_rfl) ?_
      exact st_ret Tryz.func15 (by kernel_rfl)
  · have r1 := pright_no y mo D h m s n k1
    clear i k k1
    refine fn_of Tryz.func15 rfl fun ww => ?_
    refine st_fn ent57 (r1) sub0 (by kernel_rfl) ?_
    exact st_ret Tryz.func15 (by kernel_rfl)
variable (Q R : Int)
theorem cad_e (i : all64 a b c d hh mi ss nn) (k1 : pOk y mo D h m s n) (k2 : uOk a b c d hh mi ss nn) (k3 : o = 1 ∨ o = 2) (hQ : (tnan h m s n + dtot 0 hh mi ss nn).fdiv 86400000000000 = Q) (hR : (tnan h m s n + dtot 0 hh mi ss nn).fmod 86400000000000 = R) (qb : -200000000000 ≤ Q ∧ Q ≤ 200000000000)
    (hm : Fn 48 [] [dv y mo D, .int .i64 (12 * a + b), .int .i64 (d + 7 * c + Q), .int .i64 o] (.tuple #[dv0, .int .i64 e])) (he : e ≠ 0) : Fn 15 [] [ptv y mo D h m s n, duv a b c d hh mi ss nn, .int .i64 o] (.tuple #[pt0, .int .i64 e]) := by
  have r1 := pright_yes y mo D h m s n k1
  have r2 := uright_y a b c d hh mi ss nn i k2
  have r3 := cknown_y o k3
  have r4 := cpart a b c d hh mi ss nn i k2
  obtain ⟨b1, b2, b3, b4, b5⟩ := uOk_bd k2
  have r5 := fcadd h m s n _ Q R k1.2.1 b5 hQ hR
  clear i k1 k2 k3 hQ hR b5
  refine fn_of Tryz.func15 rfl fun ww => ?_
  refine st_fn ent57 (r1) sub0 (by kernel_rfl) ?_
  refine st_fn ent43 (r2) sub0 (by kernel_rfl) ?_
  refine st_fn ent44 (r3) sub0 (by kernel_rfl) ?_
  refine st_fn ent46 (r4) sub0 (by kernel_rfl) ?_
  refine st_fn ent58 (r5) sub0 (by kernel_rfl) ?_
  refine st_i 45 .i64 (x' := 12 * a) (Go.IntWalk.i64_in _ (by omega)) (by kernel_rfl) ?_
  refine st_i 48 .i64 (x' := 12 * a + b) (Go.IntWalk.i64_in _ (by omega)) (by kernel_rfl) ?_
  refine st_i 53 .i64 (x' := 7 * c) (Go.IntWalk.i64_in _ (by omega)) (by kernel_rfl) ?_
  refine st_i 54 .i64 (x' := d + 7 * c) (Go.IntWalk.i64_in _ (by omega)) (by kernel_rfl) ?_
  refine st_i 56 .i64 (x' := d + 7 * c + Q) (Go.IntWalk.i64_in _ (by omega)) (by kernel_rfl) ?_
  refine st_fn ent48 (hm) sub0 (by kernel_rfl) ?_
  refine st_b 66 (show (e != 0) = true by exact bne_iff_ne.2 (by omega)) (by kernel_rfl) ?_
  exact st_ret Tryz.func15 (by kernel_rfl)
theorem cad_n (i : all64 a b c d hh mi ss nn) (k1 : pOk y mo D h m s n) (k2 : uOk a b c d hh mi ss nn) (k3 : o = 1 ∨ o = 2) (hQ : (tnan h m s n + dtot 0 hh mi ss nn).fdiv 86400000000000 = Q) (hR : (tnan h m s n + dtot 0 hh mi ss nn).fmod 86400000000000 = R) (qb : -200000000000 ≤ Q ∧ Q ≤ 200000000000)
    (hm : Fn 48 [] [dv y mo D, .int .i64 (12 * a + b), .int .i64 (d + 7 * c + Q), .int .i64 o] (.tuple #[dv A B C, .int .i64 0])) (hp : ¬ pOk A B C (tH R) (tM R) (tS R) (tN R)) : Fn 15 [] [ptv y mo D h m s n, duv a b c d hh mi ss nn, .int .i64 o] (.tuple #[pt0, .int .i64 4]) := by
  have r1 := pright_yes y mo D h m s n k1
  have r2 := uright_y a b c d hh mi ss nn i k2
  have r3 := cknown_y o k3
  have r4 := cpart a b c d hh mi ss nn i k2
  obtain ⟨b1, b2, b3, b4, b5⟩ := uOk_bd k2
  have r5 := fcadd h m s n _ Q R k1.2.1 b5 hQ hR
  have r6 := pright_no _ _ _ _ _ _ _ hp
  clear i k1 k2 k3 hQ hR b5 hp
  refine fn_of Tryz.func15 rfl fun ww => ?_
  refine st_fn ent57 (r1) sub0 (by kernel_rfl) ?_
  refine st_fn ent43 (r2) sub0 (by kernel_rfl) ?_
  refine st_fn ent44 (r3) sub0 (by kernel_rfl) ?_
  refine st_fn ent46 (r4) sub0 (by kernel_rfl) ?_
  refine st_fn ent58 (r5) sub0 (by kernel_rfl) ?_
  refine st_i 45 .i64 (x' := 12 * a) (Go.IntWalk.i64_in _ (by omega)) (by kernel_rfl) ?_
  refine st_i 48 .i64 (x' := 12 * a + b) (Go.IntWalk.i64_in _ (by omega)) (by kernel_rfl) ?_
  refine st_i 53 .i64 (x' := 7 * c) (Go.IntWalk.i64_in _ (by omega)) (by kernel_rfl) ?_
  refine st_i 54 .i64 (x' := d + 7 * c) (Go.IntWalk.i64_in _ (by omega)) (by kernel_rfl) ?_
  refine st_i 56 .i64 (x' := d + 7 * c + Q) (Go.IntWalk.i64_in _ (by omega)) (by kernel_rfl) ?_
  refine st_fn ent48 (hm) sub0 (by kernel_rfl) ?_
  refine st_fn ent57 (r6) sub0 (by kernel_rfl) ?_
  exact st_ret Tryz.func15 (by kernel_rfl)
theorem cad_y (i : all64 a b c d hh mi ss nn) (k1 : pOk y mo D h m s n) (k2 : uOk a b c d hh mi ss nn) (k3 : o = 1 ∨ o = 2) (hQ : (tnan h m s n + dtot 0 hh mi ss nn).fdiv 86400000000000 = Q) (hR : (tnan h m s n + dtot 0 hh mi ss nn).fmod 86400000000000 = R) (qb : -200000000000 ≤ Q ∧ Q ≤ 200000000000)
    (hm : Fn 48 [] [dv y mo D, .int .i64 (12 * a + b), .int .i64 (d + 7 * c + Q), .int .i64 o] (.tuple #[dv A B C, .int .i64 0])) (hp : pOk A B C (tH R) (tM R) (tS R) (tN R)) : Fn 15 [] [ptv y mo D h m s n, duv a b c d hh mi ss nn, .int .i64 o] (.tuple #[ptv A B C (tH R) (tM R) (tS R) (tN R), .int .i64 0]) := by
  have r1 := pright_yes y mo D h m s n k1
  have r2 := uright_y a b c d hh mi ss nn i k2
  have r3 := cknown_y o k3
  have r4 := cpart a b c d hh mi ss nn i k2
  obtain ⟨b1, b2, b3, b4, b5⟩ := uOk_bd k2
  have r5 := fcadd h m s n _ Q R k1.2.1 b5 hQ hR
  have r6 := pright_yes _ _ _ _ _ _ _ hp
  clear i k1 k2 k3 hQ hR b5 hp
  refine fn_of Tryz.func15 rfl fun ww => ?_
  refine st_fn ent57 (r1) sub0 (by kernel_rfl) ?_
  refine st_fn ent43 (r2) sub0 (by kernel_rfl) ?_
  refine st_fn ent44 (r3) sub0 (by kernel_rfl) ?_
  refine st_fn ent46 (r4) sub0 (by kernel_rfl) ?_
  refine st_fn ent58 (r5) sub0 (by kernel_rfl) ?_
  refine st_i 45 .i64 (x' := 12 * a) (Go.IntWalk.i64_in _ (by omega)) (by kernel_rfl) ?_
  refine st_i 48 .i64 (x' := 12 * a + b) (Go.IntWalk.i64_in _ (by omega)) (by kernel_rfl) ?_
  refine st_i 53 .i64 (x' := 7 * c) (Go.IntWalk.i64_in _ (by omega)) (by kernel_rfl) ?_
  refine st_i 54 .i64 (x' := d + 7 * c) (Go.IntWalk.i64_in _ (by omega)) (by kernel_rfl) ?_
  refine st_i 56 .i64 (x' := d + 7 * c + Q) (Go.IntWalk.i64_in _ (by omega)) (by kernel_rfl) ?_
  refine st_fn ent48 (hm) sub0 (by kernel_rfl) ?_
  refine st_fn ent57 (r6) sub0 (by kernel_rfl) ?_
  exact st_ret Tryz.func15 (by kernel_rfl)
end
end Go.Proofs.YtccllfegnijpiaaGreat
end
section
/-
  What lies between two days, by every unit; what every right program answers of layer 19; the law CalendarUntils.
-/
set_option linter.unusedVariables false
set_option linter.unusedSimpArgs false
set_option maxRecDepth 100000
namespace Go.Proofs.YtccllfegnijpiaaGreat
open Go Go.RowKit Go.Ev

section
variable (L y m d y' m' d' : Int)
abbrev uvd : Value := .tuple #[duv (uY L y m d y' m' d') (uMo L y m d y' m' d') (uW L y m d y' m' d') (uD L y m d y' m' d') 0 0 0 0, .int .i64 0]
theorem duv_eq {a b c d a' b' c' d' : Int} (e1 : a = a') (e2 : b = b') (e3 : c = c') (e4 : d = d') : Value.tuple #[duv a b c d 0 0 0 0, .int .i64 0] = .tuple #[duv a' b' c' d' 0 0 0 0, .int .i64 0] := by rw [e1, e2, e3, e4]
theorem unt_all {f : FuncId} (h : dOk y m d) (h' : dOk y' m' d') (hL : 1 ≤ L) (hL' : L ≤ 4)
    (f0 : ∀ L : Int, (L = 1 ∨ L = 2) → cmp3 y' m' d' y m d = 0 → Fn f [] [dv y m d, dv y' m' d', .int .i64 L] (.tuple #[du0, .int .i64 0]))
    (f1 : ∀ s N T : Int, (s = 1 ∨ s = -1) → cmp3 y' m' d' y m d = s → mM s y m d y' m' d' = N → ymi y m + s * N = T → Fn f [] [dv y m d, dv y' m' d', .int .i64 1] (.tuple #[duv (s * (N / 12)) (s * (N - 12 * (N / 12))) 0 (dnum y' m' d' - dnum (lY T) (lM T) (cD (lY T) (lM T) d)) 0 0 0 0, .int .i64 0]))
    (f2 : ∀ s N T : Int, (s = 1 ∨ s = -1) → cmp3 y' m' d' y m d = s → mM s y m d y' m' d' = N → ymi y m + s * N = T → Fn f [] [dv y m d, dv y' m' d', .int .i64 2] (.tuple #[duv 0 (s * N) 0 (dnum y' m' d' - dnum (lY T) (lM T) (cD (lY T) (lM T) d)) 0 0 0 0, .int .i64 0]))
    (f3 : Fn f [] [dv y m d, dv y' m' d', .int .i64 3] (.tuple #[duv 0 0 ((dnum y' m' d' - dnum y m d).tdiv 7) ((dnum y' m' d' - dnum y m d).tmod 7) 0 0 0 0, .int .i64 0]))
    (f4 : Fn f [] [dv y m d, dv y' m' d', .int .i64 4] (.tuple #[duv 0 0 0 (dnum y' m' d' - dnum y m d) 0 0 0 0, .int .i64 0])) : Fn f [] [dv y m d, dv y' m' d', .int .i64 L] (uvd L y m d y' m' d') := by
  have l : L = 1 ∨ L = 2 ∨ L = 3 ∨ L = 4 := by omega
  have us := until_sign h h' hL hL' _ rfl
  by_cases z : uS y m d y' m' d' = 0
  · obtain ⟨z1, z2, z3, z4⟩ := us.2.2.2.2.2.2.2.2.1 z
    rcases l with rfl | rfl | rfl | rfl
    · have := f0 1 (.inl rfl) z; rwa [show uvd 1 y m d y' m' d' = _ from duv_eq z1 z2 z3 z4]
    · have := f0 2 (.inr rfl) z; rwa [show uvd 2 y m d y' m' d' = _ from duv_eq z1 z2 z3 z4]
    · exact f3
    · exact f4
  · have hs : uS y m d y' m' d' = 1 ∨ uS y m d y' m' d' = -1 := by
      rcases cmp3_tri y' m' d' y m d with k | k | k
      · exact .inr k
      · exact absurd k z
      · exact .inl k
    rcases l with rfl | rfl | rfl | rfl
    · have := f1 (uS y m d y' m' d') (uMM y m d y' m' d') _ hs rfl rfl rfl
      rw [show uMM y m d y' m' d' - 12 * (uMM y m d y' m' d' / 12) = uMM y m d y' m' d' % 12 by omega] at this
      exact this
    · exact f2 (uS y m d y' m' d') (uMM y m d y' m' d') _ hs rfl rfl rfl
    · exact f3
    · exact f4
theorem cunt (h : dOk y m d) (h' : dOk y' m' d') (hL : 1 ≤ L) (hL' : L ≤ 4) : Fn 56 [] [dv y m d, dv y' m' d', .int .i64 L] (uvd L y m d y' m' d') :=
  unt_all L y m d y' m' d' h h' hL hL' (fun L l e => cunt_0 y m d y' m' d' L l h h' e) (fun s N T a b c e => cunt_1 y m d y' m' d' s N T h h' a b c e) (fun s N T a b c e => cunt_2 y m d y' m' d' s N T h h' a b c e) (cunt_3 y m d y' m' d' h h') (cunt_4 y m d y' m' d' h h')
end
/-- Months, then days, put to a day, that lead to a right one. -/
theorem cmoved_c (y m d k n T S : Int) (hT : ymi y m + k = T) (y0 : -10000000 ≤ y) (y1 : y ≤ 10000000) (m1 : 1 ≤ m) (m2 : m ≤ 12) (k0 : -1000000000000 ≤ k) (k1 : k ≤ 1000000000000) (d1 : 1 ≤ d) (q : dOk (lY T) (lM T) (cD (lY T) (lM T) d)) (hS : dnum (lY T) (lM T) (cD (lY T) (lM T) d) + n = S) (S0 : -100000001 ≤ S) (S1 : S ≤ 100000000) :
    Fn 48 [] [dv y m d, .int .i64 k, .int .i64 n, .int .i64 1] (.tuple #[dv (dY S) (dM S) (dD S), .int .i64 0]) := by
  have ad := caddd_yes (lY T) (lM T) (cD (lY T) (lM T) d) n q (by omega) (by omega)
  rw [hS] at ad
  exact cmov_v y m d n T 1 k _ _ _ 0 _ _ _ (clater y m d k T (by unfold ymi at hT; omega) y0 y1 m1 m2 k0 k1) (creg_cy (lY T) (lM T) d (ymi_l T).2.1 (ymi_l T).2.2 d1 q) ad
theorem alive19 : Fn 14 [] [] (.bool true) := by
  have am := cmoved_c 2020 1 31 1 0 24241 (dnum 2020 2 29) (by decide +kernel) (by decide +kernel) (by decide +kernel) (by decide +kernel) (by decide +kernel) (by decide +kernel) (by decide +kernel) (by decide +kernel) (by decide +kernel) (by decide +kernel) (by decide +kernel) (by decide +kernel)
  have av1 := cadt_v 0 1 0 0 0 0 0 0 2020 1 31 1 _ _ _ 0 (by refine ⟨?_, ?_, ?_, ?_, ?_, ?_, ?_, ?_⟩ <;> (unfold I64; omega)) (by decide +kernel) (by decide +kernel) (.inl rfl) 0 (by decide +kernel) am
  rw [show dY (dnum 2020 2 29) = 2020 by decide +kernel, show dM (dnum 2020 2 29) = 2 by decide +kernel, show dD (dnum 2020 2 29) = 29 by decide +kernel] at av1
  have av2 := cunt 1 2020 1 31 2021 3 1 (by decide +kernel) (by decide +kernel) (by decide +kernel) (by decide +kernel)
  rw [show uvd 1 2020 1 31 2021 3 1 = .tuple #[duv 1 1 0 1 0 0 0 0, .int .i64 0] from duv_eq (by decide +kernel) (by decide +kernel) (by decide +kernel) (by decide +kernel)] at av2
  have ad := caddd_yes 2020 2 1 (-1) (by decide +kernel) (by decide +kernel) (by decide +kernel)
  rw [show dnum 2020 2 1 + -1 = dnum 2020 1 31 by decide +kernel, show dY (dnum 2020 1 31) = 2020 by decide +kernel, show dM (dnum 2020 1 31) = 1 by decide +kernel, show dD (dnum 2020 1 31) = 31 by decide +kernel] at ad
  have au := cunt 4 2020 1 31 2020 1 31 (by decide +kernel) (by decide +kernel) (by decide +kernel) (by decide +kernel)
  rw [show uvd 4 2020 1 31 2020 1 31 = .tuple #[duv 0 0 0 0 0 0 0 0, .int .i64 0] from duv_eq (by decide +kernel) (by decide +kernel) (by decide +kernel) (by decide +kernel)] at au
  have al := ulay_y 5 (-79200000000000 + 1 * 86400000000000) (by decide +kernel) (by decide +kernel)
  have av3 := cbet_s 2020 1 31 23 0 0 0 2020 2 1 1 0 0 0 4 0 0 0 0 _ _ _ _ 0 (by decide +kernel) (by decide +kernel) (by decide +kernel) (by decide +kernel) 1 (-79200000000000) (.inr rfl) (by decide +kernel) (by decide +kernel) (by decide +kernel) _ _ _ _ _ _ _ 0 ad au al
  rw [show l5 5 (-79200000000000 + 1 * 86400000000000) = 2 by decide +kernel, show l6 5 (-79200000000000 + 1 * 86400000000000) = 0 by decide +kernel, show l7 5 (-79200000000000 + 1 * 86400000000000) = 0 by decide +kernel, show l8 5 (-79200000000000 + 1 * 86400000000000) = 0 by decide +kernel] at av3
  have bm := cmov_v 2020 2 29 0 24241 2 0 _ _ _ 0 _ _ _ (clater 2020 2 29 0 24241 (by decide +kernel) (by decide +kernel) (by decide +kernel) (by decide +kernel) (by decide +kernel) (by decide +kernel) (by decide +kernel)) (creg_ry 2020 2 29 (by decide +kernel) (by decide +kernel) (by decide +kernel) (by decide +kernel) (by decide +kernel)) (caddd_yes 2020 2 29 0 (by decide +kernel) (by decide +kernel) (by decide +kernel))
  rw [show dnum 2020 2 29 + 0 = dnum 2020 2 29 by decide +kernel, show dY (dnum 2020 2 29) = 2020 by decide +kernel, show dM (dnum 2020 2 29) = 2 by decide +kernel, show dD (dnum 2020 2 29) = 29 by decide +kernel] at bm
  have av4 := cad_y 2020 2 29 0 0 0 0 0 0 0 0 2 0 0 0 2 2020 2 29 0 7200000000000 (by refine ⟨?_, ?_, ?_, ?_, ?_, ?_, ?_, ?_⟩ <;> (unfold I64; omega)) (by decide +kernel) (by decide +kernel) (.inr rfl) (by decide +kernel) (by decide +kernel) (by decide +kernel) bm (by decide +kernel)
  rw [show tH 7200000000000 = 2 by decide +kernel] at av4
  clear am ad au al bm
  refine fn_of Tryz.func14 rfl fun ww => ?_
  refine st_fn ent12 (av1) sub0 (by kernel_rfl) ?_
  refine st_fn ent56 (av2) sub0 (by kernel_rfl) ?_
  refine st_fn ent17 (av3) sub0 (by kernel_rfl) ?_
  refine st_fn ent15 (av4) sub0 (by kernel_rfl) ?_
  exact st_ret Tryz.func14 (by kernel_rfl)
end Go.Proofs.YtccllfegnijpiaaGreat
end
section
/-
  Functions that are entered when they are called (those that only some seats have).
-/
namespace Go.Proofs.YtccllfegnijpiaaGreat
open Go Go.Ev
theorem ent13 : Enters Tryz.prog 13 := enters_of Tryz.func13 (by kernel_rfl) rfl
theorem ent16 : Enters Tryz.prog 16 := enters_of Tryz.func16 (by kernel_rfl) rfl
theorem ent51 : Enters Tryz.prog 51 := enters_of Tryz.func51 (by kernel_rfl) rfl
theorem ent52 : Enters Tryz.prog 52 := enters_of Tryz.func52 (by kernel_rfl) rfl
theorem ent55 : Enters Tryz.prog 55 := enters_of Tryz.func55 (by kernel_rfl) rfl
end Go.Proofs.YtccllfegnijpiaaGreat
end
section
/-
  Date-times: what the reference answers of layer 7.
-/
set_option linter.unusedVariables false
set_option maxRecDepth 100000
namespace Go.Proofs.YtccllfegnijpiaaGreat
open Go Go.RowKit Go.Ev

theorem fzday : FnZ 53 [] [] zv 86400000000000 := by
  have i : I64 86400000000000 := by unfold I64; omega
  refine fnG_of Tryz.func53 rfl fun ww => ?_
  refine st_g ent30 (fzint (86400000000000) (by assumption)) sub0 (by kernel_rfl) (fun zq0 => ?_)
  exact st_retG (zq0) Tryz.func53 (subE 0 rfl (by rfl) sub0) (by kernel_rfl)
theorem time0_no {h m s n : Int} (k : tOk h m s n) (q : tnan h m s n ≠ 0) : (h == 0 && (m == 0 && (s == 0 && (n == 0 && true)))) = false := by
  have := tnan_0 k
  rw [Bool.eq_false_iff]
  intro z
  simp at z
  omega
section
variable (y mo d h m s n : Int)
theorem zright7_yes (k : pOk y mo d h m s n) : Fn 35 [] [ptv y mo d h m s n] (.bool true) := by
  obtain ⟨k1, k2, k3⟩ := k
  by_cases q : dnum y mo d = -100000001
  · have q2 := time0_no k2 fun z => k3 ⟨q, z⟩
    clear k3
    refine fn_of Tryz.func35 rfl fun ww => ?_
    refine st_fn ent92 (zdays_yes (y) (mo) (d) (by assumption)) sub0 (by kernel_rfl) ?_
    refine st_fn ent93 (fzright_yes (h) (m) (s) (n) (by assumption)) sub0 (by kernel_rfl) ?_
    refine st_b 19 (show (dnum y mo d != -100000001) = false by exact bne_eq_false_iff_eq.2 (by omega)) (by kernel_rfl) ?_
    exact st_retv Tryz.func35 (show Value.bool (!(h == 0 && (m == 0 && (s == 0 && (n == 0 && true))))) = _ by (rw [q2]; rfl)) (by kernel_rfl)
  · clear k3
    refine fn_of Tryz.func35 rfl fun ww => ?_
    refine st_fn ent92 (zdays_yes (y) (mo) (d) (by assumption)) sub0 (by kernel_rfl) ?_
    refine st_fn ent93 (fzright_yes (h) (m) (s) (n) (by assumption)) sub0 (by kernel_rfl) ?_
    refine st_b 19 (show (dnum y mo d != -100000001) = true by exact bne_iff_ne.2 (by omega)) (by kernel_rfl) ?_
    exact st_ret Tryz.func35 (by kernel_rfl)
theorem zright7_no (k : ¬ pOk y mo d h m s n) : Fn 35 [] [ptv y mo d h m s n] (.bool false) := by
  by_cases k1 : dOk y mo d
  · by_cases k2 : tOk h m s n
    · have k3 : dnum y mo d = -100000001 ∧ tnan h m s n = 0 := Classical.byContradiction fun q => k ⟨k1, k2, q⟩
      obtain ⟨k4, k5⟩ := k3
      obtain ⟨rfl, rfl, rfl, rfl⟩ := (tnan_0 k2).1 k5
      clear k
      refine fn_of Tryz.func35 rfl fun ww => ?_
      refine st_fn ent92 (zdays_yes (y) (mo) (d) (by assumption)) sub0 (by kernel_rfl) ?_
      refine st_fn ent93 (fzright_yes (0) (0) (0) (0) (by assumption)) sub0 (by kernel_rfl) ?_
      refine st_b 19 (show (dnum y mo d != -100000001) = false by exact bne_eq_false_iff_eq.2 (by omega)) (by kernel_rfl) ?_
      exact st_ret Tryz.func35 (by kernel_rfl)
    · clear k
      refine fn_of Tryz.func35 rfl fun ww => ?_
      refine st_fn ent92 (zdays_yes (y) (mo) (d) (by assumption)) sub0 (by kernel_rfl) ?_
      refine st_fn ent93 (fzright_no (h) (m) (s) (n) (by assumption)) sub0 (by kernel_rfl) ?_
      exact st_ret Tryz.func35 (by kernel_rfl)
  · clear k
    refine fn_of Tryz.func35 rfl fun ww => ?_
    refine st_fn ent92 (zdays_no (y) (mo) (d) (by assumption)) sub0 (by kernel_rfl) ?_
    exact st_ret Tryz.func35 (by kernel_rfl)
end
end Go.Proofs.YtccllfegnijpiaaGreat
end
section
/-
  Durations put to days and to date-times, and what lies between date-times: what the reference answers of layer 19; the laws CalendarAddsDates, CalendarAdds, CalendarBetweens.
-/
set_option linter.unusedVariables false
set_option linter.unusedSimpArgs false
set_option maxRecDepth 100000
namespace Go.Proofs.YtccllfegnijpiaaGreat
open Go Go.RowKit Go.Ev

theorem fzcut (p q : ZQ) (x y : Int) (hx : Bits 1000 x) (hy : Bits 1000 y) (h0 : y ≠ 0) : FnZZ 51 [(p, x), (q, y)] [zv p, zv q] (fun q => .tuple #[zv q.1, zv q.2]) (x.tdiv y) (x.tmod y) := fun w h => (zcut 1000 (by omega) _ _ _ _ _ _ _ _ x y w (two_z h).1 (two_z h).2 hx hy h0).mono fun _ _ => zretZ
section
variable (y m d n T : Int)
theorem zreg_cn (m1 : 1 ≤ m) (m2 : m ≤ 12) (d1 : 1 ≤ d) (k : ¬ dOk y m (cD y m d)) : Fn 116 [] [.int .i64 y, .int .i64 m, .int .i64 d, .int .i64 1] (.tuple #[dv0, .int .i64 4]) := by
  have kc := zmonth y m
  obtain ⟨l, hl⟩ : ∃ l, l = mlen y m := ⟨_, rfl⟩
  have hc : cD y m d = if l < d then l else d := by rw [hl]; rfl
  rw [hc] at k
  rw [← hl] at kc
  by_cases q : l < d
  · rw [if_pos q] at k
    refine fn_of Tryz.func116 rfl fun ww => ?_
    refine st_b 41 (show (decide (m < 1)) = false by exact decide_eq_false (by omega)) (by kernel_rfl) ?_
    refine st_b 43 (show (decide (m > 12)) = false by exact decide_eq_false (by omega)) (by kernel_rfl) ?_
    refine st_b 45 (show (decide (d < 1)) = false by exact decide_eq_false (by omega)) (by kernel_rfl) ?_
    refine st_fn ent134 (kc) sub0 (by kernel_rfl) ?_
    refine st_b 50 (show (decide (d > l)) = true by exact decide_eq_true (by omega)) (by kernel_rfl) ?_
    refine st_fn ent134 (kc) sub0 (by kernel_rfl) ?_
    refine st_fn ent49 (zright5_no (y) (m) (l) (by assumption)) sub0 (by kernel_rfl) ?_
    exact st_ret Tryz.func116 (by kernel_rfl)
  · rw [if_neg q] at k
    refine fn_of Tryz.func116 rfl fun ww => ?_
    refine st_b 41 (show (decide (m < 1)) = false by exact decide_eq_false (by omega)) (by kernel_rfl) ?_
    refine st_b 43 (show (decide (m > 12)) = false by exact decide_eq_false (by omega)) (by kernel_rfl) ?_
    refine st_b 45 (show (decide (d < 1)) = false by exact decide_eq_false (by omega)) (by kernel_rfl) ?_
    refine st_fn ent134 (kc) sub0 (by kernel_rfl) ?_
    refine st_b 50 (show (decide (d > l)) = false by exact decide_eq_false (by omega)) (by kernel_rfl) ?_
    refine st_fn ent49 (zright5_no (y) (m) (d) (by assumption)) sub0 (by kernel_rfl) ?_
    exact st_ret Tryz.func116 (by kernel_rfl)
theorem zreg_rf (m1 : 1 ≤ m) (m2 : m ≤ 12) (d1 : 1 ≤ d) (q : mlen y m < d) : Fn 116 [] [.int .i64 y, .int .i64 m, .int .i64 d, .int .i64 2] (.tuple #[dv0, .int .i64 5]) := by
  refine fn_of Tryz.func116 rfl fun ww => ?_
  refine st_b 22 (show (decide (m < 1)) = false by exact decide_eq_false (by omega)) (by kernel_rfl) ?_
  refine st_b 25 (show (decide (m > 12)) = false by exact decide_eq_false (by omega)) (by kernel_rfl) ?_
  refine st_b 29 (show (decide (d < 1)) = false by exact decide_eq_false (by omega)) (by kernel_rfl) ?_
  refine st_fn ent134 (zmonth (y) (m)) sub0 (by kernel_rfl) ?_
  refine st_b 36 (show (decide (d > mlen y m)) = true by exact decide_eq_true (by omega)) (by kernel_rfl) ?_
  exact st_ret Tryz.func116 (by kernel_rfl)
theorem zreg_ry (m1 : 1 ≤ m) (m2 : m ≤ 12) (d1 : 1 ≤ d) (q : d ≤ mlen y m) (k : dOk y m d) : Fn 116 [] [.int .i64 y, .int .i64 m, .int .i64 d, .int .i64 2] (.tuple #[dv y m d, .int .i64 0]) := by
  refine fn_of Tryz.func116 rfl fun ww => ?_
  refine st_b 22 (show (decide (m < 1)) = false by exact decide_eq_false (by omega)) (by kernel_rfl) ?_
  refine st_b 25 (show (decide (m > 12)) = false by exact decide_eq_false (by omega)) (by kernel_rfl) ?_
  refine st_b 29 (show (decide (d < 1)) = false by exact decide_eq_false (by omega)) (by kernel_rfl) ?_
  refine st_fn ent134 (zmonth (y) (m)) sub0 (by kernel_rfl) ?_
  refine st_b 36 (show (decide (d > mlen y m)) = false by exact decide_eq_false (by omega)) (by kernel_rfl) ?_
  refine st_b 41 (show (decide (m < 1)) = false by exact decide_eq_false (by omega)) (by kernel_rfl) ?_
  refine st_b 43 (show (decide (m > 12)) = false by exact decide_eq_false (by omega)) (by kernel_rfl) ?_
  refine st_b 45 (show (decide (d < 1)) = false by exact decide_eq_false (by omega)) (by kernel_rfl) ?_
  refine st_fn ent134 (zmonth (y) (m)) sub0 (by kernel_rfl) ?_
  refine st_b 50 (show (decide (d > mlen y m)) = false by exact decide_eq_false (by omega)) (by kernel_rfl) ?_
  refine st_fn ent49 (zright5_yes (y) (m) (d) (by assumption)) sub0 (by kernel_rfl) ?_
  exact st_ret Tryz.func116 (by kernel_rfl)
theorem zreg_rn (m1 : 1 ≤ m) (m2 : m ≤ 12) (d1 : 1 ≤ d) (q : d ≤ mlen y m) (k : ¬ dOk y m d) : Fn 116 [] [.int .i64 y, .int .i64 m, .int .i64 d, .int .i64 2] (.tuple #[dv0, .int .i64 4]) := by
  refine fn_of Tryz.func116 rfl fun ww => ?_
  refine st_b 22 (show (decide (m < 1)) = false by exact decide_eq_false (by omega)) (by kernel_rfl) ?_
  refine st_b 25 (show (decide (m > 12)) = false by exact decide_eq_false (by omega)) (by kernel_rfl) ?_
  refine st_b 29 (show (decide (d < 1)) = false by exact decide_eq_false (by omega)) (by kernel_rfl) ?_
  refine st_fn ent134 (zmonth (y) (m)) sub0 (by kernel_rfl) ?_
  refine st_b 36 (show (decide (d > mlen y m)) = false by exact decide_eq_false (by omega)) (by kernel_rfl) ?_
  refine st_b 41 (show (decide (m < 1)) = false by exact decide_eq_false (by omega)) (by kernel_rfl) ?_
  refine st_b 43 (show (decide (m > 12)) = false by exact decide_eq_false (by omega)) (by kernel_rfl) ?_
  refine st_b 45 (show (decide (d < 1)) = false by exact decide_eq_false (by omega)) (by kernel_rfl) ?_
  refine st_fn ent134 (zmonth (y) (m)) sub0 (by kernel_rfl) ?_
  refine st_b 50 (show (decide (d > mlen y m)) = false by exact decide_eq_false (by omega)) (by kernel_rfl) ?_
  refine st_fn ent49 (zright5_no (y) (m) (d) (by assumption)) sub0 (by kernel_rfl) ?_
  exact st_ret Tryz.func116 (by kernel_rfl)
/-- The program and the reference make the same day of fields. -/
theorem reg_both (o : Int) (ho : o = 1 ∨ o = 2) (m1 : 1 ≤ m) (m2 : m ≤ 12) (d1 : 1 ≤ d) :
    (∃ e, e ≠ 0 ∧ Fn 109 [] [.int .i64 y, .int .i64 m, .int .i64 d, .int .i64 o] (.tuple #[dv0, .int .i64 e]) ∧ Fn 116 [] [.int .i64 y, .int .i64 m, .int .i64 d, .int .i64 o] (.tuple #[dv0, .int .i64 e])) ∨
    ∃ D, dOk y m D ∧ Fn 109 [] [.int .i64 y, .int .i64 m, .int .i64 d, .int .i64 o] (.tuple #[dv y m D, .int .i64 0]) ∧ Fn 116 [] [.int .i64 y, .int .i64 m, .int .i64 d, .int .i64 o] (.tuple #[dv y m D, .int .i64 0]) := by
  rcases ho with rfl | rfl
  · by_cases k : dOk y m (cD y m d)
    · exact .inr ⟨_, k, creg_cy y m d m1 m2 d1 k, zreg_cy y m d m1 m2 d1 k⟩
    · exact .inl ⟨4, by decide, creg_cn y m d m1 m2 d1 k, zreg_cn y m d m1 m2 d1 k⟩
  · by_cases q : mlen y m < d
    · exact .inl ⟨5, by decide, creg_rf y m d m1 m2 d1 q, zreg_rf y m d m1 m2 d1 q⟩
    · by_cases k : dOk y m d
      · exact .inr ⟨_, k, creg_ry y m d m1 m2 d1 (by omega) k, zreg_ry y m d m1 m2 d1 (by omega) k⟩
      · exact .inl ⟨4, by decide, creg_rn y m d m1 m2 d1 (by omega) k, zreg_rn y m d m1 m2 d1 (by omega) k⟩
end
section
variable (a b c d h mi s n : Int)
theorem zpart (i : all64 a b c d h mi s n) : FnZ 52 [] [duv a b c d h mi s n] zv (dtot 0 h mi s n) := by
  have t1 : FnZ 113 [] [duv a b c 0 h mi s n] zv (dtot 0 h mi s n) := zutot a b c 0 h mi s n i64_0 i.2.2.2.2.1 i.2.2.2.2.2.1 i.2.2.2.2.2.2.1 i.2.2.2.2.2.2.2
  clear i
  refine fnG_of Tryz.func52 rfl fun ww => ?_
  refine st_g ent113 (t1) sub0 (by kernel_rfl) (fun zq0 => ?_)
  exact st_retG (zq0) Tryz.func52 (subE 0 rfl (by rfl) sub0) (by kernel_rfl)
variable (y m D k q o T A B C e : Int)
theorem zmov_e (hl : Fn 115 [] [dv y m D, .int .i64 a, .int .i64 b] (dv (lY T) (lM T) D)) (hr : Fn 116 [] [.int .i64 (lY T), .int .i64 (lM T), .int .i64 D, .int .i64 o] (.tuple #[dv0, .int .i64 e])) (he : e ≠ 0) :
    Fn 55 [] [dv y m D, duv a b c d h mi s n, .int .i64 q, .int .i64 o] (.tuple #[dv0, .int .i64 e]) := by
  refine fn_of Tryz.func55 rfl fun ww => ?_
  refine st_fn ent115 (hl) sub0 (by kernel_rfl) ?_
  refine st_fn ent116 (hr) sub0 (by kernel_rfl) ?_
  refine st_b 31 (show (e != 0) = true by exact bne_iff_ne.2 (by omega)) (by kernel_rfl) ?_
  exact st_ret Tryz.func55 (by kernel_rfl)
theorem zmov_v (Y M W : Int) (hc : -4294967295 ≤ c ∧ c ≤ 4294967295) (hd : -104249991400 ≤ d ∧ d ≤ 104249991400) (hq : -200000000000 ≤ q ∧ q ≤ 200000000000) (hl : Fn 115 [] [dv y m D, .int .i64 a, .int .i64 b] (dv (lY T) (lM T) D)) (hr : Fn 116 [] [.int .i64 (lY T), .int .i64 (lM T), .int .i64 D, .int .i64 o] (.tuple #[dv Y M W, .int .i64 0])) (ha : Fn 69 [] [dv Y M W, .int .i64 (d + 7 * c + q)] (.tuple #[dv A B C, .int .i64 e])) :
    Fn 55 [] [dv y m D, duv a b c d h mi s n, .int .i64 q, .int .i64 o] (.tuple #[dv A B C, .int .i64 e]) := by
  refine fn_of Tryz.func55 rfl fun ww => ?_
  refine st_fn ent115 (hl) sub0 (by kernel_rfl) ?_
  refine st_fn ent116 (hr) sub0 (by kernel_rfl) ?_
  refine st_i 39 .i64 (x' := 7 * c) (Go.IntWalk.i64_in _ (by omega)) (by kernel_rfl) ?_
  refine st_i 40 .i64 (x' := d + 7 * c) (Go.IntWalk.i64_in _ (by omega)) (by kernel_rfl) ?_
  refine st_i 42 .i64 (x' := d + 7 * c + q) (Go.IntWalk.i64_in _ (by omega)) (by kernel_rfl) ?_
  refine st_fn ent69 (ha) sub0 (by kernel_rfl) ?_
  exact st_ret Tryz.func55 (by kernel_rfl)
/-- The program and the reference put months and days alike. -/
theorem mov_both (ho : o = 1 ∨ o = 2) (k1 : dOk y m D) (k2 : uOk a b c d h mi s n) (hq : -200000000000 ≤ q ∧ q ≤ 200000000000) :
    (∃ e, e ≠ 0 ∧ Fn 48 [] [dv y m D, .int .i64 (12 * a + b), .int .i64 (d + 7 * c + q), .int .i64 o] (.tuple #[dv0, .int .i64 e]) ∧ Fn 55 [] [dv y m D, duv a b c d h mi s n, .int .i64 q, .int .i64 o] (.tuple #[dv0, .int .i64 e])) ∨
    ∃ A B C, Fn 48 [] [dv y m D, .int .i64 (12 * a + b), .int .i64 (d + 7 * c + q), .int .i64 o] (.tuple #[dv A B C, .int .i64 0]) ∧ Fn 55 [] [dv y m D, duv a b c d h mi s n, .int .i64 q, .int .i64 o] (.tuple #[dv A B C, .int .i64 0]) := by
  obtain ⟨b1, b2, b3, b4, b5⟩ := uOk_bd k2
  have yy := dOk_year k1
  obtain ⟨T, hT⟩ : ∃ T, ymi y m + (12 * a + b) = T := ⟨_, rfl⟩
  have hT' := hT
  unfold ymi at hT'
  have lc := clater y m D (12 * a + b) T (by omega) (by omega) (by omega) k1.1.1 k1.1.2.1 (by omega) (by omega)
  have lz := zlater y m D a b T (by omega) (by omega) (by omega) k1.1.1 k1.1.2.1 (by omega) (by omega) (by omega) (by omega)
  rcases reg_both (lY T) (lM T) D o ho (ymi_l T).2.1 (ymi_l T).2.2 k1.1.2.2.1 with ⟨e, he, r1, r2⟩ | ⟨W, kW, r1, r2⟩
  · exact .inl ⟨e, he, cmov_e y m D _ T o _ e lc r1 he, zmov_e a b c d h mi s n y m D q o T e lz r2 he⟩
  · by_cases z : -100000001 ≤ dnum (lY T) (lM T) W + (d + 7 * c + q) ∧ dnum (lY T) (lM T) W + (d + 7 * c + q) ≤ 100000000
    · exact .inr ⟨_, _, _, cmov_v y m D _ T o _ _ _ _ 0 _ _ _ lc r1 (caddd_yes _ _ _ _ kW z.1 z.2), zmov_v a b c d h mi s n y m D q o T _ _ _ 0 _ _ _ b3 b4 hq lz r2 (zaddd_yes _ _ _ _ kW z.1 z.2)⟩
    · exact .inl ⟨4, by decide, cmov_v y m D _ T o _ _ _ _ 4 _ _ _ lc r1 (caddd_no _ _ _ _ kW (by omega)), zmov_v a b c d h mi s n y m D q o T _ _ _ 4 _ _ _ b3 b4 hq lz r2 (zaddd_no _ _ _ _ kW (by omega))⟩
theorem zadt_a (i : all64 a b c d h mi s n) (k : ¬ (dOk y m D ∧ uOk a b c d h mi s n ∧ (o = 1 ∨ o = 2))) : Fn 13 [] [dv y m D, duv a b c d h mi s n, .int .i64 o] (.tuple #[dv0, .int .i64 1]) := by
  by_cases k1 : dOk y m D
  · have kr1 := zright5_yes y m D k1
    by_cases k2 : uOk a b c d h mi s n
    · have kr2 := zuright_y a b c d h mi s n i k2
      have o1 : o ≠ 1 := fun q => k ⟨k1, k2, .inl q⟩
      have o2 : o ≠ 2 := fun q => k ⟨k1, k2, .inr q⟩
      clear i k k1 k2
      refine fn_of Tryz.func13 rfl fun ww => ?_
      refine st_fn ent49 (kr1) sub0 (by kernel_rfl) ?_
      refine st_fn ent50 (kr2) sub0 (by kernel_rfl) ?_
      refine st_b 22 (show (o != 1) = true by exact bne_iff_ne.2 (by omega)) (by kernel_rfl) ?_
      refine st_b 25 (show (o != 2) = true by exact bne_iff_ne.2 (by omega)) (by kernel_rfl) ?_
      exact st_ret Tryz.func13 (by kernel_rfl)
    · have kr2 := zuright_f a b c d h mi s n i k2
      clear i k k1 k2
      refine fn_of Tryz.func13 rfl fun ww => ?_
      refine st_fn ent49 (kr1) sub0 (by kernel_rfl) ?_
      refine st_fn ent50 (kr2) sub0 (by kernel_rfl) ?_
      exact st_ret Tryz.func13 (by kernel_rfl)
  · have kr1 := zright5_no y m D k1
    clear i k k1
    refine fn_of Tryz.func13 rfl fun ww => ?_
    refine st_fn ent49 (kr1) sub0 (by kernel_rfl) ?_
    exact st_ret Tryz.func13 (by kernel_rfl)
theorem zadt_v (i : all64 a b c d h mi s n) (k1 : dOk y m D) (k2 : uOk a b c d h mi s n) (k3 : o = 1 ∨ o = 2) (hq : (dtot 0 h mi s n).tdiv 86400000000000 = q) (hm : Fn 55 [] [dv y m D, duv a b c d h mi s n, .int .i64 q, .int .i64 o] (.tuple #[dv A B C, .int .i64 e])) :
    Fn 13 [] [dv y m D, duv a b c d h mi s n, .int .i64 o] (.tuple #[dv A B C, .int .i64 e]) := by
  have kr1 := zright5_yes y m D k1
  have kr2 := zuright_y a b c d h mi s n i k2
  have kr3 := zpart a b c d h mi s n i
  obtain ⟨b1, b2, b3, b4, b5⟩ := uOk_bd k2
  have tt := td (dtot 0 h mi s n) 86400000000000 (by omega)
  have bx : Bits 1000 (dtot 0 h mi s n) := Bits.mono (show W128 (dtot 0 h mi s n) by unfold W128; omega).bits (by decide)
  have by_ : Bits 1000 86400000000000 := Bits.mono (show W128 86400000000000 by unfold W128; omega).bits (by decide)
  have kr4 : ∀ p q' : ZQ, FnZZ 51 [(p, dtot 0 h mi s n), (q', 86400000000000)] [zv p, zv q'] (fun q => .tuple #[zv q.1, zv q.2]) q ((dtot 0 h mi s n).tmod 86400000000000) := fun p q' => by
    have := fzcut p q' (dtot 0 h mi s n) 86400000000000 bx by_ (by omega); rwa [hq] at this
  have qb : -104249991400 ≤ q ∧ q ≤ 104249991400 := by rw [← hq]; omega
  have iq : I64 q := by unfold I64; omega
  have bq : Bits 1000 q := iq.w.bits.mono (by decide)
  clear i k1 k2 hq tt b5 bx
  rcases k3 with rfl | rfl
  · refine fn_of Tryz.func13 rfl fun ww => ?_
    refine st_fn ent49 (kr1) sub0 (by kernel_rfl) ?_
    refine st_fn ent50 (kr2) sub0 (by kernel_rfl) ?_
    refine st_g ent52 (kr3) sub0 (by kernel_rfl) (fun zq2 => ?_)
    refine st_g ent53 (fzday) sub0 (by kernel_rfl) (fun zq3 => ?_)
    refine st_g ent51 (kr4 (zq2) (zq3)) (subC 1 rfl (subC 0 rfl sub0)) (by kernel_rfl) (fun zq4 => ?_)
    refine st_fn ent54 (fits_f (zq4.fst) (q) (by exact Bits.mono iq.w.bits (by decide)) (by assumption)) (subC 0 rfl sub0) (by kernel_rfl) ?_
    refine st_fn ent55 (hm) sub0 (by kernel_rfl) ?_
    exact st_ret Tryz.func13 (by kernel_rfl)
  · refine fn_of Tryz.func13 rfl fun ww => ?_
    refine st_fn ent49 (kr1) sub0 (by kernel_rfl) ?_
    refine st_fn ent50 (kr2) sub0 (by kernel_rfl) ?_
    refine st_g ent52 (kr3) sub0 (by kernel_rfl) (fun zq2 => ?_)
    refine st_g ent53 (fzday) sub0 (by kernel_rfl) (fun zq3 => ?_)
    refine st_g ent51 (kr4 (zq2) (zq3)) (subC 1 rfl (subC 0 rfl sub0)) (by kernel_rfl) (fun zq4 => ?_)
    refine st_fn ent54 (fits_f (zq4.fst) (q) (by exact Bits.mono iq.w.bits (by decide)) (by assumption)) (subC 0 rfl sub0) (by kernel_rfl) ?_
    refine st_fn ent55 (hm) sub0 (by kernel_rfl) ?_
    exact st_ret Tryz.func13 (by kernel_rfl)
theorem cadd_law (kh1 : Fn 12 [] [dv y m D, duv a b c d h mi s n, .int .i64 o] (.tuple #[dv A B C, .int .i64 e])) (kh2 : Fn 13 [] [dv y m D, duv a b c d h mi s n, .int .i64 o] (.tuple #[dv A B C, .int .i64 e])) :
    Fn 4 [] [dv y m D, duv a b c d h mi s n, .int .i64 o] (.bool true) := by
  refine fn_of Tryz.func4 rfl fun ww => ?_
  refine st_fn ent12 (kh1) sub0 (by kernel_rfl) ?_
  refine st_fn ent13 (kh2) sub0 (by kernel_rfl) ?_
  refine st_fn ent14 (alive19) sub0 (by kernel_rfl) ?_
  refine st_b 29 (show (A == A && (B == B && (C == C && true))) = true by simp_all) (by kernel_rfl) ?_
  exact st_retv Tryz.func4 (show Value.bool (e == e) = _ by simp) (by kernel_rfl)
theorem law_cadts (W : World) (i : all64 a b c d h mi s n) : Calls Tryz.prog 4 #[dv y m D, duv a b c d h mi s n, .int .i64 o] W (fun e w' => e = .returned (.bool true) ∧ Ext W w') := by
  by_cases k : dOk y m D ∧ uOk a b c d h mi s n ∧ (o = 1 ∨ o = 2)
  · obtain ⟨k1, k2, k3⟩ := k
    obtain ⟨b1, b2, b3, b4, b5⟩ := uOk_bd k2
    have tt := td (dtot 0 h mi s n) 86400000000000 (by omega)
    rcases mov_both a b c d h mi s n y m D _ o k3 k1 k2 (show -200000000000 ≤ (dtot 0 h mi s n).tdiv 86400000000000 ∧ (dtot 0 h mi s n).tdiv 86400000000000 ≤ 200000000000 by omega) with ⟨e, -, r1, r2⟩ | ⟨A, B, C, r1, r2⟩
    · exact cadd_law a b c d h mi s n y m D o _ _ _ e (cadt_v a b c d h mi s n y m D o _ _ _ e i k1 k2 k3 _ rfl r1) (zadt_v a b c d h mi s n y m D _ o _ _ _ e i k1 k2 k3 rfl r2) W (zall_nil W)
    · exact cadd_law a b c d h mi s n y m D o _ _ _ 0 (cadt_v a b c d h mi s n y m D o _ _ _ 0 i k1 k2 k3 _ rfl r1) (zadt_v a b c d h mi s n y m D _ o _ _ _ 0 i k1 k2 k3 rfl r2) W (zall_nil W)
  · exact cadd_law a b c d h mi s n y m D o _ _ _ 1 (cadt_a a b c d h mi s n y m D o i k) (zadt_a a b c d h mi s n y m D o i k) W (zall_nil W)
end
end Go.Proofs.YtccllfegnijpiaaGreat
end
section
/-
  Eight numbers that come in have room in 64 bits.
-/
namespace Go.Proofs.YtccllfegnijpiaaGreat

theorem all64_of {a b c d h mi s n : Int} (k : ∀ x ∈ [a, b, c, d, h, mi, s, n], I64 x) : all64 a b c d h mi s n :=
  ⟨k a (by simp), k b (by simp), k c (by simp), k d (by simp), k h (by simp), k mi (by simp), k s (by simp), k n (by simp)⟩
end Go.Proofs.YtccllfegnijpiaaGreat
end
section
/-
  What comes in: a wide number by its two halves, numbers by their bounds.
-/
namespace Go.Proofs.YtccllfegnijpiaaGreat
open Go Go.RowKit

theorem i64_in {n : Int} (h : (Lit.int .i64 n).wf = true) : I64 n := bounds_i64 h
end Go.Proofs.YtccllfegnijpiaaGreat
end
section
/-
  A struct of so many 64-bit numbers that comes in.
-/
namespace Go.Proofs.YtccllfegnijpiaaGreat
open Go Go.RowKit

def intRow (P : Program) (t : TypeId) (n : Nat) : Bool := (match P.underlying t with
  | some (.struct _) => true
  | some (.array _ _) => true
  | _ => false) && decide (P.cellsOf t = n) && match P.cellTypes P.depth t with
  | some ts => decide (ts.length = n) && ts.all fun u => match P.underlying u with
    | some (.int .i64) => true
    | _ => false
  | none => false
theorem cells_in {P : Program} {w : World} {r : Reach} {b : Nat} {ts : List TypeId} (ha : ∀ u, u ∈ ts → P.underlying u = some (.int .i64)) (hne : 0 < ts.length) : ∀ (l : List Value),
    (∀ (i : Nat) (v : Value), l[i]? = some v → ∃ (j : Nat) (u : TypeId), ts[j]? = some u ∧ Cell.okWide P w r b u v) → ∃ xs : List Int, l = xs.map (Value.int .i64) ∧ ∀ x ∈ xs, I64 x
  | [], _ => ⟨[], rfl, fun x h => by cases h⟩
  | v :: l, h => by
    obtain ⟨xs, h1, h2⟩ := cells_in ha hne l fun i v hv => h (i + 1) v (by simpa using hv)
    obtain ⟨j, u, hu, hc⟩ := h 0 v rfl
    have hU := ha u (List.mem_of_getElem? hu)
    obtain ⟨x, rfl, hx⟩ : ∃ x, v = .int .i64 x ∧ I64 x := by
      simp only [Cell.okWide, hU] at hc
      cases v <;> simp [Cell.ok, hU] at hc
      rename_i k x
      obtain ⟨rfl, hk⟩ := hc
      refine ⟨x, rfl, ?_⟩
      have m0 : IntKind.i64.min = -9223372036854775808 := by decide
      have m1 : IntKind.i64.max = 9223372036854775807 := by decide
      unfold IntKind.has at hk
      rw [m0, m1] at hk
      exact hk
    exact ⟨x :: xs, by rw [h1]; rfl, fun y hy => by
      rcases List.mem_cons.1 hy with rfl | hy
      · exact hx
      · exact h2 y hy⟩
theorem ints_in {P : Program} {w : World} {r : Reach} {b : Nat} {t : TypeId} {n : Nat} {v : Value} (hn : 0 < n) (ht : intRow P t n = true) (hv : Value.okWide P w r b t v) : ∃ xs : List Int, v = .agg (xs.map (Value.int .i64)).toArray ∧ xs.length = n ∧ ∀ x ∈ xs, I64 x := by
  unfold intRow at ht
  rw [Bool.and_eq_true, Bool.and_eq_true] at ht
  obtain ⟨⟨hs, hc⟩, hl⟩ := ht
  obtain ⟨cs, rfl, hsz, ts, hts, -, hcell⟩ : ∃ cs, v = .agg cs ∧ cs.size = P.cellsOf t ∧ Row.okWide P w r b t cs := by
    unfold Value.okWide at hv
    split at hv
    · exact hv
    · exact hv
    · rename_i h1 h2
      split at hs
      · rename_i fs h; exact absurd h (h1 fs)
      · rename_i m e h; exact absurd h (h2 m e)
      · cases hs
  rw [hts] at hl
  simp only [Bool.and_eq_true, decide_eq_true_eq, List.all_eq_true] at hl hc
  have ha : ∀ u ∈ ts, P.underlying u = some (.int .i64) := fun u hu => by
    have := hl.2 u hu
    split at this
    · assumption
    · cases this
  obtain ⟨xs, h1, h2⟩ := cells_in (P := P) (w := w) (r := r) (b := b) ha (by omega) cs.toList fun i v hv => by
    obtain ⟨u, h3, h4⟩ := hcell i v (by simpa using hv)
    exact ⟨_, u, h3, h4⟩
  have e : cs = (xs.map (Value.int .i64)).toArray := by rw [← h1]
  refine ⟨xs, by rw [e], ?_, h2⟩
  have := congrArg Array.size e
  simp at this; omega
theorem list3 {α : Type} {l : List α} (h : l.length = 3) : ∃ a b c, l = [a, b, c] := by
  match l, h with
  | [a, b, c], _ => exact ⟨a, b, c, rfl⟩
theorem list7 {α : Type} {l : List α} (h : l.length = 7) : ∃ a b c d e f g, l = [a, b, c, d, e, f, g] := by
  match l, h with
  | [a, b, c, d, e, f, g], _ => exact ⟨a, b, c, d, e, f, g, rfl⟩
theorem list8 {α : Type} {l : List α} (h : l.length = 8) : ∃ a b c d e f g i, l = [a, b, c, d, e, f, g, i] := by
  match l, h with
  | [a, b, c, d, e, f, g, i], _ => exact ⟨a, b, c, d, e, f, g, i, rfl⟩
end Go.Proofs.YtccllfegnijpiaaGreat
end
section
/-
  Durations put to date-times, and what lies between date-times: what the reference answers of layer 19; the laws CalendarAdds, CalendarBetweens.
-/
set_option linter.unusedVariables false
set_option linter.unusedSimpArgs false
set_option maxRecDepth 100000
namespace Go.Proofs.YtccllfegnijpiaaGreat
open Go Go.RowKit Go.Ev

section
variable (y mo D h m s n a b c d hh mi ss nn o A B C e Q R : Int)
theorem zad_a (i : all64 a b c d hh mi ss nn) (k : ¬ (pOk y mo D h m s n ∧ uOk a b c d hh mi ss nn ∧ (o = 1 ∨ o = 2))) : Fn 16 [] [ptv y mo D h m s n, duv a b c d hh mi ss nn, .int .i64 o] (.tuple #[pt0, .int .i64 1]) := by
  by_cases k1 : pOk y mo D h m s n
  · have kr1 := zright7_yes y mo D h m s n k1
    by_cases k2 : uOk a b c d hh mi ss nn
    · have kr2 := zuright_y a b c d hh mi ss nn i k2
      have o1 : o ≠ 1 := fun q => k ⟨k1, k2, .inl q⟩
      have o2 : o ≠ 2 := fun q => k ⟨k1, k2, .inr q⟩
      clear i k k1 k2
      refine fn_of Tryz.func16 rfl fun ww => ?_
      refine st_fn ent35 (kr1) sub0 (by kernel_rfl) ?_
      refine st_fn ent50 (kr2) sub0 (by kernel_rfl) ?_
      refine st_b 27 (show (o != 1) = true by exact bne_iff_ne.2 (by omega)) (by kernel_rfl) ?_
      refine st_b 30 (show (o != 2) = true by exact bne_iff_ne.2 (by omega)) (by kernel_rfl) ?_
      exact st_ret Tryz.func16 (by kernel_rfl)
    · have kr2 := zuright_f a b c d hh mi ss nn i k2
      clear i k k1 k2
      refine fn_of Tryz.func16 rfl fun ww => ?_
      refine st_fn ent35 (kr1) sub0 (by kernel_rfl) ?_
      refine st_fn ent50 (kr2) sub0 (by kernel_rfl) ?_
      exact st_ret Tryz.func16 (by kernel_rfl)
  · have kr1 := zright7_no y mo D h m s n k1
    clear i k k1
    refine fn_of Tryz.func16 rfl fun ww => ?_
    refine st_fn ent35 (kr1) sub0 (by kernel_rfl) ?_
    exact st_ret Tryz.func16 (by kernel_rfl)
/-- The days and the rest of a time and a duration, as the reference reckons them. -/
theorem zdays_r (k : tOk h m s n) (hb : -9007199254740992000000000 < dtot 0 hh mi ss nn ∧ dtot 0 hh mi ss nn < 9007199254740992000000000) (hQ : (tnan h m s n + dtot 0 hh mi ss nn).fdiv 86400000000000 = Q) (hR : (tnan h m s n + dtot 0 hh mi ss nn).fmod 86400000000000 = R) :
    (∀ p q : ZQ, FnZZ 59 [(p, tnan h m s n + dtot 0 hh mi ss nn), (q, 86400000000000)] [zv p, zv q] (fun q => .tuple #[zv q.1, zv q.2]) Q R) ∧ I64 (tnan h m s n) ∧ W128 (dtot 0 hh mi ss nn) ∧ I64 Q ∧ I64 R ∧ 0 ≤ R ∧ R < 86400000000000 := by
  have b := tnan_bd k
  have e2 : Q * 86400000000000 + R = tnan h m s n + dtot 0 hh mi ss nn ∧ 0 ≤ R ∧ R < 86400000000000 := by rw [← hQ, ← hR]; exact x_split _
  have bx : Bits 1000 (tnan h m s n + dtot 0 hh mi ss nn) := Bits.mono (show W128 (tnan h m s n + dtot 0 hh mi ss nn) by unfold W128; omega).bits (by decide)
  have by_ : Bits 1000 86400000000000 := Bits.mono (show W128 86400000000000 by unfold W128; omega).bits (by decide)
  refine ⟨fun p q => ?_, by unfold I64; omega, by unfold W128; omega, by unfold I64; omega, by unfold I64; omega, e2.2.1, e2.2.2⟩
  have := fzdiv p q _ 86400000000000 bx by_ (by omega)
  rwa [hQ, hR] at this
theorem zad_e (i : all64 a b c d hh mi ss nn) (k1 : pOk y mo D h m s n) (k2 : uOk a b c d hh mi ss nn) (k3 : o = 1 ∨ o = 2) (hQ : (tnan h m s n + dtot 0 hh mi ss nn).fdiv 86400000000000 = Q) (hR : (tnan h m s n + dtot 0 hh mi ss nn).fmod 86400000000000 = R)
    (hm : Fn 55 [] [dv y mo D, duv a b c d hh mi ss nn, .int .i64 Q, .int .i64 o] (.tuple #[dv0, .int .i64 e])) (he : e ≠ 0) : Fn 16 [] [ptv y mo D h m s n, duv a b c d hh mi ss nn, .int .i64 o] (.tuple #[pt0, .int .i64 e]) := by
  have kr1 := zright7_yes y mo D h m s n k1
  have kr2 := zuright_y a b c d hh mi ss nn i k2
  have kr3 := zpart a b c d hh mi ss nn i
  have kr4 := fznanos h m s n k1.2.1
  obtain ⟨kr5, i1, i2, i3, i4, r0, r1⟩ := zdays_r h m s n hh mi ss nn Q R k1.2.1 (uOk_bd k2).2.2.2.2 hQ hR
  have bq : Bits 1000 Q := i3.w.bits.mono (by decide)
  have br : Bits 1000 R := i4.w.bits.mono (by decide)
  clear i k1 k2 hQ hR
  rcases k3 with rfl | rfl
  · refine fn_of Tryz.func16 rfl fun ww => ?_
    refine st_fn ent35 (kr1) sub0 (by kernel_rfl) ?_
    refine st_fn ent50 (kr2) sub0 (by kernel_rfl) ?_
    refine st_fn ent60 (kr4) sub0 (by kernel_rfl) ?_
    refine st_g ent30 (fzint (tnan h m s n) (by assumption)) sub0 (by kernel_rfl) (fun zq3 => ?_)
    refine st_g ent52 (kr3) sub0 (by kernel_rfl) (fun zq4 => ?_)
    refine st_g ent27 (fzadd (zq3) (zq4) (tnan h m s n) (dtot 0 hh mi ss nn) (by exact Bits.fit i1.w.bits (by decide)) (by exact Bits.fit i2.bits (by decide))) (subC 1 rfl (subC 0 rfl sub0)) (by kernel_rfl) (fun zq5 => ?_)
    refine st_g ent53 (fzday) sub0 (by kernel_rfl) (fun zq6 => ?_)
    refine st_g ent59 (kr5 (zq5) (zq6)) (subC 1 rfl (subC 0 rfl sub0)) (by kernel_rfl) (fun zq7 => ?_)
    refine st_fn ent54 (fits_f (zq7.fst) (Q) (by exact Bits.mono i3.w.bits (by decide)) (by assumption)) (subC 0 rfl sub0) (by kernel_rfl) ?_
    refine st_fn ent54 (fits_f (zq7.snd) (R) (by exact Bits.mono i4.w.bits (by decide)) (by assumption)) (subC 1 rfl sub0) (by kernel_rfl) ?_
    refine st_fn ent55 (hm) sub0 (by kernel_rfl) ?_
    refine st_b 66 (show (e != 0) = true by exact bne_iff_ne.2 (by omega)) (by kernel_rfl) ?_
    exact st_ret Tryz.func16 (by kernel_rfl)
  · refine fn_of Tryz.func16 rfl fun ww => ?_
    refine st_fn ent35 (kr1) sub0 (by kernel_rfl) ?_
    refine st_fn ent50 (kr2) sub0 (by kernel_rfl) ?_
    refine st_fn ent60 (kr4) sub0 (by kernel_rfl) ?_
    refine st_g ent30 (fzint (tnan h m s n) (by assumption)) sub0 (by kernel_rfl) (fun zq3 => ?_)
    refine st_g ent52 (kr3) sub0 (by kernel_rfl) (fun zq4 => ?_)
    refine st_g ent27 (fzadd (zq3) (zq4) (tnan h m s n) (dtot 0 hh mi ss nn) (by exact Bits.fit i1.w.bits (by decide)) (by exact Bits.fit i2.bits (by decide))) (subC 1 rfl (subC 0 rfl sub0)) (by kernel_rfl) (fun zq5 => ?_)
    refine st_g ent53 (fzday) sub0 (by kernel_rfl) (fun zq6 => ?_)
    refine st_g ent59 (kr5 (zq5) (zq6)) (subC 1 rfl (subC 0 rfl sub0)) (by kernel_rfl) (fun zq7 => ?_)
    refine st_fn ent54 (fits_f (zq7.fst) (Q) (by exact Bits.mono i3.w.bits (by decide)) (by assumption)) (subC 0 rfl sub0) (by kernel_rfl) ?_
    refine st_fn ent54 (fits_f (zq7.snd) (R) (by exact Bits.mono i4.w.bits (by decide)) (by assumption)) (subC 1 rfl sub0) (by kernel_rfl) ?_
    refine st_fn ent55 (hm) sub0 (by kernel_rfl) ?_
    refine st_b 66 (show (e != 0) = true by exact bne_iff_ne.2 (by omega)) (by kernel_rfl) ?_
    exact st_ret Tryz.func16 (by kernel_rfl)
theorem zad_n (i : all64 a b c d hh mi ss nn) (k1 : pOk y mo D h m s n) (k2 : uOk a b c d hh mi ss nn) (k3 : o = 1 ∨ o = 2) (hQ : (tnan h m s n + dtot 0 hh mi ss nn).fdiv 86400000000000 = Q) (hR : (tnan h m s n + dtot 0 hh mi ss nn).fmod 86400000000000 = R)
    (hm : Fn 55 [] [dv y mo D, duv a b c d hh mi ss nn, .int .i64 Q, .int .i64 o] (.tuple #[dv A B C, .int .i64 0])) (hp : ¬ pOk A B C (tH R) (tM R) (tS R) (tN R)) : Fn 16 [] [ptv y mo D h m s n, duv a b c d hh mi ss nn, .int .i64 o] (.tuple #[pt0, .int .i64 4]) := by
  have kr1 := zright7_yes y mo D h m s n k1
  have kr2 := zuright_y a b c d hh mi ss nn i k2
  have kr3 := zpart a b c d hh mi ss nn i
  have kr4 := fznanos h m s n k1.2.1
  have kr6 := zright7_no _ _ _ _ _ _ _ hp
  obtain ⟨kr5, i1, i2, i3, i4, r0, r1⟩ := zdays_r h m s n hh mi ss nn Q R k1.2.1 (uOk_bd k2).2.2.2.2 hQ hR
  have bq : Bits 1000 Q := i3.w.bits.mono (by decide)
  have br : Bits 1000 R := i4.w.bits.mono (by decide)
  clear i k1 k2 hQ hR hp
  rcases k3 with rfl | rfl
  · refine fn_of Tryz.func16 rfl fun ww => ?_
    refine st_fn ent35 (kr1) sub0 (by kernel_rfl) ?_
    refine st_fn ent50 (kr2) sub0 (by kernel_rfl) ?_
    refine st_fn ent60 (kr4) sub0 (by kernel_rfl) ?_
    refine st_g ent30 (fzint (tnan h m s n) (by assumption)) sub0 (by kernel_rfl) (fun zq3 => ?_)
    refine st_g ent52 (kr3) sub0 (by kernel_rfl) (fun zq4 => ?_)
    refine st_g ent27 (fzadd (zq3) (zq4) (tnan h m s n) (dtot 0 hh mi ss nn) (by exact Bits.fit i1.w.bits (by decide)) (by exact Bits.fit i2.bits (by decide))) (subC 1 rfl (subC 0 rfl sub0)) (by kernel_rfl) (fun zq5 => ?_)
    refine st_g ent53 (fzday) sub0 (by kernel_rfl) (fun zq6 => ?_)
    refine st_g ent59 (kr5 (zq5) (zq6)) (subC 1 rfl (subC 0 rfl sub0)) (by kernel_rfl) (fun zq7 => ?_)
    refine st_fn ent54 (fits_f (zq7.fst) (Q) (by exact Bits.mono i3.w.bits (by decide)) (by assumption)) (subC 0 rfl sub0) (by kernel_rfl) ?_
    refine st_fn ent54 (fits_f (zq7.snd) (R) (by exact Bits.mono i4.w.bits (by decide)) (by assumption)) (subC 1 rfl sub0) (by kernel_rfl) ?_
    refine st_fn ent55 (hm) sub0 (by kernel_rfl) ?_
    refine st_fn ent61 (fzof (R) (by assumption) (by assumption)) sub0 (by kernel_rfl) ?_
    refine st_fn ent35 (kr6) sub0 (by kernel_rfl) ?_
    exact st_ret Tryz.func16 (by kernel_rfl)
  · refine fn_of Tryz.func16 rfl fun ww => ?_
    refine st_fn ent35 (kr1) sub0 (by kernel_rfl) ?_
    refine st_fn ent50 (kr2) sub0 (by kernel_rfl) ?_
    refine st_fn ent60 (kr4) sub0 (by kernel_rfl) ?_
    refine st_g ent30 (fzint (tnan h m s n) (by assumption)) sub0 (by kernel_rfl) (fun zq3 => ?_)
    refine st_g ent52 (kr3) sub0 (by kernel_rfl) (fun zq4 => ?_)
    refine st_g ent27 (fzadd (zq3) (zq4) (tnan h m s n) (dtot 0 hh mi ss nn) (by exact Bits.fit i1.w.bits (by decide)) (by exact Bits.fit i2.bits (by decide))) (subC 1 rfl (subC 0 rfl sub0)) (by kernel_rfl) (fun zq5 => ?_)
    refine st_g ent53 (fzday) sub0 (by kernel_rfl) (fun zq6 => ?_)
    refine st_g ent59 (kr5 (zq5) (zq6)) (subC 1 rfl (subC 0 rfl sub0)) (by kernel_rfl) (fun zq7 => ?_)
    refine st_fn ent54 (fits_f (zq7.fst) (Q) (by exact Bits.mono i3.w.bits (by decide)) (by assumption)) (subC 0 rfl sub0) (by kernel_rfl) ?_
    refine st_fn ent54 (fits_f (zq7.snd) (R) (by exact Bits.mono i4.w.bits (by decide)) (by assumption)) (subC 1 rfl sub0) (by kernel_rfl) ?_
    refine st_fn ent55 (hm) sub0 (by kernel_rfl) ?_
    refine st_fn ent61 (fzof (R) (by assumption) (by assumption)) sub0 (by kernel_rfl) ?_
    refine st_fn ent35 (kr6) sub0 (by kernel_rfl) ?_
    exact st_ret Tryz.func16 (by kernel_rfl)
theorem zad_y (i : all64 a b c d hh mi ss nn) (k1 : pOk y mo D h m s n) (k2 : uOk a b c d hh mi ss nn) (k3 : o = 1 ∨ o = 2) (hQ : (tnan h m s n + dtot 0 hh mi ss nn).fdiv 86400000000000 = Q) (hR : (tnan h m s n + dtot 0 hh mi ss nn).fmod 86400000000000 = R)
    (hm : Fn 55 [] [dv y mo D, duv a b c d hh mi ss nn, .int .i64 Q, .int .i64 o] (.tuple #[dv A B C, .int .i64 0])) (hp : pOk A B C (tH R) (tM R) (tS R) (tN R)) : Fn 16 [] [ptv y mo D h m s n, duv a b c d hh mi ss nn, .int .i64 o] (.tuple #[ptv A B C (tH R) (tM R) (tS R) (tN R), .int .i64 0]) := by
  have kr1 := zright7_yes y mo D h m s n k1
  have kr2 := zuright_y a b c d hh mi ss nn i k2
  have kr3 := zpart a b c d hh mi ss nn i
  have kr4 := fznanos h m s n k1.2.1
  have kr6 := zright7_yes _ _ _ _ _ _ _ hp
  obtain ⟨kr5, i1, i2, i3, i4, r0, r1⟩ := zdays_r h m s n hh mi ss nn Q R k1.2.1 (uOk_bd k2).2.2.2.2 hQ hR
  have bq : Bits 1000 Q := i3.w.bits.mono (by decide)
  have br : Bits 1000 R := i4.w.bits.mono (by decide)
  clear i k1 k2 hQ hR hp
  rcases k3 with rfl | rfl
  · refine fn_of Tryz.func16 rfl fun ww => ?_
    refine st_fn ent35 (kr1) sub0 (by kernel_rfl) ?_
    refine st_fn ent50 (kr2) sub0 (by kernel_rfl) ?_
    refine st_fn ent60 (kr4) sub0 (by kernel_rfl) ?_
    refine st_g ent30 (fzint (tnan h m s n) (by assumption)) sub0 (by kernel_rfl) (fun zq3 => ?_)
    refine st_g ent52 (kr3) sub0 (by kernel_rfl) (fun zq4 => ?_)
    refine st_g ent27 (fzadd (zq3) (zq4) (tnan h m s n) (dtot 0 hh mi ss nn) (by exact Bits.fit i1.w.bits (by decide)) (by exact Bits.fit i2.bits (by decide))) (subC 1 rfl (subC 0 rfl sub0)) (by kernel_rfl) (fun zq5 => ?_)
    refine st_g ent53 (fzday) sub0 (by kernel_rfl) (fun zq6 => ?_)
    refine st_g ent59 (kr5 (zq5) (zq6)) (subC 1 rfl (subC 0 rfl sub0)) (by kernel_rfl) (fun zq7 => ?_)
    refine st_fn ent54 (fits_f (zq7.fst) (Q) (by exact Bits.mono i3.w.bits (by decide)) (by assumption)) (subC 0 rfl sub0) (by kernel_rfl) ?_
    refine st_fn ent54 (fits_f (zq7.snd) (R) (by exact Bits.mono i4.w.bits (by decide)) (by assumption)) (subC 1 rfl sub0) (by kernel_rfl) ?_
    refine st_fn ent55 (hm) sub0 (by kernel_rfl) ?_
    refine st_fn ent61 (fzof (R) (by assumption) (by assumption)) sub0 (by kernel_rfl) ?_
    refine st_fn ent35 (kr6) sub0 (by kernel_rfl) ?_
    exact st_ret Tryz.func16 (by kernel_rfl)
  · refine fn_of Tryz.func16 rfl fun ww => ?_
    refine st_fn ent35 (kr1) sub0 (by kernel_rfl) ?_
    refine st_fn ent50 (kr2) sub0 (by kernel_rfl) ?_
    refine st_fn ent60 (kr4) sub0 (by kernel_rfl) ?_
    refine st_g ent30 (fzint (tnan h m s n) (by assumption)) sub0 (by kernel_rfl) (fun zq3 => ?_)
    refine st_g ent52 (kr3) sub0 (by kernel_rfl) (fun zq4 => ?_)
    refine st_g ent27 (fzadd (zq3) (zq4) (tnan h m s n) (dtot 0 hh mi ss nn) (by exact Bits.fit i1.w.bits (by decide)) (by exact Bits.fit i2.bits (by decide))) (subC 1 rfl (subC 0 rfl sub0)) (by kernel_rfl) (fun zq5 => ?_)
    refine st_g ent53 (fzday) sub0 (by kernel_rfl) (fun zq6 => ?_)
    refine st_g ent59 (kr5 (zq5) (zq6)) (subC 1 rfl (subC 0 rfl sub0)) (by kernel_rfl) (fun zq7 => ?_)
    refine st_fn ent54 (fits_f (zq7.fst) (Q) (by exact Bits.mono i3.w.bits (by decide)) (by assumption)) (subC 0 rfl sub0) (by kernel_rfl) ?_
    refine st_fn ent54 (fits_f (zq7.snd) (R) (by exact Bits.mono i4.w.bits (by decide)) (by assumption)) (subC 1 rfl sub0) (by kernel_rfl) ?_
    refine st_fn ent55 (hm) sub0 (by kernel_rfl) ?_
    refine st_fn ent61 (fzof (R) (by assumption) (by assumption)) sub0 (by kernel_rfl) ?_
    refine st_fn ent35 (kr6) sub0 (by kernel_rfl) ?_
    exact st_ret Tryz.func16 (by kernel_rfl)
variable (E F G : Int)
theorem cads_v (kh1 : Fn 15 [] [ptv y mo D h m s n, duv a b c d hh mi ss nn, .int .i64 o] (.tuple #[ptv A B C Q R E F, .int .i64 e])) (kh2 : Fn 16 [] [ptv y mo D h m s n, duv a b c d hh mi ss nn, .int .i64 o] (.tuple #[ptv A B C Q R E F, .int .i64 e])) :
    Fn 5 [] [ptv y mo D h m s n, duv a b c d hh mi ss nn, .int .i64 o] (.bool true) := by
  refine fn_of Tryz.func5 rfl fun ww => ?_
  refine st_fn ent15 (kh1) sub0 (by kernel_rfl) ?_
  refine st_fn ent16 (kh2) sub0 (by kernel_rfl) ?_
  refine st_fn ent14 (alive19) sub0 (by kernel_rfl) ?_
  refine st_b 29 (show (A == A && (B == B && (C == C && true)) && (Q == Q && (R == R && (E == E && (F == F && true))) && true)) = true by simp_all) (by kernel_rfl) ?_
  exact st_retv Tryz.func5 (show Value.bool (e == e) = _ by simp) (by kernel_rfl)
end
section
variable (y mo D h m s n a b c d hh mi ss nn o : Int)
/-- The program and the reference put a duration to a date-time alike. -/
theorem cads_both (i : all64 a b c d hh mi ss nn) : ∃ A B C E F G H e : Int, Fn 15 [] [ptv y mo D h m s n, duv a b c d hh mi ss nn, .int .i64 o] (.tuple #[ptv A B C E F G H, .int .i64 e]) ∧ Fn 16 [] [ptv y mo D h m s n, duv a b c d hh mi ss nn, .int .i64 o] (.tuple #[ptv A B C E F G H, .int .i64 e]) := by
  by_cases k : pOk y mo D h m s n ∧ uOk a b c d hh mi ss nn ∧ (o = 1 ∨ o = 2)
  · obtain ⟨k1, k2, k3⟩ := k
    obtain ⟨b1, b2, b3, b4, b5⟩ := uOk_bd k2
    have tb := tnan_bd k1.2.1
    obtain ⟨Q, hQ⟩ : ∃ Q, (tnan h m s n + dtot 0 hh mi ss nn).fdiv 86400000000000 = Q := ⟨_, rfl⟩
    obtain ⟨R, hR⟩ : ∃ R, (tnan h m s n + dtot 0 hh mi ss nn).fmod 86400000000000 = R := ⟨_, rfl⟩
    have e2 : Q * 86400000000000 + R = tnan h m s n + dtot 0 hh mi ss nn ∧ 0 ≤ R ∧ R < 86400000000000 := by rw [← hQ, ← hR]; exact x_split _
    have qb : -200000000000 ≤ Q ∧ Q ≤ 200000000000 := by omega
    rcases mov_both a b c d hh mi ss nn y mo D Q o k3 k1.1 k2 qb with ⟨e, he, r1, r2⟩ | ⟨A, B, C, r1, r2⟩
    · exact ⟨_, _, _, _, _, _, _, _, cad_e y mo D h m s n a b c d hh mi ss nn o e Q R i k1 k2 k3 hQ hR qb r1 he, zad_e y mo D h m s n a b c d hh mi ss nn o e Q R i k1 k2 k3 hQ hR r2 he⟩
    · by_cases hp : pOk A B C (tH R) (tM R) (tS R) (tN R)
      · exact ⟨_, _, _, _, _, _, _, _, cad_y y mo D h m s n a b c d hh mi ss nn o A B C Q R i k1 k2 k3 hQ hR qb r1 hp, zad_y y mo D h m s n a b c d hh mi ss nn o A B C Q R i k1 k2 k3 hQ hR r2 hp⟩
      · exact ⟨_, _, _, _, _, _, _, _, cad_n y mo D h m s n a b c d hh mi ss nn o A B C Q R i k1 k2 k3 hQ hR qb r1 hp, zad_n y mo D h m s n a b c d hh mi ss nn o A B C Q R i k1 k2 k3 hQ hR r2 hp⟩
  · exact ⟨_, _, _, _, _, _, _, _, cad_a y mo D h m s n a b c d hh mi ss nn o i k, zad_a y mo D h m s n a b c d hh mi ss nn o i k⟩
theorem law_cads (W : World) (i : all64 a b c d hh mi ss nn) : Calls Tryz.prog 5 #[ptv y mo D h m s n, duv a b c d hh mi ss nn, .int .i64 o] W (fun e w' => e = .returned (.bool true) ∧ Ext W w') := by
  obtain ⟨A, B, C, E, F, G, H, e, h1, h2⟩ := cads_both y mo D h m s n a b c d hh mi ss nn o i
  exact cads_v y mo D h m s n a b c d hh mi ss nn o A B C e E F G H h1 h2 W (zall_nil W)
end
end Go.Proofs.YtccllfegnijpiaaGreat
end
