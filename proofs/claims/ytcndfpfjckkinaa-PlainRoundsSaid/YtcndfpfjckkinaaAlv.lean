/-
  What every right program answers (layer 4), and the law RoundTos, walked.
-/
import Derived.Test.YtcndfpfjckkinaaNea
import Derived.Test.YtcndfpfjckkinaaDfr
set_option linter.unusedVariables false
set_option maxRecDepth 100000
namespace Go.Proofs.Ytcndfpfjckkinaa
open Go Go.RowKit Go.Ev

theorem to_c : Fn 104 [] [wv (-15), wv 10, .int .i64 7] (.tuple #[wv (-20), .int .i64 0]) := by
  have h := to_ok (-15) 10 7 (by unfold W128; omega) (by unfold W128; omega) (by omega) (by omega) (by omega)
  rw [show (10 : Int) * nearQ (-15) 10 7 = -20 by decide, rtv_yes (by unfold W128; omega)] at h
  exact h
theorem frac_c : Fn 172 [] [wv 7, wv (-2)] (.tuple #[wv (-7), wv 2, .int .i64 0]) := fun w _ =>
  (dfrac_any 7 (-2) w (by unfold W128; omega) (by unfold W128; omega)).mono fun e w' ⟨h1, h2⟩ => by
    have e1 : frP 7 (-2) = -7 := by decide
    have e2 : frQ 7 (-2) = 2 := by decide
    have hk : fOk 7 (-2) := ⟨by decide, by rw [e1]; unfold W128; omega, by rw [e2]; unfold W128; omega⟩
    refine ⟨?_, h2⟩
    rw [h1, fv_yes hk, fv_yes hk, fv_yes hk, fv_yes hk, fe_yes hk, e1, e2]
theorem floor_c : Fn 178 [] [wv (-7), wv 2] (.tuple #[wv (-4), wv 1, .int .i64 0]) :=
  dfloor_yes (-7) 2 (by unfold W128; omega) (by unfold W128; omega) (by omega) (by show W128 (-4); unfold W128; omega)
theorem up_c : Fn 179 [] [.int .i64 9, pv true 0 true] (.tuple #[.bool false, .bool true]) := up_yes 9 true 0 true (by omega) (by omega)
theorem bet_c : Fn 180 [] [wv (-4), wv 1, wv 2, .bool true] (pv true 0 true) := between_fn (-4) 1 2 true (by unfold W128; omega) (by unfold W128; omega) (by unfold W128; omega)
theorem ratio_c : Fn 175 [] [wv 7, wv (-2), .int .i64 9] (.tuple #[wv (-4), .int .i64 0]) := by
  refine fn_of Try.func175 rfl fun ww => ?_
  refine st_fn ent172 (frac_c) sub0 (by kernel_rfl) ?_
  refine st_fn ent178 (floor_c) sub0 (by kernel_rfl) ?_
  refine st_fn ent180 (bet_c) sub0 (by kernel_rfl) ?_
  refine st_fn ent179 (up_c) sub0 (by kernel_rfl) ?_
  exact st_ret Try.func175 (by kernel_rfl)
end Go.Proofs.Ytcndfpfjckkinaa
