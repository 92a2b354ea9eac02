/-
  What every right program answers (layer 4), and the law RoundTos, walked.
-/
import Derived.Test.YtmkddcmfofabbaaNea
import Derived.Test.YtmkddcmfofabbaaDfr
set_option linter.unusedVariables false
set_option maxRecDepth 100000
namespace Go.Proofs.Ytmkddcmfofabbaa
open Go Go.RowKit Go.Ev

theorem to_c : Fn 79 [] [wv (-15), wv 10, .int .i64 7] (.tuple #[wv (-20), .int .i64 0]) := by
  have h := to_ok (-15) 10 7 (by unfold W128; omega) (by unfold W128; omega) (by omega) (by omega) (by omega)
  rw [show (10 : Int) * nearQ (-15) 10 7 = -20 by decide, rtv_yes (by unfold W128; omega)] at h
  exact h
theorem frac_c : Fn 65 [] [wv 7, wv (-2)] (.tuple #[wv (-7), wv 2, .int .i64 0]) := fun w _ =>
  (dfrac_any 7 (-2) w (by unfold W128; omega) (by unfold W128; omega)).mono fun e w' ⟨h1, h2⟩ => by
    have e1 : frP 7 (-2) = -7 := by decide
    have e2 : frQ 7 (-2) = 2 := by decide
    have hk : fOk 7 (-2) := ⟨by decide, by rw [e1]; unfold W128; omega, by rw [e2]; unfold W128; omega⟩
    refine ⟨?_, h2⟩
    rw [h1, fv_yes hk, fv_yes hk, fv_yes hk, fv_yes hk, fe_yes hk, e1, e2]
theorem floor_c : Fn 56 [] [wv (-7), wv 2] (.tuple #[wv (-4), wv 1, .int .i64 0]) :=
  dfloor_yes (-7) 2 (by unfold W128; omega) (by unfold W128; omega) (by omega) (by show W128 (-4); unfold W128; omega)
theorem up_c : Fn 116 [] [.int .i64 9, pv true 0 true] (.tuple #[.bool false, .bool true]) := up_yes 9 true 0 true (by omega) (by omega)
theorem bet_c : Fn 117 [] [wv (-4), wv 1, wv 2, .bool true] (pv true 0 true) := between_fn (-4) 1 2 true (by unfold W128; omega) (by unfold W128; omega) (by unfold W128; omega)
theorem ratio_c : Fn 82 [] [wv 7, wv (-2), .int .i64 9] (.tuple #[wv (-4), .int .i64 0]) := by
  refine fn_of Try.func82 rfl fun ww => ?_
  refine st_fn ent65 (frac_c) sub0 (by kernel_rfl) ?_
  refine st_fn ent56 (floor_c) sub0 (by kernel_rfl) ?_
  refine st_fn ent117 (bet_c) sub0 (by kernel_rfl) ?_
  refine st_fn ent116 (up_c) sub0 (by kernel_rfl) ?_
  exact st_ret Try.func82 (by kernel_rfl)
theorem alive4 : Fn 81 [] [] (.bool true) := by
  refine fn_of Try.func81 rfl fun ww => ?_
  refine st_fn ent32 (wof_fn (-15) (by (unfold I64; omega))) sub0 (by kernel_rfl) ?_
  refine st_fn ent32 (wof_fn (10) (by (unfold I64; omega))) sub0 (by kernel_rfl) ?_
  refine st_fn ent79 (to_c) sub0 (by kernel_rfl) ?_
  refine st_fn ent32 (wof_fn (7) (by (unfold I64; omega))) sub0 (by kernel_rfl) ?_
  refine st_fn ent32 (wof_fn (-2) (by (unfold I64; omega))) sub0 (by kernel_rfl) ?_
  refine st_fn ent82 (ratio_c) sub0 (by kernel_rfl) ?_
  refine st_fn ent32 (wof_fn (-20) (by (unfold I64; omega))) sub0 (by kernel_rfl) ?_
  refine st_fn ent32 (wof_fn (-4) (by (unfold I64; omega))) sub0 (by kernel_rfl) ?_
  refine st_fn ent84 (mirror_fn (1)) sub0 (by kernel_rfl) ?_
  exact st_ret Try.func81 (by kernel_rfl)
theorem tos_arg1 (w d mode : Int) (hw : W128 w) (hd : W128 d) (hc : cmpI d 0 ≤ 0) : Fn 22 [] [wv w, wv d, .int .i64 mode] (.bool true) := by
  refine fn_of Try.func22 rfl fun ww => ?_
  refine st_fn ent79 (to_arg1 (w) (d) (mode) (by assumption)) sub0 (by kernel_rfl) ?_
  refine st_fn ent80 (zto_arg1 (w) (d) (mode) (by assumption) (by assumption) (by assumption)) sub0 (by kernel_rfl) ?_
  refine st_fn ent81 (alive4) sub0 (by kernel_rfl) ?_
  exact st_ret Try.func22 (by kernel_rfl)
theorem tos_arg2 (w d mode : Int) (hw : W128 w) (hd : W128 d) (h0 : 0 < d) (hc : cmpI d 0 = 1) (hm : mode < 1 ∨ 9 < mode) : Fn 22 [] [wv w, wv d, .int .i64 mode] (.bool true) := by
  refine fn_of Try.func22 rfl fun ww => ?_
  refine st_fn ent79 (to_arg2 (w) (d) (mode) (by assumption) (by assumption) (by assumption) (by assumption) (by assumption)) sub0 (by kernel_rfl) ?_
  refine st_fn ent80 (zto_arg2 (w) (d) (mode) (by assumption) (by assumption) (by assumption) (by assumption)) sub0 (by kernel_rfl) ?_
  refine st_fn ent81 (alive4) sub0 (by kernel_rfl) ?_
  exact st_ret Try.func22 (by kernel_rfl)
theorem tos_ok (w d mode : Int) (hw : W128 w) (hd : W128 d) (h0 : 0 < d) (h1 : 1 ≤ mode) (h2 : mode ≤ 9) : Fn 22 [] [wv w, wv d, .int .i64 mode] (.bool true) := by
  refine fn_of Try.func22 rfl fun ww => ?_
  refine st_fn ent79 (to_ok (w) (d) (mode) (by assumption) (by assumption) (by assumption) (by assumption) (by assumption)) sub0 (by kernel_rfl) ?_
  refine st_fn ent80 (zto_ok (w) (d) (mode) (by assumption) (by assumption) (by assumption) (by assumption) (by assumption)) sub0 (by kernel_rfl) ?_
  refine st_fn ent81 (alive4) sub0 (by kernel_rfl) ?_
  refine st_b 29 (show (thi (d * nearQ w d mode) == thi (d * nearQ w d mode) && (tlo (d * nearQ w d mode) == tlo (d * nearQ w d mode) && true)) = true by simp_all) (by kernel_rfl) ?_
  exact st_retv Try.func22 (show Value.bool (ter (d * nearQ w d mode) == ter (d * nearQ w d mode)) = _ by simp) (by kernel_rfl)
theorem law_tos (w d mode : Int) (W : World) (hw : W128 w) (hd : W128 d) :
    Calls Try.prog 22 #[.agg #[.int .i64 (hi w), .int .u64 (lo w)], .agg #[.int .i64 (hi d), .int .u64 (lo d)], .int .i64 mode] W (fun e w' => e = .returned (.bool true) ∧ Ext W w') := by
  by_cases h0 : 0 < d
  · by_cases hm : 1 ≤ mode ∧ mode ≤ 9
    · exact tos_ok w d mode hw hd h0 hm.1 hm.2 W (zall_nil W)
    · exact tos_arg2 w d mode hw hd h0 (cmpI_gt h0) (by omega) W (zall_nil W)
  · exact tos_arg1 w d mode hw hd (by unfold cmpI; split <;> (try split) <;> omega) W (zall_nil W)
end Go.Proofs.Ytmkddcmfofabbaa
