/-
  The law ClockAdds, walked; what every right program answers.
-/
import Derived.Test.YtcndfpfjckkinaaCke
set_option linter.unusedSimpArgs false
set_option linter.unusedVariables false
namespace Go.Proofs.Ytcndfpfjckkinaa
open Go Go.RowKit

theorem liv_nan (w : World) : Calls Try.prog 103 #[.agg #[.int .i64 0, .int .i64 1, .int .i64 0, .int .i64 5]] w (fun e w' => e = .returned (.tuple #[.int .i64 60000000005, .bool true]) ∧ Ext w w') := cnanos_yes 0 1 0 5 w (by unfold tOk; omega)
theorem liv_add (w : World) : Calls Try.prog 114 #[.agg #[.int .i64 23, .int .i64 0, .int .i64 0, .int .i64 0], .agg #[.int .i64 (hi 7200000000000), .int .u64 (lo 7200000000000)]] w (fun e w' => e = .returned (.tuple #[.agg #[.int .i64 1, .int .i64 0, .int .i64 0, .int .i64 0], .int .i64 1, .int .i64 0]) ∧ Ext w w') :=
  (cadd 23 0 0 0 7200000000000 w (by unfold tOk; omega) (by unfold W128; omega)).mono fun e w' h => ⟨h.1 (by decide), h.2.2⟩
set_option maxRecDepth 100000 in
set_option maxHeartbeats 3200000 in
theorem alive6 (w : World) : Calls Try.prog 28 #[] w (fun e w' => e = .returned (.bool true) ∧ Ext w w') := by
  have HO := Lib.hid liv_of
  have HN := Lib.hid liv_nan
  have HAd := Lib.hid liv_add
  go_enter Try.func28, Try.ntmps28
  have xw := Ext.refl w
  go_wp2_with fail
  refine (HO.out 7200000000000 _ (by unfold I64; omega)).mono ?_
  rintro e w1 ⟨rfl, x1⟩
  replace xw := Ext.trans xw x1
  go_wp2_with fail
  refine (HAd.out _).mono ?_
  rintro e w2 ⟨rfl, x2⟩
  replace xw := Ext.trans xw x2
  go_upto_region 2 with fail
  have o4 := xw.size
  refine wp_name ?_
  intro V3 hV
  replace xw : Ext w V3 := by rw [hV]; exact Ext.alloc (xw)
  have b1 : Bx V3 w2.heap.size #[.int .i64 1, .int .i64 0, .int .i64 0, .int .i64 0] 23 := by rw [hV]; exact Bx.new rfl
  clear hV
  go_wp2_with fail
  refine (HN.out _).mono ?_
  rintro e w5 ⟨rfl, x5⟩
  replace b1 := b1.ext x5
  replace xw := Ext.trans xw x5
  go_upto_region 3 with fail
  have b1_c0 := b1.c 0 (v := .int .i64 1) rfl
  have b1_c1 := b1.c 1 (v := .int .i64 0) rfl
  have b1_c2 := b1.c 2 (v := .int .i64 0) rfl
  have b1_c3 := b1.c 3 (v := .int .i64 0) rfl
  have xr := xw
  go_wp2_with fail
  refine bodyPost_ret (v := .bool true) (by simp [results, Try.results28, go_sem]) rfl ⟨rfl, xr⟩
end Go.Proofs.Ytcndfpfjckkinaa
