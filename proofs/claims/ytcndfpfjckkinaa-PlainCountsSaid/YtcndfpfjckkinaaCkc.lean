/-
  The reference's clock: nearest, sign, Day.
-/
import Derived.Test.YtcndfpfjckkinaaCkb
set_option linter.unusedSimpArgs false
set_option linter.unusedVariables false
namespace Go.Proofs.Ytcndfpfjckkinaa
open Go Go.RowKit

def near (n k : Int) : Int := if n < 0 then 0 else if k < n then k else n
set_option maxRecDepth 100000 in
set_option maxHeartbeats 3200000 in
theorem zsgn (b : Bool) (w : World) :
    Calls Try.prog 117 #[.bool b] w (fun e w' => e = .returned (.int .i64 (if b then -1 else 1)) ∧ w = w') := by
  cases b
  · go_enter Try.func117, Try.ntmps117
    go_wp2
    go_ret
    exact ⟨rfl, rfl⟩
  · go_enter Try.func117, Try.ntmps117
    go_wp2
    go_ret
    exact ⟨rfl, rfl⟩
set_option maxRecDepth 100000 in
set_option maxHeartbeats 3200000 in
theorem zday (w : World) : Calls Try.prog 123 #[] w (RetZ w 86400000000000) := by
  have HOf := Lib.hid of_any
  go_enter Try.func123, Try.ntmps123
  go_upto_region 1 with fail
  have xw := Ext.refl w
  refine wp_name ?_
  intro V1 hV
  replace xw : Ext w V1 := by rw [hV]; exact Ext.alloc (xw)
  have b0 : Box2 V1 w.heap.size (.bool false) (.slice none 0 0) 47 := by rw [hV]; exact Box2.new rfl
  clear hV
  go_wp2_with fail
  refine (HOf.out 86400000000000 _ (by omega) (by omega)).mono ?_
  rintro e w2 ⟨n2, a2, l2, c2, rfl, z2, x2⟩
  replace x2 : Ext _ w2 := x2
  have B2 : Bits 64 (86400000000000 : Int) := by unfold Bits; omega
  replace b0 := b0.ext x2
  replace xw := Ext.trans xw x2
  have b0_c0 := b0.c0
  have b0_c1 := b0.c1
  have b0_f0 := b0.f0
  have b0_f1 := b0.f1
  have zr0 := (z2).set2 (b0).kind (by decide) (.bool n2) (.slice a2 l2 c2)
  have xr := Ext.set (Ext.set (xw) (k := w.heap.size) (o := 0) (u := .bool n2) (by omega)) (k := w.heap.size) (o := 1) (u := .slice a2 l2 c2) (by omega)
  go_wp2_with fail
  refine bodyPost_ret (v := .agg #[.bool n2, .slice a2 l2 c2]) (by simp [results, Try.results123, go_sem, b0_c0, b0_c1]) rfl ⟨_, _, _, _, rfl, zr0, xr⟩
end Go.Proofs.Ytcndfpfjckkinaa
