/-
  The law ClockRegulates, walked.
-/
import Derived.Test.YtmkddcmfofabbaaLwAdd
import Derived.Test.YtmkddcmfofabbaaCkg
set_option linter.unusedSimpArgs false
set_option linter.unusedVariables false
namespace Go.Proofs.Ytmkddcmfofabbaa
open Go Go.RowKit

theorem creg_badw (h m s n v : Int) (v1 : ¬ v = 1) (v2 : ¬ v = 2) (w : World) :
    Calls Try.prog 76 #[.int .i64 h, .int .i64 m, .int .i64 s, .int .i64 n, .int .i64 v] w (fun e w' => e = .returned (.tuple #[.agg #[.int .i64 0, .int .i64 0, .int .i64 0, .int .i64 0], .int .i64 1]) ∧ Ext w w') := creg_bad h m s n v w v1 v2
theorem creg_okw1 (h m s n : Int) (k : tOk h m s n) (w : World) :
    Calls Try.prog 76 #[.int .i64 h, .int .i64 m, .int .i64 s, .int .i64 n, .int .i64 1] w (fun e w' => e = .returned (.tuple #[.agg #[.int .i64 h, .int .i64 m, .int .i64 s, .int .i64 n], .int .i64 0]) ∧ Ext w w') := creg_ok1 h m s n w k
theorem creg_okw2 (h m s n : Int) (k : tOk h m s n) (w : World) :
    Calls Try.prog 76 #[.int .i64 h, .int .i64 m, .int .i64 s, .int .i64 n, .int .i64 2] w (fun e w' => e = .returned (.tuple #[.agg #[.int .i64 h, .int .i64 m, .int .i64 s, .int .i64 n], .int .i64 0]) ∧ Ext w w') := creg_ok2 h m s n w k
theorem creg_rejw (h m s n : Int) (k : ¬ tOk h m s n) (w : World) :
    Calls Try.prog 76 #[.int .i64 h, .int .i64 m, .int .i64 s, .int .i64 n, .int .i64 2] w (fun e w' => e = .returned (.tuple #[.agg #[.int .i64 0, .int .i64 0, .int .i64 0, .int .i64 0], .int .i64 5]) ∧ Ext w w') := creg_rej h m s n w k
theorem creg_conw (h m s n : Int) (k : ¬ tOk h m s n) (w : World) :
    Calls Try.prog 76 #[.int .i64 h, .int .i64 m, .int .i64 s, .int .i64 n, .int .i64 1] w (fun e w' => e = .returned (.tuple #[.agg #[.int .i64 (near h 23), .int .i64 (near m 59), .int .i64 (near s 59), .int .i64 (near n 999999999)], .int .i64 0]) ∧ Ext w w') := creg_con h m s n w k
theorem zreg_badw (h m s n v : Int) (v1 : ¬ v = 1) (v2 : ¬ v = 2) (w : World) :
    Calls Try.prog 77 #[.int .i64 h, .int .i64 m, .int .i64 s, .int .i64 n, .int .i64 v] w (fun e w' => e = .returned (.tuple #[.agg #[.int .i64 0, .int .i64 0, .int .i64 0, .int .i64 0], .int .i64 1]) ∧ Ext w w') := zreg_bad h m s n v w v1 v2
theorem zreg_okw1 (h m s n : Int) (k : tOk h m s n) (w : World) :
    Calls Try.prog 77 #[.int .i64 h, .int .i64 m, .int .i64 s, .int .i64 n, .int .i64 1] w (fun e w' => e = .returned (.tuple #[.agg #[.int .i64 h, .int .i64 m, .int .i64 s, .int .i64 n], .int .i64 0]) ∧ Ext w w') := zreg_ok1 h m s n w k
theorem zreg_okw2 (h m s n : Int) (k : tOk h m s n) (w : World) :
    Calls Try.prog 77 #[.int .i64 h, .int .i64 m, .int .i64 s, .int .i64 n, .int .i64 2] w (fun e w' => e = .returned (.tuple #[.agg #[.int .i64 h, .int .i64 m, .int .i64 s, .int .i64 n], .int .i64 0]) ∧ Ext w w') := zreg_ok2 h m s n w k
theorem zreg_rejw (h m s n : Int) (k : ¬ tOk h m s n) (w : World) :
    Calls Try.prog 77 #[.int .i64 h, .int .i64 m, .int .i64 s, .int .i64 n, .int .i64 2] w (fun e w' => e = .returned (.tuple #[.agg #[.int .i64 0, .int .i64 0, .int .i64 0, .int .i64 0], .int .i64 5]) ∧ Ext w w') := zreg_rej h m s n w k
theorem zreg_conw (h m s n : Int) (k : ¬ tOk h m s n) (w : World) :
    Calls Try.prog 77 #[.int .i64 h, .int .i64 m, .int .i64 s, .int .i64 n, .int .i64 1] w (fun e w' => e = .returned (.tuple #[.agg #[.int .i64 (near h 23), .int .i64 (near m 59), .int .i64 (near s 59), .int .i64 (near n 999999999)], .int .i64 0]) ∧ Ext w w') := zreg_con h m s n w k
set_option maxRecDepth 100000 in
set_option maxHeartbeats 3200000 in
theorem regl_bad (h m s n v : Int) (w : World) (v1 : ¬ v = 1) (v2 : ¬ v = 2) :
    Calls Try.prog 20 #[.agg #[.int .i64 h, .int .i64 m, .int .i64 s, .int .i64 n], .int .i64 v] w (fun e w' => e = .returned (.bool true) ∧ Ext w w') := by
  have HAl := Lib.hid alive6
  have HA := Lib.hid (creg_badw h m s n v v1 v2)
  have HB := Lib.hid (zreg_badw h m s n v v1 v2)
  go_enter Try.func20, Try.ntmps20
  go_upto_region 1 with fail
  have xw := Ext.refl w
  refine wp_name ?_
  intro V1 hV
  replace xw : Ext w V1 := by rw [hV]; exact Ext.alloc (xw)
  have b2 : Bx V1 w.heap.size #[.int .i64 h, .int .i64 m, .int .i64 s, .int .i64 n] 87 := by rw [hV]; exact Bx.new rfl
  clear hV
  have b2_c0 := b2.c 0 (v := .int .i64 h) rfl
  have b2_c1 := b2.c 1 (v := .int .i64 m) rfl
  have b2_c2 := b2.c 2 (v := .int .i64 s) rfl
  have b2_c3 := b2.c 3 (v := .int .i64 n) rfl
  go_wp2_with fail
  refine (HA.out _).mono ?_
  rintro e w2 ⟨rfl, x2⟩
  clear b2_c0 b2_c1 b2_c2 b2_c3
  replace b2 := b2.ext x2
  replace xw := Ext.trans xw x2
  go_upto_region 2 with fail
  have o4 := b2.kind.lt
  have o5 := xw.size
  refine wp_name ?_
  intro V3 hV
  have b2N : Bx V3 w.heap.size #[.int .i64 h, .int .i64 m, .int .i64 s, .int .i64 n] 87 := by rw [hV]; exact (b2).alloc _
  replace xw : Ext w V3 := by rw [hV]; exact Ext.alloc (xw)
  replace b2 := b2N; clear b2N
  have b5 : Bx V3 w2.heap.size #[.int .i64 0, .int .i64 0, .int .i64 0, .int .i64 0] 74 := by rw [hV]; exact Bx.new rfl
  clear hV
  have b2_c0 := b2.c 0 (v := .int .i64 h) rfl
  have b2_c1 := b2.c 1 (v := .int .i64 m) rfl
  have b2_c2 := b2.c 2 (v := .int .i64 s) rfl
  have b2_c3 := b2.c 3 (v := .int .i64 n) rfl
  go_wp2_with fail
  refine (HB.out _).mono ?_
  rintro e w6 ⟨rfl, x6⟩
  clear b2_c0 b2_c1 b2_c2 b2_c3
  replace b2 := b2.ext x6
  replace b5 := b5.ext x6
  replace xw := Ext.trans xw x6
  go_upto_region 3 with fail
  have o8 := b5.kind.lt
  have o9 := xw.size
  refine wp_name ?_
  intro V7 hV
  have b2N : Bx V7 w.heap.size #[.int .i64 h, .int .i64 m, .int .i64 s, .int .i64 n] 87 := by rw [hV]; exact (b2).alloc _
  have b5N : Bx V7 w2.heap.size #[.int .i64 0, .int .i64 0, .int .i64 0, .int .i64 0] 74 := by rw [hV]; exact (b5).alloc _
  replace xw : Ext w V7 := by rw [hV]; exact Ext.alloc (xw)
  replace b2 := b2N; clear b2N
  replace b5 := b5N; clear b5N
  have b7 : Bx V7 w6.heap.size #[.int .i64 0, .int .i64 0, .int .i64 0, .int .i64 0] 74 := by rw [hV]; exact Bx.new rfl
  clear hV
  go_wp2_with fail
  refine (HAl.out _).mono ?_
  rintro e w10 ⟨rfl, x10⟩
  replace b2 := b2.ext x10
  replace b5 := b5.ext x10
  replace b7 := b7.ext x10
  replace xw := Ext.trans xw x10
  have b5_c0 := b5.c 0 (v := .int .i64 0) rfl
  have b5_c1 := b5.c 1 (v := .int .i64 0) rfl
  have b5_c2 := b5.c 2 (v := .int .i64 0) rfl
  have b5_c3 := b5.c 3 (v := .int .i64 0) rfl
  have b7_c0 := b7.c 0 (v := .int .i64 0) rfl
  have b7_c1 := b7.c 1 (v := .int .i64 0) rfl
  have b7_c2 := b7.c 2 (v := .int .i64 0) rfl
  have b7_c3 := b7.c 3 (v := .int .i64 0) rfl
  have xr := xw
  go_wp2_with fail
  refine bodyPost_ret (v := .bool true) (by simp [results, Try.results20, go_sem]) rfl ⟨rfl, xr⟩
set_option maxRecDepth 100000 in
set_option maxHeartbeats 3200000 in
theorem regl_ok1 (h m s n : Int) (w : World) (k : tOk h m s n) :
    Calls Try.prog 20 #[.agg #[.int .i64 h, .int .i64 m, .int .i64 s, .int .i64 n], .int .i64 1] w (fun e w' => e = .returned (.bool true) ∧ Ext w w') := by
  have HAl := Lib.hid alive6
  have HA := Lib.hid (creg_okw1 h m s n k)
  have HB := Lib.hid (zreg_okw1 h m s n k)
  go_enter Try.func20, Try.ntmps20
  go_upto_region 1 with fail
  have xw := Ext.refl w
  refine wp_name ?_
  intro V1 hV
  replace xw : Ext w V1 := by rw [hV]; exact Ext.alloc (xw)
  have b2 : Bx V1 w.heap.size #[.int .i64 h, .int .i64 m, .int .i64 s, .int .i64 n] 87 := by rw [hV]; exact Bx.new rfl
  clear hV
  have b2_c0 := b2.c 0 (v := .int .i64 h) rfl
  have b2_c1 := b2.c 1 (v := .int .i64 m) rfl
  have b2_c2 := b2.c 2 (v := .int .i64 s) rfl
  have b2_c3 := b2.c 3 (v := .int .i64 n) rfl
  go_wp2_with fail
  refine (HA.out _).mono ?_
  rintro e w2 ⟨rfl, x2⟩
  clear b2_c0 b2_c1 b2_c2 b2_c3
  replace b2 := b2.ext x2
  replace xw := Ext.trans xw x2
  go_upto_region 2 with fail
  have o4 := b2.kind.lt
  have o5 := xw.size
  refine wp_name ?_
  intro V3 hV
  have b2N : Bx V3 w.heap.size #[.int .i64 h, .int .i64 m, .int .i64 s, .int .i64 n] 87 := by rw [hV]; exact (b2).alloc _
  replace xw : Ext w V3 := by rw [hV]; exact Ext.alloc (xw)
  replace b2 := b2N; clear b2N
  have b5 : Bx V3 w2.heap.size #[.int .i64 h, .int .i64 m, .int .i64 s, .int .i64 n] 74 := by rw [hV]; exact Bx.new rfl
  clear hV
  have b2_c0 := b2.c 0 (v := .int .i64 h) rfl
  have b2_c1 := b2.c 1 (v := .int .i64 m) rfl
  have b2_c2 := b2.c 2 (v := .int .i64 s) rfl
  have b2_c3 := b2.c 3 (v := .int .i64 n) rfl
  go_wp2_with fail
  refine (HB.out _).mono ?_
  rintro e w6 ⟨rfl, x6⟩
  clear b2_c0 b2_c1 b2_c2 b2_c3
  replace b2 := b2.ext x6
  replace b5 := b5.ext x6
  replace xw := Ext.trans xw x6
  go_upto_region 3 with fail
  have o8 := b5.kind.lt
  have o9 := xw.size
  refine wp_name ?_
  intro V7 hV
  have b2N : Bx V7 w.heap.size #[.int .i64 h, .int .i64 m, .int .i64 s, .int .i64 n] 87 := by rw [hV]; exact (b2).alloc _
  have b5N : Bx V7 w2.heap.size #[.int .i64 h, .int .i64 m, .int .i64 s, .int .i64 n] 74 := by rw [hV]; exact (b5).alloc _
  replace xw : Ext w V7 := by rw [hV]; exact Ext.alloc (xw)
  replace b2 := b2N; clear b2N
  replace b5 := b5N; clear b5N
  have b7 : Bx V7 w6.heap.size #[.int .i64 h, .int .i64 m, .int .i64 s, .int .i64 n] 74 := by rw [hV]; exact Bx.new rfl
  clear hV
  go_wp2_with fail
  refine (HAl.out _).mono ?_
  rintro e w10 ⟨rfl, x10⟩
  replace b2 := b2.ext x10
  replace b5 := b5.ext x10
  replace b7 := b7.ext x10
  replace xw := Ext.trans xw x10
  have b5_c0 := b5.c 0 (v := .int .i64 h) rfl
  have b5_c1 := b5.c 1 (v := .int .i64 m) rfl
  have b5_c2 := b5.c 2 (v := .int .i64 s) rfl
  have b5_c3 := b5.c 3 (v := .int .i64 n) rfl
  have b7_c0 := b7.c 0 (v := .int .i64 h) rfl
  have b7_c1 := b7.c 1 (v := .int .i64 m) rfl
  have b7_c2 := b7.c 2 (v := .int .i64 s) rfl
  have b7_c3 := b7.c 3 (v := .int .i64 n) rfl
  have xr := xw
  go_wp2_with fail
  refine bodyPost_ret (v := .bool true) (by simp [results, Try.results20, go_sem]) rfl ⟨rfl, xr⟩
set_option maxRecDepth 100000 in
set_option maxHeartbeats 3200000 in
theorem regl_ok2 (h m s n : Int) (w : World) (k : tOk h m s n) :
    Calls Try.prog 20 #[.agg #[.int .i64 h, .int .i64 m, .int .i64 s, .int .i64 n], .int .i64 2] w (fun e w' => e = .returned (.bool true) ∧ Ext w w') := by
  have HAl := Lib.hid alive6
  have HA := Lib.hid (creg_okw2 h m s n k)
  have HB := Lib.hid (zreg_okw2 h m s n k)
  go_enter Try.func20, Try.ntmps20
  go_upto_region 1 with fail
  have xw := Ext.refl w
  refine wp_name ?_
  intro V1 hV
  replace xw : Ext w V1 := by rw [hV]; exact Ext.alloc (xw)
  have b2 : Bx V1 w.heap.size #[.int .i64 h, .int .i64 m, .int .i64 s, .int .i64 n] 87 := by rw [hV]; exact Bx.new rfl
  clear hV
  have b2_c0 := b2.c 0 (v := .int .i64 h) rfl
  have b2_c1 := b2.c 1 (v := .int .i64 m) rfl
  have b2_c2 := b2.c 2 (v := .int .i64 s) rfl
  have b2_c3 := b2.c 3 (v := .int .i64 n) rfl
  go_wp2_with fail
  refine (HA.out _).mono ?_
  rintro e w2 ⟨rfl, x2⟩
  clear b2_c0 b2_c1 b2_c2 b2_c3
  replace b2 := b2.ext x2
  replace xw := Ext.trans xw x2
  go_upto_region 2 with fail
  have o4 := b2.kind.lt
  have o5 := xw.size
  refine wp_name ?_
  intro V3 hV
  have b2N : Bx V3 w.heap.size #[.int .i64 h, .int .i64 m, .int .i64 s, .int .i64 n] 87 := by rw [hV]; exact (b2).alloc _
  replace xw : Ext w V3 := by rw [hV]; exact Ext.alloc (xw)
  replace b2 := b2N; clear b2N
  have b5 : Bx V3 w2.heap.size #[.int .i64 h, .int .i64 m, .int .i64 s, .int .i64 n] 74 := by rw [hV]; exact Bx.new rfl
  clear hV
  have b2_c0 := b2.c 0 (v := .int .i64 h) rfl
  have b2_c1 := b2.c 1 (v := .int .i64 m) rfl
  have b2_c2 := b2.c 2 (v := .int .i64 s) rfl
  have b2_c3 := b2.c 3 (v := .int .i64 n) rfl
  go_wp2_with fail
  refine (HB.out _).mono ?_
  rintro e w6 ⟨rfl, x6⟩
  clear b2_c0 b2_c1 b2_c2 b2_c3
  replace b2 := b2.ext x6
  replace b5 := b5.ext x6
  replace xw := Ext.trans xw x6
  go_upto_region 3 with fail
  have o8 := b5.kind.lt
  have o9 := xw.size
  refine wp_name ?_
  intro V7 hV
  have b2N : Bx V7 w.heap.size #[.int .i64 h, .int .i64 m, .int .i64 s, .int .i64 n] 87 := by rw [hV]; exact (b2).alloc _
  have b5N : Bx V7 w2.heap.size #[.int .i64 h, .int .i64 m, .int .i64 s, .int .i64 n] 74 := by rw [hV]; exact (b5).alloc _
  replace xw : Ext w V7 := by rw [hV]; exact Ext.alloc (xw)
  replace b2 := b2N; clear b2N
  replace b5 := b5N; clear b5N
  have b7 : Bx V7 w6.heap.size #[.int .i64 h, .int .i64 m, .int .i64 s, .int .i64 n] 74 := by rw [hV]; exact Bx.new rfl
  clear hV
  go_wp2_with fail
  refine (HAl.out _).mono ?_
  rintro e w10 ⟨rfl, x10⟩
  replace b2 := b2.ext x10
  replace b5 := b5.ext x10
  replace b7 := b7.ext x10
  replace xw := Ext.trans xw x10
  have b5_c0 := b5.c 0 (v := .int .i64 h) rfl
  have b5_c1 := b5.c 1 (v := .int .i64 m) rfl
  have b5_c2 := b5.c 2 (v := .int .i64 s) rfl
  have b5_c3 := b5.c 3 (v := .int .i64 n) rfl
  have b7_c0 := b7.c 0 (v := .int .i64 h) rfl
  have b7_c1 := b7.c 1 (v := .int .i64 m) rfl
  have b7_c2 := b7.c 2 (v := .int .i64 s) rfl
  have b7_c3 := b7.c 3 (v := .int .i64 n) rfl
  have xr := xw
  go_wp2_with fail
  refine bodyPost_ret (v := .bool true) (by simp [results, Try.results20, go_sem]) rfl ⟨rfl, xr⟩
set_option maxRecDepth 100000 in
set_option maxHeartbeats 3200000 in
theorem regl_rej (h m s n : Int) (w : World) (k : ¬ tOk h m s n) :
    Calls Try.prog 20 #[.agg #[.int .i64 h, .int .i64 m, .int .i64 s, .int .i64 n], .int .i64 2] w (fun e w' => e = .returned (.bool true) ∧ Ext w w') := by
  have HAl := Lib.hid alive6
  have HA := Lib.hid (creg_rejw h m s n k)
  have HB := Lib.hid (zreg_rejw h m s n k)
  go_enter Try.func20, Try.ntmps20
  go_upto_region 1 with fail
  have xw := Ext.refl w
  refine wp_name ?_
  intro V1 hV
  replace xw : Ext w V1 := by rw [hV]; exact Ext.alloc (xw)
  have b2 : Bx V1 w.heap.size #[.int .i64 h, .int .i64 m, .int .i64 s, .int .i64 n] 87 := by rw [hV]; exact Bx.new rfl
  clear hV
  have b2_c0 := b2.c 0 (v := .int .i64 h) rfl
  have b2_c1 := b2.c 1 (v := .int .i64 m) rfl
  have b2_c2 := b2.c 2 (v := .int .i64 s) rfl
  have b2_c3 := b2.c 3 (v := .int .i64 n) rfl
  go_wp2_with fail
  refine (HA.out _).mono ?_
  rintro e w2 ⟨rfl, x2⟩
  clear b2_c0 b2_c1 b2_c2 b2_c3
  replace b2 := b2.ext x2
  replace xw := Ext.trans xw x2
  go_upto_region 2 with fail
  have o4 := b2.kind.lt
  have o5 := xw.size
  refine wp_name ?_
  intro V3 hV
  have b2N : Bx V3 w.heap.size #[.int .i64 h, .int .i64 m, .int .i64 s, .int .i64 n] 87 := by rw [hV]; exact (b2).alloc _
  replace xw : Ext w V3 := by rw [hV]; exact Ext.alloc (xw)
  replace b2 := b2N; clear b2N
  have b5 : Bx V3 w2.heap.size #[.int .i64 0, .int .i64 0, .int .i64 0, .int .i64 0] 74 := by rw [hV]; exact Bx.new rfl
  clear hV
  have b2_c0 := b2.c 0 (v := .int .i64 h) rfl
  have b2_c1 := b2.c 1 (v := .int .i64 m) rfl
  have b2_c2 := b2.c 2 (v := .int .i64 s) rfl
  have b2_c3 := b2.c 3 (v := .int .i64 n) rfl
  go_wp2_with fail
  refine (HB.out _).mono ?_
  rintro e w6 ⟨rfl, x6⟩
  clear b2_c0 b2_c1 b2_c2 b2_c3
  replace b2 := b2.ext x6
  replace b5 := b5.ext x6
  replace xw := Ext.trans xw x6
  go_upto_region 3 with fail
  have o8 := b5.kind.lt
  have o9 := xw.size
  refine wp_name ?_
  intro V7 hV
  have b2N : Bx V7 w.heap.size #[.int .i64 h, .int .i64 m, .int .i64 s, .int .i64 n] 87 := by rw [hV]; exact (b2).alloc _
  have b5N : Bx V7 w2.heap.size #[.int .i64 0, .int .i64 0, .int .i64 0, .int .i64 0] 74 := by rw [hV]; exact (b5).alloc _
  replace xw : Ext w V7 := by rw [hV]; exact Ext.alloc (xw)
  replace b2 := b2N; clear b2N
  replace b5 := b5N; clear b5N
  have b7 : Bx V7 w6.heap.size #[.int .i64 0, .int .i64 0, .int .i64 0, .int .i64 0] 74 := by rw [hV]; exact Bx.new rfl
  clear hV
  go_wp2_with fail
  refine (HAl.out _).mono ?_
  rintro e w10 ⟨rfl, x10⟩
  replace b2 := b2.ext x10
  replace b5 := b5.ext x10
  replace b7 := b7.ext x10
  replace xw := Ext.trans xw x10
  have b5_c0 := b5.c 0 (v := .int .i64 0) rfl
  have b5_c1 := b5.c 1 (v := .int .i64 0) rfl
  have b5_c2 := b5.c 2 (v := .int .i64 0) rfl
  have b5_c3 := b5.c 3 (v := .int .i64 0) rfl
  have b7_c0 := b7.c 0 (v := .int .i64 0) rfl
  have b7_c1 := b7.c 1 (v := .int .i64 0) rfl
  have b7_c2 := b7.c 2 (v := .int .i64 0) rfl
  have b7_c3 := b7.c 3 (v := .int .i64 0) rfl
  have xr := xw
  go_wp2_with fail
  refine bodyPost_ret (v := .bool true) (by simp [results, Try.results20, go_sem]) rfl ⟨rfl, xr⟩
set_option maxRecDepth 100000 in
set_option maxHeartbeats 3200000 in
theorem regl_con (h m s n : Int) (w : World) (k : ¬ tOk h m s n) :
    Calls Try.prog 20 #[.agg #[.int .i64 h, .int .i64 m, .int .i64 s, .int .i64 n], .int .i64 1] w (fun e w' => e = .returned (.bool true) ∧ Ext w w') := by
  have HAl := Lib.hid alive6
  have HA := Lib.hid (creg_conw h m s n k)
  have HB := Lib.hid (zreg_conw h m s n k)
  obtain ⟨A0, e0⟩ : ∃ y, (near h 23) = y := ⟨_, rfl⟩
  rw [e0] at HA HB
  clear e0
  obtain ⟨A1, e1⟩ : ∃ y, (near m 59) = y := ⟨_, rfl⟩
  rw [e1] at HA HB
  clear e1
  obtain ⟨A2, e2⟩ : ∃ y, (near s 59) = y := ⟨_, rfl⟩
  rw [e2] at HA HB
  clear e2
  obtain ⟨A3, e3⟩ : ∃ y, (near n 999999999) = y := ⟨_, rfl⟩
  rw [e3] at HA HB
  clear e3
  go_enter Try.func20, Try.ntmps20
  go_upto_region 1 with fail
  have xw := Ext.refl w
  refine wp_name ?_
  intro V1 hV
  replace xw : Ext w V1 := by rw [hV]; exact Ext.alloc (xw)
  have b2 : Bx V1 w.heap.size #[.int .i64 h, .int .i64 m, .int .i64 s, .int .i64 n] 87 := by rw [hV]; exact Bx.new rfl
  clear hV
  have b2_c0 := b2.c 0 (v := .int .i64 h) rfl
  have b2_c1 := b2.c 1 (v := .int .i64 m) rfl
  have b2_c2 := b2.c 2 (v := .int .i64 s) rfl
  have b2_c3 := b2.c 3 (v := .int .i64 n) rfl
  go_wp2_with fail
  refine (HA.out _).mono ?_
  rintro e w2 ⟨rfl, x2⟩
  clear b2_c0 b2_c1 b2_c2 b2_c3
  replace b2 := b2.ext x2
  replace xw := Ext.trans xw x2
  go_upto_region 2 with fail
  have o4 := b2.kind.lt
  have o5 := xw.size
  refine wp_name ?_
  intro V3 hV
  have b2N : Bx V3 w.heap.size #[.int .i64 h, .int .i64 m, .int .i64 s, .int .i64 n] 87 := by rw [hV]; exact (b2).alloc _
  replace xw : Ext w V3 := by rw [hV]; exact Ext.alloc (xw)
  replace b2 := b2N; clear b2N
  have b5 : Bx V3 w2.heap.size #[.int .i64 A0, .int .i64 A1, .int .i64 A2, .int .i64 A3] 74 := by rw [hV]; exact Bx.new rfl
  clear hV
  have b2_c0 := b2.c 0 (v := .int .i64 h) rfl
  have b2_c1 := b2.c 1 (v := .int .i64 m) rfl
  have b2_c2 := b2.c 2 (v := .int .i64 s) rfl
  have b2_c3 := b2.c 3 (v := .int .i64 n) rfl
  go_wp2_with fail
  refine (HB.out _).mono ?_
  rintro e w6 ⟨rfl, x6⟩
  clear b2_c0 b2_c1 b2_c2 b2_c3
  replace b2 := b2.ext x6
  replace b5 := b5.ext x6
  replace xw := Ext.trans xw x6
  go_upto_region 3 with fail
  have o8 := b5.kind.lt
  have o9 := xw.size
  refine wp_name ?_
  intro V7 hV
  have b2N : Bx V7 w.heap.size #[.int .i64 h, .int .i64 m, .int .i64 s, .int .i64 n] 87 := by rw [hV]; exact (b2).alloc _
  have b5N : Bx V7 w2.heap.size #[.int .i64 A0, .int .i64 A1, .int .i64 A2, .int .i64 A3] 74 := by rw [hV]; exact (b5).alloc _
  replace xw : Ext w V7 := by rw [hV]; exact Ext.alloc (xw)
  replace b2 := b2N; clear b2N
  replace b5 := b5N; clear b5N
  have b7 : Bx V7 w6.heap.size #[.int .i64 A0, .int .i64 A1, .int .i64 A2, .int .i64 A3] 74 := by rw [hV]; exact Bx.new rfl
  clear hV
  go_wp2_with fail
  refine (HAl.out _).mono ?_
  rintro e w10 ⟨rfl, x10⟩
  replace b2 := b2.ext x10
  replace b5 := b5.ext x10
  replace b7 := b7.ext x10
  replace xw := Ext.trans xw x10
  have b5_c0 := b5.c 0 (v := .int .i64 A0) rfl
  have b5_c1 := b5.c 1 (v := .int .i64 A1) rfl
  have b5_c2 := b5.c 2 (v := .int .i64 A2) rfl
  have b5_c3 := b5.c 3 (v := .int .i64 A3) rfl
  have b7_c0 := b7.c 0 (v := .int .i64 A0) rfl
  have b7_c1 := b7.c 1 (v := .int .i64 A1) rfl
  have b7_c2 := b7.c 2 (v := .int .i64 A2) rfl
  have b7_c3 := b7.c 3 (v := .int .i64 A3) rfl
  have xr := xw
  go_wp2_with fail
  refine bodyPost_ret (v := .bool true) (by simp [results, Try.results20, go_sem]) rfl ⟨rfl, xr⟩
theorem law_regulates (h m s n v : Int) (w : World) :
    Calls Try.prog 20 #[.agg #[.int .i64 h, .int .i64 m, .int .i64 s, .int .i64 n], .int .i64 v] w (fun e w' => e = .returned (.bool true) ∧ Ext w w') := by
  by_cases v1 : v = 1
  · subst v1
    by_cases k : tOk h m s n
    · exact regl_ok1 h m s n w k
    · exact regl_con h m s n w k
  by_cases v2 : v = 2
  · subst v2
    by_cases k : tOk h m s n
    · exact regl_ok2 h m s n w k
    · exact regl_rej h m s n w k
  · exact regl_bad h m s n v w v1 v2
end Go.Proofs.Ytmkddcmfofabbaa
