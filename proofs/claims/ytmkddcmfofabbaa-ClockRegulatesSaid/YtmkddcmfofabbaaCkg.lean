/-
  Regulate, the program's and the reference's.
-/
import Derived.Test.YtmkddcmfofabbaaCkc
set_option linter.unusedSimpArgs false
set_option linter.unusedVariables false
namespace Go.Proofs.Ytmkddcmfofabbaa
open Go Go.RowKit

def rgf (i j : Nat) (x k : Int) : Int := if i < j then near x k else x
theorem near_mm {n k : Int} (h : 0 ≤ k) : near n k = min (max n 0) k := by
  unfold near
  split
  · omega
  · split <;> omega
set_option maxRecDepth 100000 in
set_option maxHeartbeats 3200000 in
theorem creg_bad (h m s n v : Int) (w : World) (v1 : ¬ v = 1) (v2 : ¬ v = 2) :
    Calls Try.prog 76 #[.int .i64 h, .int .i64 m, .int .i64 s, .int .i64 n, .int .i64 v] w (fun e w' => e = .returned (.tuple #[.agg #[.int .i64 0, .int .i64 0, .int .i64 0, .int .i64 0], .int .i64 1]) ∧ Ext w w') := by
  have g1 : (v == 1) = false := by simpa using v1
  have g2 : (v == 2) = false := by simpa using v2
  have g3 : (v != 1) = true := by simpa using v1
  have g4 : (v != 2) = true := by simpa using v2
  go_enter Try.func76, Try.ntmps76
  go_upto_region 1 with fail
  have xw := Ext.refl w
  refine wp_name ?_
  intro V1 hV
  replace xw : Ext w V1 := by rw [hV]; exact Ext.alloc (xw)
  have b10 : Bx V1 w.heap.size #[.int .i64 0, .int .i64 0, .int .i64 0, .int .i64 0] 74 := by rw [hV]; exact Bx.new rfl
  clear hV
  go_upto_region 2 with fail
  have b10_c0 := b10.c 0 (v := .int .i64 0) rfl
  have b10_c1 := b10.c 1 (v := .int .i64 0) rfl
  have b10_c2 := b10.c 2 (v := .int .i64 0) rfl
  have b10_c3 := b10.c 3 (v := .int .i64 0) rfl
  have b10_f0 := b10.f 0
  have b10_f1 := b10.f 1
  have b10_f2 := b10.f 2
  have b10_f3 := b10.f 3
  have xr := Ext.set (Ext.set (Ext.set (Ext.set (xw) (k := w.heap.size) (o := 0) (u := .int .i64 0) (by omega)) (k := w.heap.size) (o := 1) (u := .int .i64 0) (by omega)) (k := w.heap.size) (o := 2) (u := .int .i64 0) (by omega)) (k := w.heap.size) (o := 3) (u := .int .i64 0) (by omega)
  go_wp2_with fail
  refine bodyPost_ret (v := .tuple #[.agg #[.int .i64 0, .int .i64 0, .int .i64 0, .int .i64 0], .int .i64 1]) (by simp [results, Try.results76, go_sem, b10_c0, b10_c1, b10_c2, b10_c3]) rfl ⟨rfl, xr⟩
set_option maxRecDepth 100000 in
set_option maxHeartbeats 3200000 in
theorem creg_ok1 (h m s n : Int) (w : World) (k : tOk h m s n) :
    Calls Try.prog 76 #[.int .i64 h, .int .i64 m, .int .i64 s, .int .i64 n, .int .i64 1] w (fun e w' => e = .returned (.tuple #[.agg #[.int .i64 h, .int .i64 m, .int .i64 s, .int .i64 n], .int .i64 0]) ∧ Ext w w') := by
  have HM := Lib.hid cmost
  have HMd := Lib.hid cmade
  have HR := Lib.hid cright
  have HK := Lib.hid (tOkB_yes k)
  clear k
  go_enter Try.func76, Try.ntmps76
  go_upto_region 1 with fail
  have xw := Ext.refl w
  refine wp_name ?_
  intro V1 hV
  replace xw : Ext w V1 := by rw [hV]; exact Ext.alloc (xw)
  have b10 : Bx V1 w.heap.size #[.int .i64 0, .int .i64 0, .int .i64 0, .int .i64 0] 74 := by rw [hV]; exact Bx.new rfl
  clear hV
  go_upto_region 3 with fail
  go_wp2_with fail
  refine (HM.out _).mono ?_
  rintro e w2 ⟨rfl, x2⟩
  replace b10 := b10.ext x2
  replace xw := Ext.trans xw x2
  go_upto_region 4 with fail
  have o4 := b10.kind.lt
  have o5 := xw.size
  refine wp_name ?_
  intro V3 hV
  have b10N : Bx V3 w.heap.size #[.int .i64 0, .int .i64 0, .int .i64 0, .int .i64 0] 74 := by rw [hV]; exact ((b10).alloc _).alloc _
  replace xw : Ext w V3 := by rw [hV]; exact Ext.alloc (Ext.alloc (xw))
  replace b10 := b10N; clear b10N
  have b12 : Bx V3 w2.heap.size #[.int .i64 h, .int .i64 m, .int .i64 s, .int .i64 n] 87 := by rw [hV]; exact (Bx.new rfl).alloc _
  have b13 : Bx V3 (w2.heap.size + 1) #[.int .i64 23, .int .i64 59, .int .i64 59, .int .i64 999999999] 87 := by rw [hV]; exact Bx.new (by simp)
  clear hV
  have b12_c0 := b12.c 0 (v := .int .i64 h) rfl
  have b12_c1 := b12.c 1 (v := .int .i64 m) rfl
  have b12_c2 := b12.c 2 (v := .int .i64 s) rfl
  have b12_c3 := b12.c 3 (v := .int .i64 n) rfl
  go_wp2_with fail
  refine (HMd.out h m s n _).mono ?_
  rintro e w6 ⟨rfl, x6⟩
  clear b12_c0 b12_c1 b12_c2 b12_c3
  replace b10 := b10.ext x6
  replace b12 := b12.ext x6
  replace b13 := b13.ext x6
  replace xw := Ext.trans xw x6
  go_wp2_with fail
  refine (HR.out h m s n _).mono ?_
  rw [HK.out]
  rintro e w7 ⟨rfl, x7⟩
  replace b10 := b10.ext x7
  replace b12 := b12.ext x7
  replace b13 := b13.ext x7
  replace xw := Ext.trans xw x7
  go_upto_region 5 with fail
  have b12_c0 := b12.c 0 (v := .int .i64 h) rfl
  have b12_c1 := b12.c 1 (v := .int .i64 m) rfl
  have b12_c2 := b12.c 2 (v := .int .i64 s) rfl
  have b12_c3 := b12.c 3 (v := .int .i64 n) rfl
  go_wp2_with fail
  refine (HMd.out h m s n _).mono ?_
  rintro e w8 ⟨rfl, x8⟩
  clear b12_c0 b12_c1 b12_c2 b12_c3
  replace b10 := b10.ext x8
  replace b12 := b12.ext x8
  replace b13 := b13.ext x8
  replace xw := Ext.trans xw x8
  have b10_c0 := b10.c 0 (v := .int .i64 0) rfl
  have b10_c1 := b10.c 1 (v := .int .i64 0) rfl
  have b10_c2 := b10.c 2 (v := .int .i64 0) rfl
  have b10_c3 := b10.c 3 (v := .int .i64 0) rfl
  have b10_f0 := b10.f 0
  have b10_f1 := b10.f 1
  have b10_f2 := b10.f 2
  have b10_f3 := b10.f 3
  have xr := Ext.set (Ext.set (Ext.set (Ext.set (xw) (k := w.heap.size) (o := 0) (u := .int .i64 h) (by omega)) (k := w.heap.size) (o := 1) (u := .int .i64 m) (by omega)) (k := w.heap.size) (o := 2) (u := .int .i64 s) (by omega)) (k := w.heap.size) (o := 3) (u := .int .i64 n) (by omega)
  go_wp2_with fail
  refine bodyPost_ret (v := .tuple #[.agg #[.int .i64 h, .int .i64 m, .int .i64 s, .int .i64 n], .int .i64 0]) (by simp [results, Try.results76, go_sem, b10_c0, b10_c1, b10_c2, b10_c3]) rfl ⟨rfl, xr⟩
set_option maxRecDepth 100000 in
set_option maxHeartbeats 3200000 in
theorem creg_ok2 (h m s n : Int) (w : World) (k : tOk h m s n) :
    Calls Try.prog 76 #[.int .i64 h, .int .i64 m, .int .i64 s, .int .i64 n, .int .i64 2] w (fun e w' => e = .returned (.tuple #[.agg #[.int .i64 h, .int .i64 m, .int .i64 s, .int .i64 n], .int .i64 0]) ∧ Ext w w') := by
  have HM := Lib.hid cmost
  have HMd := Lib.hid cmade
  have HR := Lib.hid cright
  have HK := Lib.hid (tOkB_yes k)
  clear k
  go_enter Try.func76, Try.ntmps76
  go_upto_region 1 with fail
  have xw := Ext.refl w
  refine wp_name ?_
  intro V1 hV
  replace xw : Ext w V1 := by rw [hV]; exact Ext.alloc (xw)
  have b10 : Bx V1 w.heap.size #[.int .i64 0, .int .i64 0, .int .i64 0, .int .i64 0] 74 := by rw [hV]; exact Bx.new rfl
  clear hV
  go_upto_region 3 with fail
  go_wp2_with fail
  refine (HM.out _).mono ?_
  rintro e w2 ⟨rfl, x2⟩
  replace b10 := b10.ext x2
  replace xw := Ext.trans xw x2
  go_upto_region 4 with fail
  have o4 := b10.kind.lt
  have o5 := xw.size
  refine wp_name ?_
  intro V3 hV
  have b10N : Bx V3 w.heap.size #[.int .i64 0, .int .i64 0, .int .i64 0, .int .i64 0] 74 := by rw [hV]; exact ((b10).alloc _).alloc _
  replace xw : Ext w V3 := by rw [hV]; exact Ext.alloc (Ext.alloc (xw))
  replace b10 := b10N; clear b10N
  have b12 : Bx V3 w2.heap.size #[.int .i64 h, .int .i64 m, .int .i64 s, .int .i64 n] 87 := by rw [hV]; exact (Bx.new rfl).alloc _
  have b13 : Bx V3 (w2.heap.size + 1) #[.int .i64 23, .int .i64 59, .int .i64 59, .int .i64 999999999] 87 := by rw [hV]; exact Bx.new (by simp)
  clear hV
  have b12_c0 := b12.c 0 (v := .int .i64 h) rfl
  have b12_c1 := b12.c 1 (v := .int .i64 m) rfl
  have b12_c2 := b12.c 2 (v := .int .i64 s) rfl
  have b12_c3 := b12.c 3 (v := .int .i64 n) rfl
  go_wp2_with fail
  refine (HMd.out h m s n _).mono ?_
  rintro e w6 ⟨rfl, x6⟩
  clear b12_c0 b12_c1 b12_c2 b12_c3
  replace b10 := b10.ext x6
  replace b12 := b12.ext x6
  replace b13 := b13.ext x6
  replace xw := Ext.trans xw x6
  go_wp2_with fail
  refine (HR.out h m s n _).mono ?_
  rw [HK.out]
  rintro e w7 ⟨rfl, x7⟩
  replace b10 := b10.ext x7
  replace b12 := b12.ext x7
  replace b13 := b13.ext x7
  replace xw := Ext.trans xw x7
  go_upto_region 5 with fail
  have b12_c0 := b12.c 0 (v := .int .i64 h) rfl
  have b12_c1 := b12.c 1 (v := .int .i64 m) rfl
  have b12_c2 := b12.c 2 (v := .int .i64 s) rfl
  have b12_c3 := b12.c 3 (v := .int .i64 n) rfl
  go_wp2_with fail
  refine (HMd.out h m s n _).mono ?_
  rintro e w8 ⟨rfl, x8⟩
  clear b12_c0 b12_c1 b12_c2 b12_c3
  replace b10 := b10.ext x8
  replace b12 := b12.ext x8
  replace b13 := b13.ext x8
  replace xw := Ext.trans xw x8
  have b10_c0 := b10.c 0 (v := .int .i64 0) rfl
  have b10_c1 := b10.c 1 (v := .int .i64 0) rfl
  have b10_c2 := b10.c 2 (v := .int .i64 0) rfl
  have b10_c3 := b10.c 3 (v := .int .i64 0) rfl
  have b10_f0 := b10.f 0
  have b10_f1 := b10.f 1
  have b10_f2 := b10.f 2
  have b10_f3 := b10.f 3
  have xr := Ext.set (Ext.set (Ext.set (Ext.set (xw) (k := w.heap.size) (o := 0) (u := .int .i64 h) (by omega)) (k := w.heap.size) (o := 1) (u := .int .i64 m) (by omega)) (k := w.heap.size) (o := 2) (u := .int .i64 s) (by omega)) (k := w.heap.size) (o := 3) (u := .int .i64 n) (by omega)
  go_wp2_with fail
  refine bodyPost_ret (v := .tuple #[.agg #[.int .i64 h, .int .i64 m, .int .i64 s, .int .i64 n], .int .i64 0]) (by simp [results, Try.results76, go_sem, b10_c0, b10_c1, b10_c2, b10_c3]) rfl ⟨rfl, xr⟩
set_option maxRecDepth 100000 in
set_option maxHeartbeats 3200000 in
theorem creg_rej (h m s n : Int) (w : World) (k : ¬ tOk h m s n) :
    Calls Try.prog 76 #[.int .i64 h, .int .i64 m, .int .i64 s, .int .i64 n, .int .i64 2] w (fun e w' => e = .returned (.tuple #[.agg #[.int .i64 0, .int .i64 0, .int .i64 0, .int .i64 0], .int .i64 5]) ∧ Ext w w') := by
  have HM := Lib.hid cmost
  have HMd := Lib.hid cmade
  have HR := Lib.hid cright
  have HK := Lib.hid (tOkB_no k)
  clear k
  go_enter Try.func76, Try.ntmps76
  go_upto_region 1 with fail
  have xw := Ext.refl w
  refine wp_name ?_
  intro V1 hV
  replace xw : Ext w V1 := by rw [hV]; exact Ext.alloc (xw)
  have b10 : Bx V1 w.heap.size #[.int .i64 0, .int .i64 0, .int .i64 0, .int .i64 0] 74 := by rw [hV]; exact Bx.new rfl
  clear hV
  go_upto_region 3 with fail
  go_wp2_with fail
  refine (HM.out _).mono ?_
  rintro e w2 ⟨rfl, x2⟩
  replace b10 := b10.ext x2
  replace xw := Ext.trans xw x2
  go_upto_region 4 with fail
  have o4 := b10.kind.lt
  have o5 := xw.size
  refine wp_name ?_
  intro V3 hV
  have b10N : Bx V3 w.heap.size #[.int .i64 0, .int .i64 0, .int .i64 0, .int .i64 0] 74 := by rw [hV]; exact ((b10).alloc _).alloc _
  replace xw : Ext w V3 := by rw [hV]; exact Ext.alloc (Ext.alloc (xw))
  replace b10 := b10N; clear b10N
  have b12 : Bx V3 w2.heap.size #[.int .i64 h, .int .i64 m, .int .i64 s, .int .i64 n] 87 := by rw [hV]; exact (Bx.new rfl).alloc _
  have b13 : Bx V3 (w2.heap.size + 1) #[.int .i64 23, .int .i64 59, .int .i64 59, .int .i64 999999999] 87 := by rw [hV]; exact Bx.new (by simp)
  clear hV
  have b12_c0 := b12.c 0 (v := .int .i64 h) rfl
  have b12_c1 := b12.c 1 (v := .int .i64 m) rfl
  have b12_c2 := b12.c 2 (v := .int .i64 s) rfl
  have b12_c3 := b12.c 3 (v := .int .i64 n) rfl
  go_wp2_with fail
  refine (HMd.out h m s n _).mono ?_
  rintro e w6 ⟨rfl, x6⟩
  clear b12_c0 b12_c1 b12_c2 b12_c3
  replace b10 := b10.ext x6
  replace b12 := b12.ext x6
  replace b13 := b13.ext x6
  replace xw := Ext.trans xw x6
  go_wp2_with fail
  refine (HR.out h m s n _).mono ?_
  rw [HK.out]
  rintro e w7 ⟨rfl, x7⟩
  replace b10 := b10.ext x7
  replace b12 := b12.ext x7
  replace b13 := b13.ext x7
  replace xw := Ext.trans xw x7
  go_upto_region 6 with fail
  go_upto_region 7 with fail
  have b10_c0 := b10.c 0 (v := .int .i64 0) rfl
  have b10_c1 := b10.c 1 (v := .int .i64 0) rfl
  have b10_c2 := b10.c 2 (v := .int .i64 0) rfl
  have b10_c3 := b10.c 3 (v := .int .i64 0) rfl
  have b10_f0 := b10.f 0
  have b10_f1 := b10.f 1
  have b10_f2 := b10.f 2
  have b10_f3 := b10.f 3
  have xr := Ext.set (Ext.set (Ext.set (Ext.set (xw) (k := w.heap.size) (o := 0) (u := .int .i64 0) (by omega)) (k := w.heap.size) (o := 1) (u := .int .i64 0) (by omega)) (k := w.heap.size) (o := 2) (u := .int .i64 0) (by omega)) (k := w.heap.size) (o := 3) (u := .int .i64 0) (by omega)
  go_wp2_with fail
  refine bodyPost_ret (v := .tuple #[.agg #[.int .i64 0, .int .i64 0, .int .i64 0, .int .i64 0], .int .i64 5]) (by simp [results, Try.results76, go_sem, b10_c0, b10_c1, b10_c2, b10_c3]) rfl ⟨rfl, xr⟩
set_option maxRecDepth 100000 in
set_option maxHeartbeats 3200000 in
theorem zreg_bad (h m s n v : Int) (w : World) (v1 : ¬ v = 1) (v2 : ¬ v = 2) :
    Calls Try.prog 77 #[.int .i64 h, .int .i64 m, .int .i64 s, .int .i64 n, .int .i64 v] w (fun e w' => e = .returned (.tuple #[.agg #[.int .i64 0, .int .i64 0, .int .i64 0, .int .i64 0], .int .i64 1]) ∧ Ext w w') := by
  have g1 : (v == 1) = false := by simpa using v1
  have g2 : (v == 2) = false := by simpa using v2
  have g3 : (v != 1) = true := by simpa using v1
  have g4 : (v != 2) = true := by simpa using v2
  go_enter Try.func77, Try.ntmps77
  go_upto_region 1 with fail
  have xw := Ext.refl w
  refine wp_name ?_
  intro V1 hV
  replace xw : Ext w V1 := by rw [hV]; exact Ext.alloc (xw)
  have b10 : Bx V1 w.heap.size #[.int .i64 0, .int .i64 0, .int .i64 0, .int .i64 0] 74 := by rw [hV]; exact Bx.new rfl
  clear hV
  go_upto_region 2 with fail
  have b10_c0 := b10.c 0 (v := .int .i64 0) rfl
  have b10_c1 := b10.c 1 (v := .int .i64 0) rfl
  have b10_c2 := b10.c 2 (v := .int .i64 0) rfl
  have b10_c3 := b10.c 3 (v := .int .i64 0) rfl
  have b10_f0 := b10.f 0
  have b10_f1 := b10.f 1
  have b10_f2 := b10.f 2
  have b10_f3 := b10.f 3
  have xr := Ext.set (Ext.set (Ext.set (Ext.set (xw) (k := w.heap.size) (o := 0) (u := .int .i64 0) (by omega)) (k := w.heap.size) (o := 1) (u := .int .i64 0) (by omega)) (k := w.heap.size) (o := 2) (u := .int .i64 0) (by omega)) (k := w.heap.size) (o := 3) (u := .int .i64 0) (by omega)
  go_wp2_with fail
  refine bodyPost_ret (v := .tuple #[.agg #[.int .i64 0, .int .i64 0, .int .i64 0, .int .i64 0], .int .i64 1]) (by simp [results, Try.results77, go_sem, b10_c0, b10_c1, b10_c2, b10_c3]) rfl ⟨rfl, xr⟩
set_option maxRecDepth 100000 in
set_option maxHeartbeats 3200000 in
theorem zreg_ok1 (h m s n : Int) (w : World) (k : tOk h m s n) :
    Calls Try.prog 77 #[.int .i64 h, .int .i64 m, .int .i64 s, .int .i64 n, .int .i64 1] w (fun e w' => e = .returned (.tuple #[.agg #[.int .i64 h, .int .i64 m, .int .i64 s, .int .i64 n], .int .i64 0]) ∧ Ext w w') := by
  have HR := Lib.hid zright
  have HK := Lib.hid (tOkB_yes k)
  clear k
  go_enter Try.func77, Try.ntmps77
  go_upto_region 1 with fail
  have xw := Ext.refl w
  refine wp_name ?_
  intro V1 hV
  replace xw : Ext w V1 := by rw [hV]; exact Ext.alloc (xw)
  have b10 : Bx V1 w.heap.size #[.int .i64 0, .int .i64 0, .int .i64 0, .int .i64 0] 74 := by rw [hV]; exact Bx.new rfl
  clear hV
  go_upto_region 3 with fail
  go_upto_region 4 with fail
  have o3 := b10.kind.lt
  have o4 := xw.size
  refine wp_name ?_
  intro V2 hV
  have b10N : Bx V2 w.heap.size #[.int .i64 0, .int .i64 0, .int .i64 0, .int .i64 0] 74 := by rw [hV]; exact (b10).alloc _
  replace xw : Ext w V2 := by rw [hV]; exact Ext.alloc (xw)
  replace b10 := b10N; clear b10N
  have b12 : Bx V2 V1.heap.size #[.int .i64 h, .int .i64 m, .int .i64 s, .int .i64 n] 74 := by rw [hV]; exact Bx.new rfl
  clear hV
  have b12_c0 := b12.c 0 (v := .int .i64 h) rfl
  have b12_c1 := b12.c 1 (v := .int .i64 m) rfl
  have b12_c2 := b12.c 2 (v := .int .i64 s) rfl
  have b12_c3 := b12.c 3 (v := .int .i64 n) rfl
  go_wp2_with fail
  refine (HR.out h m s n _).mono ?_
  rw [HK.out]
  rintro e w5 ⟨rfl, x5⟩
  clear b12_c0 b12_c1 b12_c2 b12_c3
  replace b10 := b10.ext x5
  replace b12 := b12.ext x5
  replace xw := Ext.trans xw x5
  go_upto_region 5 with fail
  have b12_c0 := b12.c 0 (v := .int .i64 h) rfl
  have b12_c1 := b12.c 1 (v := .int .i64 m) rfl
  have b12_c2 := b12.c 2 (v := .int .i64 s) rfl
  have b12_c3 := b12.c 3 (v := .int .i64 n) rfl
  have b10_c0 := b10.c 0 (v := .int .i64 0) rfl
  have b10_c1 := b10.c 1 (v := .int .i64 0) rfl
  have b10_c2 := b10.c 2 (v := .int .i64 0) rfl
  have b10_c3 := b10.c 3 (v := .int .i64 0) rfl
  have b10_f0 := b10.f 0
  have b10_f1 := b10.f 1
  have b10_f2 := b10.f 2
  have b10_f3 := b10.f 3
  have xr := Ext.set (Ext.set (Ext.set (Ext.set (xw) (k := w.heap.size) (o := 0) (u := .int .i64 h) (by omega)) (k := w.heap.size) (o := 1) (u := .int .i64 m) (by omega)) (k := w.heap.size) (o := 2) (u := .int .i64 s) (by omega)) (k := w.heap.size) (o := 3) (u := .int .i64 n) (by omega)
  go_wp2_with fail
  refine bodyPost_ret (v := .tuple #[.agg #[.int .i64 h, .int .i64 m, .int .i64 s, .int .i64 n], .int .i64 0]) (by simp [results, Try.results77, go_sem, b10_c0, b10_c1, b10_c2, b10_c3]) rfl ⟨rfl, xr⟩
set_option maxRecDepth 100000 in
set_option maxHeartbeats 3200000 in
theorem zreg_ok2 (h m s n : Int) (w : World) (k : tOk h m s n) :
    Calls Try.prog 77 #[.int .i64 h, .int .i64 m, .int .i64 s, .int .i64 n, .int .i64 2] w (fun e w' => e = .returned (.tuple #[.agg #[.int .i64 h, .int .i64 m, .int .i64 s, .int .i64 n], .int .i64 0]) ∧ Ext w w') := by
  have HR := Lib.hid zright
  have HK := Lib.hid (tOkB_yes k)
  clear k
  go_enter Try.func77, Try.ntmps77
  go_upto_region 1 with fail
  have xw := Ext.refl w
  refine wp_name ?_
  intro V1 hV
  replace xw : Ext w V1 := by rw [hV]; exact Ext.alloc (xw)
  have b10 : Bx V1 w.heap.size #[.int .i64 0, .int .i64 0, .int .i64 0, .int .i64 0] 74 := by rw [hV]; exact Bx.new rfl
  clear hV
  go_upto_region 3 with fail
  go_upto_region 4 with fail
  have o3 := b10.kind.lt
  have o4 := xw.size
  refine wp_name ?_
  intro V2 hV
  have b10N : Bx V2 w.heap.size #[.int .i64 0, .int .i64 0, .int .i64 0, .int .i64 0] 74 := by rw [hV]; exact (b10).alloc _
  replace xw : Ext w V2 := by rw [hV]; exact Ext.alloc (xw)
  replace b10 := b10N; clear b10N
  have b12 : Bx V2 V1.heap.size #[.int .i64 h, .int .i64 m, .int .i64 s, .int .i64 n] 74 := by rw [hV]; exact Bx.new rfl
  clear hV
  have b12_c0 := b12.c 0 (v := .int .i64 h) rfl
  have b12_c1 := b12.c 1 (v := .int .i64 m) rfl
  have b12_c2 := b12.c 2 (v := .int .i64 s) rfl
  have b12_c3 := b12.c 3 (v := .int .i64 n) rfl
  go_wp2_with fail
  refine (HR.out h m s n _).mono ?_
  rw [HK.out]
  rintro e w5 ⟨rfl, x5⟩
  clear b12_c0 b12_c1 b12_c2 b12_c3
  replace b10 := b10.ext x5
  replace b12 := b12.ext x5
  replace xw := Ext.trans xw x5
  go_upto_region 5 with fail
  have b12_c0 := b12.c 0 (v := .int .i64 h) rfl
  have b12_c1 := b12.c 1 (v := .int .i64 m) rfl
  have b12_c2 := b12.c 2 (v := .int .i64 s) rfl
  have b12_c3 := b12.c 3 (v := .int .i64 n) rfl
  have b10_c0 := b10.c 0 (v := .int .i64 0) rfl
  have b10_c1 := b10.c 1 (v := .int .i64 0) rfl
  have b10_c2 := b10.c 2 (v := .int .i64 0) rfl
  have b10_c3 := b10.c 3 (v := .int .i64 0) rfl
  have b10_f0 := b10.f 0
  have b10_f1 := b10.f 1
  have b10_f2 := b10.f 2
  have b10_f3 := b10.f 3
  have xr := Ext.set (Ext.set (Ext.set (Ext.set (xw) (k := w.heap.size) (o := 0) (u := .int .i64 h) (by omega)) (k := w.heap.size) (o := 1) (u := .int .i64 m) (by omega)) (k := w.heap.size) (o := 2) (u := .int .i64 s) (by omega)) (k := w.heap.size) (o := 3) (u := .int .i64 n) (by omega)
  go_wp2_with fail
  refine bodyPost_ret (v := .tuple #[.agg #[.int .i64 h, .int .i64 m, .int .i64 s, .int .i64 n], .int .i64 0]) (by simp [results, Try.results77, go_sem, b10_c0, b10_c1, b10_c2, b10_c3]) rfl ⟨rfl, xr⟩
set_option maxRecDepth 100000 in
set_option maxHeartbeats 3200000 in
theorem zreg_rej (h m s n : Int) (w : World) (k : ¬ tOk h m s n) :
    Calls Try.prog 77 #[.int .i64 h, .int .i64 m, .int .i64 s, .int .i64 n, .int .i64 2] w (fun e w' => e = .returned (.tuple #[.agg #[.int .i64 0, .int .i64 0, .int .i64 0, .int .i64 0], .int .i64 5]) ∧ Ext w w') := by
  have HR := Lib.hid zright
  have HK := Lib.hid (tOkB_no k)
  clear k
  go_enter Try.func77, Try.ntmps77
  go_upto_region 1 with fail
  have xw := Ext.refl w
  refine wp_name ?_
  intro V1 hV
  replace xw : Ext w V1 := by rw [hV]; exact Ext.alloc (xw)
  have b10 : Bx V1 w.heap.size #[.int .i64 0, .int .i64 0, .int .i64 0, .int .i64 0] 74 := by rw [hV]; exact Bx.new rfl
  clear hV
  go_upto_region 3 with fail
  go_upto_region 4 with fail
  have o3 := b10.kind.lt
  have o4 := xw.size
  refine wp_name ?_
  intro V2 hV
  have b10N : Bx V2 w.heap.size #[.int .i64 0, .int .i64 0, .int .i64 0, .int .i64 0] 74 := by rw [hV]; exact (b10).alloc _
  replace xw : Ext w V2 := by rw [hV]; exact Ext.alloc (xw)
  replace b10 := b10N; clear b10N
  have b12 : Bx V2 V1.heap.size #[.int .i64 h, .int .i64 m, .int .i64 s, .int .i64 n] 74 := by rw [hV]; exact Bx.new rfl
  clear hV
  have b12_c0 := b12.c 0 (v := .int .i64 h) rfl
  have b12_c1 := b12.c 1 (v := .int .i64 m) rfl
  have b12_c2 := b12.c 2 (v := .int .i64 s) rfl
  have b12_c3 := b12.c 3 (v := .int .i64 n) rfl
  go_wp2_with fail
  refine (HR.out h m s n _).mono ?_
  rw [HK.out]
  rintro e w5 ⟨rfl, x5⟩
  clear b12_c0 b12_c1 b12_c2 b12_c3
  replace b10 := b10.ext x5
  replace b12 := b12.ext x5
  replace xw := Ext.trans xw x5
  go_upto_region 6 with fail
  go_upto_region 7 with fail
  have b10_c0 := b10.c 0 (v := .int .i64 0) rfl
  have b10_c1 := b10.c 1 (v := .int .i64 0) rfl
  have b10_c2 := b10.c 2 (v := .int .i64 0) rfl
  have b10_c3 := b10.c 3 (v := .int .i64 0) rfl
  have b10_f0 := b10.f 0
  have b10_f1 := b10.f 1
  have b10_f2 := b10.f 2
  have b10_f3 := b10.f 3
  have xr := Ext.set (Ext.set (Ext.set (Ext.set (xw) (k := w.heap.size) (o := 0) (u := .int .i64 0) (by omega)) (k := w.heap.size) (o := 1) (u := .int .i64 0) (by omega)) (k := w.heap.size) (o := 2) (u := .int .i64 0) (by omega)) (k := w.heap.size) (o := 3) (u := .int .i64 0) (by omega)
  go_wp2_with fail
  refine bodyPost_ret (v := .tuple #[.agg #[.int .i64 0, .int .i64 0, .int .i64 0, .int .i64 0], .int .i64 5]) (by simp [results, Try.results77, go_sem, b10_c0, b10_c1, b10_c2, b10_c3]) rfl ⟨rfl, xr⟩
set_option maxRecDepth 100000 in
set_option maxHeartbeats 3200000 in
theorem zreg_con (h m s n : Int) (w : World) (k : ¬ tOk h m s n) :
    Calls Try.prog 77 #[.int .i64 h, .int .i64 m, .int .i64 s, .int .i64 n, .int .i64 1] w (fun e w' => e = .returned (.tuple #[.agg #[.int .i64 (near h 23), .int .i64 (near m 59), .int .i64 (near s 59), .int .i64 (near n 999999999)], .int .i64 0]) ∧ Ext w w') := by
  have HR := Lib.hid zright
  have HNr := Lib.hid znear
  have HK := Lib.hid (tOkB_no k)
  clear k
  go_enter Try.func77, Try.ntmps77
  go_upto_region 1 with fail
  have xw := Ext.refl w
  refine wp_name ?_
  intro V1 hV
  replace xw : Ext w V1 := by rw [hV]; exact Ext.alloc (xw)
  have b10 : Bx V1 w.heap.size #[.int .i64 0, .int .i64 0, .int .i64 0, .int .i64 0] 74 := by rw [hV]; exact Bx.new rfl
  clear hV
  go_upto_region 3 with fail
  go_upto_region 4 with fail
  have o3 := b10.kind.lt
  have o4 := xw.size
  refine wp_name ?_
  intro V2 hV
  have b10N : Bx V2 w.heap.size #[.int .i64 0, .int .i64 0, .int .i64 0, .int .i64 0] 74 := by rw [hV]; exact (b10).alloc _
  replace xw : Ext w V2 := by rw [hV]; exact Ext.alloc (xw)
  replace b10 := b10N; clear b10N
  have b12 : Bx V2 V1.heap.size #[.int .i64 h, .int .i64 m, .int .i64 s, .int .i64 n] 74 := by rw [hV]; exact Bx.new rfl
  clear hV
  have b12_c0 := b12.c 0 (v := .int .i64 h) rfl
  have b12_c1 := b12.c 1 (v := .int .i64 m) rfl
  have b12_c2 := b12.c 2 (v := .int .i64 s) rfl
  have b12_c3 := b12.c 3 (v := .int .i64 n) rfl
  go_wp2_with fail
  refine (HR.out h m s n _).mono ?_
  rw [HK.out]
  rintro e w5 ⟨rfl, x5⟩
  clear b12_c0 b12_c1 b12_c2 b12_c3
  replace b10 := b10.ext x5
  replace b12 := b12.ext x5
  replace xw := Ext.trans xw x5
  go_upto_region 6 with fail
  go_upto_region 8 with fail
  go_wp2_with fail
  refine (HNr.out h 23 _).mono ?_
  rintro e w6 ⟨rfl, rfl⟩
  go_wp2_with fail
  refine (HNr.out m 59 _).mono ?_
  rintro e w7 ⟨rfl, rfl⟩
  go_wp2_with fail
  refine (HNr.out s 59 _).mono ?_
  rintro e w8 ⟨rfl, rfl⟩
  go_wp2_with fail
  refine (HNr.out n 999999999 _).mono ?_
  rintro e w9 ⟨rfl, rfl⟩
  have b10_c0 := b10.c 0 (v := .int .i64 0) rfl
  have b10_c1 := b10.c 1 (v := .int .i64 0) rfl
  have b10_c2 := b10.c 2 (v := .int .i64 0) rfl
  have b10_c3 := b10.c 3 (v := .int .i64 0) rfl
  have b10_f0 := b10.f 0
  have b10_f1 := b10.f 1
  have b10_f2 := b10.f 2
  have b10_f3 := b10.f 3
  have xr := Ext.set (Ext.set (Ext.set (Ext.set (xw) (k := w.heap.size) (o := 0) (u := .int .i64 (near h 23)) (by omega)) (k := w.heap.size) (o := 1) (u := .int .i64 (near m 59)) (by omega)) (k := w.heap.size) (o := 2) (u := .int .i64 (near s 59)) (by omega)) (k := w.heap.size) (o := 3) (u := .int .i64 (near n 999999999)) (by omega)
  go_wp2_with fail
  refine bodyPost_ret (v := .tuple #[.agg #[.int .i64 (near h 23), .int .i64 (near m 59), .int .i64 (near s 59), .int .i64 (near n 999999999)], .int .i64 0]) (by simp [results, Try.results77, go_sem, b10_c0, b10_c1, b10_c2, b10_c3]) rfl ⟨rfl, xr⟩
set_option maxRecDepth 100000 in
set_option maxHeartbeats 3200000 in
theorem creg_con (h m s n : Int) (w : World) (k : ¬ tOk h m s n) :
    Calls Try.prog 76 #[.int .i64 h, .int .i64 m, .int .i64 s, .int .i64 n, .int .i64 1] w (fun e w' => e = .returned (.tuple #[.agg #[.int .i64 (near h 23), .int .i64 (near m 59), .int .i64 (near s 59), .int .i64 (near n 999999999)], .int .i64 0]) ∧ Ext w w') := by
  have HM := Lib.hid cmost
  have HMd := Lib.hid cmade
  have HR := Lib.hid cright
  have HK := Lib.hid (tOkB_no k)
  clear k
  go_enter Try.func76, Try.ntmps76
  go_upto_region 1 with fail
  have xw := Ext.refl w
  refine wp_name ?_
  intro V1 hV
  replace xw : Ext w V1 := by rw [hV]; exact Ext.alloc (xw)
  have b10 : Bx V1 w.heap.size #[.int .i64 0, .int .i64 0, .int .i64 0, .int .i64 0] 74 := by rw [hV]; exact Bx.new rfl
  clear hV
  go_upto_region 3 with fail
  go_wp2_with fail
  refine (HM.out _).mono ?_
  rintro e w2 ⟨rfl, x2⟩
  replace b10 := b10.ext x2
  replace xw := Ext.trans xw x2
  go_upto_region 4 with fail
  have o4 := b10.kind.lt
  have o5 := xw.size
  refine wp_name ?_
  intro V3 hV
  have b10N : Bx V3 w.heap.size #[.int .i64 0, .int .i64 0, .int .i64 0, .int .i64 0] 74 := by rw [hV]; exact ((b10).alloc _).alloc _
  replace xw : Ext w V3 := by rw [hV]; exact Ext.alloc (Ext.alloc (xw))
  replace b10 := b10N; clear b10N
  have b12 : Bx V3 w2.heap.size #[.int .i64 h, .int .i64 m, .int .i64 s, .int .i64 n] 87 := by rw [hV]; exact (Bx.new rfl).alloc _
  have b13 : Bx V3 (w2.heap.size + 1) #[.int .i64 23, .int .i64 59, .int .i64 59, .int .i64 999999999] 87 := by rw [hV]; exact Bx.new (by simp)
  clear hV
  have b12_c0 := b12.c 0 (v := .int .i64 h) rfl
  have b12_c1 := b12.c 1 (v := .int .i64 m) rfl
  have b12_c2 := b12.c 2 (v := .int .i64 s) rfl
  have b12_c3 := b12.c 3 (v := .int .i64 n) rfl
  go_wp2_with fail
  refine (HMd.out h m s n _).mono ?_
  rintro e w6 ⟨rfl, x6⟩
  clear b12_c0 b12_c1 b12_c2 b12_c3
  replace b10 := b10.ext x6
  replace b12 := b12.ext x6
  replace b13 := b13.ext x6
  replace xw := Ext.trans xw x6
  go_wp2_with fail
  refine (HR.out h m s n _).mono ?_
  rw [HK.out]
  rintro e w7 ⟨rfl, x7⟩
  replace b10 := b10.ext x7
  replace b12 := b12.ext x7
  replace b13 := b13.ext x7
  replace xw := Ext.trans xw x7
  go_upto_region 6 with fail
  go_upto_region 8 with fail
  go_wp2_with fail
  go_loopw [36] (fun s36 wr => ∃ (j : Nat), j ≤ 4 ∧ s36 = .int .i64 j ∧ Bx wr w.heap.size #[.int .i64 0, .int .i64 0, .int .i64 0, .int .i64 0] 74 ∧ Bx wr w2.heap.size #[.int .i64 (rgf 0 j h 23), .int .i64 (rgf 1 j m 59), .int .i64 (rgf 2 j s 59), .int .i64 (rgf 3 j n 999999999)] 87 ∧ Bx wr (w2.heap.size + 1) #[.int .i64 23, .int .i64 59, .int .i64 59, .int .i64 999999999] 87 ∧ Ext w wr) (fun s36 _ => 4 - (intOf s36).toNat)
  case atStart => exact ⟨0, by omega, rfl, b10, b12, b13, xw⟩
  case round =>
    clear b10 b12 b13 xw
    obtain ⟨j, hj, rfl, b10, b12, b13, xw⟩ := hrel
    refine wp_name ?_
    intro Wr8 hV
    subst hV
    have hk3 : j = 0 ∨ j = 1 ∨ j = 2 ∨ j = 3 ∨ j = 4 := by omega
    clear hj
    rcases hk3 with rfl | rfl | rfl | rfl | rfl
    · replace b12 : Bx Wr8 w2.heap.size #[.int .i64 h, .int .i64 m, .int .i64 s, .int .i64 n] 87 := b12
      have HE := Lib.hid (near_mm (n := h) (k := 23) (by omega))
      go_upto_region 11 with fail
      have b12_c0 := b12.c 0 (v := .int .i64 h) rfl
      have b12_f0 := b12.f 0
      have b13_c0 := b13.c 0 (v := .int .i64 23) rfl
      go_region
      clear b12_c0 b12_f0 b13_c0
      go_upto_region 12 with fail
      refine wp_name ?_
      intro V9 hV
      have b10N : Bx V9 w.heap.size #[.int .i64 0, .int .i64 0, .int .i64 0, .int .i64 0] 74 := by rw [hV]; exact ((b10).other (b := w2.heap.size) (by omega) 0 (.int .i64 (min (max h 0) 23))).drew
      have b12N : Bx V9 w2.heap.size #[.int .i64 (min (max h 0) 23), .int .i64 m, .int .i64 s, .int .i64 n] 87 := by rw [hV]; exact ((b12).setc 0 (.int .i64 (min (max h 0) 23)) (cs' := #[.int .i64 (min (max h 0) 23), .int .i64 m, .int .i64 s, .int .i64 n]) rfl).drew
      have b13N : Bx V9 (w2.heap.size + 1) #[.int .i64 23, .int .i64 59, .int .i64 59, .int .i64 999999999] 87 := by rw [hV]; exact ((b13).other (b := w2.heap.size) (by omega) 0 (.int .i64 (min (max h 0) 23))).drew
      replace xw : Ext w V9 := by rw [hV]; exact Ext.drew (Ext.set (xw) (k := w2.heap.size) (o := 0) (u := .int .i64 (min (max h 0) 23)) (by omega))
      replace b10 := b10N; clear b10N
      replace b12 := b12N; clear b12N
      replace b13 := b13N; clear b13N
      clear hV
      go_wp2_with fail
      rw [← HE.out] at b12
      go_roundw
      case rel => exact ⟨1, by omega, by go_num, b10, b12, b13, xw⟩
      case measure => simp [intOf] <;> omega
    · replace b12 : Bx Wr8 w2.heap.size #[.int .i64 (near h 23), .int .i64 m, .int .i64 s, .int .i64 n] 87 := b12
      have HE := Lib.hid (near_mm (n := m) (k := 59) (by omega))
      go_upto_region 11 with fail
      have b12_c1 := b12.c 1 (v := .int .i64 m) rfl
      have b12_f1 := b12.f 1
      have b13_c1 := b13.c 1 (v := .int .i64 59) rfl
      go_region
      clear b12_c1 b12_f1 b13_c1
      go_upto_region 12 with fail
      refine wp_name ?_
      intro V10 hV
      have b10N : Bx V10 w.heap.size #[.int .i64 0, .int .i64 0, .int .i64 0, .int .i64 0] 74 := by rw [hV]; exact ((b10).other (b := w2.heap.size) (by omega) 1 (.int .i64 (min (max m 0) 59))).drew
      have b12N : Bx V10 w2.heap.size #[.int .i64 (near h 23), .int .i64 (min (max m 0) 59), .int .i64 s, .int .i64 n] 87 := by rw [hV]; exact ((b12).setc 1 (.int .i64 (min (max m 0) 59)) (cs' := #[.int .i64 (near h 23), .int .i64 (min (max m 0) 59), .int .i64 s, .int .i64 n]) rfl).drew
      have b13N : Bx V10 (w2.heap.size + 1) #[.int .i64 23, .int .i64 59, .int .i64 59, .int .i64 999999999] 87 := by rw [hV]; exact ((b13).other (b := w2.heap.size) (by omega) 1 (.int .i64 (min (max m 0) 59))).drew
      replace xw : Ext w V10 := by rw [hV]; exact Ext.drew (Ext.set (xw) (k := w2.heap.size) (o := 1) (u := .int .i64 (min (max m 0) 59)) (by omega))
      replace b10 := b10N; clear b10N
      replace b12 := b12N; clear b12N
      replace b13 := b13N; clear b13N
      clear hV
      go_wp2_with fail
      rw [← HE.out] at b12
      go_roundw
      case rel => exact ⟨2, by omega, by go_num, b10, b12, b13, xw⟩
      case measure => simp [intOf] <;> omega
    · replace b12 : Bx Wr8 w2.heap.size #[.int .i64 (near h 23), .int .i64 (near m 59), .int .i64 s, .int .i64 n] 87 := b12
      have HE := Lib.hid (near_mm (n := s) (k := 59) (by omega))
      go_upto_region 11 with fail
      have b12_c2 := b12.c 2 (v := .int .i64 s) rfl
      have b12_f2 := b12.f 2
      have b13_c2 := b13.c 2 (v := .int .i64 59) rfl
      go_region
      clear b12_c2 b12_f2 b13_c2
      go_upto_region 12 with fail
      refine wp_name ?_
      intro V11 hV
      have b10N : Bx V11 w.heap.size #[.int .i64 0, .int .i64 0, .int .i64 0, .int .i64 0] 74 := by rw [hV]; exact ((b10).other (b := w2.heap.size) (by omega) 2 (.int .i64 (min (max s 0) 59))).drew
      have b12N : Bx V11 w2.heap.size #[.int .i64 (near h 23), .int .i64 (near m 59), .int .i64 (min (max s 0) 59), .int .i64 n] 87 := by rw [hV]; exact ((b12).setc 2 (.int .i64 (min (max s 0) 59)) (cs' := #[.int .i64 (near h 23), .int .i64 (near m 59), .int .i64 (min (max s 0) 59), .int .i64 n]) rfl).drew
      have b13N : Bx V11 (w2.heap.size + 1) #[.int .i64 23, .int .i64 59, .int .i64 59, .int .i64 999999999] 87 := by rw [hV]; exact ((b13).other (b := w2.heap.size) (by omega) 2 (.int .i64 (min (max s 0) 59))).drew
      replace xw : Ext w V11 := by rw [hV]; exact Ext.drew (Ext.set (xw) (k := w2.heap.size) (o := 2) (u := .int .i64 (min (max s 0) 59)) (by omega))
      replace b10 := b10N; clear b10N
      replace b12 := b12N; clear b12N
      replace b13 := b13N; clear b13N
      clear hV
      go_wp2_with fail
      rw [← HE.out] at b12
      go_roundw
      case rel => exact ⟨3, by omega, by go_num, b10, b12, b13, xw⟩
      case measure => simp [intOf] <;> omega
    · replace b12 : Bx Wr8 w2.heap.size #[.int .i64 (near h 23), .int .i64 (near m 59), .int .i64 (near s 59), .int .i64 n] 87 := b12
      have HE := Lib.hid (near_mm (n := n) (k := 999999999) (by omega))
      go_upto_region 11 with fail
      have b12_c3 := b12.c 3 (v := .int .i64 n) rfl
      have b12_f3 := b12.f 3
      have b13_c3 := b13.c 3 (v := .int .i64 999999999) rfl
      go_region
      clear b12_c3 b12_f3 b13_c3
      go_upto_region 12 with fail
      refine wp_name ?_
      intro V12 hV
      have b10N : Bx V12 w.heap.size #[.int .i64 0, .int .i64 0, .int .i64 0, .int .i64 0] 74 := by rw [hV]; exact ((b10).other (b := w2.heap.size) (by omega) 3 (.int .i64 (min (max n 0) 999999999))).drew
      have b12N : Bx V12 w2.heap.size #[.int .i64 (near h 23), .int .i64 (near m 59), .int .i64 (near s 59), .int .i64 (min (max n 0) 999999999)] 87 := by rw [hV]; exact ((b12).setc 3 (.int .i64 (min (max n 0) 999999999)) (cs' := #[.int .i64 (near h 23), .int .i64 (near m 59), .int .i64 (near s 59), .int .i64 (min (max n 0) 999999999)]) rfl).drew
      have b13N : Bx V12 (w2.heap.size + 1) #[.int .i64 23, .int .i64 59, .int .i64 59, .int .i64 999999999] 87 := by rw [hV]; exact ((b13).other (b := w2.heap.size) (by omega) 3 (.int .i64 (min (max n 0) 999999999))).drew
      replace xw : Ext w V12 := by rw [hV]; exact Ext.drew (Ext.set (xw) (k := w2.heap.size) (o := 3) (u := .int .i64 (min (max n 0) 999999999)) (by omega))
      replace b10 := b10N; clear b10N
      replace b12 := b12N; clear b12N
      replace b13 := b13N; clear b13N
      clear hV
      go_wp2_with fail
      rw [← HE.out] at b12
      go_roundw
      case rel => exact ⟨4, by omega, by go_num, b10, b12, b13, xw⟩
      case measure => simp [intOf] <;> omega
    · replace b12 : Bx Wr8 w2.heap.size #[.int .i64 (near h 23), .int .i64 (near m 59), .int .i64 (near s 59), .int .i64 (near n 999999999)] 87 := b12
      go_upto_region 13 with fail
      have b12_c0 := b12.c 0 (v := .int .i64 (near h 23)) rfl
      have b12_c1 := b12.c 1 (v := .int .i64 (near m 59)) rfl
      have b12_c2 := b12.c 2 (v := .int .i64 (near s 59)) rfl
      have b12_c3 := b12.c 3 (v := .int .i64 (near n 999999999)) rfl
      go_wp2_with fail
      refine (HMd.out (near h 23) (near m 59) (near s 59) (near n 999999999) _).mono ?_
      rintro e w13 ⟨rfl, x13⟩
      clear b12_c0 b12_c1 b12_c2 b12_c3
      replace b10 := b10.ext x13
      replace b12 := b12.ext x13
      replace b13 := b13.ext x13
      replace xw := Ext.trans xw x13
      have b10_c0 := b10.c 0 (v := .int .i64 0) rfl
      have b10_c1 := b10.c 1 (v := .int .i64 0) rfl
      have b10_c2 := b10.c 2 (v := .int .i64 0) rfl
      have b10_c3 := b10.c 3 (v := .int .i64 0) rfl
      have b10_f0 := b10.f 0
      have b10_f1 := b10.f 1
      have b10_f2 := b10.f 2
      have b10_f3 := b10.f 3
      have xr := Ext.set (Ext.set (Ext.set (Ext.set (xw) (k := w.heap.size) (o := 0) (u := .int .i64 (near h 23)) (by omega)) (k := w.heap.size) (o := 1) (u := .int .i64 (near m 59)) (by omega)) (k := w.heap.size) (o := 2) (u := .int .i64 (near s 59)) (by omega)) (k := w.heap.size) (o := 3) (u := .int .i64 (near n 999999999)) (by omega)
      go_wp2_with fail
      refine bodyPost_ret (v := .tuple #[.agg #[.int .i64 (near h 23), .int .i64 (near m 59), .int .i64 (near s 59), .int .i64 (near n 999999999)], .int .i64 0]) (by simp [results, Try.results76, go_sem, b10_c0, b10_c1, b10_c2, b10_c3]) rfl ⟨rfl, xr⟩
end Go.Proofs.Ytmkddcmfofabbaa
