/-
  The law ClockOrders, walked.
-/
import Derived.Test.YtmkddcmfofabbaaLwAdd
import Derived.Test.YtmkddcmfofabbaaCkf
set_option linter.unusedSimpArgs false
set_option linter.unusedVariables false
namespace Go.Proofs.Ytmkddcmfofabbaa
open Go Go.RowKit

set_option maxRecDepth 100000 in
set_option maxHeartbeats 3200000 in
theorem orders_01 (h m s n h' m' s' n' : Int) (w : World) (k1 : ¬ tOk h m s n) (k2 : tOk h' m' s' n') :
    Calls Try.prog 21 #[.agg #[.int .i64 h, .int .i64 m, .int .i64 s, .int .i64 n], .agg #[.int .i64 h', .int .i64 m', .int .i64 s', .int .i64 n']] w (fun e w' => e = .returned (.bool true) ∧ Ext w w') := by
  have HAl := Lib.hid alive6
  have HNy := Lib.hid cnanos_yes
  have HNn := Lib.hid cnanos_no
  have Hk1 := Lib.hid k1
  have Hk2 := Lib.hid k2
  clear k1 k2
  obtain ⟨x, e1⟩ : ∃ x, tnan h m s n = x := ⟨_, rfl⟩
  obtain ⟨y, e2⟩ : ∃ y, tnan h' m' s' n' = y := ⟨_, rfl⟩
  have HA1 := Lib.hid e1
  have HA2 := Lib.hid e2
  clear e1 e2
  go_enter Try.func21, Try.ntmps21
  go_upto_region 1 with fail
  have xw := Ext.refl w
  refine wp_name ?_
  intro V1 hV
  replace xw : Ext w V1 := by rw [hV]; exact Ext.alloc (Ext.alloc (xw))
  have b2 : Bx V1 w.heap.size #[.int .i64 h, .int .i64 m, .int .i64 s, .int .i64 n] 74 := by rw [hV]; exact (Bx.new rfl).alloc _
  have b3 : Bx V1 (w.heap.size + 1) #[.int .i64 h', .int .i64 m', .int .i64 s', .int .i64 n'] 74 := by rw [hV]; exact Bx.new (by simp)
  clear hV
  have b2_c0 := b2.c 0 (v := .int .i64 h) rfl
  have b2_c1 := b2.c 1 (v := .int .i64 m) rfl
  have b2_c2 := b2.c 2 (v := .int .i64 s) rfl
  have b2_c3 := b2.c 3 (v := .int .i64 n) rfl
  go_wp2_with fail
  refine (HNn.out h m s n _ Hk1.out).mono ?_
  rintro e w2 ⟨rfl, x2⟩
  clear b2_c0 b2_c1 b2_c2 b2_c3
  replace b2 := b2.ext x2
  replace b3 := b3.ext x2
  replace xw := Ext.trans xw x2
  go_upto_region 2 with fail
  have b3_c0 := b3.c 0 (v := .int .i64 h') rfl
  have b3_c1 := b3.c 1 (v := .int .i64 m') rfl
  have b3_c2 := b3.c 2 (v := .int .i64 s') rfl
  have b3_c3 := b3.c 3 (v := .int .i64 n') rfl
  go_wp2_with fail
  refine (HNy.out h' m' s' n' _ Hk2.out).mono ?_
  rintro e w3 ⟨rfl, x3⟩
  rw [HA2.out]
  clear b3_c0 b3_c1 b3_c2 b3_c3
  replace b2 := b2.ext x3
  replace b3 := b3.ext x3
  replace xw := Ext.trans xw x3
  go_upto_region 3 with fail
  go_upto_region 4 with fail
  go_wp2_with fail
  refine (HAl.out _).mono ?_
  rintro e w4 ⟨rfl, x4⟩
  replace b2 := b2.ext x4
  replace b3 := b3.ext x4
  replace xw := Ext.trans xw x4
  have xr := xw
  go_wp2_with fail
  refine bodyPost_ret (v := .bool true) (by simp [results, Try.results21, go_sem]) rfl ⟨rfl, xr⟩
set_option maxRecDepth 100000 in
set_option maxHeartbeats 3200000 in
theorem orders_00 (h m s n h' m' s' n' : Int) (w : World) (k1 : ¬ tOk h m s n) (k2 : ¬ tOk h' m' s' n') :
    Calls Try.prog 21 #[.agg #[.int .i64 h, .int .i64 m, .int .i64 s, .int .i64 n], .agg #[.int .i64 h', .int .i64 m', .int .i64 s', .int .i64 n']] w (fun e w' => e = .returned (.bool true) ∧ Ext w w') := by
  have HAl := Lib.hid alive6
  have HNy := Lib.hid cnanos_yes
  have HNn := Lib.hid cnanos_no
  have Hk1 := Lib.hid k1
  have Hk2 := Lib.hid k2
  clear k1 k2
  obtain ⟨x, e1⟩ : ∃ x, tnan h m s n = x := ⟨_, rfl⟩
  obtain ⟨y, e2⟩ : ∃ y, tnan h' m' s' n' = y := ⟨_, rfl⟩
  have HA1 := Lib.hid e1
  have HA2 := Lib.hid e2
  clear e1 e2
  go_enter Try.func21, Try.ntmps21
  go_upto_region 1 with fail
  have xw := Ext.refl w
  refine wp_name ?_
  intro V1 hV
  replace xw : Ext w V1 := by rw [hV]; exact Ext.alloc (Ext.alloc (xw))
  have b2 : Bx V1 w.heap.size #[.int .i64 h, .int .i64 m, .int .i64 s, .int .i64 n] 74 := by rw [hV]; exact (Bx.new rfl).alloc _
  have b3 : Bx V1 (w.heap.size + 1) #[.int .i64 h', .int .i64 m', .int .i64 s', .int .i64 n'] 74 := by rw [hV]; exact Bx.new (by simp)
  clear hV
  have b2_c0 := b2.c 0 (v := .int .i64 h) rfl
  have b2_c1 := b2.c 1 (v := .int .i64 m) rfl
  have b2_c2 := b2.c 2 (v := .int .i64 s) rfl
  have b2_c3 := b2.c 3 (v := .int .i64 n) rfl
  go_wp2_with fail
  refine (HNn.out h m s n _ Hk1.out).mono ?_
  rintro e w2 ⟨rfl, x2⟩
  clear b2_c0 b2_c1 b2_c2 b2_c3
  replace b2 := b2.ext x2
  replace b3 := b3.ext x2
  replace xw := Ext.trans xw x2
  go_upto_region 2 with fail
  have b3_c0 := b3.c 0 (v := .int .i64 h') rfl
  have b3_c1 := b3.c 1 (v := .int .i64 m') rfl
  have b3_c2 := b3.c 2 (v := .int .i64 s') rfl
  have b3_c3 := b3.c 3 (v := .int .i64 n') rfl
  go_wp2_with fail
  refine (HNn.out h' m' s' n' _ Hk2.out).mono ?_
  rintro e w3 ⟨rfl, x3⟩
  clear b3_c0 b3_c1 b3_c2 b3_c3
  replace b2 := b2.ext x3
  replace b3 := b3.ext x3
  replace xw := Ext.trans xw x3
  go_upto_region 3 with fail
  go_upto_region 4 with fail
  go_wp2_with fail
  refine (HAl.out _).mono ?_
  rintro e w4 ⟨rfl, x4⟩
  replace b2 := b2.ext x4
  replace b3 := b3.ext x4
  replace xw := Ext.trans xw x4
  have xr := xw
  go_wp2_with fail
  refine bodyPost_ret (v := .bool true) (by simp [results, Try.results21, go_sem]) rfl ⟨rfl, xr⟩
set_option maxRecDepth 100000 in
set_option maxHeartbeats 3200000 in
theorem orders_10 (h m s n h' m' s' n' : Int) (w : World) (k1 : tOk h m s n) (k2 : ¬ tOk h' m' s' n') :
    Calls Try.prog 21 #[.agg #[.int .i64 h, .int .i64 m, .int .i64 s, .int .i64 n], .agg #[.int .i64 h', .int .i64 m', .int .i64 s', .int .i64 n']] w (fun e w' => e = .returned (.bool true) ∧ Ext w w') := by
  have HAl := Lib.hid alive6
  have HNy := Lib.hid cnanos_yes
  have HNn := Lib.hid cnanos_no
  have Hk1 := Lib.hid k1
  have Hk2 := Lib.hid k2
  clear k1 k2
  obtain ⟨x, e1⟩ : ∃ x, tnan h m s n = x := ⟨_, rfl⟩
  obtain ⟨y, e2⟩ : ∃ y, tnan h' m' s' n' = y := ⟨_, rfl⟩
  have HA1 := Lib.hid e1
  have HA2 := Lib.hid e2
  clear e1 e2
  go_enter Try.func21, Try.ntmps21
  go_upto_region 1 with fail
  have xw := Ext.refl w
  refine wp_name ?_
  intro V1 hV
  replace xw : Ext w V1 := by rw [hV]; exact Ext.alloc (Ext.alloc (xw))
  have b2 : Bx V1 w.heap.size #[.int .i64 h, .int .i64 m, .int .i64 s, .int .i64 n] 74 := by rw [hV]; exact (Bx.new rfl).alloc _
  have b3 : Bx V1 (w.heap.size + 1) #[.int .i64 h', .int .i64 m', .int .i64 s', .int .i64 n'] 74 := by rw [hV]; exact Bx.new (by simp)
  clear hV
  have b2_c0 := b2.c 0 (v := .int .i64 h) rfl
  have b2_c1 := b2.c 1 (v := .int .i64 m) rfl
  have b2_c2 := b2.c 2 (v := .int .i64 s) rfl
  have b2_c3 := b2.c 3 (v := .int .i64 n) rfl
  go_wp2_with fail
  refine (HNy.out h m s n _ Hk1.out).mono ?_
  rintro e w2 ⟨rfl, x2⟩
  rw [HA1.out]
  clear b2_c0 b2_c1 b2_c2 b2_c3
  replace b2 := b2.ext x2
  replace b3 := b3.ext x2
  replace xw := Ext.trans xw x2
  go_upto_region 2 with fail
  have b3_c0 := b3.c 0 (v := .int .i64 h') rfl
  have b3_c1 := b3.c 1 (v := .int .i64 m') rfl
  have b3_c2 := b3.c 2 (v := .int .i64 s') rfl
  have b3_c3 := b3.c 3 (v := .int .i64 n') rfl
  go_wp2_with fail
  refine (HNn.out h' m' s' n' _ Hk2.out).mono ?_
  rintro e w3 ⟨rfl, x3⟩
  clear b3_c0 b3_c1 b3_c2 b3_c3
  replace b2 := b2.ext x3
  replace b3 := b3.ext x3
  replace xw := Ext.trans xw x3
  go_upto_region 3 with fail
  go_upto_region 4 with fail
  go_wp2_with fail
  refine (HAl.out _).mono ?_
  rintro e w4 ⟨rfl, x4⟩
  replace b2 := b2.ext x4
  replace b3 := b3.ext x4
  replace xw := Ext.trans xw x4
  have xr := xw
  go_wp2_with fail
  refine bodyPost_ret (v := .bool true) (by simp [results, Try.results21, go_sem]) rfl ⟨rfl, xr⟩
set_option maxRecDepth 100000 in
set_option maxHeartbeats 3200000 in
theorem orders_11 (h m s n h' m' s' n' : Int) (w : World) (k1 : tOk h m s n) (k2 : tOk h' m' s' n') :
    Calls Try.prog 21 #[.agg #[.int .i64 h, .int .i64 m, .int .i64 s, .int .i64 n], .agg #[.int .i64 h', .int .i64 m', .int .i64 s', .int .i64 n']] w (fun e w' => e = .returned (.bool true) ∧ Ext w w') := by
  have HAl := Lib.hid alive6
  have HNy := Lib.hid cnanos_yes
  have HO := Lib.hid cof_yes
  have HC := Lib.hid cCmp
  have Hk1 := Lib.hid k1
  have Hk2 := Lib.hid k2
  obtain ⟨x0, x1⟩ := tnan_bd k1
  have hb := t_tnan k1
  have hc := cmp4_nan k1 k2
  obtain ⟨x, e1⟩ : ∃ x, tnan h m s n = x := ⟨_, rfl⟩
  obtain ⟨y, e2⟩ : ∃ y, tnan h' m' s' n' = y := ⟨_, rfl⟩
  rw [e1] at x0 x1 hb hc
  rw [e2] at hc
  have HA1 := Lib.hid e1
  have HA2 := Lib.hid e2
  have HB := Lib.hid hb
  have Hcc := Lib.hid hc
  clear e1 e2 k1 k2 hb hc
  by_cases hlt : x < y
  · skip
    have HCv := Lib.hid (show cmp4 h m s n h' m' s' n' = -1 by rw [Hcc.out]; exact cmpI_lt hlt)
    have g1 : decide (x < y) = true := decide_eq_true hlt
    go_enter Try.func21, Try.ntmps21
    go_upto_region 1 with fail
    have xw := Ext.refl w
    refine wp_name ?_
    intro V1 hV
    replace xw : Ext w V1 := by rw [hV]; exact Ext.alloc (Ext.alloc (xw))
    have b2 : Bx V1 w.heap.size #[.int .i64 h, .int .i64 m, .int .i64 s, .int .i64 n] 74 := by rw [hV]; exact (Bx.new rfl).alloc _
    have b3 : Bx V1 (w.heap.size + 1) #[.int .i64 h', .int .i64 m', .int .i64 s', .int .i64 n'] 74 := by rw [hV]; exact Bx.new (by simp)
    clear hV
    have b2_c0 := b2.c 0 (v := .int .i64 h) rfl
    have b2_c1 := b2.c 1 (v := .int .i64 m) rfl
    have b2_c2 := b2.c 2 (v := .int .i64 s) rfl
    have b2_c3 := b2.c 3 (v := .int .i64 n) rfl
    go_wp2_with fail
    refine (HNy.out h m s n _ Hk1.out).mono ?_
    rintro e w2 ⟨rfl, x2⟩
    rw [HA1.out]
    clear b2_c0 b2_c1 b2_c2 b2_c3
    replace b2 := b2.ext x2
    replace b3 := b3.ext x2
    replace xw := Ext.trans xw x2
    go_upto_region 2 with fail
    have b3_c0 := b3.c 0 (v := .int .i64 h') rfl
    have b3_c1 := b3.c 1 (v := .int .i64 m') rfl
    have b3_c2 := b3.c 2 (v := .int .i64 s') rfl
    have b3_c3 := b3.c 3 (v := .int .i64 n') rfl
    go_wp2_with fail
    refine (HNy.out h' m' s' n' _ Hk2.out).mono ?_
    rintro e w3 ⟨rfl, x3⟩
    rw [HA2.out]
    clear b3_c0 b3_c1 b3_c2 b3_c3
    replace b2 := b2.ext x3
    replace b3 := b3.ext x3
    replace xw := Ext.trans xw x3
    go_upto_region 3 with fail
    go_upto_region 5 with fail
    have b2_c0 := b2.c 0 (v := .int .i64 h) rfl
    have b2_c1 := b2.c 1 (v := .int .i64 m) rfl
    have b2_c2 := b2.c 2 (v := .int .i64 s) rfl
    have b2_c3 := b2.c 3 (v := .int .i64 n) rfl
    have b3_c0 := b3.c 0 (v := .int .i64 h') rfl
    have b3_c1 := b3.c 1 (v := .int .i64 m') rfl
    have b3_c2 := b3.c 2 (v := .int .i64 s') rfl
    have b3_c3 := b3.c 3 (v := .int .i64 n') rfl
    go_wp2_with fail
    refine (HC.out h m s n h' m' s' n' _).mono ?_
    rw [HCv.out]
    rintro e w4 ⟨rfl, x4⟩
    clear b2_c0 b2_c1 b2_c2 b2_c3 b3_c0 b3_c1 b3_c2 b3_c3
    replace b2 := b2.ext x4
    replace b3 := b3.ext x4
    replace xw := Ext.trans xw x4
    go_upto_region 6 with fail
    go_wp2_with fail
    refine (HO.out x _ x0 x1).mono ?_
    rintro e w5 ⟨rfl, x5⟩
    rw [HB.out.1, HB.out.2.1, HB.out.2.2.1, HB.out.2.2.2]
    replace b2 := b2.ext x5
    replace b3 := b3.ext x5
    replace xw := Ext.trans xw x5
    go_upto_region 7 with fail
    have o7 := b2.kind.lt
    have o8 := b3.kind.lt
    have o9 := xw.size
    refine wp_name ?_
    intro V6 hV
    have b2N : Bx V6 w.heap.size #[.int .i64 h, .int .i64 m, .int .i64 s, .int .i64 n] 74 := by rw [hV]; exact (b2).alloc _
    have b3N : Bx V6 (w.heap.size + 1) #[.int .i64 h', .int .i64 m', .int .i64 s', .int .i64 n'] 74 := by rw [hV]; exact (b3).alloc _
    replace xw : Ext w V6 := by rw [hV]; exact Ext.alloc (xw)
    replace b2 := b2N; clear b2N
    replace b3 := b3N; clear b3N
    have b10 : Bx V6 w5.heap.size #[.int .i64 h, .int .i64 m, .int .i64 s, .int .i64 n] 74 := by rw [hV]; exact Bx.new rfl
    clear hV
    go_wp2_with fail
    refine (HAl.out _).mono ?_
    rintro e w10 ⟨rfl, x10⟩
    replace b2 := b2.ext x10
    replace b3 := b3.ext x10
    replace b10 := b10.ext x10
    replace xw := Ext.trans xw x10
    have b10_c0 := b10.c 0 (v := .int .i64 h) rfl
    have b10_c1 := b10.c 1 (v := .int .i64 m) rfl
    have b10_c2 := b10.c 2 (v := .int .i64 s) rfl
    have b10_c3 := b10.c 3 (v := .int .i64 n) rfl
    have b2_c0 := b2.c 0 (v := .int .i64 h) rfl
    have b2_c1 := b2.c 1 (v := .int .i64 m) rfl
    have b2_c2 := b2.c 2 (v := .int .i64 s) rfl
    have b2_c3 := b2.c 3 (v := .int .i64 n) rfl
    have xr := xw
    go_wp2_with fail
    refine bodyPost_ret (v := .bool true) (by simp [results, Try.results21, go_sem]) rfl ⟨rfl, xr⟩
  · by_cases heq : x = y
    · skip
      have HCv := Lib.hid (show cmp4 h m s n h' m' s' n' = 0 by rw [Hcc.out]; exact cmpI_eq0 heq)
      have g1 : decide (x < y) = false := decide_eq_false hlt
      have g2 : (x == y) = true := by simpa using heq
      clear heq hlt
      go_enter Try.func21, Try.ntmps21
      go_upto_region 1 with fail
      have xw := Ext.refl w
      refine wp_name ?_
      intro V11 hV
      replace xw : Ext w V11 := by rw [hV]; exact Ext.alloc (Ext.alloc (xw))
      have b2 : Bx V11 w.heap.size #[.int .i64 h, .int .i64 m, .int .i64 s, .int .i64 n] 74 := by rw [hV]; exact (Bx.new rfl).alloc _
      have b3 : Bx V11 (w.heap.size + 1) #[.int .i64 h', .int .i64 m', .int .i64 s', .int .i64 n'] 74 := by rw [hV]; exact Bx.new (by simp)
      clear hV
      have b2_c0 := b2.c 0 (v := .int .i64 h) rfl
      have b2_c1 := b2.c 1 (v := .int .i64 m) rfl
      have b2_c2 := b2.c 2 (v := .int .i64 s) rfl
      have b2_c3 := b2.c 3 (v := .int .i64 n) rfl
      go_wp2_with fail
      refine (HNy.out h m s n _ Hk1.out).mono ?_
      rintro e w12 ⟨rfl, x12⟩
      rw [HA1.out]
      clear b2_c0 b2_c1 b2_c2 b2_c3
      replace b2 := b2.ext x12
      replace b3 := b3.ext x12
      replace xw := Ext.trans xw x12
      go_upto_region 2 with fail
      have b3_c0 := b3.c 0 (v := .int .i64 h') rfl
      have b3_c1 := b3.c 1 (v := .int .i64 m') rfl
      have b3_c2 := b3.c 2 (v := .int .i64 s') rfl
      have b3_c3 := b3.c 3 (v := .int .i64 n') rfl
      go_wp2_with fail
      refine (HNy.out h' m' s' n' _ Hk2.out).mono ?_
      rintro e w13 ⟨rfl, x13⟩
      rw [HA2.out]
      clear b3_c0 b3_c1 b3_c2 b3_c3
      replace b2 := b2.ext x13
      replace b3 := b3.ext x13
      replace xw := Ext.trans xw x13
      go_upto_region 3 with fail
      go_upto_region 5 with fail
      have b2_c0 := b2.c 0 (v := .int .i64 h) rfl
      have b2_c1 := b2.c 1 (v := .int .i64 m) rfl
      have b2_c2 := b2.c 2 (v := .int .i64 s) rfl
      have b2_c3 := b2.c 3 (v := .int .i64 n) rfl
      have b3_c0 := b3.c 0 (v := .int .i64 h') rfl
      have b3_c1 := b3.c 1 (v := .int .i64 m') rfl
      have b3_c2 := b3.c 2 (v := .int .i64 s') rfl
      have b3_c3 := b3.c 3 (v := .int .i64 n') rfl
      go_wp2_with fail
      refine (HC.out h m s n h' m' s' n' _).mono ?_
      rw [HCv.out]
      rintro e w14 ⟨rfl, x14⟩
      clear b2_c0 b2_c1 b2_c2 b2_c3 b3_c0 b3_c1 b3_c2 b3_c3
      replace b2 := b2.ext x14
      replace b3 := b3.ext x14
      replace xw := Ext.trans xw x14
      go_upto_region 6 with fail
      go_wp2_with fail
      refine (HO.out x _ x0 x1).mono ?_
      rintro e w15 ⟨rfl, x15⟩
      rw [HB.out.1, HB.out.2.1, HB.out.2.2.1, HB.out.2.2.2]
      replace b2 := b2.ext x15
      replace b3 := b3.ext x15
      replace xw := Ext.trans xw x15
      go_upto_region 7 with fail
      have o17 := b2.kind.lt
      have o18 := b3.kind.lt
      have o19 := xw.size
      refine wp_name ?_
      intro V16 hV
      have b2N : Bx V16 w.heap.size #[.int .i64 h, .int .i64 m, .int .i64 s, .int .i64 n] 74 := by rw [hV]; exact (b2).alloc _
      have b3N : Bx V16 (w.heap.size + 1) #[.int .i64 h', .int .i64 m', .int .i64 s', .int .i64 n'] 74 := by rw [hV]; exact (b3).alloc _
      replace xw : Ext w V16 := by rw [hV]; exact Ext.alloc (xw)
      replace b2 := b2N; clear b2N
      replace b3 := b3N; clear b3N
      have b10 : Bx V16 w15.heap.size #[.int .i64 h, .int .i64 m, .int .i64 s, .int .i64 n] 74 := by rw [hV]; exact Bx.new rfl
      clear hV
      go_wp2_with fail
      refine (HAl.out _).mono ?_
      rintro e w20 ⟨rfl, x20⟩
      replace b2 := b2.ext x20
      replace b3 := b3.ext x20
      replace b10 := b10.ext x20
      replace xw := Ext.trans xw x20
      have b10_c0 := b10.c 0 (v := .int .i64 h) rfl
      have b10_c1 := b10.c 1 (v := .int .i64 m) rfl
      have b10_c2 := b10.c 2 (v := .int .i64 s) rfl
      have b10_c3 := b10.c 3 (v := .int .i64 n) rfl
      have b2_c0 := b2.c 0 (v := .int .i64 h) rfl
      have b2_c1 := b2.c 1 (v := .int .i64 m) rfl
      have b2_c2 := b2.c 2 (v := .int .i64 s) rfl
      have b2_c3 := b2.c 3 (v := .int .i64 n) rfl
      have xr := xw
      go_wp2_with fail
      refine bodyPost_ret (v := .bool true) (by simp [results, Try.results21, go_sem]) rfl ⟨rfl, xr⟩
    · have hgt : y < x := by omega
      have HCv := Lib.hid (show cmp4 h m s n h' m' s' n' = 1 by rw [Hcc.out]; exact cmpI_gt hgt)
      have g1 : decide (x < y) = false := decide_eq_false hlt
      have g2 : (x == y) = false := by simpa using heq
      have g3 : decide (y < x) = true := decide_eq_true hgt
      clear heq hlt
      go_enter Try.func21, Try.ntmps21
      go_upto_region 1 with fail
      have xw := Ext.refl w
      refine wp_name ?_
      intro V21 hV
      replace xw : Ext w V21 := by rw [hV]; exact Ext.alloc (Ext.alloc (xw))
      have b2 : Bx V21 w.heap.size #[.int .i64 h, .int .i64 m, .int .i64 s, .int .i64 n] 74 := by rw [hV]; exact (Bx.new rfl).alloc _
      have b3 : Bx V21 (w.heap.size + 1) #[.int .i64 h', .int .i64 m', .int .i64 s', .int .i64 n'] 74 := by rw [hV]; exact Bx.new (by simp)
      clear hV
      have b2_c0 := b2.c 0 (v := .int .i64 h) rfl
      have b2_c1 := b2.c 1 (v := .int .i64 m) rfl
      have b2_c2 := b2.c 2 (v := .int .i64 s) rfl
      have b2_c3 := b2.c 3 (v := .int .i64 n) rfl
      go_wp2_with fail
      refine (HNy.out h m s n _ Hk1.out).mono ?_
      rintro e w22 ⟨rfl, x22⟩
      rw [HA1.out]
      clear b2_c0 b2_c1 b2_c2 b2_c3
      replace b2 := b2.ext x22
      replace b3 := b3.ext x22
      replace xw := Ext.trans xw x22
      go_upto_region 2 with fail
      have b3_c0 := b3.c 0 (v := .int .i64 h') rfl
      have b3_c1 := b3.c 1 (v := .int .i64 m') rfl
      have b3_c2 := b3.c 2 (v := .int .i64 s') rfl
      have b3_c3 := b3.c 3 (v := .int .i64 n') rfl
      go_wp2_with fail
      refine (HNy.out h' m' s' n' _ Hk2.out).mono ?_
      rintro e w23 ⟨rfl, x23⟩
      rw [HA2.out]
      clear b3_c0 b3_c1 b3_c2 b3_c3
      replace b2 := b2.ext x23
      replace b3 := b3.ext x23
      replace xw := Ext.trans xw x23
      go_upto_region 3 with fail
      go_upto_region 5 with fail
      have b2_c0 := b2.c 0 (v := .int .i64 h) rfl
      have b2_c1 := b2.c 1 (v := .int .i64 m) rfl
      have b2_c2 := b2.c 2 (v := .int .i64 s) rfl
      have b2_c3 := b2.c 3 (v := .int .i64 n) rfl
      have b3_c0 := b3.c 0 (v := .int .i64 h') rfl
      have b3_c1 := b3.c 1 (v := .int .i64 m') rfl
      have b3_c2 := b3.c 2 (v := .int .i64 s') rfl
      have b3_c3 := b3.c 3 (v := .int .i64 n') rfl
      go_wp2_with fail
      refine (HC.out h m s n h' m' s' n' _).mono ?_
      rw [HCv.out]
      rintro e w24 ⟨rfl, x24⟩
      clear b2_c0 b2_c1 b2_c2 b2_c3 b3_c0 b3_c1 b3_c2 b3_c3
      replace b2 := b2.ext x24
      replace b3 := b3.ext x24
      replace xw := Ext.trans xw x24
      go_upto_region 6 with fail
      go_wp2_with fail
      refine (HO.out x _ x0 x1).mono ?_
      rintro e w25 ⟨rfl, x25⟩
      rw [HB.out.1, HB.out.2.1, HB.out.2.2.1, HB.out.2.2.2]
      replace b2 := b2.ext x25
      replace b3 := b3.ext x25
      replace xw := Ext.trans xw x25
      go_upto_region 7 with fail
      have o27 := b2.kind.lt
      have o28 := b3.kind.lt
      have o29 := xw.size
      refine wp_name ?_
      intro V26 hV
      have b2N : Bx V26 w.heap.size #[.int .i64 h, .int .i64 m, .int .i64 s, .int .i64 n] 74 := by rw [hV]; exact (b2).alloc _
      have b3N : Bx V26 (w.heap.size + 1) #[.int .i64 h', .int .i64 m', .int .i64 s', .int .i64 n'] 74 := by rw [hV]; exact (b3).alloc _
      replace xw : Ext w V26 := by rw [hV]; exact Ext.alloc (xw)
      replace b2 := b2N; clear b2N
      replace b3 := b3N; clear b3N
      have b10 : Bx V26 w25.heap.size #[.int .i64 h, .int .i64 m, .int .i64 s, .int .i64 n] 74 := by rw [hV]; exact Bx.new rfl
      clear hV
      go_wp2_with fail
      refine (HAl.out _).mono ?_
      rintro e w30 ⟨rfl, x30⟩
      replace b2 := b2.ext x30
      replace b3 := b3.ext x30
      replace b10 := b10.ext x30
      replace xw := Ext.trans xw x30
      have b10_c0 := b10.c 0 (v := .int .i64 h) rfl
      have b10_c1 := b10.c 1 (v := .int .i64 m) rfl
      have b10_c2 := b10.c 2 (v := .int .i64 s) rfl
      have b10_c3 := b10.c 3 (v := .int .i64 n) rfl
      have b2_c0 := b2.c 0 (v := .int .i64 h) rfl
      have b2_c1 := b2.c 1 (v := .int .i64 m) rfl
      have b2_c2 := b2.c 2 (v := .int .i64 s) rfl
      have b2_c3 := b2.c 3 (v := .int .i64 n) rfl
      have xr := xw
      go_wp2_with fail
      refine bodyPost_ret (v := .bool true) (by simp [results, Try.results21, go_sem]) rfl ⟨rfl, xr⟩
theorem law_orders (h m s n h' m' s' n' : Int) (w : World) :
    Calls Try.prog 21 #[.agg #[.int .i64 h, .int .i64 m, .int .i64 s, .int .i64 n], .agg #[.int .i64 h', .int .i64 m', .int .i64 s', .int .i64 n']] w (fun e w' => e = .returned (.bool true) ∧ Ext w w') := by
  by_cases k1 : tOk h m s n
  · by_cases k2 : tOk h' m' s' n'
    · exact orders_11 h m s n h' m' s' n' w k1 k2
    · exact orders_10 h m s n h' m' s' n' w k1 k2
  · by_cases k2 : tOk h' m' s' n'
    · exact orders_01 h m s n h' m' s' n' w k1 k2
    · exact orders_00 h m s n h' m' s' n' w k1 k2
end Go.Proofs.Ytmkddcmfofabbaa
