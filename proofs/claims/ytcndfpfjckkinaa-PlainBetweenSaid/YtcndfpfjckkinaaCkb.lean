/-
  The reference's clock: Right, Nanos, Of.
-/
import Derived.Test.YtcndfpfjckkinaaCka
set_option linter.unusedSimpArgs false
set_option linter.unusedVariables false
namespace Go.Proofs.Ytcndfpfjckkinaa
open Go Go.RowKit

set_option maxRecDepth 100000 in
set_option maxHeartbeats 3200000 in
theorem zright (h m s n : Int) (w : World) :
    Calls Try.prog 107 #[.agg #[.int .i64 h, .int .i64 m, .int .i64 s, .int .i64 n]] w (fun e w' => e = .returned (.bool (tOkB h m s n)) ∧ Ext w w') := by
  by_cases q0 : 0 ≤ h
  · have g0 : decide (0 ≤ h) = true := decide_eq_true q0
    by_cases q1 : h < 24
    · have g1 : decide (h < 24) = true := decide_eq_true q1
      by_cases q2 : 0 ≤ m
      · have g2 : decide (0 ≤ m) = true := decide_eq_true q2
        by_cases q3 : m < 60
        · have g3 : decide (m < 60) = true := decide_eq_true q3
          by_cases q4 : 0 ≤ s
          · have g4 : decide (0 ≤ s) = true := decide_eq_true q4
            by_cases q5 : s < 60
            · have g5 : decide (s < 60) = true := decide_eq_true q5
              by_cases q6 : 0 ≤ n
              · have g6 : decide (0 ≤ n) = true := decide_eq_true q6
                by_cases q7 : n < 1000000000
                · have g7 : decide (n < 1000000000) = true := decide_eq_true q7
                  have HD := Lib.hid (show tOkB h m s n = true from tOkB_yes (by unfold tOk; omega))
                  clear q0 q1 q2 q3 q4 q5 q6 q7
                  go_enter Try.func107, Try.ntmps107
                  go_upto_region 1 with fail
                  have xw := Ext.refl w
                  refine wp_name ?_
                  intro V1 hV
                  replace xw : Ext w V1 := by rw [hV]; exact Ext.alloc (xw)
                  have b1 : Bx V1 w.heap.size #[.int .i64 h, .int .i64 m, .int .i64 s, .int .i64 n] 23 := by rw [hV]; exact Bx.new rfl
                  clear hV
                  have b1_c0 := b1.c 0 (v := .int .i64 h) rfl
                  have b1_c1 := b1.c 1 (v := .int .i64 m) rfl
                  have b1_c2 := b1.c 2 (v := .int .i64 s) rfl
                  have b1_c3 := b1.c 3 (v := .int .i64 n) rfl
                  have xr := xw
                  go_wp2_with fail
                  refine bodyPost_ret (v := .bool true) (by simp [results, Try.results107, go_sem]) rfl ⟨by rw [HD.out], xr⟩
                · have g7 : decide (n < 1000000000) = false := decide_eq_false q7
                  have HD := Lib.hid (show tOkB h m s n = false from tOkB_no (by unfold tOk; omega))
                  clear q0 q1 q2 q3 q4 q5 q6 q7
                  go_enter Try.func107, Try.ntmps107
                  go_upto_region 1 with fail
                  have xw := Ext.refl w
                  refine wp_name ?_
                  intro V1 hV
                  replace xw : Ext w V1 := by rw [hV]; exact Ext.alloc (xw)
                  have b1 : Bx V1 w.heap.size #[.int .i64 h, .int .i64 m, .int .i64 s, .int .i64 n] 23 := by rw [hV]; exact Bx.new rfl
                  clear hV
                  have b1_c0 := b1.c 0 (v := .int .i64 h) rfl
                  have b1_c1 := b1.c 1 (v := .int .i64 m) rfl
                  have b1_c2 := b1.c 2 (v := .int .i64 s) rfl
                  have b1_c3 := b1.c 3 (v := .int .i64 n) rfl
                  have xr := xw
                  go_wp2_with fail
                  refine bodyPost_ret (v := .bool false) (by simp [results, Try.results107, go_sem]) rfl ⟨by rw [HD.out], xr⟩
              · have g6 : decide (0 ≤ n) = false := decide_eq_false q6
                have HD := Lib.hid (show tOkB h m s n = false from tOkB_no (by unfold tOk; omega))
                clear q0 q1 q2 q3 q4 q5 q6
                go_enter Try.func107, Try.ntmps107
                go_upto_region 1 with fail
                have xw := Ext.refl w
                refine wp_name ?_
                intro V1 hV
                replace xw : Ext w V1 := by rw [hV]; exact Ext.alloc (xw)
                have b1 : Bx V1 w.heap.size #[.int .i64 h, .int .i64 m, .int .i64 s, .int .i64 n] 23 := by rw [hV]; exact Bx.new rfl
                clear hV
                have b1_c0 := b1.c 0 (v := .int .i64 h) rfl
                have b1_c1 := b1.c 1 (v := .int .i64 m) rfl
                have b1_c2 := b1.c 2 (v := .int .i64 s) rfl
                have b1_c3 := b1.c 3 (v := .int .i64 n) rfl
                have xr := xw
                go_wp2_with fail
                refine bodyPost_ret (v := .bool false) (by simp [results, Try.results107, go_sem]) rfl ⟨by rw [HD.out], xr⟩
            · have g5 : decide (s < 60) = false := decide_eq_false q5
              have HD := Lib.hid (show tOkB h m s n = false from tOkB_no (by unfold tOk; omega))
              clear q0 q1 q2 q3 q4 q5
              go_enter Try.func107, Try.ntmps107
              go_upto_region 1 with fail
              have xw := Ext.refl w
              refine wp_name ?_
              intro V1 hV
              replace xw : Ext w V1 := by rw [hV]; exact Ext.alloc (xw)
              have b1 : Bx V1 w.heap.size #[.int .i64 h, .int .i64 m, .int .i64 s, .int .i64 n] 23 := by rw [hV]; exact Bx.new rfl
              clear hV
              have b1_c0 := b1.c 0 (v := .int .i64 h) rfl
              have b1_c1 := b1.c 1 (v := .int .i64 m) rfl
              have b1_c2 := b1.c 2 (v := .int .i64 s) rfl
              have b1_c3 := b1.c 3 (v := .int .i64 n) rfl
              have xr := xw
              go_wp2_with fail
              refine bodyPost_ret (v := .bool false) (by simp [results, Try.results107, go_sem]) rfl ⟨by rw [HD.out], xr⟩
          · have g4 : decide (0 ≤ s) = false := decide_eq_false q4
            have HD := Lib.hid (show tOkB h m s n = false from tOkB_no (by unfold tOk; omega))
            clear q0 q1 q2 q3 q4
            go_enter Try.func107, Try.ntmps107
            go_upto_region 1 with fail
            have xw := Ext.refl w
            refine wp_name ?_
            intro V1 hV
            replace xw : Ext w V1 := by rw [hV]; exact Ext.alloc (xw)
            have b1 : Bx V1 w.heap.size #[.int .i64 h, .int .i64 m, .int .i64 s, .int .i64 n] 23 := by rw [hV]; exact Bx.new rfl
            clear hV
            have b1_c0 := b1.c 0 (v := .int .i64 h) rfl
            have b1_c1 := b1.c 1 (v := .int .i64 m) rfl
            have b1_c2 := b1.c 2 (v := .int .i64 s) rfl
            have b1_c3 := b1.c 3 (v := .int .i64 n) rfl
            have xr := xw
            go_wp2_with fail
            refine bodyPost_ret (v := .bool false) (by simp [results, Try.results107, go_sem]) rfl ⟨by rw [HD.out], xr⟩
        · have g3 : decide (m < 60) = false := decide_eq_false q3
          have HD := Lib.hid (show tOkB h m s n = false from tOkB_no (by unfold tOk; omega))
          clear q0 q1 q2 q3
          go_enter Try.func107, Try.ntmps107
          go_upto_region 1 with fail
          have xw := Ext.refl w
          refine wp_name ?_
          intro V1 hV
          replace xw : Ext w V1 := by rw [hV]; exact Ext.alloc (xw)
          have b1 : Bx V1 w.heap.size #[.int .i64 h, .int .i64 m, .int .i64 s, .int .i64 n] 23 := by rw [hV]; exact Bx.new rfl
          clear hV
          have b1_c0 := b1.c 0 (v := .int .i64 h) rfl
          have b1_c1 := b1.c 1 (v := .int .i64 m) rfl
          have b1_c2 := b1.c 2 (v := .int .i64 s) rfl
          have b1_c3 := b1.c 3 (v := .int .i64 n) rfl
          have xr := xw
          go_wp2_with fail
          refine bodyPost_ret (v := .bool false) (by simp [results, Try.results107, go_sem]) rfl ⟨by rw [HD.out], xr⟩
      · have g2 : decide (0 ≤ m) = false := decide_eq_false q2
        have HD := Lib.hid (show tOkB h m s n = false from tOkB_no (by unfold tOk; omega))
        clear q0 q1 q2
        go_enter Try.func107, Try.ntmps107
        go_upto_region 1 with fail
        have xw := Ext.refl w
        refine wp_name ?_
        intro V1 hV
        replace xw : Ext w V1 := by rw [hV]; exact Ext.alloc (xw)
        have b1 : Bx V1 w.heap.size #[.int .i64 h, .int .i64 m, .int .i64 s, .int .i64 n] 23 := by rw [hV]; exact Bx.new rfl
        clear hV
        have b1_c0 := b1.c 0 (v := .int .i64 h) rfl
        have b1_c1 := b1.c 1 (v := .int .i64 m) rfl
        have b1_c2 := b1.c 2 (v := .int .i64 s) rfl
        have b1_c3 := b1.c 3 (v := .int .i64 n) rfl
        have xr := xw
        go_wp2_with fail
        refine bodyPost_ret (v := .bool false) (by simp [results, Try.results107, go_sem]) rfl ⟨by rw [HD.out], xr⟩
    · have g1 : decide (h < 24) = false := decide_eq_false q1
      have HD := Lib.hid (show tOkB h m s n = false from tOkB_no (by unfold tOk; omega))
      clear q0 q1
      go_enter Try.func107, Try.ntmps107
      go_upto_region 1 with fail
      have xw := Ext.refl w
      refine wp_name ?_
      intro V1 hV
      replace xw : Ext w V1 := by rw [hV]; exact Ext.alloc (xw)
      have b1 : Bx V1 w.heap.size #[.int .i64 h, .int .i64 m, .int .i64 s, .int .i64 n] 23 := by rw [hV]; exact Bx.new rfl
      clear hV
      have b1_c0 := b1.c 0 (v := .int .i64 h) rfl
      have b1_c1 := b1.c 1 (v := .int .i64 m) rfl
      have b1_c2 := b1.c 2 (v := .int .i64 s) rfl
      have b1_c3 := b1.c 3 (v := .int .i64 n) rfl
      have xr := xw
      go_wp2_with fail
      refine bodyPost_ret (v := .bool false) (by simp [results, Try.results107, go_sem]) rfl ⟨by rw [HD.out], xr⟩
  · have g0 : decide (0 ≤ h) = false := decide_eq_false q0
    have HD := Lib.hid (show tOkB h m s n = false from tOkB_no (by unfold tOk; omega))
    clear q0
    go_enter Try.func107, Try.ntmps107
    go_upto_region 1 with fail
    have xw := Ext.refl w
    refine wp_name ?_
    intro V1 hV
    replace xw : Ext w V1 := by rw [hV]; exact Ext.alloc (xw)
    have b1 : Bx V1 w.heap.size #[.int .i64 h, .int .i64 m, .int .i64 s, .int .i64 n] 23 := by rw [hV]; exact Bx.new rfl
    clear hV
    have b1_c0 := b1.c 0 (v := .int .i64 h) rfl
    have b1_c1 := b1.c 1 (v := .int .i64 m) rfl
    have b1_c2 := b1.c 2 (v := .int .i64 s) rfl
    have b1_c3 := b1.c 3 (v := .int .i64 n) rfl
    have xr := xw
    go_wp2_with fail
    refine bodyPost_ret (v := .bool false) (by simp [results, Try.results107, go_sem]) rfl ⟨by rw [HD.out], xr⟩
set_option maxRecDepth 100000 in
set_option maxHeartbeats 3200000 in
theorem znanos (h m s n : Int) (w : World) (k : tOk h m s n) :
    Calls Try.prog 110 #[.agg #[.int .i64 h, .int .i64 m, .int .i64 s, .int .i64 n]] w (fun e w' => e = .returned (.int .i64 (tnan h m s n)) ∧ Ext w w') := by
  have HE := Lib.hid (show h * 3600000000000 + m * 60000000000 + s * 1000000000 + n = tnan h m s n by unfold tnan; omega)
  obtain ⟨⟨h0, h1⟩, ⟨m0, m1⟩, ⟨s0, s1⟩, ⟨n0, n1⟩⟩ := k
  go_enter Try.func110, Try.ntmps110
  go_upto_region 1 with fail
  have xw := Ext.refl w
  refine wp_name ?_
  intro V1 hV
  replace xw : Ext w V1 := by rw [hV]; exact Ext.alloc (xw)
  have b1 : Bx V1 w.heap.size #[.int .i64 h, .int .i64 m, .int .i64 s, .int .i64 n] 23 := by rw [hV]; exact Bx.new rfl
  clear hV
  have b1_c0 := b1.c 0 (v := .int .i64 h) rfl
  have b1_c1 := b1.c 1 (v := .int .i64 m) rfl
  have b1_c2 := b1.c 2 (v := .int .i64 s) rfl
  have b1_c3 := b1.c 3 (v := .int .i64 n) rfl
  have xr := xw
  go_wp2_with fail
  refine bodyPost_ret (v := .int .i64 (h * 3600000000000 + m * 60000000000 + s * 1000000000 + n)) (by simp [results, Try.results110, go_sem]) rfl ⟨by rw [HE.out], xr⟩
theorem of_h {n : Int} {k : Nat} (a : 0 ≤ n - 3600000000000 * k) (b : n - 3600000000000 * k < 3600000000000) : (k : Int) = tH n := by unfold tH; omega
theorem of_m {n : Int} {j : Nat} (a : 0 ≤ n - 3600000000000 * tH n - 60000000000 * j) (b : n - 3600000000000 * tH n - 60000000000 * j < 60000000000) : (j : Int) = tM n := by unfold tH at *; unfold tM; omega
theorem of_s {n : Int} {j : Nat} (a : 0 ≤ n - 3600000000000 * tH n - 60000000000 * tM n - 1000000000 * j) (b : n - 3600000000000 * tH n - 60000000000 * tM n - 1000000000 * j < 1000000000) (h0 : 0 ≤ n) : (j : Int) = tS n ∧ n - 3600000000000 * tH n - 60000000000 * tM n - 1000000000 * j = tN n := by unfold tH tM at *; unfold tS tN; omega
theorem tH_bd {n : Int} (h0 : 0 ≤ n) (h1 : n < 86400000000000) : 0 ≤ tH n ∧ tH n ≤ 23 := by unfold tH; omega
theorem tM_bd (n : Int) : 0 ≤ tM n ∧ tM n ≤ 59 := by unfold tM; omega
theorem tH_rest {n : Int} (h0 : 0 ≤ n) : 0 ≤ n - 3600000000000 * tH n ∧ n - 3600000000000 * tH n < 3600000000000 := by unfold tH; omega
theorem tM_rest {n : Int} (h0 : 0 ≤ n) : 0 ≤ n - 3600000000000 * tH n - 60000000000 * tM n ∧ n - 3600000000000 * tH n - 60000000000 * tM n < 60000000000 := by unfold tH tM; omega
set_option maxRecDepth 100000 in
set_option maxHeartbeats 3200000 in
theorem zof (n : Int) (w : World) (h0 : 0 ≤ n) (h1 : n < 86400000000000) :
    Calls Try.prog 113 #[.int .i64 n] w (fun e w' => e = .returned (.agg #[.int .i64 (tH n), .int .i64 (tM n), .int .i64 (tS n), .int .i64 (tN n)]) ∧ Ext w w') := by
  go_enter Try.func113, Try.ntmps113
  go_upto_region 1 with fail
  have xw := Ext.refl w
  refine wp_name ?_
  intro V1 hV
  replace xw : Ext w V1 := by rw [hV]; exact Ext.alloc (xw)
  have b2 : Bx V1 w.heap.size #[.int .i64 0, .int .i64 0, .int .i64 0, .int .i64 0] 23 := by rw [hV]; exact Bx.new rfl
  clear hV
  go_upto_region 2 with fail
  have o3 := b2.kind.lt
  have o4 := xw.size
  refine wp_name ?_
  intro V2 hV
  have b2N : Bx V2 w.heap.size #[.int .i64 0, .int .i64 0, .int .i64 0, .int .i64 0] 23 := by rw [hV]; exact (b2).alloc _
  replace xw : Ext w V2 := by rw [hV]; exact Ext.alloc (xw)
  replace b2 := b2N; clear b2N
  have b3 : Bx V2 V1.heap.size #[.int .i64 0, .int .i64 0, .int .i64 0, .int .i64 0] 23 := by rw [hV]; exact Bx.new rfl
  clear hV
  have p0 : 0 ≤ n := by exact h0
  have p1 : n < 86400000000000 := by exact h1
  go_loopw [0] (fun s0 wr => ∃ (j : Nat), s0 = .int .i64 (n - 3600000000000 * (j : Int)) ∧ 0 ≤ n - 3600000000000 * (j : Int) ∧ Bx wr w.heap.size #[.int .i64 0, .int .i64 0, .int .i64 0, .int .i64 0] 23 ∧ Bx wr V1.heap.size #[.int .i64 (j : Int), .int .i64 0, .int .i64 0, .int .i64 0] 23 ∧ Ext w wr) (fun s0 _ => (intOf s0).toNat)
  case atStart => exact ⟨0, by simp, by omega, b2, b3, xw⟩
  case round =>
    clear b2 b3 xw
    obtain ⟨j, rfl, hj, b2, b3, xw⟩ := hrel
    refine wp_name ?_
    intro Wr5 hV
    subst hV
    have j1 : (j : Int) ≤ 60 := by omega
    by_cases hlt : 3600000000000 ≤ n - 3600000000000 * (j : Int)
    · have g1 : decide (3600000000000 ≤ n - 3600000000000 * (j : Int)) = true := decide_eq_true hlt
      obtain ⟨r, hr⟩ : ∃ r, n - 3600000000000 * (j : Int) = r := ⟨_, rfl⟩
      rw [hr] at hj hlt g1 ⊢
      have HR := Lib.hid hr
      have r1 : r < 86400000000000 := by omega
      clear hr
      go_upto_region 3 with fail
      go_upto_region 4 with fail
      have b3_c0 := b3.c 0 (v := .int .i64 (j : Int)) rfl
      have b3_f0 := b3.f 0
      have b2N := (b2).other (b := V1.heap.size) (by omega) 0 (.int .i64 ((j : Int) + 1))
      have b3N := (b3).setc 0 (.int .i64 ((j : Int) + 1)) (cs' := #[.int .i64 ((j : Int) + 1), .int .i64 0, .int .i64 0, .int .i64 0]) rfl
      have xN := Ext.set (xw) (k := V1.heap.size) (o := 0) (u := .int .i64 ((j : Int) + 1)) (by omega)
      go_wp2_with fail
      clear b3_c0 b3_f0
      go_roundw
      case rel => exact ⟨j + 1, by rw [show n - 3600000000000 * ((j + 1 : Nat) : Int) = r - 3600000000000 by have := HR.out; omega], by have := HR.out; omega, b2N, b3N, xN⟩
      case measure => simp [intOf]; omega
    · have g1 : decide (3600000000000 ≤ n - 3600000000000 * (j : Int)) = false := decide_eq_false hlt
      have HJ := Lib.hid (of_h hj (by omega))
      rw [HJ.out] at b3 hj hlt g1 ⊢
      clear hj hlt HJ j1 p0 p1
      go_wp2_with fail
      have p0 : 0 ≤ n - 3600000000000 * tH n := by exact (tH_rest h0).1
      have p1 : n - 3600000000000 * tH n < 3600000000000 := by exact (tH_rest h0).2
      go_loopw [0] (fun s0 wr => ∃ (j : Nat), s0 = .int .i64 (n - 3600000000000 * tH n - 60000000000 * (j : Int)) ∧ 0 ≤ n - 3600000000000 * tH n - 60000000000 * (j : Int) ∧ Bx wr w.heap.size #[.int .i64 0, .int .i64 0, .int .i64 0, .int .i64 0] 23 ∧ Bx wr V1.heap.size #[.int .i64 (tH n), .int .i64 (j : Int), .int .i64 0, .int .i64 0] 23 ∧ Ext w wr) (fun s0 _ => (intOf s0).toNat)
      case atStart => exact ⟨0, by simp, by omega, b2, b3, xw⟩
      case round =>
        clear b2 b3 xw
        obtain ⟨j, rfl, hj, b2, b3, xw⟩ := hrel
        refine wp_name ?_
        intro Wr6 hV
        subst hV
        have j1 : (j : Int) ≤ 60 := by omega
        by_cases hlt : 60000000000 ≤ n - 3600000000000 * tH n - 60000000000 * (j : Int)
        · have g1 : decide (60000000000 ≤ n - 3600000000000 * tH n - 60000000000 * (j : Int)) = true := decide_eq_true hlt
          obtain ⟨r, hr⟩ : ∃ r, n - 3600000000000 * tH n - 60000000000 * (j : Int) = r := ⟨_, rfl⟩
          rw [hr] at hj hlt g1 ⊢
          have HR := Lib.hid hr
          have r1 : r < 86400000000000 := by omega
          clear hr
          go_upto_region 6 with fail
          go_upto_region 7 with fail
          have b3_c1 := b3.c 1 (v := .int .i64 (j : Int)) rfl
          have b3_f1 := b3.f 1
          have b2N := (b2).other (b := V1.heap.size) (by omega) 1 (.int .i64 ((j : Int) + 1))
          have b3N := (b3).setc 1 (.int .i64 ((j : Int) + 1)) (cs' := #[.int .i64 (tH n), .int .i64 ((j : Int) + 1), .int .i64 0, .int .i64 0]) rfl
          have xN := Ext.set (xw) (k := V1.heap.size) (o := 1) (u := .int .i64 ((j : Int) + 1)) (by omega)
          go_wp2_with fail
          clear b3_c1 b3_f1
          go_roundw
          case rel => exact ⟨j + 1, by rw [show n - 3600000000000 * tH n - 60000000000 * ((j + 1 : Nat) : Int) = r - 60000000000 by have := HR.out; omega], by have := HR.out; omega, b2N, b3N, xN⟩
          case measure => simp [intOf]; omega
        · have g1 : decide (60000000000 ≤ n - 3600000000000 * tH n - 60000000000 * (j : Int)) = false := decide_eq_false hlt
          have HJ := Lib.hid (of_m hj (by omega))
          rw [HJ.out] at b3 hj hlt g1 ⊢
          clear hj hlt HJ j1 p0 p1
          go_wp2_with fail
          have p0 : 0 ≤ n - 3600000000000 * tH n - 60000000000 * tM n := by exact (tM_rest h0).1
          have p1 : n - 3600000000000 * tH n - 60000000000 * tM n < 60000000000 := by exact (tM_rest h0).2
          go_loopw [0] (fun s0 wr => ∃ (j : Nat), s0 = .int .i64 (n - 3600000000000 * tH n - 60000000000 * tM n - 1000000000 * (j : Int)) ∧ 0 ≤ n - 3600000000000 * tH n - 60000000000 * tM n - 1000000000 * (j : Int) ∧ Bx wr w.heap.size #[.int .i64 0, .int .i64 0, .int .i64 0, .int .i64 0] 23 ∧ Bx wr V1.heap.size #[.int .i64 (tH n), .int .i64 (tM n), .int .i64 (j : Int), .int .i64 0] 23 ∧ Ext w wr) (fun s0 _ => (intOf s0).toNat)
          case atStart => exact ⟨0, by simp, by omega, b2, b3, xw⟩
          case round =>
            clear b2 b3 xw
            obtain ⟨j, rfl, hj, b2, b3, xw⟩ := hrel
            refine wp_name ?_
            intro Wr7 hV
            subst hV
            have j1 : (j : Int) ≤ 60 := by omega
            by_cases hlt : 1000000000 ≤ n - 3600000000000 * tH n - 60000000000 * tM n - 1000000000 * (j : Int)
            · have g1 : decide (1000000000 ≤ n - 3600000000000 * tH n - 60000000000 * tM n - 1000000000 * (j : Int)) = true := decide_eq_true hlt
              obtain ⟨r, hr⟩ : ∃ r, n - 3600000000000 * tH n - 60000000000 * tM n - 1000000000 * (j : Int) = r := ⟨_, rfl⟩
              rw [hr] at hj hlt g1 ⊢
              have HR := Lib.hid hr
              have r1 : r < 86400000000000 := by omega
              clear hr
              go_upto_region 9 with fail
              go_upto_region 10 with fail
              have b3_c2 := b3.c 2 (v := .int .i64 (j : Int)) rfl
              have b3_f2 := b3.f 2
              have b2N := (b2).other (b := V1.heap.size) (by omega) 2 (.int .i64 ((j : Int) + 1))
              have b3N := (b3).setc 2 (.int .i64 ((j : Int) + 1)) (cs' := #[.int .i64 (tH n), .int .i64 (tM n), .int .i64 ((j : Int) + 1), .int .i64 0]) rfl
              have xN := Ext.set (xw) (k := V1.heap.size) (o := 2) (u := .int .i64 ((j : Int) + 1)) (by omega)
              go_wp2_with fail
              clear b3_c2 b3_f2
              go_roundw
              case rel => exact ⟨j + 1, by rw [show n - 3600000000000 * tH n - 60000000000 * tM n - 1000000000 * ((j + 1 : Nat) : Int) = r - 1000000000 by have := HR.out; omega], by have := HR.out; omega, b2N, b3N, xN⟩
              case measure => simp [intOf]; omega
            · have g1 : decide (1000000000 ≤ n - 3600000000000 * tH n - 60000000000 * tM n - 1000000000 * (j : Int)) = false := decide_eq_false hlt
              have HJ := Lib.hid (of_s hj (by omega) h0)
              rw [HJ.out.1] at b3
              have HK := HJ.out.2
              rw [HK] at hj hlt g1 ⊢
              clear hj hlt HJ HK j1 p0 p1
              go_upto_region 11 with fail
              have b3_c3 := b3.c 3 (v := .int .i64 0) rfl
              have b3_f3 := b3.f 3
              go_upto_region 12 with fail
              clear b3_c3 b3_f3
              refine wp_name ?_
              intro V8 hV
              have b2N : Bx V8 w.heap.size #[.int .i64 0, .int .i64 0, .int .i64 0, .int .i64 0] 23 := by rw [hV]; exact (b2).other (b := V1.heap.size) (by omega) 3 (.int .i64 (tN n))
              have b3N : Bx V8 V1.heap.size #[.int .i64 (tH n), .int .i64 (tM n), .int .i64 (tS n), .int .i64 (tN n)] 23 := by rw [hV]; exact (b3).setc 3 (.int .i64 (tN n)) (cs' := #[.int .i64 (tH n), .int .i64 (tM n), .int .i64 (tS n), .int .i64 (tN n)]) rfl
              replace xw : Ext w V8 := by rw [hV]; exact Ext.set (xw) (k := V1.heap.size) (o := 3) (u := .int .i64 (tN n)) (by omega)
              replace b2 := b2N; clear b2N
              replace b3 := b3N; clear b3N
              clear hV
              have b3_c0 := b3.c 0 (v := .int .i64 (tH n)) rfl
              have b3_c1 := b3.c 1 (v := .int .i64 (tM n)) rfl
              have b3_c2 := b3.c 2 (v := .int .i64 (tS n)) rfl
              have b3_c3 := b3.c 3 (v := .int .i64 (tN n)) rfl
              have b2_c0 := b2.c 0 (v := .int .i64 0) rfl
              have b2_c1 := b2.c 1 (v := .int .i64 0) rfl
              have b2_c2 := b2.c 2 (v := .int .i64 0) rfl
              have b2_c3 := b2.c 3 (v := .int .i64 0) rfl
              have b2_f0 := b2.f 0
              have b2_f1 := b2.f 1
              have b2_f2 := b2.f 2
              have b2_f3 := b2.f 3
              have xr := Ext.set (Ext.set (Ext.set (Ext.set (xw) (k := w.heap.size) (o := 0) (u := .int .i64 (tH n)) (by omega)) (k := w.heap.size) (o := 1) (u := .int .i64 (tM n)) (by omega)) (k := w.heap.size) (o := 2) (u := .int .i64 (tS n)) (by omega)) (k := w.heap.size) (o := 3) (u := .int .i64 (tN n)) (by omega)
              go_wp2_with fail
              refine bodyPost_ret (v := .agg #[.int .i64 (tH n), .int .i64 (tM n), .int .i64 (tS n), .int .i64 (tN n)]) (by simp [results, Try.results113, go_sem, b2_c0, b2_c1, b2_c2, b2_c3]) rfl ⟨rfl, xr⟩
end Go.Proofs.Ytcndfpfjckkinaa
