/-
  The clock: fields, most, made, Right, Nanos, Of.
-/
import Derived.Test.YtcndfpfjckkinaaBx
set_option linter.unusedSimpArgs false
set_option linter.unusedVariables false
namespace Go.Proofs.Ytcndfpfjckkinaa
open Go Go.RowKit

def tOk (h m s n : Int) : Prop := (0 ≤ h ∧ h ≤ 23) ∧ (0 ≤ m ∧ m ≤ 59) ∧ (0 ≤ s ∧ s ≤ 59) ∧ (0 ≤ n ∧ n ≤ 999999999)
instance (h m s n : Int) : Decidable (tOk h m s n) := by unfold tOk; exact inferInstance
def tOkB (h m s n : Int) : Bool := decide (tOk h m s n)
theorem tOkB_yes {h m s n : Int} (k : tOk h m s n) : tOkB h m s n = true := decide_eq_true k
theorem tOkB_no {h m s n : Int} (k : ¬ tOk h m s n) : tOkB h m s n = false := decide_eq_false k
def tnan (h m s n : Int) : Int := ((h * 60 + m) * 60 + s) * 1000000000 + n
def tH (n : Int) : Int := n / 3600000000000
def tM (n : Int) : Int := n / 60000000000 % 60
def tS (n : Int) : Int := n / 1000000000 % 60
def tN (n : Int) : Int := n % 1000000000
theorem tnan_bd {h m s n : Int} (k : tOk h m s n) : 0 ≤ tnan h m s n ∧ tnan h m s n < 86400000000000 := by unfold tOk at k; unfold tnan; omega
theorem t_tnan {h m s n : Int} (k : tOk h m s n) : tH (tnan h m s n) = h ∧ tM (tnan h m s n) = m ∧ tS (tnan h m s n) = s ∧ tN (tnan h m s n) = n := by
  unfold tOk at k; unfold tH tM tS tN tnan; omega
theorem t_ok {n : Int} (h0 : 0 ≤ n) (h1 : n < 86400000000000) : tOk (tH n) (tM n) (tS n) (tN n) := by unfold tOk tH tM tS tN; omega
theorem tnan_t {n : Int} (h0 : 0 ≤ n) : tnan (tH n) (tM n) (tS n) (tN n) = n := by unfold tnan tH tM tS tN; omega
set_option maxRecDepth 100000 in
set_option maxHeartbeats 3200000 in
theorem cfields (h m s n : Int) (w : World) :
    Calls Try.prog 115 #[.agg #[.int .i64 h, .int .i64 m, .int .i64 s, .int .i64 n]] w (fun e w' => e = .returned (.agg #[.int .i64 h, .int .i64 m, .int .i64 s, .int .i64 n]) ∧ Ext w w') := by
  go_enter Try.func115, Try.ntmps115
  go_upto_region 1 with fail
  have xw := Ext.refl w
  refine wp_name ?_
  intro V1 hV
  replace xw : Ext w V1 := by rw [hV]; exact Ext.alloc (Ext.alloc (xw))
  have b1 : Bx V1 w.heap.size #[.int .i64 h, .int .i64 m, .int .i64 s, .int .i64 n] 23 := by rw [hV]; exact (Bx.new rfl).alloc _
  have b2 : Bx V1 (w.heap.size + 1) #[.int .i64 0, .int .i64 0, .int .i64 0, .int .i64 0] 144 := by rw [hV]; exact Bx.new (by simp)
  clear hV
  have b1_c0 := b1.c 0 (v := .int .i64 h) rfl
  have b1_c1 := b1.c 1 (v := .int .i64 m) rfl
  have b1_c2 := b1.c 2 (v := .int .i64 s) rfl
  have b1_c3 := b1.c 3 (v := .int .i64 n) rfl
  have b2_c0 := b2.c 0 (v := .int .i64 0) rfl
  have b2_c1 := b2.c 1 (v := .int .i64 0) rfl
  have b2_c2 := b2.c 2 (v := .int .i64 0) rfl
  have b2_c3 := b2.c 3 (v := .int .i64 0) rfl
  have b2_f0 := b2.f 0
  have b2_f1 := b2.f 1
  have b2_f2 := b2.f 2
  have b2_f3 := b2.f 3
  have xr := Ext.set (Ext.set (Ext.set (Ext.set (xw) (k := w.heap.size + 1) (o := 0) (u := .int .i64 h) (by omega)) (k := w.heap.size + 1) (o := 1) (u := .int .i64 m) (by omega)) (k := w.heap.size + 1) (o := 2) (u := .int .i64 s) (by omega)) (k := w.heap.size + 1) (o := 3) (u := .int .i64 n) (by omega)
  go_wp2_with fail
  refine bodyPost_ret (v := .agg #[.int .i64 h, .int .i64 m, .int .i64 s, .int .i64 n]) (by simp [results, Try.results115, go_sem, b2_c0, b2_c1, b2_c2, b2_c3]) rfl ⟨rfl, xr⟩
set_option maxRecDepth 100000 in
set_option maxHeartbeats 3200000 in
theorem cmost (w : World) :
    Calls Try.prog 212 #[] w (fun e w' => e = .returned (.agg #[.int .i64 23, .int .i64 59, .int .i64 59, .int .i64 999999999]) ∧ Ext w w') := by
  go_enter Try.func212, Try.ntmps212
  go_upto_region 1 with fail
  have xw := Ext.refl w
  refine wp_name ?_
  intro V1 hV
  replace xw : Ext w V1 := by rw [hV]; exact Ext.alloc (xw)
  have b0 : Bx V1 w.heap.size #[.int .i64 0, .int .i64 0, .int .i64 0, .int .i64 0] 144 := by rw [hV]; exact Bx.new rfl
  clear hV
  have b0_c0 := b0.c 0 (v := .int .i64 0) rfl
  have b0_c1 := b0.c 1 (v := .int .i64 0) rfl
  have b0_c2 := b0.c 2 (v := .int .i64 0) rfl
  have b0_c3 := b0.c 3 (v := .int .i64 0) rfl
  have b0_f0 := b0.f 0
  have b0_f1 := b0.f 1
  have b0_f2 := b0.f 2
  have b0_f3 := b0.f 3
  have xr := Ext.set (Ext.set (Ext.set (Ext.set (xw) (k := w.heap.size) (o := 0) (u := .int .i64 23) (by omega)) (k := w.heap.size) (o := 1) (u := .int .i64 59) (by omega)) (k := w.heap.size) (o := 2) (u := .int .i64 59) (by omega)) (k := w.heap.size) (o := 3) (u := .int .i64 999999999) (by omega)
  go_wp2_with fail
  refine bodyPost_ret (v := .agg #[.int .i64 23, .int .i64 59, .int .i64 59, .int .i64 999999999]) (by simp [results, Try.results212, go_sem, b0_c0, b0_c1, b0_c2, b0_c3]) rfl ⟨rfl, xr⟩
def pre4 (k : Nat) (h m s n : Int) : Prop := (0 < k → 0 ≤ h ∧ h ≤ 23) ∧ (1 < k → 0 ≤ m ∧ m ≤ 59) ∧ (2 < k → 0 ≤ s ∧ s ≤ 59) ∧ (3 < k → 0 ≤ n ∧ n ≤ 999999999)
set_option maxRecDepth 100000 in
set_option maxHeartbeats 3200000 in
theorem cright (h m s n : Int) (w : World) :
    Calls Try.prog 177 #[.agg #[.int .i64 h, .int .i64 m, .int .i64 s, .int .i64 n]] w (fun e w' => e = .returned (.bool (tOkB h m s n)) ∧ Ext w w') := by
  have HF := Lib.hid cfields
  have HM := Lib.hid cmost
  go_enter Try.func177, Try.ntmps177
  go_upto_region 1 with fail
  have xw := Ext.refl w
  refine wp_name ?_
  intro V1 hV
  replace xw : Ext w V1 := by rw [hV]; exact Ext.alloc (xw)
  have b1 : Bx V1 w.heap.size #[.int .i64 h, .int .i64 m, .int .i64 s, .int .i64 n] 23 := by rw [hV]; exact Bx.new rfl
  clear hV
  have b1_c0 := b1.c 0 (v := .int .i64 h) rfl
  have b1_c1 := b1.c 1 (v := .int .i64 m) rfl
  have b1_c2 := b1.c 2 (v := .int .i64 s) rfl
  have b1_c3 := b1.c 3 (v := .int .i64 n) rfl
  go_wp2_with fail
  refine (HF.out h m s n _).mono ?_
  rintro e w2 ⟨rfl, x2⟩
  clear b1_c0 b1_c1 b1_c2 b1_c3
  replace b1 := b1.ext x2
  replace xw := Ext.trans xw x2
  go_wp2_with fail
  refine (HM.out _).mono ?_
  rintro e w3 ⟨rfl, x3⟩
  replace b1 := b1.ext x3
  replace xw := Ext.trans xw x3
  go_upto_region 2 with fail
  have o5 := b1.kind.lt
  have o6 := xw.size
  refine wp_name ?_
  intro V4 hV
  have b1N : Bx V4 w.heap.size #[.int .i64 h, .int .i64 m, .int .i64 s, .int .i64 n] 23 := by rw [hV]; exact ((b1).alloc _).alloc _
  replace xw : Ext w V4 := by rw [hV]; exact Ext.alloc (Ext.alloc (xw))
  replace b1 := b1N; clear b1N
  have b3 : Bx V4 w3.heap.size #[.int .i64 h, .int .i64 m, .int .i64 s, .int .i64 n] 144 := by rw [hV]; exact (Bx.new rfl).alloc _
  have b4 : Bx V4 (w3.heap.size + 1) #[.int .i64 23, .int .i64 59, .int .i64 59, .int .i64 999999999] 144 := by rw [hV]; exact Bx.new (by simp)
  clear hV
  go_wp2_with fail
  clear b1
  go_loopw [9] (fun s9 wr => ∃ (k : Nat), k ≤ 4 ∧ s9 = .int .i64 k ∧ pre4 k h m s n ∧ Bx wr w3.heap.size #[.int .i64 h, .int .i64 m, .int .i64 s, .int .i64 n] 144 ∧ Bx wr (w3.heap.size + 1) #[.int .i64 23, .int .i64 59, .int .i64 59, .int .i64 999999999] 144 ∧ Ext w wr) (fun s9 _ => 4 - (intOf s9).toNat)
  case atStart => exact ⟨0, by omega, rfl, ⟨by omega, by omega, by omega, by omega⟩, b3, b4, xw⟩
  case round =>
    clear b3 b4 xw
    obtain ⟨k, hk, rfl, hp, b3, b4, xw⟩ := hrel
    refine wp_name ?_
    intro Wr7 hV
    subst hV
    have hk3 : k = 0 ∨ k = 1 ∨ k = 2 ∨ k = 3 ∨ k = 4 := by omega
    clear hk
    rcases hk3 with rfl | rfl | rfl | rfl | rfl
    · by_cases hlt : h < 0
      · have g1 : decide (h < 0) = true := by simpa using hlt
        have HD := Lib.hid (show tOkB h m s n = false from tOkB_no (by unfold tOk; omega))
        clear hlt hp
        go_upto_region 5 with fail
        have b3_c0 := b3.c 0 (v := .int .i64 h) rfl
        have b3_c1 := b3.c 1 (v := .int .i64 m) rfl
        have b3_c2 := b3.c 2 (v := .int .i64 s) rfl
        have b3_c3 := b3.c 3 (v := .int .i64 n) rfl
        have b4_c0 := b4.c 0 (v := .int .i64 23) rfl
        have b4_c1 := b4.c 1 (v := .int .i64 59) rfl
        have b4_c2 := b4.c 2 (v := .int .i64 59) rfl
        have b4_c3 := b4.c 3 (v := .int .i64 999999999) rfl
        go_quiet (fail)
        clear b3_c0 b3_c1 b3_c2 b3_c3 b4_c0 b4_c1 b4_c2 b4_c3
        go_upto_region 6 with fail
        refine wp_name ?_
        intro V8 hV
        have b3N : Bx V8 w3.heap.size #[.int .i64 h, .int .i64 m, .int .i64 s, .int .i64 n] 144 := by rw [hV]; exact (b3).drewN _
        have b4N : Bx V8 (w3.heap.size + 1) #[.int .i64 23, .int .i64 59, .int .i64 59, .int .i64 999999999] 144 := by rw [hV]; exact (b4).drewN _
        replace xw : Ext w V8 := by rw [hV]; exact Ext.drewN (xw)
        replace b3 := b3N; clear b3N
        replace b4 := b4N; clear b4N
        clear hV
        have xr := xw
        go_wp2_with fail
        refine bodyPost_ret (v := .bool false) (by simp [results, Try.results177, go_sem]) rfl ⟨by rw [HD.out], xr⟩
      · have g1 : decide (h < 0) = false := by simpa using hlt
        by_cases hgt : 23 < h
        · have g2 : decide (23 < h) = true := by simpa using hgt
          have HD := Lib.hid (show tOkB h m s n = false from tOkB_no (by unfold tOk; omega))
          clear hlt hgt hp
          go_upto_region 5 with fail
          have b3_c0 := b3.c 0 (v := .int .i64 h) rfl
          have b3_c1 := b3.c 1 (v := .int .i64 m) rfl
          have b3_c2 := b3.c 2 (v := .int .i64 s) rfl
          have b3_c3 := b3.c 3 (v := .int .i64 n) rfl
          have b4_c0 := b4.c 0 (v := .int .i64 23) rfl
          have b4_c1 := b4.c 1 (v := .int .i64 59) rfl
          have b4_c2 := b4.c 2 (v := .int .i64 59) rfl
          have b4_c3 := b4.c 3 (v := .int .i64 999999999) rfl
          go_quiet (fail)
          clear b3_c0 b3_c1 b3_c2 b3_c3 b4_c0 b4_c1 b4_c2 b4_c3
          go_upto_region 6 with fail
          refine wp_name ?_
          intro V9 hV
          have b3N : Bx V9 w3.heap.size #[.int .i64 h, .int .i64 m, .int .i64 s, .int .i64 n] 144 := by rw [hV]; exact (b3).drewN _
          have b4N : Bx V9 (w3.heap.size + 1) #[.int .i64 23, .int .i64 59, .int .i64 59, .int .i64 999999999] 144 := by rw [hV]; exact (b4).drewN _
          replace xw : Ext w V9 := by rw [hV]; exact Ext.drewN (xw)
          replace b3 := b3N; clear b3N
          replace b4 := b4N; clear b4N
          clear hV
          have xr := xw
          go_wp2_with fail
          refine bodyPost_ret (v := .bool false) (by simp [results, Try.results177, go_sem]) rfl ⟨by rw [HD.out], xr⟩
        · skip
          have g2 : decide (23 < h) = false := by simpa using hgt
          have hp2 := Lib.hid (show pre4 1 h m s n by unfold pre4 at *; omega)
          clear hlt hgt hp
          go_upto_region 5 with fail
          have b3_c0 := b3.c 0 (v := .int .i64 h) rfl
          have b3_c1 := b3.c 1 (v := .int .i64 m) rfl
          have b3_c2 := b3.c 2 (v := .int .i64 s) rfl
          have b3_c3 := b3.c 3 (v := .int .i64 n) rfl
          have b4_c0 := b4.c 0 (v := .int .i64 23) rfl
          have b4_c1 := b4.c 1 (v := .int .i64 59) rfl
          have b4_c2 := b4.c 2 (v := .int .i64 59) rfl
          have b4_c3 := b4.c 3 (v := .int .i64 999999999) rfl
          go_quiet (fail)
          clear b3_c0 b3_c1 b3_c2 b3_c3 b4_c0 b4_c1 b4_c2 b4_c3
          go_upto_region 7 with fail
          refine wp_name ?_
          intro V10 hV
          have b3N : Bx V10 w3.heap.size #[.int .i64 h, .int .i64 m, .int .i64 s, .int .i64 n] 144 := by rw [hV]; exact (b3).drewN _
          have b4N : Bx V10 (w3.heap.size + 1) #[.int .i64 23, .int .i64 59, .int .i64 59, .int .i64 999999999] 144 := by rw [hV]; exact (b4).drewN _
          replace xw : Ext w V10 := by rw [hV]; exact Ext.drewN (xw)
          replace b3 := b3N; clear b3N
          replace b4 := b4N; clear b4N
          clear hV
          go_wp2_with fail
          go_roundw
          case rel => exact ⟨1, by omega, by go_num, hp2.out, b3, b4, xw⟩
          case measure => simp [intOf] <;> omega
    · by_cases hlt : m < 0
      · have g1 : decide (m < 0) = true := by simpa using hlt
        have HD := Lib.hid (show tOkB h m s n = false from tOkB_no (by unfold tOk; omega))
        clear hlt hp
        go_upto_region 5 with fail
        have b3_c0 := b3.c 0 (v := .int .i64 h) rfl
        have b3_c1 := b3.c 1 (v := .int .i64 m) rfl
        have b3_c2 := b3.c 2 (v := .int .i64 s) rfl
        have b3_c3 := b3.c 3 (v := .int .i64 n) rfl
        have b4_c0 := b4.c 0 (v := .int .i64 23) rfl
        have b4_c1 := b4.c 1 (v := .int .i64 59) rfl
        have b4_c2 := b4.c 2 (v := .int .i64 59) rfl
        have b4_c3 := b4.c 3 (v := .int .i64 999999999) rfl
        go_quiet (fail)
        clear b3_c0 b3_c1 b3_c2 b3_c3 b4_c0 b4_c1 b4_c2 b4_c3
        go_upto_region 6 with fail
        refine wp_name ?_
        intro V11 hV
        have b3N : Bx V11 w3.heap.size #[.int .i64 h, .int .i64 m, .int .i64 s, .int .i64 n] 144 := by rw [hV]; exact (b3).drewN _
        have b4N : Bx V11 (w3.heap.size + 1) #[.int .i64 23, .int .i64 59, .int .i64 59, .int .i64 999999999] 144 := by rw [hV]; exact (b4).drewN _
        replace xw : Ext w V11 := by rw [hV]; exact Ext.drewN (xw)
        replace b3 := b3N; clear b3N
        replace b4 := b4N; clear b4N
        clear hV
        have xr := xw
        go_wp2_with fail
        refine bodyPost_ret (v := .bool false) (by simp [results, Try.results177, go_sem]) rfl ⟨by rw [HD.out], xr⟩
      · have g1 : decide (m < 0) = false := by simpa using hlt
        by_cases hgt : 59 < m
        · have g2 : decide (59 < m) = true := by simpa using hgt
          have HD := Lib.hid (show tOkB h m s n = false from tOkB_no (by unfold tOk; omega))
          clear hlt hgt hp
          go_upto_region 5 with fail
          have b3_c0 := b3.c 0 (v := .int .i64 h) rfl
          have b3_c1 := b3.c 1 (v := .int .i64 m) rfl
          have b3_c2 := b3.c 2 (v := .int .i64 s) rfl
          have b3_c3 := b3.c 3 (v := .int .i64 n) rfl
          have b4_c0 := b4.c 0 (v := .int .i64 23) rfl
          have b4_c1 := b4.c 1 (v := .int .i64 59) rfl
          have b4_c2 := b4.c 2 (v := .int .i64 59) rfl
          have b4_c3 := b4.c 3 (v := .int .i64 999999999) rfl
          go_quiet (fail)
          clear b3_c0 b3_c1 b3_c2 b3_c3 b4_c0 b4_c1 b4_c2 b4_c3
          go_upto_region 6 with fail
          refine wp_name ?_
          intro V12 hV
          have b3N : Bx V12 w3.heap.size #[.int .i64 h, .int .i64 m, .int .i64 s, .int .i64 n] 144 := by rw [hV]; exact (b3).drewN _
          have b4N : Bx V12 (w3.heap.size + 1) #[.int .i64 23, .int .i64 59, .int .i64 59, .int .i64 999999999] 144 := by rw [hV]; exact (b4).drewN _
          replace xw : Ext w V12 := by rw [hV]; exact Ext.drewN (xw)
          replace b3 := b3N; clear b3N
          replace b4 := b4N; clear b4N
          clear hV
          have xr := xw
          go_wp2_with fail
          refine bodyPost_ret (v := .bool false) (by simp [results, Try.results177, go_sem]) rfl ⟨by rw [HD.out], xr⟩
        · skip
          have g2 : decide (59 < m) = false := by simpa using hgt
          have hp2 := Lib.hid (show pre4 2 h m s n by unfold pre4 at *; omega)
          clear hlt hgt hp
          go_upto_region 5 with fail
          have b3_c0 := b3.c 0 (v := .int .i64 h) rfl
          have b3_c1 := b3.c 1 (v := .int .i64 m) rfl
          have b3_c2 := b3.c 2 (v := .int .i64 s) rfl
          have b3_c3 := b3.c 3 (v := .int .i64 n) rfl
          have b4_c0 := b4.c 0 (v := .int .i64 23) rfl
          have b4_c1 := b4.c 1 (v := .int .i64 59) rfl
          have b4_c2 := b4.c 2 (v := .int .i64 59) rfl
          have b4_c3 := b4.c 3 (v := .int .i64 999999999) rfl
          go_quiet (fail)
          clear b3_c0 b3_c1 b3_c2 b3_c3 b4_c0 b4_c1 b4_c2 b4_c3
          go_upto_region 7 with fail
          refine wp_name ?_
          intro V13 hV
          have b3N : Bx V13 w3.heap.size #[.int .i64 h, .int .i64 m, .int .i64 s, .int .i64 n] 144 := by rw [hV]; exact (b3).drewN _
          have b4N : Bx V13 (w3.heap.size + 1) #[.int .i64 23, .int .i64 59, .int .i64 59, .int .i64 999999999] 144 := by rw [hV]; exact (b4).drewN _
          replace xw : Ext w V13 := by rw [hV]; exact Ext.drewN (xw)
          replace b3 := b3N; clear b3N
          replace b4 := b4N; clear b4N
          clear hV
          go_wp2_with fail
          go_roundw
          case rel => exact ⟨2, by omega, by go_num, hp2.out, b3, b4, xw⟩
          case measure => simp [intOf] <;> omega
    · by_cases hlt : s < 0
      · have g1 : decide (s < 0) = true := by simpa using hlt
        have HD := Lib.hid (show tOkB h m s n = false from tOkB_no (by unfold tOk; omega))
        clear hlt hp
        go_upto_region 5 with fail
        have b3_c0 := b3.c 0 (v := .int .i64 h) rfl
        have b3_c1 := b3.c 1 (v := .int .i64 m) rfl
        have b3_c2 := b3.c 2 (v := .int .i64 s) rfl
        have b3_c3 := b3.c 3 (v := .int .i64 n) rfl
        have b4_c0 := b4.c 0 (v := .int .i64 23) rfl
        have b4_c1 := b4.c 1 (v := .int .i64 59) rfl
        have b4_c2 := b4.c 2 (v := .int .i64 59) rfl
        have b4_c3 := b4.c 3 (v := .int .i64 999999999) rfl
        go_quiet (fail)
        clear b3_c0 b3_c1 b3_c2 b3_c3 b4_c0 b4_c1 b4_c2 b4_c3
        go_upto_region 6 with fail
        refine wp_name ?_
        intro V14 hV
        have b3N : Bx V14 w3.heap.size #[.int .i64 h, .int .i64 m, .int .i64 s, .int .i64 n] 144 := by rw [hV]; exact (b3).drewN _
        have b4N : Bx V14 (w3.heap.size + 1) #[.int .i64 23, .int .i64 59, .int .i64 59, .int .i64 999999999] 144 := by rw [hV]; exact (b4).drewN _
        replace xw : Ext w V14 := by rw [hV]; exact Ext.drewN (xw)
        replace b3 := b3N; clear b3N
        replace b4 := b4N; clear b4N
        clear hV
        have xr := xw
        go_wp2_with fail
        refine bodyPost_ret (v := .bool false) (by simp [results, Try.results177, go_sem]) rfl ⟨by rw [HD.out], xr⟩
      · have g1 : decide (s < 0) = false := by simpa using hlt
        by_cases hgt : 59 < s
        · have g2 : decide (59 < s) = true := by simpa using hgt
          have HD := Lib.hid (show tOkB h m s n = false from tOkB_no (by unfold tOk; omega))
          clear hlt hgt hp
          go_upto_region 5 with fail
          have b3_c0 := b3.c 0 (v := .int .i64 h) rfl
          have b3_c1 := b3.c 1 (v := .int .i64 m) rfl
          have b3_c2 := b3.c 2 (v := .int .i64 s) rfl
          have b3_c3 := b3.c 3 (v := .int .i64 n) rfl
          have b4_c0 := b4.c 0 (v := .int .i64 23) rfl
          have b4_c1 := b4.c 1 (v := .int .i64 59) rfl
          have b4_c2 := b4.c 2 (v := .int .i64 59) rfl
          have b4_c3 := b4.c 3 (v := .int .i64 999999999) rfl
          go_quiet (fail)
          clear b3_c0 b3_c1 b3_c2 b3_c3 b4_c0 b4_c1 b4_c2 b4_c3
          go_upto_region 6 with fail
          refine wp_name ?_
          intro V15 hV
          have b3N : Bx V15 w3.heap.size #[.int .i64 h, .int .i64 m, .int .i64 s, .int .i64 n] 144 := by rw [hV]; exact (b3).drewN _
          have b4N : Bx V15 (w3.heap.size + 1) #[.int .i64 23, .int .i64 59, .int .i64 59, .int .i64 999999999] 144 := by rw [hV]; exact (b4).drewN _
          replace xw : Ext w V15 := by rw [hV]; exact Ext.drewN (xw)
          replace b3 := b3N; clear b3N
          replace b4 := b4N; clear b4N
          clear hV
          have xr := xw
          go_wp2_with fail
          refine bodyPost_ret (v := .bool false) (by simp [results, Try.results177, go_sem]) rfl ⟨by rw [HD.out], xr⟩
        · skip
          have g2 : decide (59 < s) = false := by simpa using hgt
          have hp2 := Lib.hid (show pre4 3 h m s n by unfold pre4 at *; omega)
          clear hlt hgt hp
          go_upto_region 5 with fail
          have b3_c0 := b3.c 0 (v := .int .i64 h) rfl
          have b3_c1 := b3.c 1 (v := .int .i64 m) rfl
          have b3_c2 := b3.c 2 (v := .int .i64 s) rfl
          have b3_c3 := b3.c 3 (v := .int .i64 n) rfl
          have b4_c0 := b4.c 0 (v := .int .i64 23) rfl
          have b4_c1 := b4.c 1 (v := .int .i64 59) rfl
          have b4_c2 := b4.c 2 (v := .int .i64 59) rfl
          have b4_c3 := b4.c 3 (v := .int .i64 999999999) rfl
          go_quiet (fail)
          clear b3_c0 b3_c1 b3_c2 b3_c3 b4_c0 b4_c1 b4_c2 b4_c3
          go_upto_region 7 with fail
          refine wp_name ?_
          intro V16 hV
          have b3N : Bx V16 w3.heap.size #[.int .i64 h, .int .i64 m, .int .i64 s, .int .i64 n] 144 := by rw [hV]; exact (b3).drewN _
          have b4N : Bx V16 (w3.heap.size + 1) #[.int .i64 23, .int .i64 59, .int .i64 59, .int .i64 999999999] 144 := by rw [hV]; exact (b4).drewN _
          replace xw : Ext w V16 := by rw [hV]; exact Ext.drewN (xw)
          replace b3 := b3N; clear b3N
          replace b4 := b4N; clear b4N
          clear hV
          go_wp2_with fail
          go_roundw
          case rel => exact ⟨3, by omega, by go_num, hp2.out, b3, b4, xw⟩
          case measure => simp [intOf] <;> omega
    · by_cases hlt : n < 0
      · have g1 : decide (n < 0) = true := by simpa using hlt
        have HD := Lib.hid (show tOkB h m s n = false from tOkB_no (by unfold tOk; omega))
        clear hlt hp
        go_upto_region 5 with fail
        have b3_c0 := b3.c 0 (v := .int .i64 h) rfl
        have b3_c1 := b3.c 1 (v := .int .i64 m) rfl
        have b3_c2 := b3.c 2 (v := .int .i64 s) rfl
        have b3_c3 := b3.c 3 (v := .int .i64 n) rfl
        have b4_c0 := b4.c 0 (v := .int .i64 23) rfl
        have b4_c1 := b4.c 1 (v := .int .i64 59) rfl
        have b4_c2 := b4.c 2 (v := .int .i64 59) rfl
        have b4_c3 := b4.c 3 (v := .int .i64 999999999) rfl
        go_quiet (fail)
        clear b3_c0 b3_c1 b3_c2 b3_c3 b4_c0 b4_c1 b4_c2 b4_c3
        go_upto_region 6 with fail
        refine wp_name ?_
        intro V17 hV
        have b3N : Bx V17 w3.heap.size #[.int .i64 h, .int .i64 m, .int .i64 s, .int .i64 n] 144 := by rw [hV]; exact (b3).drewN _
        have b4N : Bx V17 (w3.heap.size + 1) #[.int .i64 23, .int .i64 59, .int .i64 59, .int .i64 999999999] 144 := by rw [hV]; exact (b4).drewN _
        replace xw : Ext w V17 := by rw [hV]; exact Ext.drewN (xw)
        replace b3 := b3N; clear b3N
        replace b4 := b4N; clear b4N
        clear hV
        have xr := xw
        go_wp2_with fail
        refine bodyPost_ret (v := .bool false) (by simp [results, Try.results177, go_sem]) rfl ⟨by rw [HD.out], xr⟩
      · have g1 : decide (n < 0) = false := by simpa using hlt
        by_cases hgt : 999999999 < n
        · have g2 : decide (999999999 < n) = true := by simpa using hgt
          have HD := Lib.hid (show tOkB h m s n = false from tOkB_no (by unfold tOk; omega))
          clear hlt hgt hp
          go_upto_region 5 with fail
          have b3_c0 := b3.c 0 (v := .int .i64 h) rfl
          have b3_c1 := b3.c 1 (v := .int .i64 m) rfl
          have b3_c2 := b3.c 2 (v := .int .i64 s) rfl
          have b3_c3 := b3.c 3 (v := .int .i64 n) rfl
          have b4_c0 := b4.c 0 (v := .int .i64 23) rfl
          have b4_c1 := b4.c 1 (v := .int .i64 59) rfl
          have b4_c2 := b4.c 2 (v := .int .i64 59) rfl
          have b4_c3 := b4.c 3 (v := .int .i64 999999999) rfl
          go_quiet (fail)
          clear b3_c0 b3_c1 b3_c2 b3_c3 b4_c0 b4_c1 b4_c2 b4_c3
          go_upto_region 6 with fail
          refine wp_name ?_
          intro V18 hV
          have b3N : Bx V18 w3.heap.size #[.int .i64 h, .int .i64 m, .int .i64 s, .int .i64 n] 144 := by rw [hV]; exact (b3).drewN _
          have b4N : Bx V18 (w3.heap.size + 1) #[.int .i64 23, .int .i64 59, .int .i64 59, .int .i64 999999999] 144 := by rw [hV]; exact (b4).drewN _
          replace xw : Ext w V18 := by rw [hV]; exact Ext.drewN (xw)
          replace b3 := b3N; clear b3N
          replace b4 := b4N; clear b4N
          clear hV
          have xr := xw
          go_wp2_with fail
          refine bodyPost_ret (v := .bool false) (by simp [results, Try.results177, go_sem]) rfl ⟨by rw [HD.out], xr⟩
        · skip
          have g2 : decide (999999999 < n) = false := by simpa using hgt
          have hp2 := Lib.hid (show pre4 4 h m s n by unfold pre4 at *; omega)
          clear hlt hgt hp
          go_upto_region 5 with fail
          have b3_c0 := b3.c 0 (v := .int .i64 h) rfl
          have b3_c1 := b3.c 1 (v := .int .i64 m) rfl
          have b3_c2 := b3.c 2 (v := .int .i64 s) rfl
          have b3_c3 := b3.c 3 (v := .int .i64 n) rfl
          have b4_c0 := b4.c 0 (v := .int .i64 23) rfl
          have b4_c1 := b4.c 1 (v := .int .i64 59) rfl
          have b4_c2 := b4.c 2 (v := .int .i64 59) rfl
          have b4_c3 := b4.c 3 (v := .int .i64 999999999) rfl
          go_quiet (fail)
          clear b3_c0 b3_c1 b3_c2 b3_c3 b4_c0 b4_c1 b4_c2 b4_c3
          go_upto_region 7 with fail
          refine wp_name ?_
          intro V19 hV
          have b3N : Bx V19 w3.heap.size #[.int .i64 h, .int .i64 m, .int .i64 s, .int .i64 n] 144 := by rw [hV]; exact (b3).drewN _
          have b4N : Bx V19 (w3.heap.size + 1) #[.int .i64 23, .int .i64 59, .int .i64 59, .int .i64 999999999] 144 := by rw [hV]; exact (b4).drewN _
          replace xw : Ext w V19 := by rw [hV]; exact Ext.drewN (xw)
          replace b3 := b3N; clear b3N
          replace b4 := b4N; clear b4N
          clear hV
          go_wp2_with fail
          go_roundw
          case rel => exact ⟨4, by omega, by go_num, hp2.out, b3, b4, xw⟩
          case measure => simp [intOf] <;> omega
    · have HD := Lib.hid (show tOkB h m s n = true from tOkB_yes (by unfold pre4 at hp; unfold tOk; omega))
      clear hp
      go_upto_region 8 with fail
      have xr := xw
      go_wp2_with fail
      refine bodyPost_ret (v := .bool true) (by simp [results, Try.results177, go_sem]) rfl ⟨by rw [HD.out], xr⟩
set_option maxRecDepth 100000 in
set_option maxHeartbeats 3200000 in
theorem cnanos_yes (h m s n : Int) (w : World) (k : tOk h m s n) :
    Calls Try.prog 103 #[.agg #[.int .i64 h, .int .i64 m, .int .i64 s, .int .i64 n]] w (fun e w' => e = .returned (.tuple #[.int .i64 (tnan h m s n), .bool true]) ∧ Ext w w') := by
  have HR := Lib.hid cright
  have HK := Lib.hid (tOkB_yes k)
  obtain ⟨⟨h0, h1⟩, ⟨m0, m1⟩, ⟨s0, s1⟩, ⟨n0, n1⟩⟩ := k
  unfold tnan
  go_enter Try.func103, Try.ntmps103
  go_upto_region 1 with fail
  have xw := Ext.refl w
  refine wp_name ?_
  intro V1 hV
  replace xw : Ext w V1 := by rw [hV]; exact Ext.alloc (xw)
  have b1 : Bx V1 w.heap.size #[.int .i64 h, .int .i64 m, .int .i64 s, .int .i64 n] 23 := by rw [hV]; exact Bx.new rfl
  clear hV
  have b1_c0 := b1.c 0 (v := .int .i64 h) rfl
  have b1_c1 := b1.c 1 (v := .int .i64 m) rfl
  have b1_c2 := b1.c 2 (v := .int .i64 s) rfl
  have b1_c3 := b1.c 3 (v := .int .i64 n) rfl
  go_wp2_with fail
  refine (HR.out h m s n _).mono ?_
  rw [HK.out]
  rintro e w2 ⟨rfl, x2⟩
  clear b1_c0 b1_c1 b1_c2 b1_c3
  replace b1 := b1.ext x2
  replace xw := Ext.trans xw x2
  go_upto_region 3 with fail
  have b1_c0 := b1.c 0 (v := .int .i64 h) rfl
  have b1_c1 := b1.c 1 (v := .int .i64 m) rfl
  have b1_c2 := b1.c 2 (v := .int .i64 s) rfl
  have b1_c3 := b1.c 3 (v := .int .i64 n) rfl
  have xr := xw
  go_wp2_with fail
  refine bodyPost_ret (v := .tuple #[.int .i64 (((h * 60 + m) * 60 + s) * 1000000000 + n), .bool true]) (by simp [results, Try.results103, go_sem]) rfl ⟨rfl, xr⟩
set_option maxRecDepth 100000 in
set_option maxHeartbeats 3200000 in
theorem cnanos_no (h m s n : Int) (w : World) (k : ¬ tOk h m s n) :
    Calls Try.prog 103 #[.agg #[.int .i64 h, .int .i64 m, .int .i64 s, .int .i64 n]] w (fun e w' => e = .returned (.tuple #[.int .i64 0, .bool false]) ∧ Ext w w') := by
  have HR := Lib.hid cright
  have HK := Lib.hid (tOkB_no k)
  go_enter Try.func103, Try.ntmps103
  go_upto_region 1 with fail
  have xw := Ext.refl w
  refine wp_name ?_
  intro V1 hV
  replace xw : Ext w V1 := by rw [hV]; exact Ext.alloc (xw)
  have b1 : Bx V1 w.heap.size #[.int .i64 h, .int .i64 m, .int .i64 s, .int .i64 n] 23 := by rw [hV]; exact Bx.new rfl
  clear hV
  have b1_c0 := b1.c 0 (v := .int .i64 h) rfl
  have b1_c1 := b1.c 1 (v := .int .i64 m) rfl
  have b1_c2 := b1.c 2 (v := .int .i64 s) rfl
  have b1_c3 := b1.c 3 (v := .int .i64 n) rfl
  go_wp2_with fail
  refine (HR.out h m s n _).mono ?_
  rw [HK.out]
  rintro e w2 ⟨rfl, x2⟩
  clear b1_c0 b1_c1 b1_c2 b1_c3
  replace b1 := b1.ext x2
  replace xw := Ext.trans xw x2
  go_upto_region 2 with fail
  have xr := xw
  go_wp2_with fail
  refine bodyPost_ret (v := .tuple #[.int .i64 0, .bool false]) (by simp [results, Try.results103, go_sem]) rfl ⟨rfl, xr⟩
set_option maxRecDepth 100000 in
set_option maxHeartbeats 3200000 in
theorem cof_no (n : Int) (w : World) (k : n < 0 ∨ 86400000000000 ≤ n) :
    Calls Try.prog 106 #[.int .i64 n] w (fun e w' => e = .returned (.tuple #[.agg #[.int .i64 0, .int .i64 0, .int .i64 0, .int .i64 0], .bool false]) ∧ Ext w w') := by
  by_cases h0 : n < 0
  · have g0 : decide (n < 0) = true := by simpa using h0
    go_enter Try.func106, Try.ntmps106
    go_upto_region 1 with fail
    have xw := Ext.refl w
    refine wp_name ?_
    intro V1 hV
    replace xw : Ext w V1 := by rw [hV]; exact Ext.alloc (xw)
    have b2 : Bx V1 w.heap.size #[.int .i64 0, .int .i64 0, .int .i64 0, .int .i64 0] 23 := by rw [hV]; exact Bx.new rfl
    clear hV
    go_upto_region 2 with fail
    have b2_c0 := b2.c 0 (v := .int .i64 0) rfl
    have b2_c1 := b2.c 1 (v := .int .i64 0) rfl
    have b2_c2 := b2.c 2 (v := .int .i64 0) rfl
    have b2_c3 := b2.c 3 (v := .int .i64 0) rfl
    have b2_f0 := b2.f 0
    have b2_f1 := b2.f 1
    have b2_f2 := b2.f 2
    have b2_f3 := b2.f 3
    have xr := Ext.set (Ext.set (Ext.set (Ext.set (xw) (k := w.heap.size) (o := 0) (u := .int .i64 0) (by omega)) (k := w.heap.size) (o := 1) (u := .int .i64 0) (by omega)) (k := w.heap.size) (o := 2) (u := .int .i64 0) (by omega)) (k := w.heap.size) (o := 3) (u := .int .i64 0) (by omega)
    go_wp2_with fail
    refine bodyPost_ret (v := .tuple #[.agg #[.int .i64 0, .int .i64 0, .int .i64 0, .int .i64 0], .bool false]) (by simp [results, Try.results106, go_sem, b2_c0, b2_c1, b2_c2, b2_c3]) rfl ⟨rfl, xr⟩
  · have g0 : decide (n < 0) = false := by simpa using h0
    have h1 : 86400000000000 ≤ n := by omega
    have g1 : decide (86400000000000 ≤ n) = true := by simpa using h1
    go_enter Try.func106, Try.ntmps106
    go_upto_region 1 with fail
    have xw := Ext.refl w
    refine wp_name ?_
    intro V2 hV
    replace xw : Ext w V2 := by rw [hV]; exact Ext.alloc (xw)
    have b2 : Bx V2 w.heap.size #[.int .i64 0, .int .i64 0, .int .i64 0, .int .i64 0] 23 := by rw [hV]; exact Bx.new rfl
    clear hV
    go_upto_region 2 with fail
    have b2_c0 := b2.c 0 (v := .int .i64 0) rfl
    have b2_c1 := b2.c 1 (v := .int .i64 0) rfl
    have b2_c2 := b2.c 2 (v := .int .i64 0) rfl
    have b2_c3 := b2.c 3 (v := .int .i64 0) rfl
    have b2_f0 := b2.f 0
    have b2_f1 := b2.f 1
    have b2_f2 := b2.f 2
    have b2_f3 := b2.f 3
    have xr := Ext.set (Ext.set (Ext.set (Ext.set (xw) (k := w.heap.size) (o := 0) (u := .int .i64 0) (by omega)) (k := w.heap.size) (o := 1) (u := .int .i64 0) (by omega)) (k := w.heap.size) (o := 2) (u := .int .i64 0) (by omega)) (k := w.heap.size) (o := 3) (u := .int .i64 0) (by omega)
    go_wp2_with fail
    refine bodyPost_ret (v := .tuple #[.agg #[.int .i64 0, .int .i64 0, .int .i64 0, .int .i64 0], .bool false]) (by simp [results, Try.results106, go_sem, b2_c0, b2_c1, b2_c2, b2_c3]) rfl ⟨rfl, xr⟩
set_option maxRecDepth 100000 in
set_option maxHeartbeats 3200000 in
theorem cof_yes (n : Int) (w : World) (h0 : 0 ≤ n) (h1 : n < 86400000000000) :
    Calls Try.prog 106 #[.int .i64 n] w (fun e w' => e = .returned (.tuple #[.agg #[.int .i64 (tH n), .int .i64 (tM n), .int .i64 (tS n), .int .i64 (tN n)], .bool true]) ∧ Ext w w') := by
  have HE := Lib.hid (show n / 1000000000 / 3600 = tH n ∧ n / 1000000000 / 60 % 60 = tM n ∧ n / 1000000000 % 60 = tS n ∧ n % 1000000000 = tN n by unfold tH tM tS tN; omega)
  have q0 : 0 ≤ n / 1000000000 := by omega
  have q1 : n / 1000000000 ≤ 86400 := by omega
  have q2 : 0 ≤ n / 1000000000 / 60 := by omega
  have q3 : n / 1000000000 / 60 ≤ 86400 := by omega
  have q4 : 0 ≤ n / 1000000000 / 3600 := by omega
  have q5 : n / 1000000000 / 3600 ≤ 86400 := by omega
  go_enter Try.func106, Try.ntmps106
  go_upto_region 1 with fail
  have xw := Ext.refl w
  refine wp_name ?_
  intro V1 hV
  replace xw : Ext w V1 := by rw [hV]; exact Ext.alloc (xw)
  have b2 : Bx V1 w.heap.size #[.int .i64 0, .int .i64 0, .int .i64 0, .int .i64 0] 23 := by rw [hV]; exact Bx.new rfl
  clear hV
  go_upto_region 3 with fail
  go_upto_region 4 with fail
  have b2_c0 := b2.c 0 (v := .int .i64 0) rfl
  have b2_c1 := b2.c 1 (v := .int .i64 0) rfl
  have b2_c2 := b2.c 2 (v := .int .i64 0) rfl
  have b2_c3 := b2.c 3 (v := .int .i64 0) rfl
  have b2_f0 := b2.f 0
  have b2_f1 := b2.f 1
  have b2_f2 := b2.f 2
  have b2_f3 := b2.f 3
  go_wp2_with fail
  refine bodyPost_ret (v := .tuple #[.agg #[.int .i64 (n / 1000000000 / 3600), .int .i64 (n / 1000000000 / 60 % 60), .int .i64 (n / 1000000000 % 60), .int .i64 (n % 1000000000)], .bool true]) (by simp [results, Try.results106, go_sem, b2_c0, b2_c1, b2_c2, b2_c3]) rfl ⟨by rw [HE.out.1, HE.out.2.1, HE.out.2.2.1, HE.out.2.2.2], (Ext.set (Ext.set (Ext.set (Ext.set (xw) (by omega)) (by omega)) (by omega)) (by omega))⟩
end Go.Proofs.Ytcndfpfjckkinaa
