/-
  Texts joined: Cka, Ckf, Pla, Civ2, App, Wsum, Dus, Mw, Ml, Unt, Dur, Btw, Btt, Cau, Fx, Duc, Cuu, Chainy, Fc, Crd, Plc, Cub. Each says at its head what it shows.
-/
import Derived.ArgAppend
import Derived.Test.YthoedmikfpbfnaaGreatPGb
section
/-
  The clock: fields, most, made, Right, Nanos, Of.
-/
set_option linter.unusedSimpArgs false
set_option linter.unusedVariables false
namespace Go.Proofs.YthoedmikfpbfnaaGreat
open Go Go.RowKit

def tOk (h m s n : Int) : Prop := (0 ≤ h ∧ h ≤ 23) ∧ (0 ≤ m ∧ m ≤ 59) ∧ (0 ≤ s ∧ s ≤ 59) ∧ (0 ≤ n ∧ n ≤ 999999999)
instance (h m s n : Int) : Decidable (tOk h m s n) := by unfold tOk; exact inferInstance
def tOkB (h m s n : Int) : Bool := decide (tOk h m s n)
theorem tOkB_yes {h m s n : Int} (k : tOk h m s n) : tOkB h m s n = true := decide_eq_true k
theorem tOkB_no {h m s n : Int} (k : ¬ tOk h m s n) : tOkB h m s n = false := decide_eq_false k
def tnan (h m s n : Int) : Int := ((h * 60 + m) * 60 + s) * 1000000000 + n
def tH (n : Int) : Int := n / 3600000000000
def tM (n : Int) : Int := n / 60000000000 % 60
def tS (n : Int) : Int := n / 1000000000 % 60
def tN (n : Int) : Int := n % 1000000000
theorem tnan_bd {h m s n : Int} (k : tOk h m s n) : 0 ≤ tnan h m s n ∧ tnan h m s n < 86400000000000 := by unfold tOk at k; unfold tnan; omega
theorem t_tnan {h m s n : Int} (k : tOk h m s n) : tH (tnan h m s n) = h ∧ tM (tnan h m s n) = m ∧ tS (tnan h m s n) = s ∧ tN (tnan h m s n) = n := by
  unfold tOk at k; unfold tH tM tS tN tnan; omega
set_option maxRecDepth 100000 in
set_option maxHeartbeats 3200000 in
theorem cfields (h m s n : Int) (w : World) :
    Calls Tryz.prog 116 #[.agg #[.int .i64 h, .int .i64 m, .int .i64 s, .int .i64 n]] w (fun e w' => e = .returned (.agg #[.int .i64 h, .int .i64 m, .int .i64 s, .int .i64 n]) ∧ Ext w w') := by
  go_enter Tryz.func116, Tryz.ntmps116
  go_upto_region 1 with fail
  have xw := Ext.refl w
  refine wp_name ?_
  intro V1 hV
  replace xw : Ext w V1 := by rw [hV]; exact Ext.alloc (Ext.alloc (xw))
  have b1 : Bx V1 w.heap.size #[.int .i64 h, .int .i64 m, .int .i64 s, .int .i64 n] 25 := by rw [hV]; exact (Bx.new rfl).alloc _
  have b2 : Bx V1 (w.heap.size + 1) #[.int .i64 0, .int .i64 0, .int .i64 0, .int .i64 0] 163 := by rw [hV]; exact Bx.new (by simp)
  clear hV
  have b1_c0 := b1.c 0 (v := .int .i64 h) rfl
  have b1_c1 := b1.c 1 (v := .int .i64 m) rfl
  have b1_c2 := b1.c 2 (v := .int .i64 s) rfl
  have b1_c3 := b1.c 3 (v := .int .i64 n) rfl
  have b2_c0 := b2.c 0 (v := .int .i64 0) rfl
  have b2_c1 := b2.c 1 (v := .int .i64 0) rfl
  have b2_c2 := b2.c 2 (v := .int .i64 0) rfl
  have b2_c3 := b2.c 3 (v := .int .i64 0) rfl
  have b2_f0 := b2.f 0
  have b2_f1 := b2.f 1
  have b2_f2 := b2.f 2
  have b2_f3 := b2.f 3
  have xr := Ext.set (Ext.set (Ext.set (Ext.set (xw) (k := w.heap.size + 1) (o := 0) (u := .int .i64 h) (by omega)) (k := w.heap.size + 1) (o := 1) (u := .int .i64 m) (by omega)) (k := w.heap.size + 1) (o := 2) (u := .int .i64 s) (by omega)) (k := w.heap.size + 1) (o := 3) (u := .int .i64 n) (by omega)
  go_wp2_with fail
  refine bodyPost_ret (v := .agg #[.int .i64 h, .int .i64 m, .int .i64 s, .int .i64 n]) (by simp [results, Tryz.results116, go_sem, b2_c0, b2_c1, b2_c2, b2_c3]) rfl ⟨rfl, xr⟩
set_option maxRecDepth 100000 in
set_option maxHeartbeats 3200000 in
theorem cmost (w : World) :
    Calls Tryz.prog 165 #[] w (fun e w' => e = .returned (.agg #[.int .i64 23, .int .i64 59, .int .i64 59, .int .i64 999999999]) ∧ Ext w w') := by
  go_enter Tryz.func165, Tryz.ntmps165
  go_upto_region 1 with fail
  have xw := Ext.refl w
  refine wp_name ?_
  intro V1 hV
  replace xw : Ext w V1 := by rw [hV]; exact Ext.alloc (xw)
  have b0 : Bx V1 w.heap.size #[.int .i64 0, .int .i64 0, .int .i64 0, .int .i64 0] 163 := by rw [hV]; exact Bx.new rfl
  clear hV
  have b0_c0 := b0.c 0 (v := .int .i64 0) rfl
  have b0_c1 := b0.c 1 (v := .int .i64 0) rfl
  have b0_c2 := b0.c 2 (v := .int .i64 0) rfl
  have b0_c3 := b0.c 3 (v := .int .i64 0) rfl
  have b0_f0 := b0.f 0
  have b0_f1 := b0.f 1
  have b0_f2 := b0.f 2
  have b0_f3 := b0.f 3
  have xr := Ext.set (Ext.set (Ext.set (Ext.set (xw) (k := w.heap.size) (o := 0) (u := .int .i64 23) (by omega)) (k := w.heap.size) (o := 1) (u := .int .i64 59) (by omega)) (k := w.heap.size) (o := 2) (u := .int .i64 59) (by omega)) (k := w.heap.size) (o := 3) (u := .int .i64 999999999) (by omega)
  go_wp2_with fail
  refine bodyPost_ret (v := .agg #[.int .i64 23, .int .i64 59, .int .i64 59, .int .i64 999999999]) (by simp [results, Tryz.results165, go_sem, b0_c0, b0_c1, b0_c2, b0_c3]) rfl ⟨rfl, xr⟩
def pre4 (k : Nat) (h m s n : Int) : Prop := (0 < k → 0 ≤ h ∧ h ≤ 23) ∧ (1 < k → 0 ≤ m ∧ m ≤ 59) ∧ (2 < k → 0 ≤ s ∧ s ≤ 59) ∧ (3 < k → 0 ≤ n ∧ n ≤ 999999999)
set_option maxRecDepth 100000 in
set_option maxHeartbeats 3200000 in
theorem cright (h m s n : Int) (w : World) :
    Calls Tryz.prog 140 #[.agg #[.int .i64 h, .int .i64 m, .int .i64 s, .int .i64 n]] w (fun e w' => e = .returned (.bool (tOkB h m s n)) ∧ Ext w w') := by
  have HF := Lib.hid cfields
  have HM := Lib.hid cmost
  go_enter Tryz.func140, Tryz.ntmps140
  go_upto_region 1 with fail
  have xw := Ext.refl w
  refine wp_name ?_
  intro V1 hV
  replace xw : Ext w V1 := by rw [hV]; exact Ext.alloc (xw)
  have b1 : Bx V1 w.heap.size #[.int .i64 h, .int .i64 m, .int .i64 s, .int .i64 n] 25 := by rw [hV]; exact Bx.new rfl
  clear hV
  have b1_c0 := b1.c 0 (v := .int .i64 h) rfl
  have b1_c1 := b1.c 1 (v := .int .i64 m) rfl
  have b1_c2 := b1.c 2 (v := .int .i64 s) rfl
  have b1_c3 := b1.c 3 (v := .int .i64 n) rfl
  go_wp2_with fail
  refine (HF.out h m s n _).mono ?_
  rintro e w2 ⟨rfl, x2⟩
  clear b1_c0 b1_c1 b1_c2 b1_c3
  replace b1 := b1.ext x2
  replace xw := Ext.trans xw x2
  go_wp2_with fail
  refine (HM.out _).mono ?_
  rintro e w3 ⟨rfl, x3⟩
  replace b1 := b1.ext x3
  replace xw := Ext.trans xw x3
  go_upto_region 2 with fail
  have o5 := b1.kind.lt
  have o6 := xw.size
  refine wp_name ?_
  intro V4 hV
  have b1N : Bx V4 w.heap.size #[.int .i64 h, .int .i64 m, .int .i64 s, .int .i64 n] 25 := by rw [hV]; exact ((b1).alloc _).alloc _
  replace xw : Ext w V4 := by rw [hV]; exact Ext.alloc (Ext.alloc (xw))
  replace b1 := b1N; clear b1N
  have b3 : Bx V4 w3.heap.size #[.int .i64 h, .int .i64 m, .int .i64 s, .int .i64 n] 163 := by rw [hV]; exact (Bx.new rfl).alloc _
  have b4 : Bx V4 (w3.heap.size + 1) #[.int .i64 23, .int .i64 59, .int .i64 59, .int .i64 999999999] 163 := by rw [hV]; exact Bx.new (by simp)
  clear hV
  go_wp2_with fail
  clear b1
  go_loopw [9] (fun s9 wr => ∃ (k : Nat), k ≤ 4 ∧ s9 = .int .i64 k ∧ pre4 k h m s n ∧ Bx wr w3.heap.size #[.int .i64 h, .int .i64 m, .int .i64 s, .int .i64 n] 163 ∧ Bx wr (w3.heap.size + 1) #[.int .i64 23, .int .i64 59, .int .i64 59, .int .i64 999999999] 163 ∧ Ext w wr) (fun s9 _ => 4 - (intOf s9).toNat)
  case atStart => exact ⟨0, by omega, rfl, ⟨by omega, by omega, by omega, by omega⟩, b3, b4, xw⟩
  case round =>
    clear b3 b4 xw
    obtain ⟨k, hk, rfl, hp, b3, b4, xw⟩ := hrel
    refine wp_name ?_
    intro Wr7 hV
    subst hV
    have hk3 : k = 0 ∨ k = 1 ∨ k = 2 ∨ k = 3 ∨ k = 4 := by omega
    clear hk
    rcases hk3 with rfl | rfl | rfl | rfl | rfl
    · by_cases hlt : h < 0
      · have g1 : decide (h < 0) = true := by simpa using hlt
        have HD := Lib.hid (show tOkB h m s n = false from tOkB_no (by unfold tOk; omega))
        clear hlt hp
        go_upto_region 5 with fail
        have b3_c0 := b3.c 0 (v := .int .i64 h) rfl
        have b3_c1 := b3.c 1 (v := .int .i64 m) rfl
        have b3_c2 := b3.c 2 (v := .int .i64 s) rfl
        have b3_c3 := b3.c 3 (v := .int .i64 n) rfl
        have b4_c0 := b4.c 0 (v := .int .i64 23) rfl
        have b4_c1 := b4.c 1 (v := .int .i64 59) rfl
        have b4_c2 := b4.c 2 (v := .int .i64 59) rfl
        have b4_c3 := b4.c 3 (v := .int .i64 999999999) rfl
        go_quiet (fail)
        clear b3_c0 b3_c1 b3_c2 b3_c3 b4_c0 b4_c1 b4_c2 b4_c3
        go_upto_region 6 with fail
        refine wp_name ?_
        intro V8 hV
        have b3N : Bx V8 w3.heap.size #[.int .i64 h, .int .i64 m, .int .i64 s, .int .i64 n] 163 := by rw [hV]; exact (b3).drewN _
        have b4N : Bx V8 (w3.heap.size + 1) #[.int .i64 23, .int .i64 59, .int .i64 59, .int .i64 999999999] 163 := by rw [hV]; exact (b4).drewN _
        replace xw : Ext w V8 := by rw [hV]; exact Ext.drewN (xw)
        replace b3 := b3N; clear b3N
        replace b4 := b4N; clear b4N
        clear hV
        have xr := xw
        go_wp2_with fail
        refine bodyPost_ret (v := .bool false) (by simp [results, Tryz.results140, go_sem]) rfl ⟨by rw [HD.out], xr⟩
      · have g1 : decide (h < 0) = false := by simpa using hlt
        by_cases hgt : 23 < h
        · have g2 : decide (23 < h) = true := by simpa using hgt
          have HD := Lib.hid (show tOkB h m s n = false from tOkB_no (by unfold tOk; omega))
          clear hlt hgt hp
          go_upto_region 5 with fail
          have b3_c0 := b3.c 0 (v := .int .i64 h) rfl
          have b3_c1 := b3.c 1 (v := .int .i64 m) rfl
          have b3_c2 := b3.c 2 (v := .int .i64 s) rfl
          have b3_c3 := b3.c 3 (v := .int .i64 n) rfl
          have b4_c0 := b4.c 0 (v := .int .i64 23) rfl
          have b4_c1 := b4.c 1 (v := .int .i64 59) rfl
          have b4_c2 := b4.c 2 (v := .int .i64 59) rfl
          have b4_c3 := b4.c 3 (v := .int .i64 999999999) rfl
          go_quiet (fail)
          clear b3_c0 b3_c1 b3_c2 b3_c3 b4_c0 b4_c1 b4_c2 b4_c3
          go_upto_region 6 with fail
          refine wp_name ?_
          intro V9 hV
          have b3N : Bx V9 w3.heap.size #[.int .i64 h, .int .i64 m, .int .i64 s, .int .i64 n] 163 := by rw [hV]; exact (b3).drewN _
          have b4N : Bx V9 (w3.heap.size + 1) #[.int .i64 23, .int .i64 59, .int .i64 59, .int .i64 999999999] 163 := by rw [hV]; exact (b4).drewN _
          replace xw : Ext w V9 := by rw [hV]; exact Ext.drewN (xw)
          replace b3 := b3N; clear b3N
          replace b4 := b4N; clear b4N
          clear hV
          have xr := xw
          go_wp2_with fail
          refine bodyPost_ret (v := .bool false) (by simp [results, Tryz.results140, go_sem]) rfl ⟨by rw [HD.out], xr⟩
        · skip
          have g2 : decide (23 < h) = false := by simpa using hgt
          have hp2 := Lib.hid (show pre4 1 h m s n by unfold pre4 at *; omega)
          clear hlt hgt hp
          go_upto_region 5 with fail
          have b3_c0 := b3.c 0 (v := .int .i64 h) rfl
          have b3_c1 := b3.c 1 (v := .int .i64 m) rfl
          have b3_c2 := b3.c 2 (v := .int .i64 s) rfl
          have b3_c3 := b3.c 3 (v := .int .i64 n) rfl
          have b4_c0 := b4.c 0 (v := .int .i64 23) rfl
          have b4_c1 := b4.c 1 (v := .int .i64 59) rfl
          have b4_c2 := b4.c 2 (v := .int .i64 59) rfl
          have b4_c3 := b4.c 3 (v := .int .i64 999999999) rfl
          go_quiet (fail)
          clear b3_c0 b3_c1 b3_c2 b3_c3 b4_c0 b4_c1 b4_c2 b4_c3
          go_upto_region 7 with fail
          refine wp_name ?_
          intro V10 hV
          have b3N : Bx V10 w3.heap.size #[.int .i64 h, .int .i64 m, .int .i64 s, .int .i64 n] 163 := by rw [hV]; exact (b3).drewN _
          have b4N : Bx V10 (w3.heap.size + 1) #[.int .i64 23, .int .i64 59, .int .i64 59, .int .i64 999999999] 163 := by rw [hV]; exact (b4).drewN _
          replace xw : Ext w V10 := by rw [hV]; exact Ext.drewN (xw)
          replace b3 := b3N; clear b3N
          replace b4 := b4N; clear b4N
          clear hV
          go_wp2_with fail
          go_roundw
          case rel => exact ⟨1, by omega, by go_num, hp2.out, b3, b4, xw⟩
          case measure => simp [intOf] <;> omega
    · by_cases hlt : m < 0
      · have g1 : decide (m < 0) = true := by simpa using hlt
        have HD := Lib.hid (show tOkB h m s n = false from tOkB_no (by unfold tOk; omega))
        clear hlt hp
        go_upto_region 5 with fail
        have b3_c0 := b3.c 0 (v := .int .i64 h) rfl
        have b3_c1 := b3.c 1 (v := .int .i64 m) rfl
        have b3_c2 := b3.c 2 (v := .int .i64 s) rfl
        have b3_c3 := b3.c 3 (v := .int .i64 n) rfl
        have b4_c0 := b4.c 0 (v := .int .i64 23) rfl
        have b4_c1 := b4.c 1 (v := .int .i64 59) rfl
        have b4_c2 := b4.c 2 (v := .int .i64 59) rfl
        have b4_c3 := b4.c 3 (v := .int .i64 999999999) rfl
        go_quiet (fail)
        clear b3_c0 b3_c1 b3_c2 b3_c3 b4_c0 b4_c1 b4_c2 b4_c3
        go_upto_region 6 with fail
        refine wp_name ?_
        intro V11 hV
        have b3N : Bx V11 w3.heap.size #[.int .i64 h, .int .i64 m, .int .i64 s, .int .i64 n] 163 := by rw [hV]; exact (b3).drewN _
        have b4N : Bx V11 (w3.heap.size + 1) #[.int .i64 23, .int .i64 59, .int .i64 59, .int .i64 999999999] 163 := by rw [hV]; exact (b4).drewN _
        replace xw : Ext w V11 := by rw [hV]; exact Ext.drewN (xw)
        replace b3 := b3N; clear b3N
        replace b4 := b4N; clear b4N
        clear hV
        have xr := xw
        go_wp2_with fail
        refine bodyPost_ret (v := .bool false) (by simp [results, Tryz.results140, go_sem]) rfl ⟨by rw [HD.out], xr⟩
      · have g1 : decide (m < 0) = false := by simpa using hlt
        by_cases hgt : 59 < m
        · have g2 : decide (59 < m) = true := by simpa using hgt
          have HD := Lib.hid (show tOkB h m s n = false from tOkB_no (by unfold tOk; omega))
          clear hlt hgt hp
          go_upto_region 5 with fail
          have b3_c0 := b3.c 0 (v := .int .i64 h) rfl
          have b3_c1 := b3.c 1 (v := .int .i64 m) rfl
          have b3_c2 := b3.c 2 (v := .int .i64 s) rfl
          have b3_c3 := b3.c 3 (v := .int .i64 n) rfl
          have b4_c0 := b4.c 0 (v := .int .i64 23) rfl
          have b4_c1 := b4.c 1 (v := .int .i64 59) rfl
          have b4_c2 := b4.c 2 (v := .int .i64 59) rfl
          have b4_c3 := b4.c 3 (v := .int .i64 999999999) rfl
          go_quiet (fail)
          clear b3_c0 b3_c1 b3_c2 b3_c3 b4_c0 b4_c1 b4_c2 b4_c3
          go_upto_region 6 with fail
          refine wp_name ?_
          intro V12 hV
          have b3N : Bx V12 w3.heap.size #[.int .i64 h, .int .i64 m, .int .i64 s, .int .i64 n] 163 := by rw [hV]; exact (b3).drewN _
          have b4N : Bx V12 (w3.heap.size + 1) #[.int .i64 23, .int .i64 59, .int .i64 59, .int .i64 999999999] 163 := by rw [hV]; exact (b4).drewN _
          replace xw : Ext w V12 := by rw [hV]; exact Ext.drewN (xw)
          replace b3 := b3N; clear b3N
          replace b4 := b4N; clear b4N
          clear hV
          have xr := xw
          go_wp2_with fail
          refine bodyPost_ret (v := .bool false) (by simp [results, Tryz.results140, go_sem]) rfl ⟨by rw [HD.out], xr⟩
        · skip
          have g2 : decide (59 < m) = false := by simpa using hgt
          have hp2 := Lib.hid (show pre4 2 h m s n by unfold pre4 at *; omega)
          clear hlt hgt hp
          go_upto_region 5 with fail
          have b3_c0 := b3.c 0 (v := .int .i64 h) rfl
          have b3_c1 := b3.c 1 (v := .int .i64 m) rfl
          have b3_c2 := b3.c 2 (v := .int .i64 s) rfl
          have b3_c3 := b3.c 3 (v := .int .i64 n) rfl
          have b4_c0 := b4.c 0 (v := .int .i64 23) rfl
          have b4_c1 := b4.c 1 (v := .int .i64 59) rfl
          have b4_c2 := b4.c 2 (v := .int .i64 59) rfl
          have b4_c3 := b4.c 3 (v := .int .i64 999999999) rfl
          go_quiet (fail)
          clear b3_c0 b3_c1 b3_c2 b3_c3 b4_c0 b4_c1 b4_c2 b4_c3
          go_upto_region 7 with fail
          refine wp_name ?_
          intro V13 hV
          have b3N : Bx V13 w3.heap.size #[.int .i64 h, .int .i64 m, .int .i64 s, .int .i64 n] 163 := by rw [hV]; exact (b3).drewN _
          have b4N : Bx V13 (w3.heap.size + 1) #[.int .i64 23, .int .i64 59, .int .i64 59, .int .i64 999999999] 163 := by rw [hV]; exact (b4).drewN _
          replace xw : Ext w V13 := by rw [hV]; exact Ext.drewN (xw)
          replace b3 := b3N; clear b3N
          replace b4 := b4N; clear b4N
          clear hV
          go_wp2_with fail
          go_roundw
          case rel => exact ⟨2, by omega, by go_num, hp2.out, b3, b4, xw⟩
          case measure => simp [intOf] <;> omega
    · by_cases hlt : s < 0
      · have g1 : decide (s < 0) = true := by simpa using hlt
        have HD := Lib.hid (show tOkB h m s n = false from tOkB_no (by unfold tOk; omega))
        clear hlt hp
        go_upto_region 5 with fail
        have b3_c0 := b3.c 0 (v := .int .i64 h) rfl
        have b3_c1 := b3.c 1 (v := .int .i64 m) rfl
        have b3_c2 := b3.c 2 (v := .int .i64 s) rfl
        have b3_c3 := b3.c 3 (v := .int .i64 n) rfl
        have b4_c0 := b4.c 0 (v := .int .i64 23) rfl
        have b4_c1 := b4.c 1 (v := .int .i64 59) rfl
        have b4_c2 := b4.c 2 (v := .int .i64 59) rfl
        have b4_c3 := b4.c 3 (v := .int .i64 999999999) rfl
        go_quiet (fail)
        clear b3_c0 b3_c1 b3_c2 b3_c3 b4_c0 b4_c1 b4_c2 b4_c3
        go_upto_region 6 with fail
        refine wp_name ?_
        intro V14 hV
        have b3N : Bx V14 w3.heap.size #[.int .i64 h, .int .i64 m, .int .i64 s, .int .i64 n] 163 := by rw [hV]; exact (b3).drewN _
        have b4N : Bx V14 (w3.heap.size + 1) #[.int .i64 23, .int .i64 59, .int .i64 59, .int .i64 999999999] 163 := by rw [hV]; exact (b4).drewN _
        replace xw : Ext w V14 := by rw [hV]; exact Ext.drewN (xw)
        replace b3 := b3N; clear b3N
        replace b4 := b4N; clear b4N
        clear hV
        have xr := xw
        go_wp2_with fail
        refine bodyPost_ret (v := .bool false) (by simp [results, Tryz.results140, go_sem]) rfl ⟨by rw [HD.out], xr⟩
      · have g1 : decide (s < 0) = false := by simpa using hlt
        by_cases hgt : 59 < s
        · have g2 : decide (59 < s) = true := by simpa using hgt
          have HD := Lib.hid (show tOkB h m s n = false from tOkB_no (by unfold tOk; omega))
          clear hlt hgt hp
          go_upto_region 5 with fail
          have b3_c0 := b3.c 0 (v := .int .i64 h) rfl
          have b3_c1 := b3.c 1 (v := .int .i64 m) rfl
          have b3_c2 := b3.c 2 (v := .int .i64 s) rfl
          have b3_c3 := b3.c 3 (v := .int .i64 n) rfl
          have b4_c0 := b4.c 0 (v := .int .i64 23) rfl
          have b4_c1 := b4.c 1 (v := .int .i64 59) rfl
          have b4_c2 := b4.c 2 (v := .int .i64 59) rfl
          have b4_c3 := b4.c 3 (v := .int .i64 999999999) rfl
          go_quiet (fail)
          clear b3_c0 b3_c1 b3_c2 b3_c3 b4_c0 b4_c1 b4_c2 b4_c3
          go_upto_region 6 with fail
          refine wp_name ?_
          intro V15 hV
          have b3N : Bx V15 w3.heap.size #[.int .i64 h, .int .i64 m, .int .i64 s, .int .i64 n] 163 := by rw [hV]; exact (b3).drewN _
          have b4N : Bx V15 (w3.heap.size + 1) #[.int .i64 23, .int .i64 59, .int .i64 59, .int .i64 999999999] 163 := by rw [hV]; exact (b4).drewN _
          replace xw : Ext w V15 := by rw [hV]; exact Ext.drewN (xw)
          replace b3 := b3N; clear b3N
          replace b4 := b4N; clear b4N
          clear hV
          have xr := xw
          go_wp2_with fail
          refine bodyPost_ret (v := .bool false) (by simp [results, Tryz.results140, go_sem]) rfl ⟨by rw [HD.out], xr⟩
        · skip
          have g2 : decide (59 < s) = false := by simpa using hgt
          have hp2 := Lib.hid (show pre4 3 h m s n by unfold pre4 at *; omega)
          clear hlt hgt hp
          go_upto_region 5 with fail
          have b3_c0 := b3.c 0 (v := .int .i64 h) rfl
          have b3_c1 := b3.c 1 (v := .int .i64 m) rfl
          have b3_c2 := b3.c 2 (v := .int .i64 s) rfl
          have b3_c3 := b3.c 3 (v := .int .i64 n) rfl
          have b4_c0 := b4.c 0 (v := .int .i64 23) rfl
          have b4_c1 := b4.c 1 (v := .int .i64 59) rfl
          have b4_c2 := b4.c 2 (v := .int .i64 59) rfl
          have b4_c3 := b4.c 3 (v := .int .i64 999999999) rfl
          go_quiet (fail)
          clear b3_c0 b3_c1 b3_c2 b3_c3 b4_c0 b4_c1 b4_c2 b4_c3
          go_upto_region 7 with fail
          refine wp_name ?_
          intro V16 hV
          have b3N : Bx V16 w3.heap.size #[.int .i64 h, .int .i64 m, .int .i64 s, .int .i64 n] 163 := by rw [hV]; exact (b3).drewN _
          have b4N : Bx V16 (w3.heap.size + 1) #[.int .i64 23, .int .i64 59, .int .i64 59, .int .i64 999999999] 163 := by rw [hV]; exact (b4).drewN _
          replace xw : Ext w V16 := by rw [hV]; exact Ext.drewN (xw)
          replace b3 := b3N; clear b3N
          replace b4 := b4N; clear b4N
          clear hV
          go_wp2_with fail
          go_roundw
          case rel => exact ⟨3, by omega, by go_num, hp2.out, b3, b4, xw⟩
          case measure => simp [intOf] <;> omega
    · by_cases hlt : n < 0
      · have g1 : decide (n < 0) = true := by simpa using hlt
        have HD := Lib.hid (show tOkB h m s n = false from tOkB_no (by unfold tOk; omega))
        clear hlt hp
        go_upto_region 5 with fail
        have b3_c0 := b3.c 0 (v := .int .i64 h) rfl
        have b3_c1 := b3.c 1 (v := .int .i64 m) rfl
        have b3_c2 := b3.c 2 (v := .int .i64 s) rfl
        have b3_c3 := b3.c 3 (v := .int .i64 n) rfl
        have b4_c0 := b4.c 0 (v := .int .i64 23) rfl
        have b4_c1 := b4.c 1 (v := .int .i64 59) rfl
        have b4_c2 := b4.c 2 (v := .int .i64 59) rfl
        have b4_c3 := b4.c 3 (v := .int .i64 999999999) rfl
        go_quiet (fail)
        clear b3_c0 b3_c1 b3_c2 b3_c3 b4_c0 b4_c1 b4_c2 b4_c3
        go_upto_region 6 with fail
        refine wp_name ?_
        intro V17 hV
        have b3N : Bx V17 w3.heap.size #[.int .i64 h, .int .i64 m, .int .i64 s, .int .i64 n] 163 := by rw [hV]; exact (b3).drewN _
        have b4N : Bx V17 (w3.heap.size + 1) #[.int .i64 23, .int .i64 59, .int .i64 59, .int .i64 999999999] 163 := by rw [hV]; exact (b4).drewN _
        replace xw : Ext w V17 := by rw [hV]; exact Ext.drewN (xw)
        replace b3 := b3N; clear b3N
        replace b4 := b4N; clear b4N
        clear hV
        have xr := xw
        go_wp2_with fail
        refine bodyPost_ret (v := .bool false) (by simp [results, Tryz.results140, go_sem]) rfl ⟨by rw [HD.out], xr⟩
      · have g1 : decide (n < 0) = false := by simpa using hlt
        by_cases hgt : 999999999 < n
        · have g2 : decide (999999999 < n) = true := by simpa using hgt
          have HD := Lib.hid (show tOkB h m s n = false from tOkB_no (by unfold tOk; omega))
          clear hlt hgt hp
          go_upto_region 5 with fail
          have b3_c0 := b3.c 0 (v := .int .i64 h) rfl
          have b3_c1 := b3.c 1 (v := .int .i64 m) rfl
          have b3_c2 := b3.c 2 (v := .int .i64 s) rfl
          have b3_c3 := b3.c 3 (v := .int .i64 n) rfl
          have b4_c0 := b4.c 0 (v := .int .i64 23) rfl
          have b4_c1 := b4.c 1 (v := .int .i64 59) rfl
          have b4_c2 := b4.c 2 (v := .int .i64 59) rfl
          have b4_c3 := b4.c 3 (v := .int .i64 999999999) rfl
          go_quiet (fail)
          clear b3_c0 b3_c1 b3_c2 b3_c3 b4_c0 b4_c1 b4_c2 b4_c3
          go_upto_region 6 with fail
          refine wp_name ?_
          intro V18 hV
          have b3N : Bx V18 w3.heap.size #[.int .i64 h, .int .i64 m, .int .i64 s, .int .i64 n] 163 := by rw [hV]; exact (b3).drewN _
          have b4N : Bx V18 (w3.heap.size + 1) #[.int .i64 23, .int .i64 59, .int .i64 59, .int .i64 999999999] 163 := by rw [hV]; exact (b4).drewN _
          replace xw : Ext w V18 := by rw [hV]; exact Ext.drewN (xw)
          replace b3 := b3N; clear b3N
          replace b4 := b4N; clear b4N
          clear hV
          have xr := xw
          go_wp2_with fail
          refine bodyPost_ret (v := .bool false) (by simp [results, Tryz.results140, go_sem]) rfl ⟨by rw [HD.out], xr⟩
        · skip
          have g2 : decide (999999999 < n) = false := by simpa using hgt
          have hp2 := Lib.hid (show pre4 4 h m s n by unfold pre4 at *; omega)
          clear hlt hgt hp
          go_upto_region 5 with fail
          have b3_c0 := b3.c 0 (v := .int .i64 h) rfl
          have b3_c1 := b3.c 1 (v := .int .i64 m) rfl
          have b3_c2 := b3.c 2 (v := .int .i64 s) rfl
          have b3_c3 := b3.c 3 (v := .int .i64 n) rfl
          have b4_c0 := b4.c 0 (v := .int .i64 23) rfl
          have b4_c1 := b4.c 1 (v := .int .i64 59) rfl
          have b4_c2 := b4.c 2 (v := .int .i64 59) rfl
          have b4_c3 := b4.c 3 (v := .int .i64 999999999) rfl
          go_quiet (fail)
          clear b3_c0 b3_c1 b3_c2 b3_c3 b4_c0 b4_c1 b4_c2 b4_c3
          go_upto_region 7 with fail
          refine wp_name ?_
          intro V19 hV
          have b3N : Bx V19 w3.heap.size #[.int .i64 h, .int .i64 m, .int .i64 s, .int .i64 n] 163 := by rw [hV]; exact (b3).drewN _
          have b4N : Bx V19 (w3.heap.size + 1) #[.int .i64 23, .int .i64 59, .int .i64 59, .int .i64 999999999] 163 := by rw [hV]; exact (b4).drewN _
          replace xw : Ext w V19 := by rw [hV]; exact Ext.drewN (xw)
          replace b3 := b3N; clear b3N
          replace b4 := b4N; clear b4N
          clear hV
          go_wp2_with fail
          go_roundw
          case rel => exact ⟨4, by omega, by go_num, hp2.out, b3, b4, xw⟩
          case measure => simp [intOf] <;> omega
    · have HD := Lib.hid (show tOkB h m s n = true from tOkB_yes (by unfold pre4 at hp; unfold tOk; omega))
      clear hp
      go_upto_region 8 with fail
      have xr := xw
      go_wp2_with fail
      refine bodyPost_ret (v := .bool true) (by simp [results, Tryz.results140, go_sem]) rfl ⟨by rw [HD.out], xr⟩
set_option maxRecDepth 100000 in
set_option maxHeartbeats 3200000 in
theorem cnanos_yes (h m s n : Int) (w : World) (k : tOk h m s n) :
    Calls Tryz.prog 98 #[.agg #[.int .i64 h, .int .i64 m, .int .i64 s, .int .i64 n]] w (fun e w' => e = .returned (.tuple #[.int .i64 (tnan h m s n), .bool true]) ∧ Ext w w') := by
  have HR := Lib.hid cright
  have HK := Lib.hid (tOkB_yes k)
  obtain ⟨⟨h0, h1⟩, ⟨m0, m1⟩, ⟨s0, s1⟩, ⟨n0, n1⟩⟩ := k
  unfold tnan
  go_enter Tryz.func98, Tryz.ntmps98
  go_upto_region 1 with fail
  have xw := Ext.refl w
  refine wp_name ?_
  intro V1 hV
  replace xw : Ext w V1 := by rw [hV]; exact Ext.alloc (xw)
  have b1 : Bx V1 w.heap.size #[.int .i64 h, .int .i64 m, .int .i64 s, .int .i64 n] 25 := by rw [hV]; exact Bx.new rfl
  clear hV
  have b1_c0 := b1.c 0 (v := .int .i64 h) rfl
  have b1_c1 := b1.c 1 (v := .int .i64 m) rfl
  have b1_c2 := b1.c 2 (v := .int .i64 s) rfl
  have b1_c3 := b1.c 3 (v := .int .i64 n) rfl
  go_wp2_with fail
  refine (HR.out h m s n _).mono ?_
  rw [HK.out]
  rintro e w2 ⟨rfl, x2⟩
  clear b1_c0 b1_c1 b1_c2 b1_c3
  replace b1 := b1.ext x2
  replace xw := Ext.trans xw x2
  go_upto_region 3 with fail
  have b1_c0 := b1.c 0 (v := .int .i64 h) rfl
  have b1_c1 := b1.c 1 (v := .int .i64 m) rfl
  have b1_c2 := b1.c 2 (v := .int .i64 s) rfl
  have b1_c3 := b1.c 3 (v := .int .i64 n) rfl
  have xr := xw
  go_wp2_with fail
  refine bodyPost_ret (v := .tuple #[.int .i64 (((h * 60 + m) * 60 + s) * 1000000000 + n), .bool true]) (by simp [results, Tryz.results98, go_sem]) rfl ⟨rfl, xr⟩
set_option maxRecDepth 100000 in
set_option maxHeartbeats 3200000 in
theorem cnanos_no (h m s n : Int) (w : World) (k : ¬ tOk h m s n) :
    Calls Tryz.prog 98 #[.agg #[.int .i64 h, .int .i64 m, .int .i64 s, .int .i64 n]] w (fun e w' => e = .returned (.tuple #[.int .i64 0, .bool false]) ∧ Ext w w') := by
  have HR := Lib.hid cright
  have HK := Lib.hid (tOkB_no k)
  go_enter Tryz.func98, Tryz.ntmps98
  go_upto_region 1 with fail
  have xw := Ext.refl w
  refine wp_name ?_
  intro V1 hV
  replace xw : Ext w V1 := by rw [hV]; exact Ext.alloc (xw)
  have b1 : Bx V1 w.heap.size #[.int .i64 h, .int .i64 m, .int .i64 s, .int .i64 n] 25 := by rw [hV]; exact Bx.new rfl
  clear hV
  have b1_c0 := b1.c 0 (v := .int .i64 h) rfl
  have b1_c1 := b1.c 1 (v := .int .i64 m) rfl
  have b1_c2 := b1.c 2 (v := .int .i64 s) rfl
  have b1_c3 := b1.c 3 (v := .int .i64 n) rfl
  go_wp2_with fail
  refine (HR.out h m s n _).mono ?_
  rw [HK.out]
  rintro e w2 ⟨rfl, x2⟩
  clear b1_c0 b1_c1 b1_c2 b1_c3
  replace b1 := b1.ext x2
  replace xw := Ext.trans xw x2
  go_upto_region 2 with fail
  have xr := xw
  go_wp2_with fail
  refine bodyPost_ret (v := .tuple #[.int .i64 0, .bool false]) (by simp [results, Tryz.results98, go_sem]) rfl ⟨rfl, xr⟩
set_option maxRecDepth 100000 in
set_option maxHeartbeats 3200000 in
theorem cof_yes (n : Int) (w : World) (h0 : 0 ≤ n) (h1 : n < 86400000000000) :
    Calls Tryz.prog 120 #[.int .i64 n] w (fun e w' => e = .returned (.tuple #[.agg #[.int .i64 (tH n), .int .i64 (tM n), .int .i64 (tS n), .int .i64 (tN n)], .bool true]) ∧ Ext w w') := by
  have HE := Lib.hid (show n / 1000000000 / 3600 = tH n ∧ n / 1000000000 / 60 % 60 = tM n ∧ n / 1000000000 % 60 = tS n ∧ n % 1000000000 = tN n by unfold tH tM tS tN; omega)
  have q0 : 0 ≤ n / 1000000000 := by omega
  have q1 : n / 1000000000 ≤ 86400 := by omega
  have q2 : 0 ≤ n / 1000000000 / 60 := by omega
  have q3 : n / 1000000000 / 60 ≤ 86400 := by omega
  have q4 : 0 ≤ n / 1000000000 / 3600 := by omega
  have q5 : n / 1000000000 / 3600 ≤ 86400 := by omega
  go_enter Tryz.func120, Tryz.ntmps120
  go_upto_region 1 with fail
  have xw := Ext.refl w
  refine wp_name ?_
  intro V1 hV
  replace xw : Ext w V1 := by rw [hV]; exact Ext.alloc (xw)
  have b2 : Bx V1 w.heap.size #[.int .i64 0, .int .i64 0, .int .i64 0, .int .i64 0] 25 := by rw [hV]; exact Bx.new rfl
  clear hV
  go_upto_region 3 with fail
  go_upto_region 4 with fail
  have b2_c0 := b2.c 0 (v := .int .i64 0) rfl
  have b2_c1 := b2.c 1 (v := .int .i64 0) rfl
  have b2_c2 := b2.c 2 (v := .int .i64 0) rfl
  have b2_c3 := b2.c 3 (v := .int .i64 0) rfl
  have b2_f0 := b2.f 0
  have b2_f1 := b2.f 1
  have b2_f2 := b2.f 2
  have b2_f3 := b2.f 3
  go_wp2_with fail
  refine bodyPost_ret (v := .tuple #[.agg #[.int .i64 (n / 1000000000 / 3600), .int .i64 (n / 1000000000 / 60 % 60), .int .i64 (n / 1000000000 % 60), .int .i64 (n % 1000000000)], .bool true]) (by simp [results, Tryz.results120, go_sem, b2_c0, b2_c1, b2_c2, b2_c3]) rfl ⟨by rw [HE.out.1, HE.out.2.1, HE.out.2.2.1, HE.out.2.2.2], (Ext.set (Ext.set (Ext.set (Ext.set (xw) (by omega)) (by omega)) (by omega)) (by omega))⟩
end Go.Proofs.YthoedmikfpbfnaaGreat
end
section
/-
  clock.Cmp.
-/
set_option linter.unusedSimpArgs false
set_option linter.unusedVariables false
namespace Go.Proofs.YthoedmikfpbfnaaGreat
open Go Go.RowKit

set_option maxRecDepth 100000 in
set_option maxHeartbeats 3200000 in
theorem isnan (x : Int) (w : World) : Calls Tryz.prog 158 #[.int .i64 x] w (fun e w' => e = .returned (.bool false) ∧ w' = w) := by
  go_enter Tryz.func158, Tryz.ntmps158
  go_wp2
  go_ret
  exact ⟨rfl, rfl⟩
set_option maxRecDepth 100000 in
set_option maxHeartbeats 3200000 in
theorem ccompare (a b : Int) (w : World) : Calls Tryz.prog 115 #[.int .i64 a, .int .i64 b] w (fun e w' => e = .returned (.int .i64 (cmpI a b)) ∧ w' = w) := by
  unfold cmpI
  by_cases h : a < b
  · rw [if_pos h]
    go_enter Tryz.func115, Tryz.ntmps115
    go_wp2_with (go_at_call 158; refine (isnan _ _).mono ?_; rintro e w' ⟨rfl, rfl⟩)
    go_ret
    exact ⟨rfl, rfl⟩
  · rw [if_neg h]
    by_cases h1 : a = b
    · subst h1
      rw [if_pos rfl]
      go_enter Tryz.func115, Tryz.ntmps115
      go_wp2_with (go_at_call 158; refine (isnan _ _).mono ?_; rintro e w' ⟨rfl, rfl⟩)
      go_ret
      exact ⟨rfl, rfl⟩
    · rw [if_neg h1]
      have h2 : b < a := by omega
      clear h1
      go_enter Tryz.func115, Tryz.ntmps115
      go_wp2_with (go_at_call 158; refine (isnan _ _).mono ?_; rintro e w' ⟨rfl, rfl⟩)
      go_ret
      exact ⟨rfl, rfl⟩
def cmp4 (h m s n h' m' s' n' : Int) : Int := if h = h' then (if m = m' then (if s = s' then cmpI n n' else cmpI s s') else cmpI m m') else cmpI h h'
def pre4e (k : Nat) (h m s n h' m' s' n' : Int) : Prop := (0 < k → h = h') ∧ (1 < k → m = m') ∧ (2 < k → s = s') ∧ (3 < k → n = n')
theorem cmpI_no {a b : Int} (h : ¬ a = b) : (cmpI a b == 0) = false := by
  simp only [beq_eq_false_iff_ne, ne_eq]; unfold cmpI
  by_cases h1 : a < b
  · simp [h1]
  · simp [h1, h]
theorem cmpI_same (a : Int) : (cmpI a a == 0) = true := by simp [cmpI]
theorem cmp4_at0 {h m s n h' m' s' n' : Int} (e : ¬ h = h') : cmpI h h' = cmp4 h m s n h' m' s' n' := by unfold cmp4; rw [if_neg e]
theorem cmp4_at1 {h m s n h' m' s' n' : Int} (p : pre4e 1 h m s n h' m' s' n') (e : ¬ m = m') : cmpI m m' = cmp4 h m s n h' m' s' n' := by unfold cmp4; rw [if_pos (p.1 (by omega)), if_neg e]
theorem cmp4_at2 {h m s n h' m' s' n' : Int} (p : pre4e 2 h m s n h' m' s' n') (e : ¬ s = s') : cmpI s s' = cmp4 h m s n h' m' s' n' := by unfold cmp4; rw [if_pos (p.1 (by omega)), if_pos (p.2.1 (by omega)), if_neg e]
theorem cmp4_at3 {h m s n h' m' s' n' : Int} (p : pre4e 3 h m s n h' m' s' n') : cmpI n n' = cmp4 h m s n h' m' s' n' := by unfold cmp4; rw [if_pos (p.1 (by omega)), if_pos (p.2.1 (by omega)), if_pos (p.2.2.1 (by omega))]
theorem cmp4_at4 {h m s n h' m' s' n' : Int} (p : pre4e 4 h m s n h' m' s' n') : 0 = cmp4 h m s n h' m' s' n' := by unfold cmp4; rw [if_pos (p.1 (by omega)), if_pos (p.2.1 (by omega)), if_pos (p.2.2.1 (by omega)), p.2.2.2 (by omega)]; simp [cmpI]
theorem cmpI_congr {a b c d : Int} (h1 : a < b ↔ c < d) (h2 : a = b ↔ c = d) : cmpI a b = cmpI c d := by unfold cmpI; simp only [h1, h2]
theorem cmp4_nan {h m s n h' m' s' n' : Int} (k : tOk h m s n) (k' : tOk h' m' s' n') : cmp4 h m s n h' m' s' n' = cmpI (tnan h m s n) (tnan h' m' s' n') := by
  unfold tOk at k k'
  unfold cmp4 tnan
  by_cases e1 : h = h'
  · rw [if_pos e1]
    by_cases e2 : m = m'
    · rw [if_pos e2]
      by_cases e3 : s = s'
      · rw [if_pos e3]; exact cmpI_congr (by omega) (by omega)
      · rw [if_neg e3]; exact cmpI_congr (by omega) (by omega)
    · rw [if_neg e2]; exact cmpI_congr (by omega) (by omega)
  · rw [if_neg e1]; exact cmpI_congr (by omega) (by omega)
set_option maxRecDepth 100000 in
set_option maxHeartbeats 3200000 in
theorem cCmp (h m s n h' m' s' n' : Int) (w : World) :
    Calls Tryz.prog 57 #[.agg #[.int .i64 h, .int .i64 m, .int .i64 s, .int .i64 n], .agg #[.int .i64 h', .int .i64 m', .int .i64 s', .int .i64 n']] w (fun e w' => e = .returned (.int .i64 (cmp4 h m s n h' m' s' n')) ∧ Ext w w') := by
  have HF := Lib.hid cfields
  go_enter Tryz.func57, Tryz.ntmps57
  go_upto_region 1 with fail
  have xw := Ext.refl w
  refine wp_name ?_
  intro V1 hV
  replace xw : Ext w V1 := by rw [hV]; exact Ext.alloc (Ext.alloc (xw))
  have b2 : Bx V1 w.heap.size #[.int .i64 h, .int .i64 m, .int .i64 s, .int .i64 n] 25 := by rw [hV]; exact (Bx.new rfl).alloc _
  have b3 : Bx V1 (w.heap.size + 1) #[.int .i64 h', .int .i64 m', .int .i64 s', .int .i64 n'] 25 := by rw [hV]; exact Bx.new (by simp)
  clear hV
  refine wp_region_noPanic ?_
  refine wp_region_held_drew (S := fun w' => Ext V1 w') (by kernel_rfl) (Ext.refl V1).drew (fun hHeld => ?_)
  have b2_d0 := fun w' (hh : Ext V1 w') => (b2.ext hh).c 0 (v := .int .i64 h) rfl
  have b2_d1 := fun w' (hh : Ext V1 w') => (b2.ext hh).c 1 (v := .int .i64 m) rfl
  have b2_d2 := fun w' (hh : Ext V1 w') => (b2.ext hh).c 2 (v := .int .i64 s) rfl
  have b2_d3 := fun w' (hh : Ext V1 w') => (b2.ext hh).c 3 (v := .int .i64 n) rfl
  have b3_d0 := fun w' (hh : Ext V1 w') => (b3.ext hh).c 0 (v := .int .i64 h') rfl
  have b3_d1 := fun w' (hh : Ext V1 w') => (b3.ext hh).c 1 (v := .int .i64 m') rfl
  have b3_d2 := fun w' (hh : Ext V1 w') => (b3.ext hh).c 2 (v := .int .i64 s') rfl
  have b3_d3 := fun w' (hh : Ext V1 w') => (b3.ext hh).c 3 (v := .int .i64 n') rfl
  refine wpAnyH_take (i := 0) (v := .agg #[.int .i64 h, .int .i64 m, .int .i64 s, .int .i64 n]) rfl (by kernel_rfl) (by kernel_rfl) (by kernel_rfl) (fun _ _ _ h => h) (Or.inl ⟨by kernel_rfl, fun w' h => (by go_simp)⟩) hHeld ?_
  refine wpAnyH_take (i := 2) (v := .agg #[.int .i64 h', .int .i64 m', .int .i64 s', .int .i64 n']) rfl (by kernel_rfl) (by kernel_rfl) (by kernel_rfl) (fun _ _ _ h => h) (Or.inl ⟨by kernel_rfl, fun w' h => (by go_simp)⟩) hHeld ?_
  refine region2 (N := 8) (f0 := [0, 2]) (l := [(1, false), (3, false)]) (T := [6, 7]) (iA := 4) (dA := 5) (iB := 5) (dB := 6) (oA := .cells #[.int .i64 0, .int .i64 0, .int .i64 0, .int .i64 0] 163) (oB := .cells #[.int .i64 0, .int .i64 0, .int .i64 0, .int .i64 0] 163) (fun _ _ _ _ _ h => h) (by kernel_rfl) (by kernel_rfl) rfl (by kernel_rfl) (by kernel_rfl)
    (fun K a w h => wpOp_of rfl fun K' hK => (by go_simp; exact hK _ _ h)) (fun K a w h => wpOp_of rfl fun K' hK => (by go_simp; exact hK _ _ h)) (by decide) (by simp [Act.put]) (by simp [Act.put]) (fun _ _ h x => h.trans x) hHeld ?_
  have y0 : Ext V1 V1.drew := (Ext.refl V1).drew
  intro a1 v2 haw yv2
  obtain ⟨s12, s22, rfl⟩ := away2 haw; refine wpOp_of rfl fun K' hK => ?_; go_simp
  replace y0 := Ext.trans y0 yv2
  refine (HF.out h m s n _).mono ?_
  rintro e w3 ⟨rfl, x3⟩
  refine hK _ _ ⟨⟨x3, rfl, slots2 rfl rfl⟩, ?_⟩; clear hK K'
  replace y0 := Ext.trans y0 x3
  intro a1 v4 haw yv4
  obtain ⟨s14, s24, rfl⟩ := away2 haw; refine wpOp_of rfl fun K' hK => ?_; go_simp
  replace y0 := Ext.trans y0 yv4
  refine (HF.out h' m' s' n' _).mono ?_
  rintro e w5 ⟨rfl, x5⟩
  refine hK _ _ ⟨⟨x5, rfl, slots2 rfl rfl⟩, ?_⟩; clear hK K'
  replace y0 := Ext.trans y0 x5
  intro a' v6 haw yv6
  obtain ⟨s16, s26, rfl⟩ := away2 haw
  rintro k5 k6 ⟨k5a, k5b, k5c⟩ ⟨k6a, k6b, k6c⟩ k5ne hS'
  replace y0 := Ext.trans y0 yv6
  simp [Act.put] at k5b; subst k5b; replace k5a : V1.heap.size ≤ k5 := k5a
  simp [Act.put] at k6b; subst k6b; replace k6a : V1.heap.size ≤ k6 := k6a
  clear b2_d0 b2_d1 b2_d2 b2_d3 b3_d0 b3_d1 b3_d2 b3_d3
  have o7 := b2.kind.lt
  have o8 := b3.kind.lt
  have o9 := xw.size
  replace b2 := b2.ext y0
  replace b3 := b3.ext y0
  replace xw := Ext.trans xw y0
  have b5 : Bx v6 k5 #[.int .i64 0, .int .i64 0, .int .i64 0, .int .i64 0] 163 := k5c
  clear k5c
  have b6 : Bx v6 k6 #[.int .i64 0, .int .i64 0, .int .i64 0, .int .i64 0] 163 := k6c
  clear k6c
  have hT : Ext V1 v6 := hS'
  have b5_c0 := b5.c 0 (v := .int .i64 0) rfl
  have b5_c1 := b5.c 1 (v := .int .i64 0) rfl
  have b5_c2 := b5.c 2 (v := .int .i64 0) rfl
  have b5_c3 := b5.c 3 (v := .int .i64 0) rfl
  have b5_f0 := b5.f 0
  have b5_f1 := b5.f 1
  have b5_f2 := b5.f 2
  have b5_f3 := b5.f 3
  refine wpOp_of rfl fun K' hK => ?_
  go_simp
  clear b5_c0 b5_c1 b5_c2 b5_c3 b5_f0 b5_f1 b5_f2 b5_f3
  replace hT := Ext.set hT (k := k5) (o := 0) (u := .int .i64 h) k5a
  replace hT := Ext.set hT (k := k5) (o := 1) (u := .int .i64 m) k5a
  replace hT := Ext.set hT (k := k5) (o := 2) (u := .int .i64 s) k5a
  replace hT := Ext.set hT (k := k5) (o := 3) (u := .int .i64 n) k5a
  refine hK _ _ ⟨hT, ?_⟩
  clear hK K'
  have b2N := ((((b2).other (b := k5) (by omega) 0 (.int .i64 h)).other (b := k5) (by omega) 1 (.int .i64 m)).other (b := k5) (by omega) 2 (.int .i64 s)).other (b := k5) (by omega) 3 (.int .i64 n)
  have b3N := ((((b3).other (b := k5) (by omega) 0 (.int .i64 h)).other (b := k5) (by omega) 1 (.int .i64 m)).other (b := k5) (by omega) 2 (.int .i64 s)).other (b := k5) (by omega) 3 (.int .i64 n)
  have b5N := ((((b5).setc 0 (.int .i64 h) (cs' := #[.int .i64 h, .int .i64 0, .int .i64 0, .int .i64 0]) rfl).setc 1 (.int .i64 m) (cs' := #[.int .i64 h, .int .i64 m, .int .i64 0, .int .i64 0]) rfl).setc 2 (.int .i64 s) (cs' := #[.int .i64 h, .int .i64 m, .int .i64 s, .int .i64 0]) rfl).setc 3 (.int .i64 n) (cs' := #[.int .i64 h, .int .i64 m, .int .i64 s, .int .i64 n]) rfl
  have b6N := ((((b6).other (b := k5) (by omega) 0 (.int .i64 h)).other (b := k5) (by omega) 1 (.int .i64 m)).other (b := k5) (by omega) 2 (.int .i64 s)).other (b := k5) (by omega) 3 (.int .i64 n)
  replace xw := Ext.set (Ext.set (Ext.set (Ext.set (xw) (k := k5) (o := 0) (u := .int .i64 h) (by omega)) (k := k5) (o := 1) (u := .int .i64 m) (by omega)) (k := k5) (o := 2) (u := .int .i64 s) (by omega)) (k := k5) (o := 3) (u := .int .i64 n) (by omega)
  replace b2 := b2N; clear b2N
  replace b3 := b3N; clear b3N
  replace b5 := b5N; clear b5N
  replace b6 := b6N; clear b6N
  have b6_c0 := b6.c 0 (v := .int .i64 0) rfl
  have b6_c1 := b6.c 1 (v := .int .i64 0) rfl
  have b6_c2 := b6.c 2 (v := .int .i64 0) rfl
  have b6_c3 := b6.c 3 (v := .int .i64 0) rfl
  have b6_f0 := b6.f 0
  have b6_f1 := b6.f 1
  have b6_f2 := b6.f 2
  have b6_f3 := b6.f 3
  refine wpOp_of rfl fun K' hK => ?_
  go_simp
  clear b6_c0 b6_c1 b6_c2 b6_c3 b6_f0 b6_f1 b6_f2 b6_f3
  replace hT := Ext.set hT (k := k6) (o := 0) (u := .int .i64 h') k6a
  replace hT := Ext.set hT (k := k6) (o := 1) (u := .int .i64 m') k6a
  replace hT := Ext.set hT (k := k6) (o := 2) (u := .int .i64 s') k6a
  replace hT := Ext.set hT (k := k6) (o := 3) (u := .int .i64 n') k6a
  refine hK _ _ ⟨hT, ?_⟩
  clear hK K'
  have b2N := ((((b2).other (b := k6) (by omega) 0 (.int .i64 h')).other (b := k6) (by omega) 1 (.int .i64 m')).other (b := k6) (by omega) 2 (.int .i64 s')).other (b := k6) (by omega) 3 (.int .i64 n')
  have b3N := ((((b3).other (b := k6) (by omega) 0 (.int .i64 h')).other (b := k6) (by omega) 1 (.int .i64 m')).other (b := k6) (by omega) 2 (.int .i64 s')).other (b := k6) (by omega) 3 (.int .i64 n')
  have b5N := ((((b5).other (b := k6) (by omega) 0 (.int .i64 h')).other (b := k6) (by omega) 1 (.int .i64 m')).other (b := k6) (by omega) 2 (.int .i64 s')).other (b := k6) (by omega) 3 (.int .i64 n')
  have b6N := ((((b6).setc 0 (.int .i64 h') (cs' := #[.int .i64 h', .int .i64 0, .int .i64 0, .int .i64 0]) rfl).setc 1 (.int .i64 m') (cs' := #[.int .i64 h', .int .i64 m', .int .i64 0, .int .i64 0]) rfl).setc 2 (.int .i64 s') (cs' := #[.int .i64 h', .int .i64 m', .int .i64 s', .int .i64 0]) rfl).setc 3 (.int .i64 n') (cs' := #[.int .i64 h', .int .i64 m', .int .i64 s', .int .i64 n']) rfl
  replace xw := Ext.set (Ext.set (Ext.set (Ext.set (xw) (k := k6) (o := 0) (u := .int .i64 h') (by omega)) (k := k6) (o := 1) (u := .int .i64 m') (by omega)) (k := k6) (o := 2) (u := .int .i64 s') (by omega)) (k := k6) (o := 3) (u := .int .i64 n') (by omega)
  replace b2 := b2N; clear b2N
  replace b3 := b3N; clear b3N
  replace b5 := b5N; clear b5N
  replace b6 := b6N; clear b6N
  refine NoPanic.normal ?_
  clear hT hS' y0 hHeld
  go_upto_region 2 with fail
  refine wp_name ?_
  intro V10 hV
  rw [← hV] at b2 b3 b5 b6 xw
  clear hV
  go_wp2_with fail
  clear b2 b3
  go_loopw [13] (fun s13 wr => ∃ (k : Nat), k ≤ 4 ∧ s13 = .int .i64 k ∧ pre4e k h m s n h' m' s' n' ∧ Bx wr k5 #[.int .i64 h, .int .i64 m, .int .i64 s, .int .i64 n] 163 ∧ Bx wr k6 #[.int .i64 h', .int .i64 m', .int .i64 s', .int .i64 n'] 163 ∧ Ext w wr) (fun s13 _ => 4 - (intOf s13).toNat)
  case atStart => exact ⟨0, by omega, rfl, ⟨by omega, by omega, by omega, by omega⟩, b5, b6, xw⟩
  case round =>
    clear b5 b6 xw
    obtain ⟨k, hk, rfl, hp, b5, b6, xw⟩ := hrel
    refine wp_name ?_
    intro Wr11 hV
    subst hV
    have hk3 : k = 0 ∨ k = 1 ∨ k = 2 ∨ k = 3 ∨ k = 4 := by omega
    clear hk
    rcases hk3 with rfl | rfl | rfl | rfl | rfl
    · by_cases he : h = h'
      · have g1 : (cmpI h h' == 0) = true := by rw [he]; exact cmpI_same _
        have hp2 := Lib.hid (show pre4e 1 h m s n h' m' s' n' by unfold pre4e at *; omega)
        clear he hp
        go_upto_region 5 with fail
        have b5_c0 := b5.c 0 (v := .int .i64 h) rfl
        have b5_c1 := b5.c 1 (v := .int .i64 m) rfl
        have b5_c2 := b5.c 2 (v := .int .i64 s) rfl
        have b5_c3 := b5.c 3 (v := .int .i64 n) rfl
        have b6_c0 := b6.c 0 (v := .int .i64 h') rfl
        have b6_c1 := b6.c 1 (v := .int .i64 m') rfl
        have b6_c2 := b6.c 2 (v := .int .i64 s') rfl
        have b6_c3 := b6.c 3 (v := .int .i64 n') rfl
        go_quiet ((go_at_call 115; exact Calls.quiet_of_same (ccompare _ _ _)))
        clear b5_c0 b5_c1 b5_c2 b5_c3 b6_c0 b6_c1 b6_c2 b6_c3
        go_upto_region 6 with fail
        refine wp_name ?_
        intro V12 hV
        have b5N : Bx V12 k5 #[.int .i64 h, .int .i64 m, .int .i64 s, .int .i64 n] 163 := by rw [hV]; exact (b5).drewN _
        have b6N : Bx V12 k6 #[.int .i64 h', .int .i64 m', .int .i64 s', .int .i64 n'] 163 := by rw [hV]; exact (b6).drewN _
        replace xw : Ext w V12 := by rw [hV]; exact Ext.drewN (xw)
        replace b5 := b5N; clear b5N
        replace b6 := b6N; clear b6N
        clear hV
        go_wp2_with fail
        go_roundw
        case rel => exact ⟨1, by omega, by go_num, hp2.out, b5, b6, xw⟩
        case measure => simp [intOf] <;> omega
      · have g1 : (cmpI h h' == 0) = false := cmpI_no he
        have HD := Lib.hid (cmp4_at0 (m := m) (s := s) (n := n) (m' := m') (s' := s') (n' := n') he)
        clear he hp
        go_upto_region 5 with fail
        have b5_c0 := b5.c 0 (v := .int .i64 h) rfl
        have b5_c1 := b5.c 1 (v := .int .i64 m) rfl
        have b5_c2 := b5.c 2 (v := .int .i64 s) rfl
        have b5_c3 := b5.c 3 (v := .int .i64 n) rfl
        have b6_c0 := b6.c 0 (v := .int .i64 h') rfl
        have b6_c1 := b6.c 1 (v := .int .i64 m') rfl
        have b6_c2 := b6.c 2 (v := .int .i64 s') rfl
        have b6_c3 := b6.c 3 (v := .int .i64 n') rfl
        go_quiet ((go_at_call 115; exact Calls.quiet_of_same (ccompare _ _ _)))
        clear b5_c0 b5_c1 b5_c2 b5_c3 b6_c0 b6_c1 b6_c2 b6_c3
        go_upto_region 6 with fail
        refine wp_name ?_
        intro V13 hV
        have b5N : Bx V13 k5 #[.int .i64 h, .int .i64 m, .int .i64 s, .int .i64 n] 163 := by rw [hV]; exact (b5).drewN _
        have b6N : Bx V13 k6 #[.int .i64 h', .int .i64 m', .int .i64 s', .int .i64 n'] 163 := by rw [hV]; exact (b6).drewN _
        replace xw : Ext w V13 := by rw [hV]; exact Ext.drewN (xw)
        replace b5 := b5N; clear b5N
        replace b6 := b6N; clear b6N
        clear hV
        go_upto_region 7 with fail
        have xr := xw
        go_wp2_with fail
        refine bodyPost_ret (v := .int .i64 (cmpI h h')) (by simp [results, Tryz.results57, go_sem]) rfl ⟨by rw [HD.out], xr⟩
    · by_cases he : m = m'
      · have g1 : (cmpI m m' == 0) = true := by rw [he]; exact cmpI_same _
        have hp2 := Lib.hid (show pre4e 2 h m s n h' m' s' n' by unfold pre4e at *; omega)
        clear he hp
        go_upto_region 5 with fail
        have b5_c0 := b5.c 0 (v := .int .i64 h) rfl
        have b5_c1 := b5.c 1 (v := .int .i64 m) rfl
        have b5_c2 := b5.c 2 (v := .int .i64 s) rfl
        have b5_c3 := b5.c 3 (v := .int .i64 n) rfl
        have b6_c0 := b6.c 0 (v := .int .i64 h') rfl
        have b6_c1 := b6.c 1 (v := .int .i64 m') rfl
        have b6_c2 := b6.c 2 (v := .int .i64 s') rfl
        have b6_c3 := b6.c 3 (v := .int .i64 n') rfl
        go_quiet ((go_at_call 115; exact Calls.quiet_of_same (ccompare _ _ _)))
        clear b5_c0 b5_c1 b5_c2 b5_c3 b6_c0 b6_c1 b6_c2 b6_c3
        go_upto_region 6 with fail
        refine wp_name ?_
        intro V14 hV
        have b5N : Bx V14 k5 #[.int .i64 h, .int .i64 m, .int .i64 s, .int .i64 n] 163 := by rw [hV]; exact (b5).drewN _
        have b6N : Bx V14 k6 #[.int .i64 h', .int .i64 m', .int .i64 s', .int .i64 n'] 163 := by rw [hV]; exact (b6).drewN _
        replace xw : Ext w V14 := by rw [hV]; exact Ext.drewN (xw)
        replace b5 := b5N; clear b5N
        replace b6 := b6N; clear b6N
        clear hV
        go_wp2_with fail
        go_roundw
        case rel => exact ⟨2, by omega, by go_num, hp2.out, b5, b6, xw⟩
        case measure => simp [intOf] <;> omega
      · have g1 : (cmpI m m' == 0) = false := cmpI_no he
        have HD := Lib.hid (cmp4_at1 hp he)
        clear he hp
        go_upto_region 5 with fail
        have b5_c0 := b5.c 0 (v := .int .i64 h) rfl
        have b5_c1 := b5.c 1 (v := .int .i64 m) rfl
        have b5_c2 := b5.c 2 (v := .int .i64 s) rfl
        have b5_c3 := b5.c 3 (v := .int .i64 n) rfl
        have b6_c0 := b6.c 0 (v := .int .i64 h') rfl
        have b6_c1 := b6.c 1 (v := .int .i64 m') rfl
        have b6_c2 := b6.c 2 (v := .int .i64 s') rfl
        have b6_c3 := b6.c 3 (v := .int .i64 n') rfl
        go_quiet ((go_at_call 115; exact Calls.quiet_of_same (ccompare _ _ _)))
        clear b5_c0 b5_c1 b5_c2 b5_c3 b6_c0 b6_c1 b6_c2 b6_c3
        go_upto_region 6 with fail
        refine wp_name ?_
        intro V15 hV
        have b5N : Bx V15 k5 #[.int .i64 h, .int .i64 m, .int .i64 s, .int .i64 n] 163 := by rw [hV]; exact (b5).drewN _
        have b6N : Bx V15 k6 #[.int .i64 h', .int .i64 m', .int .i64 s', .int .i64 n'] 163 := by rw [hV]; exact (b6).drewN _
        replace xw : Ext w V15 := by rw [hV]; exact Ext.drewN (xw)
        replace b5 := b5N; clear b5N
        replace b6 := b6N; clear b6N
        clear hV
        go_upto_region 7 with fail
        have xr := xw
        go_wp2_with fail
        refine bodyPost_ret (v := .int .i64 (cmpI m m')) (by simp [results, Tryz.results57, go_sem]) rfl ⟨by rw [HD.out], xr⟩
    · by_cases he : s = s'
      · have g1 : (cmpI s s' == 0) = true := by rw [he]; exact cmpI_same _
        have hp2 := Lib.hid (show pre4e 3 h m s n h' m' s' n' by unfold pre4e at *; omega)
        clear he hp
        go_upto_region 5 with fail
        have b5_c0 := b5.c 0 (v := .int .i64 h) rfl
        have b5_c1 := b5.c 1 (v := .int .i64 m) rfl
        have b5_c2 := b5.c 2 (v := .int .i64 s) rfl
        have b5_c3 := b5.c 3 (v := .int .i64 n) rfl
        have b6_c0 := b6.c 0 (v := .int .i64 h') rfl
        have b6_c1 := b6.c 1 (v := .int .i64 m') rfl
        have b6_c2 := b6.c 2 (v := .int .i64 s') rfl
        have b6_c3 := b6.c 3 (v := .int .i64 n') rfl
        go_quiet ((go_at_call 115; exact Calls.quiet_of_same (ccompare _ _ _)))
        clear b5_c0 b5_c1 b5_c2 b5_c3 b6_c0 b6_c1 b6_c2 b6_c3
        go_upto_region 6 with fail
        refine wp_name ?_
        intro V16 hV
        have b5N : Bx V16 k5 #[.int .i64 h, .int .i64 m, .int .i64 s, .int .i64 n] 163 := by rw [hV]; exact (b5).drewN _
        have b6N : Bx V16 k6 #[.int .i64 h', .int .i64 m', .int .i64 s', .int .i64 n'] 163 := by rw [hV]; exact (b6).drewN _
        replace xw : Ext w V16 := by rw [hV]; exact Ext.drewN (xw)
        replace b5 := b5N; clear b5N
        replace b6 := b6N; clear b6N
        clear hV
        go_wp2_with fail
        go_roundw
        case rel => exact ⟨3, by omega, by go_num, hp2.out, b5, b6, xw⟩
        case measure => simp [intOf] <;> omega
      · have g1 : (cmpI s s' == 0) = false := cmpI_no he
        have HD := Lib.hid (cmp4_at2 hp he)
        clear he hp
        go_upto_region 5 with fail
        have b5_c0 := b5.c 0 (v := .int .i64 h) rfl
        have b5_c1 := b5.c 1 (v := .int .i64 m) rfl
        have b5_c2 := b5.c 2 (v := .int .i64 s) rfl
        have b5_c3 := b5.c 3 (v := .int .i64 n) rfl
        have b6_c0 := b6.c 0 (v := .int .i64 h') rfl
        have b6_c1 := b6.c 1 (v := .int .i64 m') rfl
        have b6_c2 := b6.c 2 (v := .int .i64 s') rfl
        have b6_c3 := b6.c 3 (v := .int .i64 n') rfl
        go_quiet ((go_at_call 115; exact Calls.quiet_of_same (ccompare _ _ _)))
        clear b5_c0 b5_c1 b5_c2 b5_c3 b6_c0 b6_c1 b6_c2 b6_c3
        go_upto_region 6 with fail
        refine wp_name ?_
        intro V17 hV
        have b5N : Bx V17 k5 #[.int .i64 h, .int .i64 m, .int .i64 s, .int .i64 n] 163 := by rw [hV]; exact (b5).drewN _
        have b6N : Bx V17 k6 #[.int .i64 h', .int .i64 m', .int .i64 s', .int .i64 n'] 163 := by rw [hV]; exact (b6).drewN _
        replace xw : Ext w V17 := by rw [hV]; exact Ext.drewN (xw)
        replace b5 := b5N; clear b5N
        replace b6 := b6N; clear b6N
        clear hV
        go_upto_region 7 with fail
        have xr := xw
        go_wp2_with fail
        refine bodyPost_ret (v := .int .i64 (cmpI s s')) (by simp [results, Tryz.results57, go_sem]) rfl ⟨by rw [HD.out], xr⟩
    · by_cases he : n = n'
      · have g1 : (cmpI n n' == 0) = true := by rw [he]; exact cmpI_same _
        have hp2 := Lib.hid (show pre4e 4 h m s n h' m' s' n' by unfold pre4e at *; omega)
        clear he hp
        go_upto_region 5 with fail
        have b5_c0 := b5.c 0 (v := .int .i64 h) rfl
        have b5_c1 := b5.c 1 (v := .int .i64 m) rfl
        have b5_c2 := b5.c 2 (v := .int .i64 s) rfl
        have b5_c3 := b5.c 3 (v := .int .i64 n) rfl
        have b6_c0 := b6.c 0 (v := .int .i64 h') rfl
        have b6_c1 := b6.c 1 (v := .int .i64 m') rfl
        have b6_c2 := b6.c 2 (v := .int .i64 s') rfl
        have b6_c3 := b6.c 3 (v := .int .i64 n') rfl
        go_quiet ((go_at_call 115; exact Calls.quiet_of_same (ccompare _ _ _)))
        clear b5_c0 b5_c1 b5_c2 b5_c3 b6_c0 b6_c1 b6_c2 b6_c3
        go_upto_region 6 with fail
        refine wp_name ?_
        intro V18 hV
        have b5N : Bx V18 k5 #[.int .i64 h, .int .i64 m, .int .i64 s, .int .i64 n] 163 := by rw [hV]; exact (b5).drewN _
        have b6N : Bx V18 k6 #[.int .i64 h', .int .i64 m', .int .i64 s', .int .i64 n'] 163 := by rw [hV]; exact (b6).drewN _
        replace xw : Ext w V18 := by rw [hV]; exact Ext.drewN (xw)
        replace b5 := b5N; clear b5N
        replace b6 := b6N; clear b6N
        clear hV
        go_wp2_with fail
        go_roundw
        case rel => exact ⟨4, by omega, by go_num, hp2.out, b5, b6, xw⟩
        case measure => simp [intOf] <;> omega
      · have g1 : (cmpI n n' == 0) = false := cmpI_no he
        have HD := Lib.hid (cmp4_at3 hp)
        clear he hp
        go_upto_region 5 with fail
        have b5_c0 := b5.c 0 (v := .int .i64 h) rfl
        have b5_c1 := b5.c 1 (v := .int .i64 m) rfl
        have b5_c2 := b5.c 2 (v := .int .i64 s) rfl
        have b5_c3 := b5.c 3 (v := .int .i64 n) rfl
        have b6_c0 := b6.c 0 (v := .int .i64 h') rfl
        have b6_c1 := b6.c 1 (v := .int .i64 m') rfl
        have b6_c2 := b6.c 2 (v := .int .i64 s') rfl
        have b6_c3 := b6.c 3 (v := .int .i64 n') rfl
        go_quiet ((go_at_call 115; exact Calls.quiet_of_same (ccompare _ _ _)))
        clear b5_c0 b5_c1 b5_c2 b5_c3 b6_c0 b6_c1 b6_c2 b6_c3
        go_upto_region 6 with fail
        refine wp_name ?_
        intro V19 hV
        have b5N : Bx V19 k5 #[.int .i64 h, .int .i64 m, .int .i64 s, .int .i64 n] 163 := by rw [hV]; exact (b5).drewN _
        have b6N : Bx V19 k6 #[.int .i64 h', .int .i64 m', .int .i64 s', .int .i64 n'] 163 := by rw [hV]; exact (b6).drewN _
        replace xw : Ext w V19 := by rw [hV]; exact Ext.drewN (xw)
        replace b5 := b5N; clear b5N
        replace b6 := b6N; clear b6N
        clear hV
        go_upto_region 7 with fail
        have xr := xw
        go_wp2_with fail
        refine bodyPost_ret (v := .int .i64 (cmpI n n')) (by simp [results, Tryz.results57, go_sem]) rfl ⟨by rw [HD.out], xr⟩
    · have HD := Lib.hid (cmp4_at4 hp)
      clear hp
      go_upto_region 9 with fail
      have xr := xw
      go_wp2_with fail
      refine bodyPost_ret (v := .int .i64 0) (by simp [results, Tryz.results57, go_sem]) rfl ⟨by rw [← HD.out], xr⟩
end Go.Proofs.YthoedmikfpbfnaaGreat
end
section
/-
  Date-times and their numbers; no program in sight.
-/
set_option linter.unusedVariables false
namespace Go.Proofs.YthoedmikfpbfnaaGreat
open Go

instance (y m d : Int) : Decidable (dIn y m d) := by unfold dIn; infer_instance
instance (y m d : Int) : Decidable (dOk y m d) := by unfold dOk; infer_instance
/-- A date-time that may be. -/
def pOk (y mo d h m s n : Int) : Prop := dOk y mo d ∧ tOk h m s n ∧ ¬ (dnum y mo d = -100000001 ∧ tnan h m s n = 0)
instance (y mo d h m s n : Int) : Decidable (pOk y mo d h m s n) := by unfold pOk; infer_instance
def pnum (y mo d h m s n : Int) : Int := dnum y mo d * 86400000000000 + tnan h m s n
/-- The numbers of date-times. -/
def pIn (x : Int) : Prop := -8640000086400000000000 < x ∧ x < 8640000086400000000000
instance (x : Int) : Decidable (pIn x) := by unfold pIn; infer_instance
theorem pOk_in {y mo d h m s n : Int} (k : pOk y mo d h m s n) : pIn (pnum y mo d h m s n) := by
  obtain ⟨⟨k1, k2⟩, k3, k4⟩ := k
  have := tnan_bd k3
  unfold pIn pnum; omega
/-- The day and the time of a number. -/
def xd (x : Int) : Int := x.fdiv 86400000000000
def xt (x : Int) : Int := x.fmod 86400000000000
theorem x_split (x : Int) : xd x * 86400000000000 + xt x = x ∧ 0 ≤ xt x ∧ xt x < 86400000000000 := by
  unfold xd xt
  rw [Int.fdiv_eq_ediv_of_nonneg _ (by omega), Int.fmod_eq_emod_of_nonneg _ (by omega)]; omega
/-- How two dates stand to each other. -/
def cmp3 (y m d y' m' d' : Int) : Int := if y = y' then (if m = m' then cmpI d d' else cmpI m m') else cmpI y y'
theorem cmp3_num {y m d y' m' d' : Int} (h : dIn y m d) (h' : dIn y' m' d') : cmp3 y m d y' m' d' = cmpI (dnum y m d) (dnum y' m' d') := by
  have a := fun x => dnum_lt h h' x
  have b := fun x => dnum_lt h' h x
  unfold cmp3
  by_cases e1 : y = y'
  · subst e1
    by_cases e2 : m = m'
    · subst e2
      rw [if_pos rfl, if_pos rfl]
      refine cmpI_congr ?_ ?_ <;> unfold dnum <;> omega
    · rw [if_pos rfl, if_neg e2]
      rcases Int.lt_or_lt_of_ne e2 with q | q
      · have := a (.inr ⟨rfl, .inl q⟩); exact cmpI_congr (by omega) (by omega)
      · have := b (.inr ⟨rfl, .inl q⟩); exact cmpI_congr (by omega) (by omega)
  · rw [if_neg e1]
    rcases Int.lt_or_lt_of_ne e1 with q | q
    · have := a (.inl q); exact cmpI_congr (by omega) (by omega)
    · have := b (.inl q); exact cmpI_congr (by omega) (by omega)
/-- How two date-times stand to each other. -/
def cmp7 (y mo d h m s n y' mo' d' h' m' s' n' : Int) : Int := if cmp3 y mo d y' mo' d' = 0 then cmp4 h m s n h' m' s' n' else cmp3 y mo d y' mo' d'
theorem cmpI_0 {a b : Int} : cmpI a b = 0 ↔ a = b := by unfold cmpI; split <;> (try split) <;> omega
theorem cmpI_n {a b : Int} : cmpI a b = -1 ↔ a < b := by unfold cmpI; split <;> (try split) <;> omega
theorem cmpI_p {a b : Int} : cmpI a b = 1 ↔ b < a := by unfold cmpI; split <;> (try split) <;> omega
theorem cmp3_0 {y m d y' m' d' : Int} : cmp3 y m d y' m' d' = 0 ↔ y = y' ∧ m = m' ∧ d = d' := by
  unfold cmp3
  split
  · split
    · rw [cmpI_0]; omega
    · rw [cmpI_0]; omega
  · rw [cmpI_0]; omega
theorem cmp7_num {y mo d h m s n y' mo' d' h' m' s' n' : Int} (k : pOk y mo d h m s n) (k' : pOk y' mo' d' h' m' s' n') : cmp7 y mo d h m s n y' mo' d' h' m' s' n' = cmpI (pnum y mo d h m s n) (pnum y' mo' d' h' m' s' n') := by
  have e := cmp3_num k.1.1 k'.1.1
  have t := cmp4_nan k.2.1 k'.2.1
  have b := tnan_bd k.2.1
  have b' := tnan_bd k'.2.1
  unfold cmp7
  rw [e, t]
  by_cases q : dnum y mo d = dnum y' mo' d'
  · rw [if_pos (cmpI_0.2 q)]
    exact cmpI_congr (by unfold pnum; omega) (by unfold pnum; omega)
  · rw [if_neg (fun z => q (cmpI_0.1 z))]
    exact cmpI_congr (by unfold pnum; omega) (by unfold pnum; omega)
end Go.Proofs.YthoedmikfpbfnaaGreat
end
section
/-
  Days and their numbers, as the program reckons them.
-/
set_option linter.unusedVariables false
set_option maxRecDepth 100000
namespace Go.Proofs.YthoedmikfpbfnaaGreat
open Go Go.RowKit Go.Ev

abbrev nod : Value := .tuple #[.int .i64 0, .bool false]
section
variable (y m d : Int)
theorem cdays_yes (k : dOk y m d) : Fn 117 [] [dv y m d] (.tuple #[.int .i64 (dnum y m d), .bool true]) := by
  have hy := dOk_year k
  obtain ⟨⟨k1, k2, k3, k4⟩, k5, k6⟩ := k
  have k7 := (mlen_ge (y := y) k1 k2).2
  refine fn_of Tryz.func117 rfl fun ww => ?_
  refine st_b 7 (show (decide (y < -271821)) = false by exact decide_eq_false (by omega)) (by kernel_rfl) ?_
  refine st_b 11 (show (decide (y > 275760)) = false by exact decide_eq_false (by omega)) (by kernel_rfl) ?_
  refine st_b 16 (show (decide (d < 1)) = false by exact decide_eq_false (by omega)) (by kernel_rfl) ?_
  refine st_fn ent145 (cmonth (y) (m)) sub0 (by kernel_rfl) ?_
  refine st_b 26 (show (decide (d > mlen y m)) = false by exact decide_eq_false (by omega)) (by kernel_rfl) ?_
  refine st_fn ent159 (ccount (y) (m) (d) (by omega) (by omega) (by assumption) (by assumption) (by omega) (by omega)) sub0 (by kernel_rfl) ?_
  refine st_b 31 (show (decide (dnum y m d < -100000001)) = false by exact decide_eq_false (by omega)) (by kernel_rfl) ?_
  refine st_b 34 (show (decide (dnum y m d > 100000000)) = false by exact decide_eq_false (by omega)) (by kernel_rfl) ?_
  exact st_ret Tryz.func117 (by kernel_rfl)
theorem cdays_no (k : ¬ dOk y m d) : Fn 117 [] [dv y m d] nod := by
  by_cases h1 : y < -271821
  · refine fn_of Tryz.func117 rfl fun ww => ?_
    refine st_b 7 (show (decide (y < -271821)) = true by exact decide_eq_true (by omega)) (by kernel_rfl) ?_
    exact st_ret Tryz.func117 (by kernel_rfl)
  · by_cases h2 : 275760 < y
    · refine fn_of Tryz.func117 rfl fun ww => ?_
      refine st_b 7 (show (decide (y < -271821)) = false by exact decide_eq_false (by omega)) (by kernel_rfl) ?_
      refine st_b 11 (show (decide (y > 275760)) = true by exact decide_eq_true (by omega)) (by kernel_rfl) ?_
      exact st_ret Tryz.func117 (by kernel_rfl)
    · by_cases h3 : d < 1
      · refine fn_of Tryz.func117 rfl fun ww => ?_
        refine st_b 7 (show (decide (y < -271821)) = false by exact decide_eq_false (by omega)) (by kernel_rfl) ?_
        refine st_b 11 (show (decide (y > 275760)) = false by exact decide_eq_false (by omega)) (by kernel_rfl) ?_
        refine st_b 16 (show (decide (d < 1)) = true by exact decide_eq_true (by omega)) (by kernel_rfl) ?_
        exact st_ret Tryz.func117 (by kernel_rfl)
      · by_cases h4 : mlen y m < d
        · refine fn_of Tryz.func117 rfl fun ww => ?_
          refine st_b 7 (show (decide (y < -271821)) = false by exact decide_eq_false (by omega)) (by kernel_rfl) ?_
          refine st_b 11 (show (decide (y > 275760)) = false by exact decide_eq_false (by omega)) (by kernel_rfl) ?_
          refine st_b 16 (show (decide (d < 1)) = false by exact decide_eq_false (by omega)) (by kernel_rfl) ?_
          refine st_fn ent145 (cmonth (y) (m)) sub0 (by kernel_rfl) ?_
          refine st_b 26 (show (decide (d > mlen y m)) = true by exact decide_eq_true (by omega)) (by kernel_rfl) ?_
          exact st_ret Tryz.func117 (by kernel_rfl)
        · have h5 : 1 ≤ m := by
            apply Classical.byContradiction; intro q; have := mlen_no (y := y) (m := m) (by omega); omega
          have h6 : m ≤ 12 := by
            apply Classical.byContradiction; intro q; have := mlen_no (y := y) (m := m) (by omega); omega
          have h7 := (mlen_ge (y := y) h5 h6).2
          have h8 : ¬ (-100000001 ≤ dnum y m d ∧ dnum y m d ≤ 100000000) := fun q => k ⟨⟨h5, h6, by omega, by omega⟩, q.1, q.2⟩
          by_cases h9 : dnum y m d < -100000001
          · refine fn_of Tryz.func117 rfl fun ww => ?_
            refine st_b 7 (show (decide (y < -271821)) = false by exact decide_eq_false (by omega)) (by kernel_rfl) ?_
            refine st_b 11 (show (decide (y > 275760)) = false by exact decide_eq_false (by omega)) (by kernel_rfl) ?_
            refine st_b 16 (show (decide (d < 1)) = false by exact decide_eq_false (by omega)) (by kernel_rfl) ?_
            refine st_fn ent145 (cmonth (y) (m)) sub0 (by kernel_rfl) ?_
            refine st_b 26 (show (decide (d > mlen y m)) = false by exact decide_eq_false (by omega)) (by kernel_rfl) ?_
            refine st_fn ent159 (ccount (y) (m) (d) (by omega) (by omega) (by assumption) (by assumption) (by omega) (by omega)) sub0 (by kernel_rfl) ?_
            refine st_b 31 (show (decide (dnum y m d < -100000001)) = true by exact decide_eq_true (by omega)) (by kernel_rfl) ?_
            exact st_ret Tryz.func117 (by kernel_rfl)
          · have h10 : 100000000 < dnum y m d := by omega
            refine fn_of Tryz.func117 rfl fun ww => ?_
            refine st_b 7 (show (decide (y < -271821)) = false by exact decide_eq_false (by omega)) (by kernel_rfl) ?_
            refine st_b 11 (show (decide (y > 275760)) = false by exact decide_eq_false (by omega)) (by kernel_rfl) ?_
            refine st_b 16 (show (decide (d < 1)) = false by exact decide_eq_false (by omega)) (by kernel_rfl) ?_
            refine st_fn ent145 (cmonth (y) (m)) sub0 (by kernel_rfl) ?_
            refine st_b 26 (show (decide (d > mlen y m)) = false by exact decide_eq_false (by omega)) (by kernel_rfl) ?_
            refine st_fn ent159 (ccount (y) (m) (d) (by omega) (by omega) (by assumption) (by assumption) (by omega) (by omega)) sub0 (by kernel_rfl) ?_
            refine st_b 31 (show (decide (dnum y m d < -100000001)) = false by exact decide_eq_false (by omega)) (by kernel_rfl) ?_
            refine st_b 34 (show (decide (dnum y m d > 100000000)) = true by exact decide_eq_true (by omega)) (by kernel_rfl) ?_
            exact st_ret Tryz.func117 (by kernel_rfl)
theorem cright5_yes (k : dOk y m d) : Fn 161 [] [dv y m d] (.bool true) := by
  refine fn_of Tryz.func161 rfl fun ww => ?_
  refine st_fn ent117 (cdays_yes (y) (m) (d) (by assumption)) sub0 (by kernel_rfl) ?_
  exact st_ret Tryz.func161 (by kernel_rfl)
theorem cright5_no (k : ¬ dOk y m d) : Fn 161 [] [dv y m d] (.bool false) := by
  refine fn_of Tryz.func161 rfl fun ww => ?_
  refine st_fn ent117 (cdays_no (y) (m) (d) (by assumption)) sub0 (by kernel_rfl) ?_
  exact st_ret Tryz.func161 (by kernel_rfl)
theorem fcompare (a b : Int) : Fn 115 [] [.int .i64 a, .int .i64 b] (.int .i64 (cmpI a b)) := fn1 fun w => (ccompare a b w).mono fun e w' q => ⟨q.1, q.2 ▸ Ext.refl w⟩
end
section
variable (n : Int)
theorem cof5_yes (k0 : -100000001 ≤ n) (k1 : n ≤ 100000000) : Fn 119 [] [.int .i64 n] (.tuple #[dv (dY n) (dM n) (dD n), .bool true]) := by
  have hD := fD_in n
  obtain ⟨y0, y1, y2, y3⟩ := fY_in (Y := fY n) hD.1 hD.2 (by unfold fY fG; rfl)
  have t1 : (fD n).tdiv 1460 = fD n / 1460 := tdiv_nn hD.1
  have t2 : (fD n).tdiv 36524 = fD n / 36524 := tdiv_nn hD.1
  have t3 : (fD n).tdiv 146096 = fD n / 146096 := tdiv_nn hD.1
  have t4 : (fD n - fD n / 1460 + fD n / 36524 - fD n / 146096).tdiv 365 = fY n := by rw [tdiv_nn (by omega)]; rfl
  have t5 : (fY n).tdiv 4 = fY n / 4 := tdiv_nn (by omega)
  have t6 : (fY n).tdiv 100 = fY n / 100 := tdiv_nn (by omega)
  have r0 : 0 ≤ fR n := by unfold fR fS at *; omega
  obtain ⟨r1, r2⟩ := fR_in (R := fR n) y0 y1 rfl y3
  have hm := fM_in r0 r1
  have t7 : (5 * fR n + 2).tdiv 153 = fM n := by rw [tdiv_nn (by omega)]; rfl
  have m0 : 0 ≤ fM n ∧ fM n ≤ 11 := hm
  have t8 : (153 * fM n + 2).tdiv 5 = (153 * fM n + 2) / 5 := tdiv_nn (by omega)
  have hE : -700 ≤ fE n ∧ fE n ≤ 700 := by unfold fE; omega
  have hf : Fn 160 [] [.int .i64 (n + 719468), .int .i64 146097] (.tuple #[.int .i64 (fE n), .int .i64 (fD n)]) := cfloor146097 _ (by omega) (by omega)
  refine fn_of Tryz.func119 rfl fun ww => ?_
  refine st_b 10 (show (decide (n < -100000001)) = false by exact decide_eq_false (by omega)) (by kernel_rfl) ?_
  refine st_b 13 (show (decide (n > 100000000)) = false by exact decide_eq_false (by omega)) (by kernel_rfl) ?_
  refine st_i 18 .i64 (x' := n + 719468) (Go.IntWalk.i64_in _ (by omega)) (by kernel_rfl) ?_
  refine st_fn ent160 (hf) sub0 (by kernel_rfl) ?_
  refine st_i 24 IntKind.i64 ((Go.IntWalk.i64_in _ (by omega)).trans (t1)) (by kernel_rfl) ?_
  refine st_i 25 .i64 (x' := fD n - fD n / 1460) (Go.IntWalk.i64_in _ (by omega)) (by kernel_rfl) ?_
  refine st_i 27 IntKind.i64 ((Go.IntWalk.i64_in _ (by omega)).trans (t2)) (by kernel_rfl) ?_
  refine st_i 28 .i64 (x' := fD n - fD n / 1460 + fD n / 36524) (Go.IntWalk.i64_in _ (by omega)) (by kernel_rfl) ?_
  refine st_i 30 IntKind.i64 ((Go.IntWalk.i64_in _ (by omega)).trans (t3)) (by kernel_rfl) ?_
  refine st_i 31 .i64 (x' := fD n - fD n / 1460 + fD n / 36524 - fD n / 146096) (Go.IntWalk.i64_in _ (by omega)) (by kernel_rfl) ?_
  refine st_i 32 IntKind.i64 ((Go.IntWalk.i64_in _ (by omega)).trans (t4)) (by kernel_rfl) ?_
  refine st_i 35 .i64 (x' := 365 * fY n) (Go.IntWalk.i64_in _ (by omega)) (by kernel_rfl) ?_
  refine st_i 37 IntKind.i64 ((Go.IntWalk.i64_in _ (by omega)).trans (t5)) (by kernel_rfl) ?_
  refine st_i 38 .i64 (x' := 365 * fY n + fY n / 4) (Go.IntWalk.i64_in _ (by omega)) (by kernel_rfl) ?_
  refine st_i 40 IntKind.i64 ((Go.IntWalk.i64_in _ (by omega)).trans (t6)) (by kernel_rfl) ?_
  refine st_i 41 .i64 (x' := 365 * fY n + fY n / 4 - fY n / 100) (Go.IntWalk.i64_in _ (by omega)) (by kernel_rfl) ?_
  refine st_i 42 IntKind.i64 ((Go.IntWalk.i64_in _ (by omega)).trans ((rfl : _ = fR n))) (by kernel_rfl) ?_
  refine st_i 44 .i64 (x' := 5 * fR n) (Go.IntWalk.i64_in _ (by omega)) (by kernel_rfl) ?_
  refine st_i 45 .i64 (x' := 5 * fR n + 2) (Go.IntWalk.i64_in _ (by omega)) (by kernel_rfl) ?_
  refine st_i 46 IntKind.i64 ((Go.IntWalk.i64_in _ (by omega)).trans (t7)) (by kernel_rfl) ?_
  refine st_i 49 .i64 (x' := 400 * fE n) (Go.IntWalk.i64_in _ (by omega)) (by kernel_rfl) ?_
  refine st_i 50 .i64 (x' := fY n + 400 * fE n) (Go.IntWalk.i64_in _ (by omega)) (by kernel_rfl) ?_
  refine st_i 52 .i64 (x' := fM n + 3) (Go.IntWalk.i64_in _ (by omega)) (by kernel_rfl) ?_
  refine st_i 55 .i64 (x' := 153 * fM n) (Go.IntWalk.i64_in _ (by omega)) (by kernel_rfl) ?_
  refine st_i 56 .i64 (x' := 153 * fM n + 2) (Go.IntWalk.i64_in _ (by omega)) (by kernel_rfl) ?_
  refine st_i 57 IntKind.i64 ((Go.IntWalk.i64_in _ (by omega)).trans (t8)) (by kernel_rfl) ?_
  refine st_i 58 .i64 (x' := fR n - (153 * fM n + 2) / 5) (Go.IntWalk.i64_in _ (by omega)) (by kernel_rfl) ?_
  refine st_i 59 .i64 (x' := fR n - (153 * fM n + 2) / 5 + 1) (Go.IntWalk.i64_in _ (by omega)) (by kernel_rfl) ?_
  by_cases k63 : fM n + 3 > 12
  · refine st_b 63 (decide_eq_true k63) (by kernel_rfl) ?_
    refine st_i 66 .i64 (x' := fY n + 400 * fE n + 1) (Go.IntWalk.i64_in _ (by omega)) (by kernel_rfl) ?_
    refine st_i 69 .i64 (x' := fM n + 3 - 12) (Go.IntWalk.i64_in _ (by omega)) (by kernel_rfl) ?_
    exact st_retv Tryz.func119 (show Value.tuple #[Value.agg { toList := [vI64 (fY n + 400 * fE n + 1), vI64 (fM n + 3 - 12), vI64 (fR n - (153 * fM n + 2) / 5 + 1)] }, Value.bool true] = _ by (refine db_eq ?_ ?_ ?_ <;> simp only [dY, dM, dD] <;> split <;> omega)) (by kernel_rfl)
  · refine st_b 63 (decide_eq_false k63) (by kernel_rfl) ?_
    exact st_retv Tryz.func119 (show Value.tuple #[Value.agg { toList := [vI64 (fY n + 400 * fE n), vI64 (fM n + 3), vI64 (fR n - (153 * fM n + 2) / 5 + 1)] }, Value.bool true] = _ by (refine db_eq ?_ ?_ ?_ <;> simp only [dY, dM, dD] <;> split <;> omega)) (by kernel_rfl)
end
section
variable (y m d n : Int)
theorem caddd_yes (k : dOk y m d) (k0 : -100000001 ≤ dnum y m d + n) (k1 : dnum y m d + n ≤ 100000000) : Fn 99 [] [dv y m d, .int .i64 n] (.tuple #[dv (dY (dnum y m d + n)) (dM (dnum y m d + n)) (dD (dnum y m d + n)), .int .i64 0]) := by
  have k2 := k.2
  refine fn_of Tryz.func99 rfl fun ww => ?_
  refine st_fn ent117 (cdays_yes (y) (m) (d) (by assumption)) sub0 (by kernel_rfl) ?_
  refine st_b 20 (show (decide (n < -4294967296)) = false by exact decide_eq_false (by omega)) (by kernel_rfl) ?_
  refine st_b 23 (show (decide (n > 4294967296)) = false by exact decide_eq_false (by omega)) (by kernel_rfl) ?_
  refine st_i 29 .i64 (x' := dnum y m d + n) (Go.IntWalk.i64_in _ (by omega)) (by kernel_rfl) ?_
  refine st_fn ent119 (cof5_yes (dnum y m d + n) (by assumption) (by assumption)) sub0 (by kernel_rfl) ?_
  exact st_ret Tryz.func99 (by kernel_rfl)
variable (y' m' d' : Int)
theorem cor_1 (a b c : Int) (h : a ≠ 0) : FnR 114 [.int .i64 a, .int .i64 b, .int .i64 c] 3 3 (.int .i64 a) := by
  refine fnR_of Tryz.func114 rfl fun ww kk => ?_
  refine st_round (by kernel_rfl) ?_
  refine st_idx (fun w _ => indexAtS_run (T := 35) (kd := IntKind.i64) (i := 0) (n := 0) (off := 0) (k := kk) (len := 3) (cap := 3) (by kernel_rfl)) (by kernel_rfl) ?_
  refine st_ldrow 0 rfl (by kernel_rfl) ?_
  refine st_b 14 (show (a != 0) = true by exact bne_iff_ne.2 (by omega)) (by kernel_rfl) ?_
  exact st_ret Tryz.func114 (by kernel_rfl)
theorem cor_2 (a b c : Int) (h0 : a = 0) (h : b ≠ 0) : FnR 114 [.int .i64 a, .int .i64 b, .int .i64 c] 3 3 (.int .i64 b) := by
  subst h0
  refine fnR_of Tryz.func114 rfl fun ww kk => ?_
  refine st_round (by kernel_rfl) ?_
  refine st_idx (fun w _ => indexAtS_run (T := 35) (kd := IntKind.i64) (i := 0) (n := 0) (off := 0) (k := kk) (len := 3) (cap := 3) (by kernel_rfl)) (by kernel_rfl) ?_
  refine st_ldrow 0 rfl (by kernel_rfl) ?_
  refine st_i 16 .i64 (x' := 0 + 1) (Go.IntWalk.i64_in _ (by omega)) (by kernel_rfl) ?_
  refine st_round (by kernel_rfl) ?_
  refine st_idx (fun w _ => indexAtS_run (T := 35) (kd := IntKind.i64) (i := 0 + 1) (n := 0) (off := 1) (k := kk) (len := 3) (cap := 3) (by kernel_rfl)) (by kernel_rfl) ?_
  refine st_ldrow 1 rfl (by kernel_rfl) ?_
  refine st_b 14 (show (b != 0) = true by exact bne_iff_ne.2 (by omega)) (by kernel_rfl) ?_
  exact st_ret Tryz.func114 (by kernel_rfl)
theorem cor_3 (a b c : Int) (h0 : a = 0) (h1 : b = 0) : FnR 114 [.int .i64 a, .int .i64 b, .int .i64 c] 3 3 (.int .i64 c) := by
  subst h0
  subst h1
  by_cases h : c = 0
  · subst h
    refine fnR_of Tryz.func114 rfl fun ww kk => ?_
    refine st_round (by kernel_rfl) ?_
    refine st_idx (fun w _ => indexAtS_run (T := 35) (kd := IntKind.i64) (i := 0) (n := 0) (off := 0) (k := kk) (len := 3) (cap := 3) (by kernel_rfl)) (by kernel_rfl) ?_
    refine st_ldrow 0 rfl (by kernel_rfl) ?_
    refine st_i 16 .i64 (x' := 0 + 1) (Go.IntWalk.i64_in _ (by omega)) (by kernel_rfl) ?_
    refine st_round (by kernel_rfl) ?_
    refine st_idx (fun w _ => indexAtS_run (T := 35) (kd := IntKind.i64) (i := 0 + 1) (n := 0) (off := 1) (k := kk) (len := 3) (cap := 3) (by kernel_rfl)) (by kernel_rfl) ?_
    refine st_ldrow 1 rfl (by kernel_rfl) ?_
    refine st_i 16 .i64 (x' := 0 + 1 + 1) (Go.IntWalk.i64_in _ (by omega)) (by kernel_rfl) ?_
    refine st_round (by kernel_rfl) ?_
    refine st_idx (fun w _ => indexAtS_run (T := 35) (kd := IntKind.i64) (i := 0 + 1 + 1) (n := 0) (off := 2) (k := kk) (len := 3) (cap := 3) (by kernel_rfl)) (by kernel_rfl) ?_
    refine st_ldrow 2 rfl (by kernel_rfl) ?_
    refine st_i 16 .i64 (x' := 0 + 1 + 1 + 1) (Go.IntWalk.i64_in _ (by omega)) (by kernel_rfl) ?_
    refine st_round (by kernel_rfl) ?_
    exact st_ret Tryz.func114 (by kernel_rfl)
  · refine fnR_of Tryz.func114 rfl fun ww kk => ?_
    refine st_round (by kernel_rfl) ?_
    refine st_idx (fun w _ => indexAtS_run (T := 35) (kd := IntKind.i64) (i := 0) (n := 0) (off := 0) (k := kk) (len := 3) (cap := 3) (by kernel_rfl)) (by kernel_rfl) ?_
    refine st_ldrow 0 rfl (by kernel_rfl) ?_
    refine st_i 16 .i64 (x' := 0 + 1) (Go.IntWalk.i64_in _ (by omega)) (by kernel_rfl) ?_
    refine st_round (by kernel_rfl) ?_
    refine st_idx (fun w _ => indexAtS_run (T := 35) (kd := IntKind.i64) (i := 0 + 1) (n := 0) (off := 1) (k := kk) (len := 3) (cap := 3) (by kernel_rfl)) (by kernel_rfl) ?_
    refine st_ldrow 1 rfl (by kernel_rfl) ?_
    refine st_i 16 .i64 (x' := 0 + 1 + 1) (Go.IntWalk.i64_in _ (by omega)) (by kernel_rfl) ?_
    refine st_round (by kernel_rfl) ?_
    refine st_idx (fun w _ => indexAtS_run (T := 35) (kd := IntKind.i64) (i := 0 + 1 + 1) (n := 0) (off := 2) (k := kk) (len := 3) (cap := 3) (by kernel_rfl)) (by kernel_rfl) ?_
    refine st_ldrow 2 rfl (by kernel_rfl) ?_
    refine st_b 14 (show (c != 0) = true by exact bne_iff_ne.2 (by omega)) (by kernel_rfl) ?_
    exact st_ret Tryz.func114 (by kernel_rfl)
theorem ccmp5 : Fn 56 [] [dv y m d, dv y' m' d'] (.int .i64 (cmp3 y m d y' m' d')) := by
  by_cases e1 : y = y'
  · subst e1
    have z1 : cmpI y y = 0 := cmpI_0.2 rfl
    by_cases e2 : m = m'
    · subst e2
      have z2 : cmpI m m = 0 := cmpI_0.2 rfl
      have h1 := cor_3 (cmpI y y) (cmpI m m) (cmpI d d') z1 z2
      have e : cmp3 y m d y m d' = cmpI d d' := by unfold cmp3; simp
      rw [e]
      refine fn_of Tryz.func56 rfl fun ww => ?_
      refine st_fn ent115 (fcompare (y) (y)) sub0 (by kernel_rfl) ?_
      refine st_fn ent115 (fcompare (m) (m)) sub0 (by kernel_rfl) ?_
      refine st_fn ent115 (fcompare (d) (d')) sub0 (by kernel_rfl) ?_
      refine st_row (b := 2) ent114 (h1) (by kernel_rfl) (by kernel_rfl) ?_
      exact st_ret Tryz.func56 (by kernel_rfl)
    · have z2 : cmpI m m' ≠ 0 := fun q => e2 (cmpI_0.1 q)
      have h1 := cor_2 (cmpI y y) (cmpI m m') (cmpI d d') z1 z2
      have e : cmp3 y m d y m' d' = cmpI m m' := by unfold cmp3; simp [e2]
      rw [e]
      refine fn_of Tryz.func56 rfl fun ww => ?_
      refine st_fn ent115 (fcompare (y) (y)) sub0 (by kernel_rfl) ?_
      refine st_fn ent115 (fcompare (m) (m')) sub0 (by kernel_rfl) ?_
      refine st_fn ent115 (fcompare (d) (d')) sub0 (by kernel_rfl) ?_
      refine st_row (b := 2) ent114 (h1) (by kernel_rfl) (by kernel_rfl) ?_
      exact st_ret Tryz.func56 (by kernel_rfl)
  · have z1 : cmpI y y' ≠ 0 := fun q => e1 (cmpI_0.1 q)
    have h1 := cor_1 (cmpI y y') (cmpI m m') (cmpI d d') z1
    have e : cmp3 y m d y' m' d' = cmpI y y' := by unfold cmp3; simp [e1]
    rw [e]
    refine fn_of Tryz.func56 rfl fun ww => ?_
    refine st_fn ent115 (fcompare (y) (y')) sub0 (by kernel_rfl) ?_
    refine st_fn ent115 (fcompare (m) (m')) sub0 (by kernel_rfl) ?_
    refine st_fn ent115 (fcompare (d) (d')) sub0 (by kernel_rfl) ?_
    refine st_row (b := 2) ent114 (h1) (by kernel_rfl) (by kernel_rfl) ?_
    exact st_ret Tryz.func56 (by kernel_rfl)
end
end Go.Proofs.YthoedmikfpbfnaaGreat
end
section
/-
  An element put to a row: a new row, or the old one written on. In both cases the walk goes on with a row that begins as told.
-/
set_option linter.unusedVariables false
namespace Go.Ev
open Go Go.RowKit

/-- An append of one row to another: the two, and their type. -/
def appAt (c : Cf) : Option (SV × SV × TypeId) := match opAt c with
  | some o => match o.op with
    | .call k => match k.callee with
      | .builtin .append => match k.args.toList with
        | [x, y] => match k.argTypes.toList with
          | [t, t'] => match Nat.beq t t' with
            | true => some (opS c.fr x, opS c.fr y, t)
            | false => none
          | _ => none
        | _ => none
      | _ => none
    | _ => none
  | none => none
theorem appAt_op {c : Cf} {s u : SV} {t : TypeId} (h : appAt c = some (s, u, t)) : ∃ o x y, opAt c = some o ∧ o.op = Op.call { callee := Callee.builtin Builtin.append, args := #[x, y], argTypes := #[t, t] } ∧ opS c.fr x = s ∧ opS c.fr y = u := by
  unfold appAt at h
  split at h
  · rename_i o ho
    split at h
    · rename_i k hk
      obtain ⟨cal, ags, ts⟩ := k
      simp only at h
      split at h
      · split at h
        · rename_i x y hxy
          split at h
          · rename_i t1 t2 htt
            split at h
            · rename_i hb
              simp only [Option.some.injEq, Prod.mk.injEq] at h
              obtain ⟨rfl, rfl, rfl⟩ := h
              have e1 : ags = #[x, y] := by cases ags; simp_all
              have e3 : t1 = t2 := Nat.eq_of_beq_eq_true hb
              subst e3
              have e2 : ts = #[t1, t1] := by cases ts; simp_all
              subst e1 e2
              exact ⟨o, x, y, ho, hk, rfl, rfl⟩
            · cases h
          · cases h
        · cases h
      · cases h
    · cases h
  · cases h
/-- On, with a row of the call's own that has become B. -/
def resumeX (c : Cf) (b : Nat) (B : Bk) (n m : Nat) : Cf := ⟨c.todo, match c.rg with
  | some (.plain ops (_ :: l)) => some (.plain ops l)
  | rg => resRg rg, putS c.fr (resDst c.rg) (.sl b 0 n m), c.bl.set b B⟩
section
variable {C : Cx} {G : World → Prop}
theorem cell_at {P : Program} {r : Nat → Nat} {N : Nat → Prop} {w : World} {k : Nat} {vs : List Value} {T : TypeId} (h : BkIs r N w k ⟨vs.map .val, T⟩) : w.heap[k]? = some (.cells vs.toArray T (0, 0)) := by
  obtain ⟨cs, h1, h2⟩ := h
  obtain rfl := cellsOk_eq h2
  exact h1
theorem setCells_row {g : Nat} {t : TypeId} {fr : Nat × Nat} : ∀ (vs : List Value) (o : Nat) (cur : Array Value) (w : World), w.heap[g]? = some (.cells cur t fr) → o + vs.length ≤ cur.size → w.setCells g o vs = w.setRow g (cur.toList.take o ++ vs ++ cur.toList.drop (o + vs.length)).toArray
  | [], o, cur, w, hg, _ => by
    have e : (cur.toList.take o ++ [] ++ cur.toList.drop (o + ([] : List Value).length)).toArray = cur := by simp
    rw [e]; exact (setRow_self w g cur t fr hg).symm
  | v :: r, o, cur, w, hg, h => by
    simp only [List.length_cons] at h
    rw [World.setCells, setCell_eq_setRow w g o cur t fr v hg]
    rw [setCells_row r (o + 1) (cur.setIfInBounds o v) _ (setRow_heap w g cur _ t fr hg) (by simp; omega), setRow_setRow]
    congr 2
    have e1 : (cur.setIfInBounds o v).toList = cur.toList.take o ++ v :: cur.toList.drop (o + 1) := by
      rw [Array.toList_setIfInBounds, List.set_eq_take_append_cons_drop, if_pos (by simp; omega)]
    have l1 : (cur.toList.take o).length = o := by simp; omega
    rw [e1]
    simp only [List.length_cons]
    rw [show cur.toList.take o ++ v :: cur.toList.drop (o + 1) = (cur.toList.take o ++ [v]) ++ cur.toList.drop (o + 1) by simp]
    have l2 : (cur.toList.take o ++ [v]).length = o + 1 := by simp; omega
    rw [List.take_left' l2, List.drop_append, l2]
    have : List.drop (o + 1 + r.length) (cur.toList.take o ++ [v]) = [] := List.drop_eq_nil_of_le (by omega)
    rw [this, List.drop_drop, List.nil_append]
    simp only [List.append_assoc, List.cons_append, List.nil_append]
    congr 4
    omega
theorem run_app0 {c : Cf} {t e : TypeId} {i : TypeInfo} {z : Value} {b2 sz by_ : Nat} {news : List Value} (hc : appAt c = some (.val (.slice none 0 0), .sl b2 0 1 1, t))
    (ht : C.P.underlying t = some (.slice e)) (hi : C.P.info? e = some i) (hz : i.zero = some z) (hsz : i.size = sz) (hby : i.bytes = by_) (hzs : z.cells.size = sz) (h0 : 0 < sz) (hb : by_ ≤ 4096)
    (hB2 : c.bl[b2]? = some ⟨news.map .val, e⟩) (hnews : news.length = 1 * sz) (h1 : ∀ u ∈ news, u.oneCell' = true)
    (grow : ∀ m' (rest' : List Value), 1 ≤ m' → rest'.length = (m' - 1) * sz → Run C G (resumeG c ⟨(news ++ rest').map .val, e⟩ 1 m')) : Run C G c := by
  obtain ⟨o, x, y, ho, hop, hx, hy⟩ := appAt_op hc
  refine run_grow ho (M := {q : Nat × List Value // 1 ≤ q.1 ∧ q.2.length = (q.1 - 1) * sz}) (fun q => ⟨(news ++ q.1.2).map .val, e⟩) 1 (fun q => q.1.1) (fun r N D a w hfr hD hbl hG => ?_) (fun q => grow q.1.1 q.1.2 q.2.1 q.2.2)
  have dx : ∀ s, x = .tmp s → ¬ D s := fun s hs => hD s (mem_opTmps (by rw [hop]; simp [Op.operands, Call.operands, hs]))
  have dy : ∀ s, y = .tmp s → ¬ D s := fun s hs => hD s (mem_opTmps (by rw [hop]; simp [Op.operands, Call.operands, hs]))
  have ex := opS_ok (x := x) hfr dx
  have ey := opS_ok (x := y) hfr dy
  rw [hx] at ex; rw [hy] at ey
  have ex : a.eval x = .slice none 0 0 := ex.1
  obtain ⟨ey, hN2⟩ := ey
  have ey : a.eval y = .slice (some ⟨r b2, 0, none⟩) 1 1 := ey
  have hc2 := cell_at (P := C.P) (hbl.is b2 _ hB2 hN2).2
  obtain ⟨v', w', hrun, r1, r2, -⟩ := run_append_own (P := C.P) w w.heap.size t o.type e i z sz by_ ht hi hz hsz hby hzs h0 (.slice none 0 0) 0 [] (World.ownsRow_nil w _ e sz) ⟨r b2, 0, none⟩ 1 1 news hnews (fun j u hj => by simp [World.cell?, hc2, Addr.add_lit, hj]) h1 (by simp [maxLen]) (by omega) (Nat.le_refl _)
  obtain ⟨hl, h⟩ := r1
  rcases h with ⟨-, h⟩ | ⟨g, cap, cur, rfl, hg, hcell, hcap, hml, hcs, htk⟩
  · omega
  · have hcur : cur.toList = news ++ cur.toList.drop sz := by
      have e4 : cur.toList.take ((0 + 1) * sz) = news := by simpa using htk
      rw [show (0 + 1) * sz = sz by omega] at e4
      conv => lhs; rw [← List.take_append_drop sz cur.toList, e4]
    refine ⟨⟨(cap, cur.toList.drop sz), by simpa using hcap, ?_⟩, g, cur, w', ?_, hg, hcell, ?_, ?_⟩
    · simp only [List.length_drop, Array.length_toList, hcs]
      rw [Nat.sub_mul]; omega
    · simp [execOp, hop, resolve, invoke, builtin, ex, ey, hrun, Result.andThen]
    · show CellsOk r N ((news ++ cur.toList.drop sz).map .val) cur
      rw [← hcur]
      exact cellsOk_vals cur
    · exact (Below.refl _ w).grown r2 (Nat.le_refl _) (fun k hk => by cases hk)
theorem run_app {c : Cf} {t e : TypeId} {i : TypeInfo} {z : Value} {b b2 n m sz by_ : Nat} {vs news rest : List Value} (hc : appAt c = some (.sl b 0 n m, .sl b2 0 1 1, t))
    (ht : C.P.underlying t = some (.slice e)) (hi : C.P.info? e = some i) (hz : i.zero = some z) (hsz : i.size = sz) (hby : i.bytes = by_) (hzs : z.cells.size = sz) (h0 : 0 < sz) (hb : by_ ≤ 4096)
    (hB : c.bl[b]? = some ⟨(vs ++ rest).map .val, e⟩) (hB2 : c.bl[b2]? = some ⟨news.map .val, e⟩) (hvs : vs.length = n * sz) (hnews : news.length = 1 * sz) (h1 : ∀ u ∈ news, u.oneCell' = true)
    (hrest : rest.length = (m - n) * sz) (hnm : n ≤ m) (hn : n ≤ 1000) (hE : eB C.E c.bl b = true) (hal : aloneB c b = true)
    (room : n + 1 ≤ m → ∀ rest' : List Value, rest'.length = (m - (n + 1)) * sz → Run C G (resumeX c b ⟨(vs ++ news ++ rest').map .val, e⟩ (n + 1) m))
    (grow : ∀ m' (rest' : List Value), n + 1 ≤ m' → rest'.length = (m' - (n + 1)) * sz → Run C G (resumeG c ⟨(vs ++ news ++ rest').map .val, e⟩ (n + 1) m')) : Run C G c := by
  obtain ⟨o, x, y, ho, hop, hx, hy⟩ := appAt_op hc
  have nl : news.length = sz := by omega
  by_cases hr : n + 1 ≤ m
  · have hrl : sz ≤ rest.length := by
      rw [hrest]
      calc sz = 1 * sz := by omega
        _ ≤ (m - n) * sz := Nat.mul_le_mul_right _ (by omega)
    have h3 := room hr (rest.drop sz) (by
      rw [List.length_drop, hrest, show m - n = (m - (n + 1)) + 1 by omega, Nat.add_mul]; omega)
    have eB' : setBl c.bl b (n * sz) (news.map .val) = c.bl.set b ⟨(vs ++ news ++ rest.drop sz).map .val, e⟩ := by
      have e9 : (vs ++ rest).map SV.val = vs.map SV.val ++ rest.map SV.val := List.map_append ..
      unfold setBl
      rw [hB]
      simp only
      congr 1
      unfold setCellsS
      simp only [Bk.mk.injEq, and_true]
      have l1 : (vs.map SV.val).length = n * sz := by simp [hvs]
      rw [e9, List.map_append, List.map_append, List.take_left' l1, ← l1, List.drop_append]
      congr 1
      rw [show (vs.map SV.val).length + (news.map SV.val).length - (vs.map SV.val).length = sz by simp [nl]]
      have : List.drop ((vs.map SV.val).length + (news.map SV.val).length) (vs.map SV.val) = [] := List.drop_eq_nil_of_le (by omega)
      rw [this, List.nil_append, List.map_drop]
    refine run_room ho b (n * sz) (news.map .val) (n + 1) m hE hal (fun r N D a w hfr hD hbl hG => ?_) ?_
    · have dx : ∀ s, x = .tmp s → ¬ D s := fun s hs => hD s (mem_opTmps (by rw [hop]; simp [Op.operands, Call.operands, hs]))
      have dy : ∀ s, y = .tmp s → ¬ D s := fun s hs => hD s (mem_opTmps (by rw [hop]; simp [Op.operands, Call.operands, hs]))
      have ex := opS_ok (x := x) hfr dx
      have ey := opS_ok (x := y) hfr dy
      rw [hx] at ex; rw [hy] at ey
      obtain ⟨ex, hN1⟩ := ex
      obtain ⟨ey, hN2⟩ := ey
      have ex : a.eval x = .slice (some ⟨r b, 0, none⟩) n m := ex
      have ey : a.eval y = .slice (some ⟨r b2, 0, none⟩) 1 1 := ey
      have hc1 := cell_at (P := C.P) (hbl.is b _ hB hN1).2
      have hc2 := cell_at (P := C.P) (hbl.is b2 _ hB2 hN2).2
      have hrun := run_append_room_cells (P := C.P) w t o.type e i ht hi (r b) 0 n m ⟨r b2, 0, none⟩ 1 1 news (by rw [hnews, hsz]) (fun j u hj => by simp [World.cell?, hc2, Addr.add_lit, hj]) h1 hr
        (fun j hj => by
          simp only [World.cell?, hc1, hsz]
          have : 0 + n * sz + j < (vs ++ rest).length := by simp only [List.length_append, hvs]; omega
          show ((vs ++ rest).toArray[0 + n * sz + j]?).isSome = true
          rw [List.getElem?_toArray, List.getElem?_eq_getElem this]; rfl)
        (fun j hj => by simp [World.frozen?, hc1])
      refine ⟨_, (vs ++ rest).toArray, news.toArray, hB, hN1, ?_, hc1, cellsOk_vals (vs ++ rest).toArray, cellsOk_vals news.toArray, ?_⟩
      · simp only [List.length_map, List.length_append, hvs]; omega
      · have e7 := setCells_row (g := r b) (t := e) (fr := (0, 0)) news (n * sz) (vs ++ rest).toArray w hc1 (by simp only [List.size_toArray, List.length_append, hvs]; omega)
        simp only [hsz, Nat.zero_add] at hrun
        rw [e7] at hrun
        simp [execOp, hop, resolve, invoke, builtin, ex, ey, hrun, Result.andThen]
    · have h4 := h3
      unfold resumeX at h4
      unfold resumeR
      rw [eB']; exact h4
  · refine run_grow ho (M := {q : Nat × List Value // n + 1 ≤ q.1 ∧ q.2.length = (q.1 - (n + 1)) * sz}) (fun q => ⟨(vs ++ news ++ q.1.2).map .val, e⟩) (n + 1) (fun q => q.1.1) (fun r N D a w hfr hD hbl hG => ?_) (fun q => grow q.1.1 q.1.2 q.2.1 q.2.2)
    have dx : ∀ s, x = .tmp s → ¬ D s := fun s hs => hD s (mem_opTmps (by rw [hop]; simp [Op.operands, Call.operands, hs]))
    have dy : ∀ s, y = .tmp s → ¬ D s := fun s hs => hD s (mem_opTmps (by rw [hop]; simp [Op.operands, Call.operands, hs]))
    have ex := opS_ok (x := x) hfr dx
    have ey := opS_ok (x := y) hfr dy
    rw [hx] at ex; rw [hy] at ey
    obtain ⟨ex, hN1⟩ := ex
    obtain ⟨ey, hN2⟩ := ey
    have ex : a.eval x = .slice (some ⟨r b, 0, none⟩) n m := ex
    have ey : a.eval y = .slice (some ⟨r b2, 0, none⟩) 1 1 := ey
    have hc1 := cell_at (P := C.P) (hbl.is b _ hB hN1).2
    have hc2 := cell_at (P := C.P) (hbl.is b2 _ hB2 hN2).2
    obtain ⟨v', w', hrun, r1, r2⟩ := run_append_arg_grows (P := C.P) w t o.type e i z sz by_ ht hi hz hsz hby hzs h0 ⟨r b, 0, none⟩ n m vs hvs
      (fun j u hj => by
        have : j < vs.length := (List.getElem?_eq_some_iff.1 hj).1
        simp [World.cell?, hc1, Addr.add_lit, List.getElem?_append_left this, hj]) ⟨r b2, 0, none⟩ 1 1 news hnews (fun j u hj => by simp [World.cell?, hc2, Addr.add_lit, hj]) (by omega) (by simp only [maxLen]; omega) (by
        have : (n + 1) * by_ ≤ 1001 * 4096 := Nat.mul_le_mul (by omega) hb
        omega)
    obtain ⟨hl, h⟩ := r1
    rcases h with ⟨-, h⟩ | ⟨g, cap, cur, rfl, hg, hcell, hcap, hml, hcs, htk⟩
    · omega
    · have hcur : cur.toList = vs ++ news ++ cur.toList.drop ((n + 1) * sz) := by
        conv => lhs; rw [← List.take_append_drop ((n + 1) * sz) cur.toList, htk]
      refine ⟨⟨(cap, cur.toList.drop ((n + 1) * sz)), hcap, ?_⟩, g, cur, w', ?_, hg, hcell, ?_, ?_⟩
      · simp only [List.length_drop, Array.length_toList, hcs]
        rw [Nat.sub_mul]
      · simp [execOp, hop, resolve, invoke, builtin, ex, ey, hrun, Result.andThen]
      · show CellsOk r N ((vs ++ news ++ cur.toList.drop ((n + 1) * sz)).map .val) cur
        rw [← hcur]
        exact cellsOk_vals cur
      · exact (Below.refl _ w).grown r2 (Nat.le_refl _) (fun k hk => by cases hk)
end
end Go.Ev
end
section
/-
  A slice of wide numbers that came in; wide.Sum.
-/
set_option linter.unusedSimpArgs false
namespace Go.Proofs.YthoedmikfpbfnaaGreat
open Go Go.RowKit

/-- The i-th of some numbers. -/
def nth (ns : List Int) (i : Nat) : Int := ns.getD i 0
/-- The slice value v reads, in w, as the wide numbers ns; its cells lie in a block below B. -/
def WRow (B : Nat) (w : World) (v : Value) (ns : List Int) : Prop :=
  ∃ (a : Option Addr) (cap b off : Nat), v = .slice a ns.length cap ∧ (0 < ns.length → a = some ⟨b, off, none⟩ ∧ b < B) ∧
    ∀ i, i < ns.length → w.cell? ⟨b, off + 2 * i, none⟩ = some (.int .i64 (hi (nth ns i))) ∧ w.cell? ⟨b, off + 2 * i + 1, none⟩ = some (.int .u64 (lo (nth ns i)))
theorem WRow.ext {B : Nat} {w w' : World} {v : Value} {ns : List Int} (h : WRow B w v ns) (hB : B ≤ w.heap.size) (x : Ext w w') : WRow B w' v ns := by
  obtain ⟨a, cap, b, off, rfl, h2, h3⟩ := h
  refine ⟨a, cap, b, off, rfl, h2, fun i hi => ?_⟩
  have hb := (h2 (by omega)).2
  exact ⟨(Below.cell x (p := ⟨b, off + 2 * i, none⟩) (by show b < _; omega)).trans (h3 i hi).1, (Below.cell x (p := ⟨b, off + 2 * i + 1, none⟩) (by show b < _; omega)).trans (h3 i hi).2⟩
theorem at_wrow {len cap b off : Nat} {a : Option Addr} (h : 0 < len → a = some ⟨b, off, none⟩) (k : Nat) (h1 : k < len) (w : World) :
    (Instr.indexAt 170 (.slice a len cap) (.int .i64 (k : Int))).run Tryz.prog w = .ok (.pointer (some ⟨b, off + 2 * k, none⟩)) w := by
  rw [h (by omega)]
  have e : Tryz.prog.elem 170 = 42 := by kernel_rfl
  have s : ∀ w, (sizeOf 42).run Tryz.prog w = .ok 2 w := fun _ => by kernel_rfl
  rw [run_indexAt_slice w 170 ⟨b, off, none⟩ len cap .i64 k (by rw [e]; exact Tryz.underlying170), if_pos ⟨by omega, by omega⟩, e, s]
  simp [Result.andThen, Addr.add, Nat.mul_comm]

/-- The sum of numbers. -/
def tsum (ns : List Int) : Int := ns.sum
theorem tsum_take (ns : List Int) (k : Nat) (h : k < ns.length) : tsum (ns.take (k + 1)) = tsum (ns.take k) + nth ns k := by
  unfold tsum nth
  rw [List.take_succ_eq_append_getElem h, List.sum_append, List.getD, List.getElem?_eq_getElem h]
  simp

/-- What a round of the sum comes to. -/
def wt (s n : Int) : Int := hsum (hi s) (hi n) ((lo s + lo n) / 18446744073709551616) * 18446744073709551616 + (lo s + lo n) % 18446744073709551616
theorem wt_hi (s n : Int) : hi (wt s n) = hsum (hi s) (hi n) ((lo s + lo n) / 18446744073709551616) := (of_hi_lo _ _ (by omega) (by omega)).1
theorem wt_lo (s n : Int) : lo (wt s n) = (lo s + lo n) % 18446744073709551616 := (of_hi_lo _ _ (by omega) (by omega)).2
def T128 : Int := 340282366920938463463374607431768211456
theorem wt_W (s n : Int) : W128 (wt s n) := by
  rw [W128_iff, wt_hi, hsum_def]; omega
theorem wt_cases {s n : Int} (hs : W128 s) (hn : W128 n) :
    (hi s < 0 → hi n < 0 → 0 ≤ hi (wt s n) → s + n = wt s n - T128) ∧ (0 ≤ hi s → 0 ≤ hi n → hi (wt s n) < 0 → s + n = wt s n + T128) ∧
    (hi s < 0 → 0 ≤ hi n → s + n = wt s n) ∧ (0 ≤ hi s → hi n < 0 → s + n = wt s n) ∧ (hi s < 0 → hi (wt s n) < 0 → s + n = wt s n) ∧ (0 ≤ hi s → 0 ≤ hi (wt s n) → s + n = wt s n) := by
  rw [wt_hi]
  unfold wt T128
  rw [hsum_def]
  unfold W128 at hs hn
  unfold hi lo
  refine ⟨?_, ?_, ?_, ?_, ?_, ?_⟩ <;> intros <;> omega
theorem sum_end {s R t : Int} (hs : W128 s) (h : t = s + R * T128) : (R ≠ 0 → ¬ W128 t) ∧ (R = 0 → t = s ∧ W128 t) := by
  unfold T128 at h
  unfold W128 at *
  constructor <;> intros <;> omega

set_option maxRecDepth 100000 in
set_option maxHeartbeats 1600000 in
theorem wsum (v : Value) (ns : List Int) (w : World) (hr : WRow w.heap.size w v ns) (hl : ns.length ≤ 1000000) (hW : ∀ i, W128 (nth ns i)) :
    Calls Tryz.prog 122 #[v] w (RetT w (tsum ns)) := by
  obtain ⟨a, cap, b, off, rfl, ha, hc⟩ := hr
  have r98 := run_add64'
  go_enter Tryz.func122, Tryz.ntmps122
  go_wp2_with fail
  obtain ⟨V, hV⟩ : ∃ V, V = (w.alloc (.cells #[.int .i64 0, .int .u64 0] 42)).alloc (.cells #[.int .i64 0, .int .u64 0] 42) := ⟨_, rfl⟩
  rw [← hV]
  have hR : Box2 V w.heap.size (.int .i64 0) (.int .u64 0) 42 := by rw [hV]; exact (Box2.new rfl).alloc _
  have hS : Box2 V (w.heap.size + 1) (.int .i64 0) (.int .u64 0) 42 := by rw [hV]; exact Box2.new (by simp)
  have xw : Ext w V := by rw [hV]; exact (Ext.refl w).alloc.alloc
  clear hV
  go_loopw [5, 15] (fun s5 s15 wr => ∃ (k : Nat) (R s : Int), s5 = .int .i64 R ∧ s15 = .int .i64 k ∧ k ≤ ns.length ∧ -(k : Int) ≤ R ∧ R ≤ k ∧ W128 s ∧ tsum (ns.take k) = s + R * T128 ∧
      Box2 wr (w.heap.size + 1) (.int .i64 (hi s)) (.int .u64 (lo s)) 42 ∧ Box2 wr w.heap.size (.int .i64 0) (.int .u64 0) 42 ∧ Ext w wr)
    (fun _ s15 _ => ns.length - (intOf s15).toNat)
  case atStart => exact ⟨0, 0, 0, rfl, rfl, by omega, by omega, by omega, W128_zero, by simp [tsum], hS, hR, xw⟩
  case round =>
    clear hR hS xw
    obtain ⟨k, R, s, rfl, rfl, hk, hR0, hR1, hs, hT, hS, hR, xw⟩ := hrel
    have HT := Lib.hid hT
    clear hT
    have hS_0 := hS.c0; have hS_1 := hS.c1
    have hS_2 := hS.f0; have hS_3 := hS.f1
    have hz3 := hS.kind.lt
    have hz4 := hR.kind.lt
    by_cases hlt : k < ns.length
    · have hn := hW k
      have hix := fun w => at_wrow (cap := cap) (fun h => (ha h).1) k hlt w
      have hb := (ha (by omega)).2
      have hz := Ext.size xw
      have c0 := (Below.cell xw (p := ⟨b, off + 2 * k, none⟩) hb).trans (hc k hlt).1
      have c1 := (Below.cell xw (p := ⟨b, off + 2 * k + 1, none⟩) hb).trans (hc k hlt).2
      obtain ⟨l0, l1⟩ := lo_bd s
      obtain ⟨m0, m1⟩ := lo_bd (nth ns k)
      have u1 := u64_nonneg (hi s)
      have u2 := u64_nonneg (hi (nth ns k))
      have d0 : 0 ≤ (lo s + lo (nth ns k)) / 18446744073709551616 := by omega
      have d1 : (lo s + lo (nth ns k)) / 18446744073709551616 ≤ 1 := by omega
      clear ha hc
      go_wp2_with fail
      all_goals
        clear r98 u1 u2
        simp only [hsum_eq, ← wt_hi, ← wt_lo] at *
        go_roundw
        case measure => simp [intOf]; omega
      all_goals
        obtain ⟨q1, q2, q3, q4, q5, q6⟩ := wt_cases hs hn
        have hT := HT.out
        have hT2 := tsum_take ns k hlt
        have e1 := Int.sub_mul R 1 T128
        have e2 := Int.add_mul R 1 T128
        first
        | exact ⟨k + 1, R, wt s (nth ns k), rfl, by go_num, by omega, by omega, by omega, wt_W _ _, by rw [hT2, hT]; (first | omega | grind | (simp only [Bool.not_eq_eq_eq_not, Bool.not_false, Bool.not_true, beq_iff_eq, beq_eq_false_iff_ne, ne_eq, decide_eq_decide] at *; omega)), ((hS.set _ _).alloc _).alloc _, ((hR.other2 (by omega) _ _).alloc _).alloc _, (Ext.set (Ext.set xw (by omega)) (by omega)).alloc.alloc⟩
        | exact ⟨k + 1, R - 1, wt s (nth ns k), rfl, by go_num, by omega, by omega, by omega, wt_W _ _, by rw [hT2, hT]; (first | omega | grind | (simp only [Bool.not_eq_eq_eq_not, Bool.not_false, Bool.not_true, beq_iff_eq, beq_eq_false_iff_ne, ne_eq, decide_eq_decide] at *; omega)), ((hS.set _ _).alloc _).alloc _, ((hR.other2 (by omega) _ _).alloc _).alloc _, (Ext.set (Ext.set xw (by omega)) (by omega)).alloc.alloc⟩
        | exact ⟨k + 1, R + 1, wt s (nth ns k), rfl, by go_num, by omega, by omega, by omega, wt_W _ _, by rw [hT2, hT]; (first | omega | grind | (simp only [Bool.not_eq_eq_eq_not, Bool.not_false, Bool.not_true, beq_iff_eq, beq_eq_false_iff_ne, ne_eq, decide_eq_decide] at *; omega)), ((hS.set _ _).alloc _).alloc _, ((hR.other2 (by omega) _ _).alloc _).alloc _, (Ext.set (Ext.set xw (by omega)) (by omega)).alloc.alloc⟩
    · obtain rfl : k = ns.length := by omega
      have hTe : tsum (ns.take ns.length) = tsum ns := by rw [List.take_length]
      obtain ⟨g1, g2⟩ := sum_end hs HT.out
      rw [hTe] at g1 g2
      have HG1 := Lib.hid g1
      have HG2 := Lib.hid g2
      have r0 := hR.c0
      have r1 := hR.c1
      have r2 := hR.f0
      have r3 := hR.f1
      clear g1 g2 hTe ha hc r98
      by_cases h0 : R = 0
      · subst h0
        go_wp2_with fail
        obtain ⟨e1, e2⟩ := HG2.out (by trivial)
        refine bodyPost_ret (v := .tuple #[.agg #[.int .i64 (hi s), .int .u64 (lo s)], .int .i64 0]) (by simp [results, Tryz.results122, go_sem, r0, r1]) rfl (retT_yes e2 (by rw [e1]) (by rw [e1]) (Ext.set (Ext.set xw (by omega)) (by omega)))
      · go_wp2_with fail
        refine bodyPost_ret (v := .tuple #[.agg #[.int .i64 0, .int .u64 0], .int .i64 2]) (by simp [results, Tryz.results122, go_sem, r0, r1]) rfl (retT_no (HG1.out h0) (Ext.set (Ext.set xw (by omega)) (by omega)))
end Go.Proofs.YthoedmikfpbfnaaGreat
end
section
/-
  A row of wide numbers of the call's own: what is put to it, and its sum.
-/
set_option linter.unusedVariables false
namespace Go.Proofs.YthoedmikfpbfnaaGreat
open Go Go.RowKit Go.Ev

def infoOk (P : Program) (e : TypeId) (s b : Nat) : Bool := match P.info? e with
  | some i => match i.zero with
    | some z => Nat.beq i.size s && Nat.beq i.bytes b && Nat.beq z.cells.size s
    | none => false
  | none => false
theorem infoOk_ex {e : TypeId} {s b : Nat} (h : infoOk Tryz.prog e s b = true) : ∃ i z, Tryz.prog.info? e = some i ∧ i.zero = some z ∧ i.size = s ∧ i.bytes = b ∧ z.cells.size = s := by
  unfold infoOk at h
  split at h
  · rename_i i hi
    split at h
    · rename_i z hz
      simp only [Bool.and_eq_true] at h
      exact ⟨i, z, hi, hz, Nat.eq_of_beq_eq_true h.1.1, Nat.eq_of_beq_eq_true h.1.2, Nat.eq_of_beq_eq_true h.2⟩
    · cases h
  · cases h
theorem wide_info : infoOk Tryz.prog 42 2 16 = true := by kernel_rfl
section
variable {f0 : FuncId} {E : List TypeId} {w0 : World} {R : Ending → World → Prop} {L : ZL} {G : World → Prop} {c : Cf}
theorem st_app0w {b2 : Nat} {v1 v2 : Value} (hc : appAt (adv Tryz.prog E 9999 400 c) = some (.val (.slice none 0 0), .sl b2 0 1 1, 170)) (hB2 : (adv Tryz.prog E 9999 400 c).bl[b2]? = some ⟨[.val v1, .val v2], 42⟩) (h1 : v1.oneCell' = true) (h2 : v2.oneCell' = true)
    (hk : ∀ (m : Nat) (rest : List Value), 1 ≤ m → rest.length = (m - 1) * 2 → Ru ⟨Tryz.prog, f0, E, w0, R⟩ G (resumeG (adv Tryz.prog E 9999 400 c) ⟨([v1, v2] ++ rest).map .val, 42⟩ 1 m)) : Ru ⟨Tryz.prog, f0, E, w0, R⟩ G c := by
  obtain ⟨i, z, hi, hz, hs, hb, hzs⟩ := infoOk_ex wide_info
  exact ⟨run_adv mixed (run_app0 hc Tryz.underlying170 hi hz hs hb hzs (by omega) (by omega) (news := [v1, v2]) hB2 rfl (by simp [h1, h2]) fun m rest a b => (hk m rest a b).h)⟩
theorem st_appw {b b2 n m : Nat} {vs rest : List Value} {v1 v2 : Value} (hc : appAt (adv Tryz.prog E 9999 400 c) = some (.sl b 0 n m, .sl b2 0 1 1, 170)) (hB : (adv Tryz.prog E 9999 400 c).bl[b]? = some ⟨(vs ++ rest).map .val, 42⟩)
    (hB2 : (adv Tryz.prog E 9999 400 c).bl[b2]? = some ⟨[.val v1, .val v2], 42⟩) (h1 : v1.oneCell' = true) (h2 : v2.oneCell' = true) (hvs : vs.length = n * 2) (hrest : rest.length = (m - n) * 2) (hnm : n ≤ m) (hn : n ≤ 1000)
    (hE : eB E (adv Tryz.prog E 9999 400 c).bl b = true) (hal : aloneB (adv Tryz.prog E 9999 400 c) b = true)
    (room : n + 1 ≤ m → ∀ rest' : List Value, rest'.length = (m - (n + 1)) * 2 → Ru ⟨Tryz.prog, f0, E, w0, R⟩ G (resumeX (adv Tryz.prog E 9999 400 c) b ⟨(vs ++ [v1, v2] ++ rest').map .val, 42⟩ (n + 1) m))
    (grow : ∀ (m' : Nat) (rest' : List Value), n + 1 ≤ m' → rest'.length = (m' - (n + 1)) * 2 → Ru ⟨Tryz.prog, f0, E, w0, R⟩ G (resumeG (adv Tryz.prog E 9999 400 c) ⟨(vs ++ [v1, v2] ++ rest').map .val, 42⟩ (n + 1) m')) : Ru ⟨Tryz.prog, f0, E, w0, R⟩ G c := by
  obtain ⟨i, z, hi, hz, hs, hb, hzs⟩ := infoOk_ex wide_info
  exact ⟨run_adv mixed (run_app hc Tryz.underlying170 hi hz hs hb hzs (by omega) (by omega) hB (news := [v1, v2]) hB2 hvs rfl (by simp [h1, h2]) hrest hnm hn hE hal (fun a r q => (room a r q).h) fun m r a q => (grow m r a q).h)⟩
/-- The sum of five wide numbers. -/
theorem st_sum5 {b m : Nat} {n1 n2 n3 n4 n5 : Int} {rest : List Value} (s : Int) (hs : s = n1 + n2 + n3 + n4 + n5) (w1 : W128 n1) (w2 : W128 n2) (w3 : W128 n3) (w4 : W128 n4) (w5 : W128 n5) (ws : W128 s)
    (hc : callAt (adv Tryz.prog E 9999 400 c) = some (122, [.sl b 0 5 m]))
    (hB : (adv Tryz.prog E 9999 400 c).bl[b]? = some ⟨([Value.int .i64 (hi n1), .int .u64 (lo n1), .int .i64 (hi n2), .int .u64 (lo n2), .int .i64 (hi n3), .int .u64 (lo n3), .int .i64 (hi n4), .int .u64 (lo n4), .int .i64 (hi n5), .int .u64 (lo n5)] ++ rest).map .val, 42⟩)
    (hk : Ru ⟨Tryz.prog, f0, E, w0, R⟩ (ZAll L) (resume (adv Tryz.prog E 9999 400 c) (.val (.tuple #[wv s, .int .i64 0])))) : Ru ⟨Tryz.prog, f0, E, w0, R⟩ (ZAll L) c := by
  refine ⟨run_adv mixed fun hst => run_call hc ent122 (X := Unit) (fun _ => .val (.tuple #[wv s, .int .i64 0])) (fun _ _ => True) (fun _ _ _ _ _ => trivial) (fun _ _ => trivial) (fun r N w us ha hbl hG => ?_) (fun _ => hk.h.mono hst fun w hw => hw.1) hst⟩
  obtain ⟨u, rfl, hu, hfr⟩ : ∃ u, us = [u] ∧ u = Value.slice (some ⟨r b, 0, none⟩) 5 m ∧ ¬ N b := by
    match us, ha with
    | [u], h => exact ⟨u, rfl, h.1.1, h.1.2⟩
  subst hu
  have hb := (hbl.is b _ hB hfr).2
  have hcell := cell_at (P := Tryz.prog) hb
  have hlt := hbl.lt hB hfr
  have hrow : WRow w.heap.size w (.slice (some ⟨r b, 0, none⟩) 5 m) [n1, n2, n3, n4, n5] := by
    refine ⟨some ⟨r b, 0, none⟩, m, r b, 0, rfl, fun _ => ⟨rfl, hlt⟩, fun i hi => ?_⟩
    have hi' : i = 0 ∨ i = 1 ∨ i = 2 ∨ i = 3 ∨ i = 4 := by simp at hi; omega
    rcases hi' with rfl | rfl | rfl | rfl | rfl <;> simp [World.cell?, hcell, nth]
  have hw : ∀ i, W128 (nth [n1, n2, n3, n4, n5] i) := fun i => by
    by_cases h : i < 5
    · have hi' : i = 0 ∨ i = 1 ∨ i = 2 ∨ i = 3 ∨ i = 4 := by omega
      rcases hi' with rfl | rfl | rfl | rfl | rfl <;> assumption
    · have : nth [n1, n2, n3, n4, n5] i = 0 := by unfold nth; rw [List.getD_eq_getElem?_getD, List.getElem?_eq_none (by simp; omega)]; rfl
      rw [this]; unfold W128; omega
  have e : tsum [n1, n2, n3, n4, n5] = s := by rw [hs]; unfold tsum; simp; omega
  refine (wsum _ _ w hrow (by simp) hw).mono fun e' w' ⟨h1, h2⟩ => ⟨(), _, h1, ?_, h2, trivial⟩
  rw [e, thi_yes ws, tlo_yes ws, ter_yes ws]
  rfl
end
/-! a row out of a pointer -/
theorem cellsOk_nil {r : Nat → Nat} {N : Nat → Prop} : CellsOk r N [] #[] := ⟨rfl, fun i s h => by cases h⟩
theorem cellsOk_cons {r : Nat → Nat} {N : Nat → Prop} {s : SV} {u : Value} {ss : List SV} {us : List Value} (h : SV.Ok r N s u) (k : CellsOk r N ss us.toArray) : CellsOk r N (s :: ss) (u :: us).toArray := by
  obtain ⟨k1, k2⟩ := k
  refine ⟨by simpa using k1, fun i s' hi => ?_⟩
  cases i with
  | zero =>
    obtain rfl : s = s' := by simpa using hi
    exact ⟨u, by simp, h⟩
  | succ i =>
    obtain ⟨u', h1, h2⟩ := k2 i s' (by simpa using hi)
    exact ⟨u', by simpa using h1, h2⟩
section
variable {f0 : FuncId} {E : List TypeId} {w0 : World} {R : Ending → World → Prop} {L : ZL} {G : World → Prop} {c : Cf}
theorem st_rowP {f : FuncId} {vs : Nat → Nat → List Value} {T : TypeId} {n b o : Nat} (ss : List SV) (he : Enters Tryz.prog f) (h : ∀ b o, FnB f [.pointer (some ⟨b, o, none⟩)] (vs b o) T n) (hcs : ∀ (r : Nat → Nat) (N : Nat → Prop), ¬ N b → CellsOk r N ss (vs (r b) o).toArray) (hc : callAt (adv Tryz.prog E 9999 400 c) = some (f, [.ptr b o]))
    (hk : Ru ⟨Tryz.prog, f0, E, w0, R⟩ (ZAll L) (resumeB (adv Tryz.prog E 9999 400 c) ⟨ss, T⟩ n)) : Ru ⟨Tryz.prog, f0, E, w0, R⟩ (ZAll L) c := by
  refine ⟨run_adv mixed (run_callB hc he ⟨ss, T⟩ n (fun r N w us ha hbl hG => ?_) hk.h)⟩
  obtain ⟨u, rfl, hu, hfr⟩ : ∃ u, us = [u] ∧ u = Value.pointer (some ⟨r b, o, none⟩) ∧ ¬ N b := by
    match us, ha with
    | [u], h => exact ⟨u, rfl, h.1.1, h.1.2⟩
  subst hu
  exact (h (r b) o w).mono fun e w' ⟨k, h1, h2, h3, h4⟩ => ⟨k, _, h1, h2, h3, hcs r N hfr, h4⟩
end
end Go.Proofs.YthoedmikfpbfnaaGreat
end
section
/-
  Calls where some blocks of the memory are known; what is read of them.
-/
set_option linter.unusedVariables false
namespace Go.Proofs.YthoedmikfpbfnaaGreat
open Go Go.RowKit Go.Ev

/-- These blocks hold these values. -/
def Mem (l : List (Nat × List Value × TypeId)) (w : World) : Prop := ∀ p ∈ l, w.heap[p.1]? = some (.cells p.2.1.toArray p.2.2 (0, 0))
theorem Mem.stable {E : List TypeId} {l : List (Nat × List Value × TypeId)} (h : ∀ p ∈ l, p.2.2 ∈ E) : Stable E (Mem l) := fun w w' hk hw p hp => hk _ _ _ _ (h p hp) (hw p hp)
section
variable {f0 : FuncId} {E : List TypeId} {w0 : World} {R : Ending → World → Prop} {L : ZL} {G : World → Prop} {c : Cf}
/-- What a round may use: the loop from a later round on. -/
structure BackG (C : Cx) (c : Cf) {X : Type} (I : X → List SV × List Bk) (G : World → Prop) (p : X → Prop) (m : X → Nat) (x : X) : Prop where
  h : ∀ x' (G' : World → Prop), m x' < m x → p x' → (∀ w, G' w → G w) → Run C G' (backL c (I x'))
theorem st_loopG {X : Type} (I : X → List SV × List Bk) (p : X → Prop) (m : X → Nat) (x0 : X) (hc : (loopAt (adv Tryz.prog E 9999 400 c)).isSome = true) (h0 : fb (adv Tryz.prog E 9999 400 c) = I x0) (hs : Stable E G) (hp : p x0)
    (round : ∀ x, p x → BackG ⟨Tryz.prog, f0, E, w0, R⟩ (adv Tryz.prog E 9999 400 c) I G p m x → Ru ⟨Tryz.prog, f0, E, w0, R⟩ G (enterL (adv Tryz.prog E 9999 400 c) (I x))) : Ru ⟨Tryz.prog, f0, E, w0, R⟩ G c := by
  refine ⟨run_adv (t := 9999) (n := 400) mixed ?_⟩
  show Run _ _ (adv Tryz.prog E 9999 400 c)
  generalize adv Tryz.prog E 9999 400 c = c1 at *
  cases hl : loopAt c1 with
  | none => rw [hl] at hc; cases hc
  | some bk =>
    obtain ⟨b, k⟩ := bk
    refine run_loop hl I (fun x w => G w ∧ p x) (fun x w w' hk hw => ⟨hs w w' hk hw.1, hw.2⟩) m x0 h0 (fun w hw => ⟨hw, hp⟩) ?_
    intro x back
    refine run_know (p := p x) (fun w hw => hw.2) fun hx => ?_
    have hb : BackG ⟨Tryz.prog, f0, E, w0, R⟩ c1 I G p m x := ⟨fun x' G' hm hp' hG => by
      have := back x' G' hm (fun w hw => ⟨hG w hw, hp'⟩)
      unfold backL; rw [hl]; exact this⟩
    have := (round x hx hb).h
    unfold enterL at this; rw [hl] at this
    exact this.mono hs fun w hw => hw.1
theorem st_backG {X : Type} {c0 : Cf} {I : X → List SV × List Bk} {p : X → Prop} {m : X → Nat} {x : X} (hb : BackG ⟨Tryz.prog, f0, E, w0, R⟩ c0 I G p m x) (x' : X) (hm : m x' < m x) (hp : p x')
    (h0 : fb (adv Tryz.prog E 9999 400 c) = I x') (hc : loopBack (adv Tryz.prog E 9999 400 c) = loopAt c0) (hs : (loopAt c0).isSome = true) : Ru ⟨Tryz.prog, f0, E, w0, R⟩ G c := by
  refine ⟨run_adv (t := 9999) (n := 400) mixed ?_⟩
  show Run _ _ (adv Tryz.prog E 9999 400 c)
  generalize adv Tryz.prog E 9999 400 c = c1 at *
  cases hl : loopAt c0 with
  | none => rw [hl] at hs; cases hs
  | some bk =>
    obtain ⟨b, k⟩ := bk
    rw [hl] at hc
    have := hb.h x' G hm hp (fun w hw => hw)
    unfold backL at this; rw [hl] at this
    exact run_back hc (fr := (I x').1) (bl := (I x').2) h0 this
end
end Go.Proofs.YthoedmikfpbfnaaGreat
end
section
/-
  Calls that are given pointers into blocks of their caller's.
-/
set_option linter.unusedVariables false
namespace Go.Ev
open Go Go.RowKit

/-- The block that a callee's block is for its caller. -/
def phi (ph : List Nat) (b : Nat) : Nat := ph.getD b 0
def renP (ph : List Nat) : Cp → Cp
  | .ptr b o => .ptr (phi ph b) o
  | .val v => .val v
def renS (ph : List Nat) : SV → SV
  | .ptr b o => .ptr (phi ph b) o
  | .sl b o l c => .sl (phi ph b) o l c
  | .clo f cs => .clo f (cs.map (renP ph))
  | s => s
/-- Only such values go along. -/
def lentS (n : Nat) : SV → Bool
  | .val _ => true
  | .ptr b _ => Nat.blt b n
  | .sl b _ _ _ => Nat.blt b n
  | .clo _ cs => cs.all fun | .ptr b _ => Nat.blt b n | .val _ => true
  | _ => false
theorem ren_ok {ph : List Nat} {n : Nat} {r : Nat → Nat} {s : SV} {u : Value} (h : lentS n s = true) (k : (renS ph s).Is r u) : s.Ok (fun b => r (phi ph b)) (fun b => n ≤ b) u := by
  cases s with
  | val v => exact ⟨k, trivial⟩
  | ptr b o =>
    refine ⟨k, fun hn => ?_⟩
    have : b < n := by simpa [lentS, Nat.blt_eq] using h
    omega
  | sl b o l c =>
    refine ⟨k, fun hn => ?_⟩
    have : b < n := by simpa [lentS, Nat.blt_eq] using h
    omega
  | clo f cs =>
    refine ⟨?_, fun c hc => ?_⟩
    · simp only [renS, SV.Is] at k ⊢
      rw [k]
      congr 2
      rw [List.map_map]
      apply List.map_congr_left
      intro c _
      cases c <;> rfl
    · have := List.all_eq_true.1 h c hc
      cases c with
      | ptr b o => exact fun hn => by have : b < n := by simpa [Nat.blt_eq] using this
                                      omega
      | val v => trivial
  | row cs => cases h
  | any => cases h
theorem ren_args {ph : List Nat} {n : Nat} {r : Nat → Nat} {N : Nat → Prop} : ∀ {ss : List SV} {us : List Value}, ss.all (lentS n) = true → Args r N (ss.map (renS ph)) us → Args (fun b => r (phi ph b)) (fun b => n ≤ b) ss us
  | [], [], _, _ => trivial
  | s :: ss, u :: us, h, k => by
    simp only [List.all_cons, Bool.and_eq_true] at h
    exact ⟨ren_ok h.1 k.1.1, ren_args h.2 k.2⟩
  | [], _ :: _, _, k => k.elim
  | _ :: _, [], _, k => k.elim
theorem ren_cells {ph : List Nat} {n : Nat} {r : Nat → Nat} {N : Nat → Prop} {ss : List SV} {cs : Array Value} (h : ss.all (lentS n) = true) (k : CellsOk r N (ss.map (renS ph)) cs) : CellsOk (fun b => r (phi ph b)) (fun b => n ≤ b) ss cs := by
  refine ⟨by simpa using k.1, fun i s hi => ?_⟩
  obtain ⟨u, h1, h2⟩ := k.2 i (renS ph s) (by simp [hi])
  exact ⟨u, h1, ren_ok (List.all_eq_true.1 h s (List.mem_of_getElem? hi)) h2.1⟩
/-- Names the block b. -/
def namesC (b : Nat) : Cp → Bool
  | .ptr k _ => Nat.beq k b
  | .val _ => false
def namesS (b : Nat) : SV → Bool
  | .ptr k _ => Nat.beq k b
  | .sl k _ _ _ => Nat.beq k b
  | .clo _ cs => cs.any (namesC b)
  | _ => false
theorem names_fresh {ph : List Nat} {N : Nat → Prop} {b : Nat} {s : SV} (h : namesS b s = true) (k : (renS ph s).Fresh N) : ¬ N (phi ph b) := by
  cases s with
  | ptr j o => obtain rfl := Nat.eq_of_beq_eq_true h; exact k
  | sl j o l c => obtain rfl := Nat.eq_of_beq_eq_true h; exact k
  | clo f cs =>
    obtain ⟨c, hc, hn⟩ := List.any_eq_true.1 h
    have h1 := k (renP ph c) (List.mem_map.2 ⟨c, hc, rfl⟩)
    cases c with
    | ptr j o => obtain rfl := Nat.eq_of_beq_eq_true hn; exact h1
    | val v => cases hn
  | val v => cases h
  | row cs => cases h
  | any => cases h
/-- Every block that is lent is named by what goes along, or by a block ahead of it. -/
def reachB (ss : List SV) (bl : List Bk) : Bool := (List.range bl.length).all fun k => ss.any (namesS k) || (bl.take k).any fun B => B.cells.any (namesS k)
theorem args_fresh {r : Nat → Nat} {N : Nat → Prop} {g : SV → SV} : ∀ {ss : List SV} {us : List Value}, Args r N (ss.map g) us → ∀ s ∈ ss, (g s).Fresh N
  | [], _, _, s, hs => by cases hs
  | s :: ss, u :: us, h, s', hs => by
    rcases List.mem_cons.1 hs with rfl | hs
    · exact h.1.2
    · exact args_fresh h.2 s' hs
  | _ :: _, [], h, _, _ => h.elim
def nodupB : List Nat → Bool
  | [] => true
  | x :: l => !memN x l && nodupB l
theorem nodup_inj : ∀ {l : List Nat}, nodupB l = true → ∀ {i j x : Nat}, l[i]? = some x → l[j]? = some x → i = j
  | [], _, i, j, x, hi, _ => by simp at hi
  | y :: l, h, i, j, x, hi, hj => by
    simp only [nodupB, Bool.and_eq_true, Bool.not_eq_true'] at h
    have hno : ∀ k : Nat, l[k]? ≠ some y := fun k hk => by
      have : memN y l = true := memN_iff.2 (List.mem_of_getElem? hk)
      rw [h.1] at this; cases this
    cases i with
    | zero =>
      obtain rfl : y = x := by simpa using hi
      cases j with
      | zero => rfl
      | succ j => exact absurd (by simpa using hj) (hno j)
    | succ i =>
      cases j with
      | zero =>
        obtain rfl : y = x := by simpa using hj
        exact absurd (by simpa using hi) (hno i)
      | succ j =>
        have := nodup_inj h.2 (i := i) (j := j) (x := x) (by simpa using hi) (by simpa using hj)
        omega
end Go.Ev
namespace Go.Proofs.YthoedmikfpbfnaaGreat
open Go Go.RowKit Go.Ev

/-- Called with these values and pointers, where the blocks bl are lent. -/
def FnM (f : FuncId) (ss : List SV) (bl : List Bk) (v : Value) : Prop := ∀ (r : Nat → Nat) (w : World) (us : List Value), Args r (fun b => bl.length ≤ b) ss us → (∀ (b : Nat) (B : Bk), bl[b]? = some B → BkIs r (fun b => bl.length ≤ b) w (r b) B) →
  (∀ b b' : Nat, b < bl.length → b' < bl.length → r b = r b' → b = b') → Calls Tryz.prog f us.toArray w fun e w' => e = .returned v ∧ Below w.heap.size w w'
def lentE (E : List TypeId) (bl : List Bk) : Bool := memN 999999 E && bl.all fun B => memN B.t E
theorem zall_any (E : List TypeId) : Stable E (ZAll []) := fun _ w' _ _ => zall_nil w'
theorem fnM_of (E : List TypeId) {f : FuncId} {fn : Func} {c : Code} {ss : List SV} {bl : List Bk} {v : Value} (hf : Tryz.prog.funcs[f]? = some fn) (hb : fn.body = some c) (hE : lentE E bl = true) (h : ∀ w, Ru ⟨Tryz.prog, f, E, w, EndV w v⟩ (ZAll []) (startB fn ss bl)) : FnM f ss bl v := by
  intro r w us ha hk hi
  unfold lentE at hE
  rw [Bool.and_eq_true] at hE
  refine calls_runB E (ZAll []) hf hb (zall_any E) (zall_nil w) ha ⟨fun b B hB hn => ⟨?_, hk b B hB⟩, fun b b' h1 h2 _ _ h3 => hi b b' h1 h2 h3⟩ (h w).h
  have : memN B.t E = true := List.all_eq_true.1 hE.2 B (List.mem_of_getElem? hB)
  unfold Cx.base
  rw [if_pos (by rw [hE.1, this]; rfl)]
  exact Nat.zero_le _
/-- What is lent, and what goes along, is as it must be. -/
def okM (ss : List SV) (bl : List Bk) (ph : List Nat) : Bool := ss.all (lentS bl.length) && (bl.all fun B => B.cells.all (lentS bl.length)) && Nat.beq ph.length bl.length && nodupB ph && reachB ss bl
section
variable {f0 : FuncId} {E : List TypeId} {w0 : World} {R : Ending → World → Prop} {G : World → Prop} {c : Cf}
theorem st_fm {f : FuncId} {ss : List SV} {bl' : List Bk} {v : Value} (ph : List Nat) (he : Enters Tryz.prog f) (h : FnM f ss bl' v) (hc : callAt (adv Tryz.prog E 9999 400 c) = some (f, ss.map (renS ph))) (hok : okM ss bl' ph = true)
    (hB : ph.map (fun b => (adv Tryz.prog E 9999 400 c).bl[b]?) = bl'.map fun B => some ⟨B.cells.map (renS ph), B.t⟩)
    (hk : Ru ⟨Tryz.prog, f0, E, w0, R⟩ G (resume (adv Tryz.prog E 9999 400 c) (.val v))) : Ru ⟨Tryz.prog, f0, E, w0, R⟩ G c := by
  simp only [okM, Bool.and_eq_true] at hok
  obtain ⟨⟨⟨⟨hl, hcl⟩, hlen⟩, hnd⟩, hr⟩ := hok
  have hlen := Nat.eq_of_beq_eq_true hlen
  refine ⟨run_adv mixed fun hs => run_call hc he (X := Unit) (fun _ => .val v) (fun _ _ => True) (fun _ _ _ _ _ => trivial) (fun _ _ => trivial) (fun r N w us ha hbl hG => ?_) (fun _ => hk.h.mono hs fun w hw => hw.1) hs⟩
  generalize adv Tryz.prog E 9999 400 c = c1 at *
  have at_ : ∀ b : Nat, b < bl'.length → ph[b]? = some (phi ph b) := fun b hb => by
    have hlt : b < ph.length := by omega
    simp [phi, List.getD_eq_getElem?_getD, List.getElem?_eq_getElem hlt]
  have blk : ∀ (b : Nat) (B : Bk), bl'[b]? = some B → c1.bl[phi ph b]? = some ⟨B.cells.map (renS ph), B.t⟩ := fun b B hb => by
    have h1 := congrArg (·[b]?) hB
    simp only [List.getElem?_map, hb, at_ b (List.getElem?_eq_some_iff.1 hb).1, Option.map_some, Option.some.injEq] at h1
    exact h1
  have fresh : ∀ n b : Nat, b < n → b < bl'.length → ¬ N (phi ph b) := by
    intro n
    induction n with
    | zero => intro b hb; omega
    | succ n ih =>
      intro b hb hlt
      have h1 := List.all_eq_true.1 hr b (List.mem_range.2 hlt)
      rw [Bool.or_eq_true] at h1
      rcases h1 with h2 | h2
      · obtain ⟨s, hs, hn⟩ := List.any_eq_true.1 h2
        exact names_fresh hn (args_fresh ha s hs)
      · obtain ⟨B, hBm, h3⟩ := List.any_eq_true.1 h2
        obtain ⟨s, hs, hn⟩ := List.any_eq_true.1 h3
        obtain ⟨j, hj⟩ := List.mem_iff_getElem?.1 hBm
        rw [List.getElem?_take] at hj
        split at hj
        · rename_i hjb
          have fj := ih j (by omega) (by omega)
          obtain ⟨-, cs, hcs, hok⟩ := hbl.is _ _ (blk j B hj) fj
          obtain ⟨i, hi⟩ := List.mem_iff_getElem?.1 hs
          obtain ⟨u, _, hu⟩ := hok.2 i (renS ph s) (by simp [hi])
          exact names_fresh hn hu.2
        · cases hj
  have lt : ∀ (b : Nat) (B : Bk), bl'[b]? = some B → b < bl'.length := fun b B hb => (List.getElem?_eq_some_iff.1 hb).1
  refine (h (fun b => r (phi ph b)) w us (ren_args hl ha) (fun b B hb => ?_) (fun b b' h1 h2 e => ?_)).mono fun e w' ⟨h1, h2⟩ => ⟨(), v, h1, rfl, h2, trivial⟩
  · obtain ⟨-, cs, hcs, hok⟩ := hbl.is _ _ (blk b B hb) (fresh _ b (Nat.lt_succ_self _) (lt b B hb))
    exact ⟨cs, hcs, ren_cells (List.all_eq_true.1 hcl B (List.mem_of_getElem? hb)) hok⟩
  · have q : ∀ x : Nat, x < bl'.length → phi ph x < c1.bl.length := fun x hx => (List.getElem?_eq_some_iff.1 (blk x _ (List.getElem?_eq_getElem hx))).1
    have e2 := hbl.inj _ _ (q b h1) (q b' h2) (fresh _ b (Nat.lt_succ_self _) h1) (fresh _ b' (Nat.lt_succ_self _) h2) e
    have a1 := at_ b h1
    have a2 := at_ b' h2
    rw [e2] at a1
    exact nodup_inj hnd a1 a2
end
end Go.Proofs.YthoedmikfpbfnaaGreat
end
section
/-
  Months and days between two days of the calendar; no program in sight.
-/
set_option linter.unusedVariables false
namespace Go.Proofs.YthoedmikfpbfnaaGreat

/-- A month's number. -/
def ymi (y m : Int) : Int := 12 * y + (m - 1)
def lY (t : Int) : Int := t / 12
def lM (t : Int) : Int := t % 12 + 1
theorem ymi_l (t : Int) : ymi (lY t) (lM t) = t ∧ 1 ≤ lM t ∧ lM t ≤ 12 := by unfold ymi lY lM; omega
theorem l_ymi {y m : Int} (h1 : 1 ≤ m) (h2 : m ≤ 12) : lY (ymi y m) = y ∧ lM (ymi y m) = m := by unfold ymi lY lM; omega
theorem ymi_inj {y m y' m' : Int} (h1 : 1 ≤ m) (h2 : m ≤ 12) (h3 : 1 ≤ m') (h4 : m' ≤ 12) (e : ymi y m = ymi y' m') : y = y' ∧ m = m' := by unfold ymi at e; omega
theorem cmp3_ym {y m d y' m' d' : Int} (h1 : 1 ≤ m) (h2 : m ≤ 12) (h3 : 1 ≤ m') (h4 : m' ≤ 12) : cmp3 y m d y' m' d' = if ymi y m = ymi y' m' then cmpI d d' else cmpI (ymi y m) (ymi y' m') := by
  unfold cmp3
  by_cases e1 : y = y'
  · by_cases e2 : m = m'
    · subst e1; subst e2; rw [if_pos rfl, if_pos rfl, if_pos rfl]
    · rw [if_pos e1, if_neg e2, if_neg (by unfold ymi; omega)]
      exact cmpI_congr (by unfold ymi; omega) (by unfold ymi; omega)
  · rw [if_neg e1, if_neg (by unfold ymi; omega)]
    exact cmpI_congr (by unfold ymi; omega) (by unfold ymi; omega)
theorem cmp3_tri (y m d y' m' d' : Int) : cmp3 y m d y' m' d' = -1 ∨ cmp3 y m d y' m' d' = 0 ∨ cmp3 y m d y' m' d' = 1 := by
  unfold cmp3 cmpI; split <;> (try split) <;> (try split) <;> (try split) <;> simp
theorem cmpI_anti (a b : Int) : cmpI a b = -cmpI b a := by
  unfold cmpI; split <;> split <;> (try split) <;> (try split) <;> omega
theorem cmp3_anti (y m d y' m' d' : Int) : cmp3 y m d y' m' d' = -cmp3 y' m' d' y m d := by
  unfold cmp3
  by_cases e1 : y = y'
  · by_cases e2 : m = m'
    · rw [if_pos e1, if_pos e2, if_pos e1.symm, if_pos e2.symm]; exact cmpI_anti _ _
    · rw [if_pos e1, if_neg e2, if_pos e1.symm, if_neg (Ne.symm e2)]; exact cmpI_anti _ _
  · rw [if_neg e1, if_neg (Ne.symm e1)]; exact cmpI_anti _ _
/-- How many whole months lie between two days, the day of the month taken as it is. -/
def mM (s y m d y' m' d' : Int) : Int := if s = 1 then ymi y' m' - ymi y m - (if d' < d then 1 else 0) else ymi y m - ymi y' m' - (if d < d' then 1 else 0)
theorem cmp3_p {y m d y' m' d' : Int} (h1 : 1 ≤ m) (h2 : m ≤ 12) (h3 : 1 ≤ m') (h4 : m' ≤ 12) : cmp3 y m d y' m' d' = 1 ↔ ymi y' m' < ymi y m ∨ ymi y m = ymi y' m' ∧ d' < d := by
  rw [cmp3_ym h1 h2 h3 h4]
  by_cases e : ymi y m = ymi y' m'
  · rw [if_pos e, cmpI_p]; omega
  · rw [if_neg e, cmpI_p]; omega
theorem cmp3_n {y m d y' m' d' : Int} (h1 : 1 ≤ m) (h2 : m ≤ 12) (h3 : 1 ≤ m') (h4 : m' ≤ 12) : cmp3 y m d y' m' d' = -1 ↔ ymi y m < ymi y' m' ∨ ymi y m = ymi y' m' ∧ d < d' := by
  rw [cmp3_ym h1 h2 h3 h4]
  by_cases e : ymi y m = ymi y' m'
  · rw [if_pos e, cmpI_n]; omega
  · rw [if_neg e, cmpI_n]; omega
section
variable {s y m d y' m' d' : Int}
/-- So many months from a day don't go beyond the other one. -/
theorem fits_iff (h1 : 1 ≤ m) (h2 : m ≤ 12) (h3 : 1 ≤ m') (h4 : m' ≤ 12) (hs : s = 1 ∨ s = -1) (k : Int) :
    cmp3 (lY (ymi y m + s * k)) (lM (ymi y m + s * k)) d y' m' d' ≠ s ↔ k ≤ mM s y m d y' m' d' := by
  obtain ⟨a, b, c⟩ := ymi_l (ymi y m + s * k)
  rcases hs with rfl | rfl
  · rw [ne_eq, cmp3_p b c h3 h4, a]; unfold mM; rw [if_pos rfl]; split <;> omega
  · rw [ne_eq, cmp3_n b c h3 h4, a]; unfold mM; rw [if_neg (by omega)]; split <;> omega
theorem mM_pos (h1 : 1 ≤ m) (h2 : m ≤ 12) (h3 : 1 ≤ m') (h4 : m' ≤ 12) (hs : s = 1 ∨ s = -1) (e : cmp3 y' m' d' y m d = s) : 0 ≤ mM s y m d y' m' d' := by
  have := (fits_iff (d := d) (d' := d') h1 h2 h3 h4 hs 0).1 (by
    rw [show ymi y m + s * 0 = ymi y m by omega, (l_ymi h1 h2).1, (l_ymi h1 h2).2, cmp3_anti, e]; omega)
  exact this
theorem mM_le (h1 : 1 ≤ m) (h2 : m ≤ 12) (h3 : 1 ≤ m') (h4 : m' ≤ 12) (hs : s = 1 ∨ s = -1) : mM s y m d y' m' d' ≤ 12 * (if s = 1 then y' - y else y - y') + 11 := by
  rcases hs with rfl | rfl
  · rw [if_pos rfl]; unfold mM ymi; rw [if_pos rfl]; split <;> omega
  · rw [if_neg (by omega)]; unfold mM ymi; rw [if_neg (by omega)]; split <;> omega
end
/-- A day of a month, brought down to the month's last one. -/
def cD (y m d : Int) : Int := if mlen y m < d then mlen y m else d
theorem cD_in {y m d : Int} (h1 : 1 ≤ m) (h2 : m ≤ 12) (h3 : 1 ≤ d) : dIn y m (cD y m d) := by
  have := (mlen_ge (y := y) h1 h2).1
  unfold dIn cD; split <;> omega
theorem cD_le (y m d : Int) : cD y m d ≤ d := by unfold cD; split <;> omega
/-- The day to which the whole months lead. -/
def fY' (s y m d y' m' d' : Int) : Int := lY (ymi y m + s * mM s y m d y' m' d')
def fM' (s y m d y' m' d' : Int) : Int := lM (ymi y m + s * mM s y m d y' m' d')
def fD' (s y m d y' m' d' : Int) : Int := cD (fY' s y m d y' m' d') (fM' s y m d y' m' d') d
/-- The days that are left. -/
def fL (s y m d y' m' d' : Int) : Int := dnum y' m' d' - dnum (fY' s y m d y' m' d') (fM' s y m d y' m' d') (fD' s y m d y' m' d')
section
variable {s y m d y' m' d' : Int}
theorem dnum_le {y m d y' m' d' : Int} (h : dIn y m d) (h' : dIn y' m' d') (k : ymi y m < ymi y' m' ∨ ymi y m = ymi y' m' ∧ d ≤ d') : dnum y m d ≤ dnum y' m' d' := by
  rcases k with k | ⟨k, l⟩
  · exact Int.le_of_lt (dnum_lt h h' (by
      have a1 := h.1; have a2 := h.2.1; have a3 := h'.1; have a4 := h'.2.1
      unfold ymi at k; omega))
  · obtain ⟨rfl, rfl⟩ := ymi_inj h.1 h.2.1 h'.1 h'.2.1 k
    unfold dnum; omega
theorem from_ok (h : dOk y m d) (h' : dOk y' m' d') (hs : s = 1 ∨ s = -1) (e : cmp3 y' m' d' y m d = s) :
    dOk (fY' s y m d y' m' d') (fM' s y m d y' m' d') (fD' s y m d y' m' d') ∧ 0 ≤ s * fL s y m d y' m' d' ∧ s * fL s y m d y' m' d' ≤ 30 := by
  obtain ⟨h0, h1, h2⟩ := h
  obtain ⟨k0, k1, k2⟩ := h'
  have p := mM_pos h0.1 h0.2.1 k0.1 k0.2.1 hs e
  have q := (fits_iff (s := s) (y := y) (m := m) (d := d) (y' := y') (m' := m') (d' := d') h0.1 h0.2.1 k0.1 k0.2.1 hs (mM s y m d y' m' d')).2 (by omega)
  have r : ¬ cmp3 (lY (ymi y m + s * (mM s y m d y' m' d' + 1))) (lM (ymi y m + s * (mM s y m d y' m' d' + 1))) d y' m' d' ≠ s := by
    rw [fits_iff (s := s) (y := y) (m := m) (d := d) (y' := y') (m' := m') (d' := d') h0.1 h0.2.1 k0.1 k0.2.1 hs]; omega
  unfold fL fD' fY' fM'
  generalize mM s y m d y' m' d' = M at *
  obtain ⟨a, b, c⟩ := ymi_l (ymi y m + s * M)
  obtain ⟨a2, b2, c2⟩ := ymi_l (ymi y m + s * (M + 1))
  have hin := cD_in (y := lY (ymi y m + s * M)) (d := d) b c h0.2.2.1
  have hle := cD_le (lY (ymi y m + s * M)) (lM (ymi y m + s * M)) d
  have hml := mlen_ge (y := lY (ymi y m + s * M)) b c
  have hnx := mlen_ge (y := lY (ymi y m + s * (M + 1))) b2 c2
  have hr : cD (lY (ymi y m + s * M)) (lM (ymi y m + s * M)) d = d ∨ cD (lY (ymi y m + s * M)) (lM (ymi y m + s * M)) d = mlen (lY (ymi y m + s * M)) (lM (ymi y m + s * M)) ∧ mlen (lY (ymi y m + s * M)) (lM (ymi y m + s * M)) < d := by unfold cD; split <;> omega
  have d31 : d ≤ 31 := by have := (mlen_ge (y := y) h0.1 h0.2.1).2; have := h0.2.2.2; omega
  have d31' : d' ≤ 31 := by have := (mlen_ge (y := y') k0.1 k0.2.1).2; have := k0.2.2.2; omega
  -- where b's month lies
  rcases hs with rfl | rfl
  · rw [ne_eq, cmp3_p b c k0.1 k0.2.1, a] at q
    rw [ne_eq, Classical.not_not, cmp3_p b2 c2 k0.1 k0.2.1, a2] at r
    have up := dnum_le hin k0 (by rw [a]; omega)
    have lo : dnum y m d ≤ dnum (lY (ymi y m + 1 * M)) (lM (ymi y m + 1 * M)) (cD (lY (ymi y m + 1 * M)) (lM (ymi y m + 1 * M)) d) := by
      refine dnum_le h0 hin ?_
      rw [a]
      by_cases z : M = 0
      · subst z
        right
        refine ⟨by omega, ?_⟩
        have e0 : ymi y m + 1 * 0 = ymi y m := by omega
        rw [e0, (l_ymi h0.1 h0.2.1).1, (l_ymi h0.1 h0.2.1).2]
        unfold cD; have := h0.2.2.2; split <;> omega
      · left; omega
    refine ⟨⟨hin, by omega, by omega⟩, by omega, ?_⟩
    by_cases z : ymi y' m' = ymi y m + 1 * M
    · obtain ⟨e1, e2⟩ := ymi_inj k0.1 k0.2.1 b c (z.trans a.symm)
      rw [← e1, ← e2] at hr hml hin ⊢
      unfold dnum
      have := hin.2.2.1; have := k0.2.2.1
      have := k0.2.2.2
      omega
    · have z2 : ymi y' m' = ymi y m + 1 * (M + 1) := by omega
      have hd' : d' < d := by omega
      have st : dnum y' m' 1 = dnum (lY (ymi y m + 1 * M)) (lM (ymi y m + 1 * M)) (mlen (lY (ymi y m + 1 * M)) (lM (ymi y m + 1 * M))) + 1 := by
        obtain ⟨e1, e2⟩ := ymi_inj k0.1 k0.2.1 b2 c2 (z2.trans a2.symm)
        generalize lY (ymi y m + 1 * M) = Y at *
        generalize lM (ymi y m + 1 * M) = N at *
        have ea : ymi y' m' = ymi Y N + 1 := by omega
        by_cases n12 : N = 12
        · have : y' = Y + 1 ∧ m' = 1 := by unfold ymi at ea; omega
          obtain ⟨rfl, rfl⟩ := this
          subst n12
          have j := jan_succ Y
          have m13 := mst_succ (y := Y) (m := 12) (by omega) (by omega)
          rw [show (12 : Int) + 1 = 13 by rfl, mst_end] at m13
          unfold dnum; rw [j, mst_one]; omega
        · have : y' = Y ∧ m' = N + 1 := by unfold ymi at ea; omega
          obtain ⟨rfl, rfl⟩ := this
          have ms := mst_succ (y := y') b c
          unfold dnum; omega
      have f1 : dnum y' m' d' = dnum y' m' 1 + (d' - 1) := by unfold dnum; omega
      have f2 : ∀ Y N x : Int, dnum Y N (mlen Y N) = dnum Y N x + (mlen Y N - x) := fun Y N x => by unfold dnum; omega
      rw [f1, st, f2 _ _ (cD (lY (ymi y m + 1 * M)) (lM (ymi y m + 1 * M)) d)]
      omega
  · rw [ne_eq, cmp3_n b c k0.1 k0.2.1, a] at q
    rw [ne_eq, Classical.not_not, cmp3_n b2 c2 k0.1 k0.2.1, a2] at r
    have hi : dnum (lY (ymi y m + -1 * M)) (lM (ymi y m + -1 * M)) (cD (lY (ymi y m + -1 * M)) (lM (ymi y m + -1 * M)) d) ≤ dnum y m d := by
      refine dnum_le hin h0 ?_
      rw [a]
      by_cases z : M = 0
      · subst z; right; omega
      · left; omega
    have lo : dnum y' m' d' ≤ dnum (lY (ymi y m + -1 * M)) (lM (ymi y m + -1 * M)) (cD (lY (ymi y m + -1 * M)) (lM (ymi y m + -1 * M)) d) := by
      by_cases z : ymi y' m' = ymi y m + -1 * M
      · obtain ⟨e1, e2⟩ := ymi_inj k0.1 k0.2.1 b c (z.trans a.symm)
        refine dnum_le k0 hin (.inr ⟨by rw [a]; exact z, ?_⟩)
        have := k0.2.2.2
        rw [← e1, ← e2] at hr ⊢
        omega
      · refine dnum_le k0 hin (.inl ?_)
        rw [a]; omega
    refine ⟨⟨hin, by omega, by omega⟩, by omega, ?_⟩
    by_cases z : ymi y' m' = ymi y m + -1 * M
    · obtain ⟨e1, e2⟩ := ymi_inj k0.1 k0.2.1 b c (z.trans a.symm)
      rw [← e1, ← e2] at hr hml hin ⊢
      unfold dnum
      have := hin.2.2.1; have := k0.2.2.1
      omega
    · have z2 : ymi y' m' = ymi y m + -1 * (M + 1) := by omega
      have hd' : d < d' := by omega
      have st : dnum (lY (ymi y m + -1 * M)) (lM (ymi y m + -1 * M)) 1 = dnum y' m' (mlen y' m') + 1 := by
        generalize lY (ymi y m + -1 * M) = Y at *
        generalize lM (ymi y m + -1 * M) = N at *
        have ea : ymi Y N = ymi y' m' + 1 := by omega
        have q1 := k0.1
        have q2 := k0.2.1
        by_cases n12 : m' = 12
        · have : Y = y' + 1 ∧ N = 1 := by unfold ymi at ea; omega
          obtain ⟨rfl, rfl⟩ := this
          subst n12
          have j := jan_succ y'
          have m13 := mst_succ (y := y') (m := 12) (by omega) (by omega)
          rw [show (12 : Int) + 1 = 13 by rfl, mst_end] at m13
          unfold dnum; rw [j, mst_one]; omega
        · have : Y = y' ∧ N = m' + 1 := by unfold ymi at ea; omega
          obtain ⟨rfl, rfl⟩ := this
          have ms := mst_succ (y := Y) q1 q2
          unfold dnum; omega
      have f1 : ∀ x : Int, dnum (lY (ymi y m + -1 * M)) (lM (ymi y m + -1 * M)) x = dnum (lY (ymi y m + -1 * M)) (lM (ymi y m + -1 * M)) 1 + (x - 1) := fun x => by unfold dnum; omega
      have f2 : dnum y' m' (mlen y' m') = dnum y' m' d' + (mlen y' m' - d') := by unfold dnum; omega
      have hb := mlen_ge (y := y') k0.1 k0.2.1
      rw [f1, st, f2]
      omega
end
end Go.Proofs.YthoedmikfpbfnaaGreat
end
section
/-
  Durations: totals, signs, what may be, and how a total is laid out; no program in sight.
-/
set_option linter.unusedVariables false
namespace Go.Proofs.YthoedmikfpbfnaaGreat

abbrev LIM : Int := 9007199254740992000000000
def dtot (d h mi s n : Int) : Int := d * 86400000000000 + h * 3600000000000 + mi * 60000000000 + s * 1000000000 + n
/-- The sign of the first field that isn't 0. -/
def sg8 (a b c d h mi s n : Int) : Int := if a ≠ 0 then cmpI a 0 else if b ≠ 0 then cmpI b 0 else if c ≠ 0 then cmpI c 0 else if d ≠ 0 then cmpI d 0 else if h ≠ 0 then cmpI h 0 else if mi ≠ 0 then cmpI mi 0 else if s ≠ 0 then cmpI s 0 else cmpI n 0
def pos8 (a b c d h mi s n : Int) : Prop := 0 ≤ a ∧ 0 ≤ b ∧ 0 ≤ c ∧ 0 ≤ d ∧ 0 ≤ h ∧ 0 ≤ mi ∧ 0 ≤ s ∧ 0 ≤ n
def neg8 (a b c d h mi s n : Int) : Prop := a ≤ 0 ∧ b ≤ 0 ∧ c ≤ 0 ∧ d ≤ 0 ∧ h ≤ 0 ∧ mi ≤ 0 ∧ s ≤ 0 ∧ n ≤ 0
instance (a b c d h mi s n : Int) : Decidable (pos8 a b c d h mi s n) := by unfold pos8; infer_instance
instance (a b c d h mi s n : Int) : Decidable (neg8 a b c d h mi s n) := by unfold neg8; infer_instance
def cnt1 (a : Int) : Prop := -4294967295 ≤ a ∧ a ≤ 4294967295
instance (a : Int) : Decidable (cnt1 a) := by unfold cnt1; infer_instance
/-- A duration that may be. -/
def uOk (a b c d h mi s n : Int) : Prop := (pos8 a b c d h mi s n ∨ neg8 a b c d h mi s n) ∧ (cnt1 a ∧ cnt1 b ∧ cnt1 c) ∧ -LIM < dtot d h mi s n ∧ dtot d h mi s n < LIM
instance (a b c d h mi s n : Int) : Decidable (uOk a b c d h mi s n) := by unfold uOk; infer_instance
/-- One without years, months, weeks. -/
def uEx (a b c d h mi s n : Int) : Prop := uOk a b c d h mi s n ∧ a = 0 ∧ b = 0 ∧ c = 0
instance (a b c d h mi s n : Int) : Decidable (uEx a b c d h mi s n) := by unfold uEx; infer_instance
/-- A unit's length. -/
def ulen (u : Int) : Int := if u = 4 then 86400000000000 else if u = 5 then 3600000000000 else if u = 6 then 60000000000 else if u = 7 then 1000000000 else if u = 8 then 1 else 0
theorem ulen_no {u : Int} (h : u < 4 ∨ 8 < u) : ulen u = 0 := by unfold ulen; split <;> (try split) <;> (try split) <;> (try split) <;> (try split) <;> omega
theorem ulen_pos {u : Int} (h : 4 ≤ u) (k : u ≤ 8) : 1 ≤ ulen u ∧ ulen u ≤ 86400000000000 := by unfold ulen; split <;> (try split) <;> (try split) <;> (try split) <;> (try split) <;> omega
/-- The fields of a total x that is laid out from the unit u on. -/
def l4 (u x : Int) : Int := if u = 4 then x.tdiv 86400000000000 else 0
def l5 (u x : Int) : Int := if u = 4 then (x.tmod 86400000000000).tdiv 3600000000000 else if u = 5 then x.tdiv 3600000000000 else 0
def l6 (u x : Int) : Int := if u ≤ 5 then (x.tmod 3600000000000).tdiv 60000000000 else if u = 6 then x.tdiv 60000000000 else 0
def l7 (u x : Int) : Int := if u ≤ 6 then (x.tmod 60000000000).tdiv 1000000000 else if u = 7 then x.tdiv 1000000000 else 0
def l8 (u x : Int) : Int := if u ≤ 7 then x.tmod 1000000000 else x
theorem td (x L : Int) (hL : 0 < L) : x.tdiv L * L + x.tmod L = x ∧ (0 ≤ x → 0 ≤ x.tdiv L ∧ 0 ≤ x.tmod L ∧ x.tmod L < L) ∧ (x ≤ 0 → x.tdiv L ≤ 0 ∧ x.tmod L ≤ 0 ∧ -L < x.tmod L) := by
  have a := Int.tdiv_mul_add_tmod x L
  refine ⟨a, fun h => ⟨Int.tdiv_nonneg h (by omega), Int.tmod_nonneg L h, Int.tmod_lt_of_pos x hL⟩, fun h => ?_⟩
  have b := Int.tdiv_nonneg (a := -x) (b := L) (by omega) (by omega)
  have c := Int.tmod_nonneg (a := -x) L (by omega)
  have d := Int.tmod_lt_of_pos (-x) hL
  rw [Int.neg_tdiv] at b
  rw [Int.neg_tmod] at c d
  omega
/-- What is laid out has its total; its fields have one sign and aren't too great. -/
theorem lay_tot {u x : Int} (h : 4 ≤ u) (k : u ≤ 8) : dtot (l4 u x) (l5 u x) (l6 u x) (l7 u x) (l8 u x) = x ∧
    (0 ≤ x → pos8 0 0 0 (l4 u x) (l5 u x) (l6 u x) (l7 u x) (l8 u x)) ∧ (x ≤ 0 → neg8 0 0 0 (l4 u x) (l5 u x) (l6 u x) (l7 u x) (l8 u x)) := by
  obtain ⟨e1, e1p, e1n⟩ := td x 86400000000000 (by omega)
  obtain ⟨e2, e2p, e2n⟩ := td x 3600000000000 (by omega)
  obtain ⟨e3, e3p, e3n⟩ := td x 60000000000 (by omega)
  obtain ⟨e4, e4p, e4n⟩ := td x 1000000000 (by omega)
  obtain ⟨f2, f2p, f2n⟩ := td (x.tmod 86400000000000) 3600000000000 (by omega)
  obtain ⟨f3, f3p, f3n⟩ := td (x.tmod 3600000000000) 60000000000 (by omega)
  obtain ⟨f4, f4p, f4n⟩ := td (x.tmod 60000000000) 1000000000 (by omega)
  rw [Int.tmod_tmod_of_dvd x (by decide)] at f2 f3 f4
  have hu : u = 4 ∨ u = 5 ∨ u = 6 ∨ u = 7 ∨ u = 8 := by omega
  refine ⟨?_, fun hx => ?_, fun hx => ?_⟩
  · clear e1p e1n e2p e2n e3p e3n e4p e4n f2p f2n f3p f3n f4p f4n
    unfold dtot l4 l5 l6 l7 l8
    rcases hu with rfl | rfl | rfl | rfl | rfl <;> simp only [Int.reduceEq, Int.reduceLE, if_true, if_false] <;> omega
  · have p1 := e1p hx; have p2 := e2p hx; have p3 := e3p hx; have p4 := e4p hx
    have q2 := f2p p1.2.1; have q3 := f3p p2.2.1; have q4 := f4p p3.2.1
    unfold pos8 l4 l5 l6 l7 l8
    rcases hu with rfl | rfl | rfl | rfl | rfl <;> simp only [Int.reduceEq, Int.reduceLE, if_true, if_false] <;> refine ⟨trivial, trivial, trivial, ?_, ?_, ?_, ?_, ?_⟩ <;> first | trivial | omega
  · have p1 := e1n hx; have p2 := e2n hx; have p3 := e3n hx; have p4 := e4n hx
    have q2 := f2n p1.2.1; have q3 := f3n p2.2.1; have q4 := f4n p3.2.1
    unfold neg8 l4 l5 l6 l7 l8
    rcases hu with rfl | rfl | rfl | rfl | rfl <;> simp only [Int.reduceEq, Int.reduceLE, if_true, if_false] <;> refine ⟨trivial, trivial, trivial, ?_, ?_, ?_, ?_, ?_⟩ <;> first | trivial | omega
/-- It may be, where its total may be, and its first field has room. -/
def layOk (u x : Int) : Prop := (4 ≤ u ∧ u ≤ 8) ∧ (-LIM < x ∧ x < LIM) ∧ (-9223372036854775808 ≤ x.tdiv (ulen u) ∧ x.tdiv (ulen u) ≤ 9223372036854775807)
instance (u x : Int) : Decidable (layOk u x) := by unfold layOk; infer_instance
theorem lay_ok {u x : Int} (k : layOk u x) : uEx 0 0 0 (l4 u x) (l5 u x) (l6 u x) (l7 u x) (l8 u x) := by
  obtain ⟨⟨k1, k2⟩, ⟨k3, k4⟩, k5⟩ := k
  obtain ⟨a, b, c⟩ := lay_tot (x := x) k1 k2
  refine ⟨⟨?_, ⟨by unfold cnt1; omega, by unfold cnt1; omega, by unfold cnt1; omega⟩, by rw [a]; exact ⟨k3, k4⟩⟩, rfl, rfl, rfl⟩
  by_cases h : 0 ≤ x
  · exact .inl (b h)
  · exact .inr (c (by omega))
theorem td2 (x A B k : Int) (hA : A = k * B) (hB : 0 < B) (hk : 0 < k) : -k < (x.tmod A).tdiv B ∧ (x.tmod A).tdiv B < k := by
  have a0 : 0 < A := by rw [hA]; exact Int.mul_pos hk hB
  obtain ⟨e1, e2, e3⟩ := td x A a0
  obtain ⟨f1, f2, f3⟩ := td (x.tmod A) B hB
  have key : ∀ q : Int, q * B < k * B → q < k := fun q h => Int.lt_of_mul_lt_mul_right h (by omega)
  by_cases h : 0 ≤ x
  · have := e2 h
    have := f2 this.2.1
    have := key ((x.tmod A).tdiv B) (by omega)
    omega
  · have := e3 (by omega)
    have := f3 this.2.1
    have := key (-((x.tmod A).tdiv B)) (by rw [Int.neg_mul]; omega)
    omega
/-- An increment of a unit. -/
def incOk (u i : Int) : Prop := 1 ≤ i ∧ (u = 4 ∧ i ≤ 1000000000 ∨ u = 5 ∧ i < 24 ∧ Int.tmod 24 i = 0 ∨ (u = 6 ∨ u = 7) ∧ i < 60 ∧ Int.tmod 60 i = 0 ∨ u = 8 ∧ i < 1000000000 ∧ Int.tmod 1000000000 i = 0)
instance (u i : Int) : Decidable (incOk u i) := by unfold incOk; infer_instance
end Go.Proofs.YthoedmikfpbfnaaGreat
end
section
/-
  What lies between two days, and between two date-times; no program in sight.
-/
set_option linter.unusedVariables false
namespace Go.Proofs.YthoedmikfpbfnaaGreat

section
variable (L y m d y' m' d' : Int)
def uS : Int := cmp3 y' m' d' y m d
def uMM : Int := mM (uS y m d y' m' d') y m d y' m' d'
def uY : Int := if L = 1 then uS y m d y' m' d' * (uMM y m d y' m' d' / 12) else 0
def uMo : Int := if L = 1 then uS y m d y' m' d' * (uMM y m d y' m' d' % 12) else if L = 2 then uS y m d y' m' d' * uMM y m d y' m' d' else 0
def uW : Int := if L = 3 then (dnum y' m' d' - dnum y m d).tdiv 7 else 0
def uD : Int := if L = 3 then (dnum y' m' d' - dnum y m d).tmod 7 else if L = 4 then dnum y' m' d' - dnum y m d else fL (uS y m d y' m' d') y m d y' m' d'
end
section
variable {y m d y' m' d' : Int}
theorem uS_tri : uS y m d y' m' d' = -1 ∧ dnum y' m' d' < dnum y m d ∨ uS y m d y' m' d' = 0 ∧ y' = y ∧ m' = m ∧ d' = d ∨ uS y m d y' m' d' = 1 ∧ dnum y m d < dnum y' m' d' ∨ ¬ (dIn y m d ∧ dIn y' m' d') := by
  by_cases h : dIn y m d ∧ dIn y' m' d'
  · rcases cmp3_tri y' m' d' y m d with k | k | k
    · refine .inl ⟨k, ?_⟩
      rw [cmp3_num h.2 h.1] at k; exact cmpI_n.1 k
    · exact .inr (.inl ⟨k, cmp3_0.1 k⟩)
    · refine .inr (.inr (.inl ⟨k, ?_⟩))
      rw [cmp3_num h.2 h.1] at k; exact cmpI_p.1 k
  · exact .inr (.inr (.inr h))
theorem uS_num (h : dIn y m d) (h' : dIn y' m' d') : uS y m d y' m' d' = cmpI (dnum y' m' d') (dnum y m d) := cmp3_num h' h
theorem mM_same (h : dIn y m d) : mM 0 y m d y m d = 0 := by unfold mM; rw [if_neg (by omega), if_neg (by omega)]; omega
theorem cD_same (h : dIn y m d) : cD y m d = d := by unfold cD; rw [if_neg (by have := h.2.2.2; omega)]
theorem fL_same (h : dIn y m d) : fL 0 y m d y m d = 0 := by
  unfold fL fD' fY' fM'
  rw [mM_same h, show ymi y m + 0 * 0 = ymi y m by omega, (l_ymi h.1 h.2.1).1, (l_ymi h.1 h.2.1).2, cD_same h]; omega
/-- Where the whole years and months lead, and what is left: put together again it is the second day. -/
theorem until_back {L : Int} (h : dOk y m d) (h' : dOk y' m' d') (hL : 1 ≤ L) (hL' : L ≤ 4) :
    dOk (lY (ymi y m + (12 * uY L y m d y' m' d' + uMo L y m d y' m' d'))) (lM (ymi y m + (12 * uY L y m d y' m' d' + uMo L y m d y' m' d'))) (cD (lY (ymi y m + (12 * uY L y m d y' m' d' + uMo L y m d y' m' d'))) (lM (ymi y m + (12 * uY L y m d y' m' d' + uMo L y m d y' m' d'))) d) ∧
    dnum (lY (ymi y m + (12 * uY L y m d y' m' d' + uMo L y m d y' m' d'))) (lM (ymi y m + (12 * uY L y m d y' m' d' + uMo L y m d y' m' d'))) (cD (lY (ymi y m + (12 * uY L y m d y' m' d' + uMo L y m d y' m' d'))) (lM (ymi y m + (12 * uY L y m d y' m' d' + uMo L y m d y' m' d'))) d) + (uD L y m d y' m' d' + 7 * uW L y m d y' m' d') = dnum y' m' d' := by
  by_cases k3 : L ≤ 2
  · have e : 12 * uY L y m d y' m' d' + uMo L y m d y' m' d' = uS y m d y' m' d' * uMM y m d y' m' d' := by
      unfold uY uMo
      by_cases k : L = 1
      · rw [if_pos k, if_pos k]
        have := Int.mul_ediv_add_emod (uMM y m d y' m' d') 12
        rw [← Int.mul_assoc, Int.mul_comm 12, Int.mul_assoc, ← Int.mul_add, this]
      · rw [if_neg k, if_neg k, if_pos (by omega)]; omega
    rw [e]
    have e2 : uD L y m d y' m' d' = fL (uS y m d y' m' d') y m d y' m' d' := by unfold uD; rw [if_neg (by omega), if_neg (by omega)]
    have e3 : uW L y m d y' m' d' = 0 := by unfold uW; rw [if_neg (by omega)]
    rw [e2, e3]
    rcases uS_tri (y := y) (m := m) (d := d) (y' := y') (m' := m') (d' := d') with ⟨k, -⟩ | ⟨k, rfl, rfl, rfl⟩ | ⟨k, -⟩ | k
    · have f := (from_ok h h' (s := -1) (by omega) k).1
      unfold uMM
      rw [k]
      exact ⟨f, by unfold fL fD' fY' fM'; omega⟩
    · rw [k, show ymi y' m' + 0 * uMM y' m' d' y' m' d' = ymi y' m' by omega, (l_ymi h.1.1 h.1.2.1).1, (l_ymi h.1.1 h.1.2.1).2, cD_same h.1, fL_same h.1]
      exact ⟨h, by omega⟩
    · have f := (from_ok h h' (s := 1) (by omega) k).1
      unfold uMM
      rw [k]
      exact ⟨f, by unfold fL fD' fY' fM'; omega⟩
    · exact absurd ⟨h.1, h'.1⟩ k
  · have e : 12 * uY L y m d y' m' d' + uMo L y m d y' m' d' = 0 := by
      unfold uY uMo; rw [if_neg (by omega), if_neg (by omega), if_neg (by omega)]; omega
    rw [e, show ymi y m + 0 = ymi y m by omega, (l_ymi h.1.1 h.1.2.1).1, (l_ymi h.1.1 h.1.2.1).2, cD_same h.1]
    refine ⟨h, ?_⟩
    have t := (td (dnum y' m' d' - dnum y m d) 7 (by omega)).1
    unfold uD uW
    by_cases k : L = 3
    · rw [if_pos k, if_pos k]; omega
    · rw [if_neg k, if_pos (by omega), if_neg k]; omega
/-- All that lies between two days has one sign, and isn't too great. -/
theorem until_sign {L : Int} (h : dOk y m d) (h' : dOk y' m' d') (hL : 1 ≤ L) (hL' : L ≤ 4) (s : Int) (e : uS y m d y' m' d' = s) :
    0 ≤ s * uY L y m d y' m' d' ∧ 0 ≤ s * uMo L y m d y' m' d' ∧ 0 ≤ s * uW L y m d y' m' d' ∧ 0 ≤ s * uD L y m d y' m' d' ∧
    s * uY L y m d y' m' d' ≤ 600000 ∧ s * uMo L y m d y' m' d' ≤ 7200000 ∧ s * uW L y m d y' m' d' ≤ 200000001 ∧ s * uD L y m d y' m' d' ≤ 200000001 ∧
    (s = 0 → uY L y m d y' m' d' = 0 ∧ uMo L y m d y' m' d' = 0 ∧ uW L y m d y' m' d' = 0 ∧ uD L y m d y' m' d' = 0) ∧
    (L = 1 → s * uMo L y m d y' m' d' < 12) ∧ (L ≤ 2 → s * uD L y m d y' m' d' < 31) ∧ (L = 3 → s * uD L y m d y' m' d' < 7) := by
  have yy := dOk_year h
  have yy' := dOk_year h'
  have t := td (dnum y' m' d' - dnum y m d) 7 (by omega)
  rcases uS_tri (y := y) (m := m) (d := d) (y' := y') (m' := m') (d' := d') with ⟨k, lt⟩ | ⟨k, rfl, rfl, rfl⟩ | ⟨k, lt⟩ | k
  · obtain rfl : s = -1 := by omega
    obtain ⟨f1, f2, f3⟩ := from_ok h h' (s := -1) (by omega) k
    have p := mM_pos h.1.1 h.1.2.1 h'.1.1 h'.1.2.1 (s := -1) (by omega) k
    have q := mM_le (y := y) (y' := y') (d := d) (d' := d') h.1.1 h.1.2.1 h'.1.1 h'.1.2.1 (s := -1) (.inr rfl)
    rw [if_neg (by omega)] at q
    have t2 := t.2.2 (by omega)
    have h2 := h.2; have h2' := h'.2
    unfold uY uMo uW uD uMM
    rw [k]
    generalize mM (-1) y m d y' m' d' = M at *
    generalize fL (-1) y m d y' m' d' = F at *
    have hLL : L = 1 ∨ L = 2 ∨ L = 3 ∨ L = 4 := by omega
    rcases hLL with rfl | rfl | rfl | rfl <;> simp only [Int.reduceEq, if_true, if_false] <;> refine ⟨by omega, by omega, by omega, by omega, by omega, by omega, by omega, by omega, fun z => by first | exact z.elim | omega, fun z => by first | exact z.elim | omega, fun z => by first | exact z.elim | omega, fun z => by first | exact z.elim | omega⟩
  · obtain rfl : s = 0 := by omega
    have a1 := mM_same h.1
    have a2 := fL_same h.1
    unfold uY uMo uW uD uMM
    rw [k, a1, a2]
    have hLL : L = 1 ∨ L = 2 ∨ L = 3 ∨ L = 4 := by omega
    rcases hLL with rfl | rfl | rfl | rfl <;> simp
  · obtain rfl : s = 1 := by omega
    obtain ⟨f1, f2, f3⟩ := from_ok h h' (s := 1) (by omega) k
    have p := mM_pos h.1.1 h.1.2.1 h'.1.1 h'.1.2.1 (s := 1) (by omega) k
    have q := mM_le (y := y) (y' := y') (d := d) (d' := d') h.1.1 h.1.2.1 h'.1.1 h'.1.2.1 (s := 1) (.inl rfl)
    rw [if_pos rfl] at q
    have t2 := t.2.1 (by omega)
    have h2 := h.2; have h2' := h'.2
    unfold uY uMo uW uD uMM
    rw [k]
    generalize mM 1 y m d y' m' d' = M at *
    generalize fL 1 y m d y' m' d' = F at *
    have hLL : L = 1 ∨ L = 2 ∨ L = 3 ∨ L = 4 := by omega
    rcases hLL with rfl | rfl | rfl | rfl <;> simp only [Int.reduceEq, if_true, if_false] <;> refine ⟨by omega, by omega, by omega, by omega, by omega, by omega, by omega, by omega, fun z => by first | exact z.elim | omega, fun z => by first | exact z.elim | omega, fun z => by first | exact z.elim | omega, fun z => by first | exact z.elim | omega⟩
  · exact absurd ⟨h.1, h'.1⟩ k
end
end Go.Proofs.YthoedmikfpbfnaaGreat
end
section
/-
  What lies between two date-times; no program in sight.
-/
set_option linter.unusedVariables false
namespace Go.Proofs.YthoedmikfpbfnaaGreat

section
variable (y mo d h m s n y' mo' d' h' m' s' n' : Int)
/-- A day more, where the times stand against the days. -/
def bX : Int := if (tnan h' m' s' n' - tnan h m s n) * uS y mo d y' mo' d' < 0 then uS y mo d y' mo' d' else 0
/-- The day that is gone to, and the time that is left. -/
def bD : Int := dnum y' mo' d' - bX y mo d h m s n y' mo' d' h' m' s' n'
def bZ : Int := tnan h' m' s' n' - tnan h m s n + bX y mo d h m s n y' mo' d' h' m' s' n' * 86400000000000
end
section
variable {y mo d h m s n y' mo' d' h' m' s' n' : Int}
theorem bt_in (k : pOk y mo d h m s n) (k' : pOk y' mo' d' h' m' s' n') :
    (-100000001 ≤ bD y mo d h m s n y' mo' d' h' m' s' n' ∧ bD y mo d h m s n y' mo' d' h' m' s' n' ≤ 100000000) ∧
    (-86400000000000 < bZ y mo d h m s n y' mo' d' h' m' s' n' ∧ bZ y mo d h m s n y' mo' d' h' m' s' n' < 86400000000000) ∧
    pnum y' mo' d' h' m' s' n' - pnum y mo d h m s n = (bD y mo d h m s n y' mo' d' h' m' s' n' - dnum y mo d) * 86400000000000 + bZ y mo d h m s n y' mo' d' h' m' s' n' ∧
    (uS y mo d y' mo' d' = 1 ∧ dnum y mo d ≤ bD y mo d h m s n y' mo' d' h' m' s' n' ∧ 0 ≤ bZ y mo d h m s n y' mo' d' h' m' s' n' ∨
     uS y mo d y' mo' d' = -1 ∧ bD y mo d h m s n y' mo' d' h' m' s' n' ≤ dnum y mo d ∧ bZ y mo d h m s n y' mo' d' h' m' s' n' ≤ 0 ∨
     uS y mo d y' mo' d' = 0 ∧ bX y mo d h m s n y' mo' d' h' m' s' n' = 0 ∧ bD y mo d h m s n y' mo' d' h' m' s' n' = dnum y mo d) ∧
    (bX y mo d h m s n y' mo' d' h' m' s' n' = 0 ∨ bX y mo d h m s n y' mo' d' h' m' s' n' = 1 ∨ bX y mo d h m s n y' mo' d' h' m' s' n' = -1) := by
  have t := tnan_bd k.2.1
  have t' := tnan_bd k'.2.1
  have d1 := k.1.2
  have d2 := k'.1.2
  unfold bD bZ bX pnum
  rcases uS_tri (y := y) (m := mo) (d := d) (y' := y') (m' := mo') (d' := d') with ⟨e, lt⟩ | ⟨e, rfl, rfl, rfl⟩ | ⟨e, lt⟩ | e
  · rw [e]
    split <;> refine ⟨by omega, by omega, by omega, .inr (.inl ⟨rfl, by omega, by omega⟩), by omega⟩
  · rw [e, if_neg (by omega)]
    refine ⟨by omega, by omega, by omega, .inr (.inr ⟨rfl, rfl, by omega⟩), by omega⟩
  · rw [e]
    split <;> refine ⟨by omega, by omega, by omega, .inl ⟨rfl, by omega, by omega⟩, by omega⟩
  · exact absurd ⟨k.1.1, k'.1.1⟩ e
/-- The day that is gone to may be. -/
theorem bt_date (k : pOk y mo d h m s n) (k' : pOk y' mo' d' h' m' s' n') : dOk (dY (bD y mo d h m s n y' mo' d' h' m' s' n')) (dM (bD y mo d h m s n y' mo' d' h' m' s' n')) (dD (bD y mo d h m s n y' mo' d' h' m' s' n')) ∧
    dnum (dY (bD y mo d h m s n y' mo' d' h' m' s' n')) (dM (bD y mo d h m s n y' mo' d' h' m' s' n')) (dD (bD y mo d h m s n y' mo' d' h' m' s' n')) = bD y mo d h m s n y' mo' d' h' m' s' n' := by
  have a := (bt_in k k').1
  have b := date_ok (bD y mo d h m s n y' mo' d' h' m' s' n')
  exact ⟨⟨b.1, by rw [b.2]; exact a⟩, b.2⟩
end
end Go.Proofs.YthoedmikfpbfnaaGreat
end
section
/-
  Months put to a day, and how many fit: the program's search.
-/
set_option linter.unusedVariables false
set_option linter.unusedSimpArgs false
set_option maxRecDepth 100000
namespace Go.Proofs.YthoedmikfpbfnaaGreat
open Go Go.RowKit Go.Ev

section
variable (y m d k T : Int)
theorem clater (hT : y * 12 + (m - 1) + k = T) (y0 : -10000000 ≤ y) (y1 : y ≤ 10000000) (m1 : 1 ≤ m) (m2 : m ≤ 12) (k0 : -1000000000000 ≤ k) (k1 : k ≤ 1000000000000) : Fn 124 [] [dv y m d, .int .i64 k] (dv (lY T) (lM T) d) := by
  have hb : -10000000000000 ≤ T ∧ T ≤ 10000000000000 := by omega
  by_cases h : 0 ≤ T
  · have e1 : T.tdiv 12 = T / 12 := tdiv_nn h
    have e2 : T.tmod 12 = T % 12 := tmod_nn h
    refine fn_of Tryz.func124 rfl fun ww => ?_
    refine st_i 10 .i64 (x' := y * 12) (Go.IntWalk.i64_in _ (by omega)) (by kernel_rfl) ?_
    refine st_i 13 .i64 (x' := m - 1) (Go.IntWalk.i64_in _ (by omega)) (by kernel_rfl) ?_
    refine st_i 14 .i64 (x' := y * 12 + (m - 1)) (Go.IntWalk.i64_in _ (by omega)) (by kernel_rfl) ?_
    refine st_i 16 IntKind.i64 (x := IntKind.i64.wrap (y * 12 + (m - 1) + k)) ((Go.IntWalk.i64_in (y * 12 + (m - 1) + k) (by omega)).trans (hT)) (by kernel_rfl) ?_
    refine st_i 18 .i64 (x' := T.tdiv 12) (Go.IntWalk.i64_in _ (by omega)) (by kernel_rfl) ?_
    refine st_b 22 (show (decide (T.tmod 12 < 0)) = false by exact decide_eq_false (by omega)) (by kernel_rfl) ?_
    refine st_i 29 .i64 (x' := T.tmod 12 + 1) (Go.IntWalk.i64_in _ (by omega)) (by kernel_rfl) ?_
    exact st_retv Tryz.func124 (show Value.agg #[vI64 (T.tdiv 12), vI64 (T.tmod 12 + 1), vI64 d] = _ by (refine d_eq ?_ ?_ rfl <;> simp only [lY, lM] <;> omega)) (by kernel_rfl)
  · have e1 : T.tdiv 12 = -((-T) / 12) := tdiv_lit (by omega)
    have e2 : T.tmod 12 = -((-T) % 12) := tmod_lit (by omega)
    refine fn_of Tryz.func124 rfl fun ww => ?_
    refine st_i 10 .i64 (x' := y * 12) (Go.IntWalk.i64_in _ (by omega)) (by kernel_rfl) ?_
    refine st_i 13 .i64 (x' := m - 1) (Go.IntWalk.i64_in _ (by omega)) (by kernel_rfl) ?_
    refine st_i 14 .i64 (x' := y * 12 + (m - 1)) (Go.IntWalk.i64_in _ (by omega)) (by kernel_rfl) ?_
    refine st_i 16 IntKind.i64 (x := IntKind.i64.wrap (y * 12 + (m - 1) + k)) ((Go.IntWalk.i64_in (y * 12 + (m - 1) + k) (by omega)).trans (hT)) (by kernel_rfl) ?_
    refine st_i 18 .i64 (x' := T.tdiv 12) (Go.IntWalk.i64_in _ (by omega)) (by kernel_rfl) ?_
    by_cases k22 : T.tmod 12 < 0
    · refine st_b 22 (decide_eq_true k22) (by kernel_rfl) ?_
      refine st_i 24 .i64 (x' := T.tdiv 12 - 1) (Go.IntWalk.i64_in _ (by omega)) (by kernel_rfl) ?_
      refine st_i 26 .i64 (x' := T.tmod 12 + 12) (Go.IntWalk.i64_in _ (by omega)) (by kernel_rfl) ?_
      refine st_i 29 .i64 (x' := T.tmod 12 + 12 + 1) (Go.IntWalk.i64_in _ (by omega)) (by kernel_rfl) ?_
      exact st_retv Tryz.func124 (show Value.agg #[vI64 (T.tdiv 12 - 1), vI64 (T.tmod 12 + 12 + 1), vI64 d] = _ by (refine d_eq ?_ ?_ rfl <;> simp only [lY, lM] <;> omega)) (by kernel_rfl)
    · refine st_b 22 (decide_eq_false k22) (by kernel_rfl) ?_
      refine st_i 29 .i64 (x' := T.tmod 12 + 1) (Go.IntWalk.i64_in _ (by omega)) (by kernel_rfl) ?_
      exact st_retv Tryz.func124 (show Value.agg #[vI64 (T.tdiv 12), vI64 (T.tmod 12 + 1), vI64 d] = _ by (refine d_eq ?_ ?_ rfl <;> simp only [lY, lM] <;> omega)) (by kernel_rfl)
end
abbrev dC (y m d : Int) : List SV := [.val (.int .i64 y), .val (.int .i64 m), .val (.int .i64 d)]
/-- What the inner functions of Until find in the memory. -/
abbrev bkF (i : Nat) : Bk := ⟨[.clo 141 [.ptr i 0, .ptr (i + 1) 0, .ptr (i + 2) 0]], 183⟩
abbrev bkU (s y m d y' m' d' : Int) : List Bk := [⟨dC y m d, 23⟩, ⟨[.val (.int .i64 s)], 2⟩, ⟨dC y' m' d', 23⟩]
abbrev bkX (Y : Int) : Bk := ⟨[.val (.int .i64 Y), .val (.int .i64 0), .val (.int .i64 0), .val (.int .i64 0), .val (.int .i64 0), .val (.int .i64 0), .val (.int .i64 0), .val (.int .i64 0)], 51⟩
abbrev EU : List TypeId := [999999, 23, 2, 183, 51]
section
variable (s y m d y' m' d' k Y : Int)
theorem cfit (hs : s = 1 ∨ s = -1) (y0 : -300000 ≤ y) (y1 : y ≤ 300000) (m1 : 1 ≤ m) (m2 : m ≤ 12) (m1' : 1 ≤ m') (m2' : m' ≤ 12) (k0 : 0 ≤ k) (k1 : k ≤ 100000000000) :
    FnM 141 [.val (.int .i64 k), .ptr 0 0, .ptr 1 0, .ptr 2 0] (bkU s y m d y' m' d') (.bool (decide (k ≤ mM s y m d y' m' d'))) := by
  have fi := fits_iff (s := s) (y := y) (m := m) (d := d) (y' := y') (m' := m') (d' := d') m1 m2 m1' m2' hs k
  have hb : -100000000000 ≤ s * k ∧ s * k ≤ 100000000000 := by rcases hs with rfl | rfl <;> omega
  have cl := clater y m d (s * k) (ymi y m + s * k) (by unfold ymi; omega) (by omega) (by omega) m1 m2 (by omega) (by omega)
  refine fnM_of EU Tryz.func141 rfl (by kernel_rfl) fun ww => ?_
  refine st_i 9 .i64 (x' := s * k) (Go.IntWalk.i64_in _ (by omega)) (by kernel_rfl) ?_
  refine st_fn ent124 (cl) sub0 (by kernel_rfl) ?_
  refine st_fn ent56 (ccmp5 (lY (ymi y m + s * k)) (lM (ymi y m + s * k)) (d) (y') (m') (d')) sub0 (by kernel_rfl) ?_
  exact st_retv Tryz.func141 (show Value.bool (cmp3 (lY (ymi y m + s * k)) (lM (ymi y m + s * k)) d y' m' d' != s) = _ by (refine b_eq ?_; rw [Bool.eq_iff_iff, bne_iff_ne, decide_eq_true_iff]; exact fi)) (by kernel_rfl)
theorem cfit2 (hs : s = 1 ∨ s = -1) (y0 : -300000 ≤ y) (y1 : y ≤ 300000) (m1 : 1 ≤ m) (m2 : m ≤ 12) (m1' : 1 ≤ m') (m2' : m' ≤ 12) (k0 : 0 ≤ k) (k1 : k ≤ 5000000000) :
    FnM 143 [.val (.int .i64 k), .ptr 0 0] (bkF 1 :: bkU s y m d y' m' d') (.bool (decide (k ≤ mM s y m d y' m' d' / 12))) := by
  have c1 := cfit s y m d y' m' d' (12 * k) hs y0 y1 m1 m2 m1' m2' (by omega) (by omega)
  refine fnM_of EU Tryz.func143 rfl (by kernel_rfl) fun ww => ?_
  refine st_i 6 .i64 (x' := 12 * k) (Go.IntWalk.i64_in _ (by omega)) (by kernel_rfl) ?_
  refine st_fm [1, 2, 3] ent141 (c1) (by kernel_rfl) (by kernel_rfl) (by kernel_rfl) ?_
  exact st_retv Tryz.func143 (show Value.bool (decide (12 * k ≤ mM s y m d y' m' d')) = _ by (refine b_eq (decide_eq_decide.2 ?_); omega)) (by kernel_rfl)
theorem cfit3 (hs : s = 1 ∨ s = -1) (y0 : -300000 ≤ y) (y1 : y ≤ 300000) (m1 : 1 ≤ m) (m2 : m ≤ 12) (m1' : 1 ≤ m') (m2' : m' ≤ 12) (hY : 0 ≤ Y) (hY1 : Y ≤ 1000000) (k0 : 0 ≤ k) (k1 : k ≤ 5000000000) :
    FnM 144 [.val (.int .i64 k), .ptr 0 0, .ptr 1 0] (bkF 2 :: bkX Y :: bkU s y m d y' m' d') (.bool (decide (k ≤ mM s y m d y' m' d' - 12 * Y))) := by
  have c1 := cfit s y m d y' m' d' (12 * Y + k) hs y0 y1 m1 m2 m1' m2' (by omega) (by omega)
  refine fnM_of EU Tryz.func144 rfl (by kernel_rfl) fun ww => ?_
  refine st_i 8 .i64 (x' := 12 * Y) (Go.IntWalk.i64_in _ (by omega)) (by kernel_rfl) ?_
  refine st_i 10 .i64 (x' := 12 * Y + k) (Go.IntWalk.i64_in _ (by omega)) (by kernel_rfl) ?_
  refine st_fm [2, 3, 4] ent141 (c1) (by kernel_rfl) (by kernel_rfl) (by kernel_rfl) ?_
  exact st_retv Tryz.func144 (show Value.bool (decide (12 * Y + k ≤ mM s y m d y' m' d')) = _ by (refine b_eq (decide_eq_decide.2 ?_); omega)) (by kernel_rfl)
/-- The search finds the greatest number that fits. -/
theorem cmost2 (N : Int) (hN : 0 ≤ N) (hN1 : N ≤ 100000000) (c : ∀ k : Int, 0 ≤ k → k ≤ 5000000000 → FnM 143 [.val (.int .i64 k), .ptr 0 0] (bkF 1 :: bkU s y m d y' m' d') (.bool (decide (k ≤ N)))) :
    FnM 142 [.clo 143 [.ptr 0 0]] (bkF 1 :: bkU s y m d y' m' d') (.int .i64 N) := by
  have hst := zall_any EU
  have cy : ∀ k : Int, 0 ≤ k → k ≤ N → FnM 143 [.val (.int .i64 k), .ptr 0 0] (bkF 1 :: bkU s y m d y' m' d') (.bool true) := fun k k0 k1 => by have := c k k0 (by omega); rwa [decide_eq_true k1] at this
  have cn : ∀ k : Int, N < k → k ≤ 5000000000 → FnM 143 [.val (.int .i64 k), .ptr 0 0] (bkF 1 :: bkU s y m d y' m' d') (.bool false) := fun k k0 k1 => by have := c k (by omega) k1; rwa [decide_eq_false (by omega)] at this
  refine fnM_of EU Tryz.func142 rfl (by kernel_rfl) fun ww => ?_
  refine st_forget [0,1,2,3,4,5,11,12,13,14,15,16,17,18,19,20,21,22,23,24,25,26,27,28] (by kernel_rfl) ?_
  refine st_loopG (X := Int) (fun x => ([SV.clo 143 [Cp.ptr 0 0],svZ,SV.val (vI64 0),.val (.int .i64 x),svZ,svZ,.any,.any,.any,.any,.any,svZ,svZ,svZ,svZ,svZ,svZ,svZ,svZ,svZ,svZ,svZ,svZ,svZ,svZ,svZ,svZ,svZ,svZ],[⟨[SV.clo 141 [Cp.ptr 1 0,Cp.ptr 2 0,Cp.ptr 3 0]],183⟩,⟨[SV.val (vI64 y),SV.val (vI64 m),SV.val (vI64 d)],23⟩,⟨[SV.val (vI64 s)],2⟩,⟨[SV.val (vI64 y'),SV.val (vI64 m'),SV.val (vI64 d')],23⟩])) (fun n => 1 ≤ n ∧ n ≤ 2 * N + 2 ∧ n / 2 ≤ N) (fun n => (N + 1 - n).toNat) (1) (by kernel_rfl) (by kernel_rfl) hst (by first | omega | (simp; omega) | assumption | simp_all) (fun y0 px0 back0 => ?_)
  ((by_cases q0 : y0 ≤ N) <;> have td0 : y0.tdiv 2 = y0 / 2 := tdiv_nn (by omega))
  · have _hh := True.intro
    refine st_fm [0, 1, 2, 3] ent143 (cy (y0) (by omega) (by assumption)) (by kernel_rfl) (by kernel_rfl) (by kernel_rfl) ?_
    refine st_i 10 .i64 (x' := y0 * 2) (Go.IntWalk.i64_in _ (by omega)) (by kernel_rfl) ?_
    refine st_forget [0,1,2,3,4,5,11,12,13,14,15,16,17,18,19,20,21,22,23,24,25,26,27,28] (by kernel_rfl) ?_
    exact st_backG back0 (y0 * 2) (by first | omega | (simp only []; omega) | (simp; omega)) (by first | (refine i_eq ?_; omega) | omega | (simp only []; omega) | (simp; omega) | assumption | simp_all) (by kernel_rfl) (by kernel_rfl) (by kernel_rfl)
  · have _hh := True.intro
    refine st_fm [0, 1, 2, 3] ent143 (cn (y0) (by omega) (by omega)) (by kernel_rfl) (by kernel_rfl) (by kernel_rfl) ?_
    refine st_i 12 IntKind.i64 (x := IntKind.i64.wrap (y0.tdiv 2)) ((Go.IntWalk.i64_in (y0.tdiv 2) (by omega)).trans (td0)) (by kernel_rfl) ?_
    refine st_forget [0,1,2,3,4,6,7,8,9,10,11,12,28] (by kernel_rfl) ?_
    refine st_loopG (X := Int × Int) (fun x => ([SV.clo 143 [Cp.ptr 0 0],svZ,SV.val (vI64 0),.val (.int .i64 x.1),.val (.int .i64 x.2),.any,SV.clo 143 [Cp.ptr 0 0],SV.val (vI64 y0),svF,SV.any,SV.any,SV.val (vI64 y0),SV.val (vI64 (y0 / 2)),.any,.any,.any,.any,.any,.any,.any,.any,.any,.any,.any,.any,.any,.any,.any,svZ],[⟨[SV.clo 141 [Cp.ptr 1 0,Cp.ptr 2 0,Cp.ptr 3 0]],183⟩,⟨[SV.val (vI64 y),SV.val (vI64 m),SV.val (vI64 d)],23⟩,⟨[SV.val (vI64 s)],2⟩,⟨[SV.val (vI64 y'),SV.val (vI64 m'),SV.val (vI64 d')],23⟩])) (fun n => 0 ≤ n.2 ∧ n.2 ≤ N ∧ N < n.1 ∧ n.1 ≤ 2 * N + 2) (fun n => (n.1 - n.2).toNat) ((y0,y0 / 2)) (by kernel_rfl) (by kernel_rfl) hst (by first | omega | (simp; omega) | assumption | simp_all) (fun x px1 back1 => ?_)
    rcases x with ⟨y1_0, y1_1⟩
    simp only at px1
    ((by_cases q1 : y1_0 - y1_1 > 1) <;> (by_cases q2 : y1_1 + (y1_0 - y1_1) / 2 ≤ N) <;> have td1 : (y1_0 - y1_1).tdiv 2 = (y1_0 - y1_1) / 2 := tdiv_nn (by omega))
    · have _hh := True.intro
      refine st_i 15 .i64 (x' := y1_0 - y1_1) (Go.IntWalk.i64_in _ (by omega)) (by kernel_rfl) ?_
      refine st_b 16 (show (decide (y1_0 - y1_1 > 1)) = true by exact decide_eq_true (by omega)) (by kernel_rfl) ?_
      refine st_i 20 .i64 (x' := y1_0 - y1_1) (Go.IntWalk.i64_in _ (by omega)) (by kernel_rfl) ?_
      refine st_i 21 IntKind.i64 (x := IntKind.i64.wrap ((y1_0 - y1_1).tdiv 2)) ((Go.IntWalk.i64_in ((y1_0 - y1_1).tdiv 2) (by omega)).trans (td1)) (by kernel_rfl) ?_
      refine st_i 22 .i64 (x' := y1_1 + (y1_0 - y1_1) / 2) (Go.IntWalk.i64_in _ (by omega)) (by kernel_rfl) ?_
      refine st_fm [0, 1, 2, 3] ent143 (cy (y1_1 + (y1_0 - y1_1) / 2) (by omega) (by assumption)) (by kernel_rfl) (by kernel_rfl) (by kernel_rfl) ?_
      refine st_forget [0,1,2,3,4,6,7,8,9,10,11,12,27,28] (by kernel_rfl) ?_
      exact st_backG back1 ((y1_0, y1_1 + (y1_0 - y1_1) / 2)) (by first | omega | (simp only []; omega) | (simp; omega)) (by first | (refine i_eq ?_; omega) | omega | (simp only []; omega) | (simp; omega) | assumption | simp_all) (by kernel_rfl) (by kernel_rfl) (by kernel_rfl)
    · have _hh := True.intro
      refine st_i 15 .i64 (x' := y1_0 - y1_1) (Go.IntWalk.i64_in _ (by omega)) (by kernel_rfl) ?_
      refine st_b 16 (show (decide (y1_0 - y1_1 > 1)) = true by exact decide_eq_true (by omega)) (by kernel_rfl) ?_
      refine st_i 20 .i64 (x' := y1_0 - y1_1) (Go.IntWalk.i64_in _ (by omega)) (by kernel_rfl) ?_
      refine st_i 21 IntKind.i64 (x := IntKind.i64.wrap ((y1_0 - y1_1).tdiv 2)) ((Go.IntWalk.i64_in ((y1_0 - y1_1).tdiv 2) (by omega)).trans (td1)) (by kernel_rfl) ?_
      refine st_i 22 .i64 (x' := y1_1 + (y1_0 - y1_1) / 2) (Go.IntWalk.i64_in _ (by omega)) (by kernel_rfl) ?_
      refine st_fm [0, 1, 2, 3] ent143 (cn (y1_1 + (y1_0 - y1_1) / 2) (by omega) (by omega)) (by kernel_rfl) (by kernel_rfl) (by kernel_rfl) ?_
      refine st_forget [0,1,2,3,4,6,7,8,9,10,11,12,26,28] (by kernel_rfl) ?_
      exact st_backG back1 ((y1_1 + (y1_0 - y1_1) / 2, y1_1)) (by first | omega | (simp only []; omega) | (simp; omega)) (by first | (refine i_eq ?_; omega) | omega | (simp only []; omega) | (simp; omega) | assumption | simp_all) (by kernel_rfl) (by kernel_rfl) (by kernel_rfl)
    · have _hh := True.intro
      refine st_i 15 .i64 (x' := y1_0 - y1_1) (Go.IntWalk.i64_in _ (by omega)) (by kernel_rfl) ?_
      refine st_b 16 (show (decide (y1_0 - y1_1 > 1)) = false by exact decide_eq_false (by omega)) (by kernel_rfl) ?_
      exact st_retv Tryz.func142 (show vI64 y1_1 = _ by (refine i_eq ?_; omega)) (by kernel_rfl)
    · have _hh := True.intro
      refine st_i 15 .i64 (x' := y1_0 - y1_1) (Go.IntWalk.i64_in _ (by omega)) (by kernel_rfl) ?_
      refine st_b 16 (show (decide (y1_0 - y1_1 > 1)) = true by exact decide_eq_true (by omega)) (by kernel_rfl) ?_
      refine st_i 20 .i64 (x' := y1_0 - y1_1) (Go.IntWalk.i64_in _ (by omega)) (by kernel_rfl) ?_
      refine st_i 21 IntKind.i64 (x := IntKind.i64.wrap ((y1_0 - y1_1).tdiv 2)) ((Go.IntWalk.i64_in ((y1_0 - y1_1).tdiv 2) (by omega)).trans (td1)) (by kernel_rfl) ?_
      refine st_i 22 .i64 (x' := y1_1 + (y1_0 - y1_1) / 2) (Go.IntWalk.i64_in _ (by omega)) (by kernel_rfl) ?_
      refine st_fm [0, 1, 2, 3] ent143 (cy (y1_1 + (y1_0 - y1_1) / 2) (by omega) (by omega)) (by kernel_rfl) (by kernel_rfl) (by kernel_rfl) ?_
      refine st_forget [0,1,2,3,4,6,7,8,9,10,11,12,27,28] (by kernel_rfl) ?_
      exact st_backG back1 ((y1_0, y1_1 + (y1_0 - y1_1) / 2)) (by first | omega | (simp only []; omega) | (simp; omega)) (by first | (refine i_eq ?_; omega) | omega | (simp only []; omega) | (simp; omega) | assumption | simp_all) (by kernel_rfl) (by kernel_rfl) (by kernel_rfl)
theorem cmost3 (N : Int) (hN : 0 ≤ N) (hN1 : N ≤ 100000000) (c : ∀ k : Int, 0 ≤ k → k ≤ 5000000000 → FnM 144 [.val (.int .i64 k), .ptr 0 0, .ptr 1 0] (bkF 2 :: bkX Y :: bkU s y m d y' m' d') (.bool (decide (k ≤ N)))) :
    FnM 142 [.clo 144 [.ptr 0 0, .ptr 1 0]] (bkF 2 :: bkX Y :: bkU s y m d y' m' d') (.int .i64 N) := by
  have hst := zall_any EU
  have cy : ∀ k : Int, 0 ≤ k → k ≤ N → FnM 144 [.val (.int .i64 k), .ptr 0 0, .ptr 1 0] (bkF 2 :: bkX Y :: bkU s y m d y' m' d') (.bool true) := fun k k0 k1 => by have := c k k0 (by omega); rwa [decide_eq_true k1] at this
  have cn : ∀ k : Int, N < k → k ≤ 5000000000 → FnM 144 [.val (.int .i64 k), .ptr 0 0, .ptr 1 0] (bkF 2 :: bkX Y :: bkU s y m d y' m' d') (.bool false) := fun k k0 k1 => by have := c k (by omega) k1; rwa [decide_eq_false (by omega)] at this
  refine fnM_of EU Tryz.func142 rfl (by kernel_rfl) fun ww => ?_
  refine st_forget [0,1,2,3,4,5,11,12,13,14,15,16,17,18,19,20,21,22,23,24,25,26,27,28] (by kernel_rfl) ?_
  refine st_loopG (X := Int) (fun x => ([SV.clo 144 [Cp.ptr 0 0,Cp.ptr 1 0],svZ,SV.val (vI64 0),.val (.int .i64 x),svZ,svZ,.any,.any,.any,.any,.any,svZ,svZ,svZ,svZ,svZ,svZ,svZ,svZ,svZ,svZ,svZ,svZ,svZ,svZ,svZ,svZ,svZ,svZ],[⟨[SV.clo 141 [Cp.ptr 2 0,Cp.ptr 3 0,Cp.ptr 4 0]],183⟩,⟨[SV.val (vI64 Y),SV.val (vI64 0),SV.val (vI64 0),SV.val (vI64 0),SV.val (vI64 0),SV.val (vI64 0),SV.val (vI64 0),SV.val (vI64 0)],51⟩,⟨[SV.val (vI64 y),SV.val (vI64 m),SV.val (vI64 d)],23⟩,⟨[SV.val (vI64 s)],2⟩,⟨[SV.val (vI64 y'),SV.val (vI64 m'),SV.val (vI64 d')],23⟩])) (fun n => 1 ≤ n ∧ n ≤ 2 * N + 2 ∧ n / 2 ≤ N) (fun n => (N + 1 - n).toNat) (1) (by kernel_rfl) (by kernel_rfl) hst (by first | omega | (simp; omega) | assumption | simp_all) (fun y0 px0 back0 => ?_)
  ((by_cases q0 : y0 ≤ N) <;> have td0 : y0.tdiv 2 = y0 / 2 := tdiv_nn (by omega))
  · have _hh := True.intro
    refine st_fm [0, 1, 2, 3, 4] ent144 (cy (y0) (by omega) (by assumption)) (by kernel_rfl) (by kernel_rfl) (by kernel_rfl) ?_
    refine st_i 10 .i64 (x' := y0 * 2) (Go.IntWalk.i64_in _ (by omega)) (by kernel_rfl) ?_
    refine st_forget [0,1,2,3,4,5,11,12,13,14,15,16,17,18,19,20,21,22,23,24,25,26,27,28] (by kernel_rfl) ?_
    exact st_backG back0 (y0 * 2) (by first | omega | (simp only []; omega) | (simp; omega)) (by first | (refine i_eq ?_; omega) | omega | (simp only []; omega) | (simp; omega) | assumption | simp_all) (by kernel_rfl) (by kernel_rfl) (by kernel_rfl)
  · have _hh := True.intro
    refine st_fm [0, 1, 2, 3, 4] ent144 (cn (y0) (by omega) (by omega)) (by kernel_rfl) (by kernel_rfl) (by kernel_rfl) ?_
    refine st_i 12 IntKind.i64 (x := IntKind.i64.wrap (y0.tdiv 2)) ((Go.IntWalk.i64_in (y0.tdiv 2) (by omega)).trans (td0)) (by kernel_rfl) ?_
    refine st_forget [0,1,2,3,4,6,7,8,9,10,11,12,28] (by kernel_rfl) ?_
    refine st_loopG (X := Int × Int) (fun x => ([SV.clo 144 [Cp.ptr 0 0,Cp.ptr 1 0],svZ,SV.val (vI64 0),.val (.int .i64 x.1),.val (.int .i64 x.2),.any,SV.clo 144 [Cp.ptr 0 0,Cp.ptr 1 0],SV.val (vI64 y0),svF,SV.any,SV.any,SV.val (vI64 y0),SV.val (vI64 (y0 / 2)),.any,.any,.any,.any,.any,.any,.any,.any,.any,.any,.any,.any,.any,.any,.any,svZ],[⟨[SV.clo 141 [Cp.ptr 2 0,Cp.ptr 3 0,Cp.ptr 4 0]],183⟩,⟨[SV.val (vI64 Y),SV.val (vI64 0),SV.val (vI64 0),SV.val (vI64 0),SV.val (vI64 0),SV.val (vI64 0),SV.val (vI64 0),SV.val (vI64 0)],51⟩,⟨[SV.val (vI64 y),SV.val (vI64 m),SV.val (vI64 d)],23⟩,⟨[SV.val (vI64 s)],2⟩,⟨[SV.val (vI64 y'),SV.val (vI64 m'),SV.val (vI64 d')],23⟩])) (fun n => 0 ≤ n.2 ∧ n.2 ≤ N ∧ N < n.1 ∧ n.1 ≤ 2 * N + 2) (fun n => (n.1 - n.2).toNat) ((y0,y0 / 2)) (by kernel_rfl) (by kernel_rfl) hst (by first | omega | (simp; omega) | assumption | simp_all) (fun x px1 back1 => ?_)
    rcases x with ⟨y1_0, y1_1⟩
    simp only at px1
    ((by_cases q1 : y1_0 - y1_1 > 1) <;> (by_cases q2 : y1_1 + (y1_0 - y1_1) / 2 ≤ N) <;> have td1 : (y1_0 - y1_1).tdiv 2 = (y1_0 - y1_1) / 2 := tdiv_nn (by omega))
    · have _hh := True.intro
      refine st_i 15 .i64 (x' := y1_0 - y1_1) (Go.IntWalk.i64_in _ (by omega)) (by kernel_rfl) ?_
      refine st_b 16 (show (decide (y1_0 - y1_1 > 1)) = true by exact decide_eq_true (by omega)) (by kernel_rfl) ?_
      refine st_i 20 .i64 (x' := y1_0 - y1_1) (Go.IntWalk.i64_in _ (by omega)) (by kernel_rfl) ?_
      refine st_i 21 IntKind.i64 (x := IntKind.i64.wrap ((y1_0 - y1_1).tdiv 2)) ((Go.IntWalk.i64_in ((y1_0 - y1_1).tdiv 2) (by omega)).trans (td1)) (by kernel_rfl) ?_
      refine st_i 22 .i64 (x' := y1_1 + (y1_0 - y1_1) / 2) (Go.IntWalk.i64_in _ (by omega)) (by kernel_rfl) ?_
      refine st_fm [0, 1, 2, 3, 4] ent144 (cy (y1_1 + (y1_0 - y1_1) / 2) (by omega) (by assumption)) (by kernel_rfl) (by kernel_rfl) (by kernel_rfl) ?_
      refine st_forget [0,1,2,3,4,6,7,8,9,10,11,12,27,28] (by kernel_rfl) ?_
      exact st_backG back1 ((y1_0, y1_1 + (y1_0 - y1_1) / 2)) (by first | omega | (simp only []; omega) | (simp; omega)) (by first | (refine i_eq ?_; omega) | omega | (simp only []; omega) | (simp; omega) | assumption | simp_all) (by kernel_rfl) (by kernel_rfl) (by kernel_rfl)
    · have _hh := True.intro
      refine st_i 15 .i64 (x' := y1_0 - y1_1) (Go.IntWalk.i64_in _ (by omega)) (by kernel_rfl) ?_
      refine st_b 16 (show (decide (y1_0 - y1_1 > 1)) = true by exact decide_eq_true (by omega)) (by kernel_rfl) ?_
      refine st_i 20 .i64 (x' := y1_0 - y1_1) (Go.IntWalk.i64_in _ (by omega)) (by kernel_rfl) ?_
      refine st_i 21 IntKind.i64 (x := IntKind.i64.wrap ((y1_0 - y1_1).tdiv 2)) ((Go.IntWalk.i64_in ((y1_0 - y1_1).tdiv 2) (by omega)).trans (td1)) (by kernel_rfl) ?_
      refine st_i 22 .i64 (x' := y1_1 + (y1_0 - y1_1) / 2) (Go.IntWalk.i64_in _ (by omega)) (by kernel_rfl) ?_
      refine st_fm [0, 1, 2, 3, 4] ent144 (cn (y1_1 + (y1_0 - y1_1) / 2) (by omega) (by omega)) (by kernel_rfl) (by kernel_rfl) (by kernel_rfl) ?_
      refine st_forget [0,1,2,3,4,6,7,8,9,10,11,12,26,28] (by kernel_rfl) ?_
      exact st_backG back1 ((y1_1 + (y1_0 - y1_1) / 2, y1_1)) (by first | omega | (simp only []; omega) | (simp; omega)) (by first | (refine i_eq ?_; omega) | omega | (simp only []; omega) | (simp; omega) | assumption | simp_all) (by kernel_rfl) (by kernel_rfl) (by kernel_rfl)
    · have _hh := True.intro
      refine st_i 15 .i64 (x' := y1_0 - y1_1) (Go.IntWalk.i64_in _ (by omega)) (by kernel_rfl) ?_
      refine st_b 16 (show (decide (y1_0 - y1_1 > 1)) = false by exact decide_eq_false (by omega)) (by kernel_rfl) ?_
      exact st_retv Tryz.func142 (show vI64 y1_1 = _ by (refine i_eq ?_; omega)) (by kernel_rfl)
    · have _hh := True.intro
      refine st_i 15 .i64 (x' := y1_0 - y1_1) (Go.IntWalk.i64_in _ (by omega)) (by kernel_rfl) ?_
      refine st_b 16 (show (decide (y1_0 - y1_1 > 1)) = true by exact decide_eq_true (by omega)) (by kernel_rfl) ?_
      refine st_i 20 .i64 (x' := y1_0 - y1_1) (Go.IntWalk.i64_in _ (by omega)) (by kernel_rfl) ?_
      refine st_i 21 IntKind.i64 (x := IntKind.i64.wrap ((y1_0 - y1_1).tdiv 2)) ((Go.IntWalk.i64_in ((y1_0 - y1_1).tdiv 2) (by omega)).trans (td1)) (by kernel_rfl) ?_
      refine st_i 22 .i64 (x' := y1_1 + (y1_0 - y1_1) / 2) (Go.IntWalk.i64_in _ (by omega)) (by kernel_rfl) ?_
      refine st_fm [0, 1, 2, 3, 4] ent144 (cy (y1_1 + (y1_0 - y1_1) / 2) (by omega) (by omega)) (by kernel_rfl) (by kernel_rfl) (by kernel_rfl) ?_
      refine st_forget [0,1,2,3,4,6,7,8,9,10,11,12,27,28] (by kernel_rfl) ?_
      exact st_backG back1 ((y1_0, y1_1 + (y1_0 - y1_1) / 2)) (by first | omega | (simp only []; omega) | (simp; omega)) (by first | (refine i_eq ?_; omega) | omega | (simp only []; omega) | (simp; omega) | assumption | simp_all) (by kernel_rfl) (by kernel_rfl) (by kernel_rfl)
end
end Go.Proofs.YthoedmikfpbfnaaGreat
end
section
/-
  More contracts of the first layers, as the reckoner wants them.
-/
set_option linter.unusedVariables false
namespace Go.Proofs.YthoedmikfpbfnaaGreat
open Go Go.RowKit Go.Ev

theorem wmul_f (m n : Int) (hm : I64 m) (hn : I64 n) : Fn 23 [] [.int .i64 m, .int .i64 n] (wv (m * n)) := fn1 fun w => wmul m n w hm hn
theorem dby_f (a n : Int) (ha : W128 a) (hn : 0 < n) (hI : I64 n) : Fn 118 [] [wv a, .int .i64 n] (.tuple #[wv (a.fdiv n), .int .i64 (a.fmod n), .int .i64 0]) := fn1 fun w => dby a n w ha hn hI
theorem wint_f (n : Int) (h : I64 n) : Fn 50 [] [wv n] (.tuple #[.int .i64 n, .bool true]) := fn1 fun w => (wint n w).mono fun e w' q => ⟨by rw [q.1, show t64 n = n from if_pos h, decide_eq_true h], q.2⟩
end Go.Proofs.YthoedmikfpbfnaaGreat
end
section
/-
  Durations: fields, signs, totals, as the program reckons them.
-/
set_option linter.unusedVariables false
set_option maxRecDepth 100000
namespace Go.Proofs.YthoedmikfpbfnaaGreat
open Go Go.RowKit Go.Ev

abbrev duv (a b c d h mi s n : Int) : Value := .agg #[.int .i64 a, .int .i64 b, .int .i64 c, .int .i64 d, .int .i64 h, .int .i64 mi, .int .i64 s, .int .i64 n]
abbrev du0 : Value := duv 0 0 0 0 0 0 0 0
abbrev pA (b o : Nat) : Value := .pointer (some ⟨b, o, none⟩)
def fvs (b o : Nat) : List Value := [.pointer none, pA b (o + 0), pA b (o + 1), pA b (o + 2), pA b (o + 3), pA b (o + 4), pA b (o + 5), pA b (o + 6), pA b (o + 7)]
theorem ufields (b o : Nat) : FnB 65 [pA b o] (fvs b o) 113 9 := by
  refine fnB_of Tryz.func65 rfl fun ww => ?_
  exact st_retB Tryz.func65 (by kernel_rfl)
section
variable {f0 : FuncId} {E : List TypeId} {w0 : World} {R : Ending → World → Prop} {L : ZL} {c : Cf}
theorem ufields_row (b o : Nat) (hc : callAt (adv Tryz.prog E 9999 400 c) = some (65, [.ptr b o]))
    (hk : Ru ⟨Tryz.prog, f0, E, w0, R⟩ (ZAll L) (resumeB (adv Tryz.prog E 9999 400 c) ⟨[.val (.pointer none), .ptr b (o + 0), .ptr b (o + 1), .ptr b (o + 2), .ptr b (o + 3), .ptr b (o + 4), .ptr b (o + 5), .ptr b (o + 6), .ptr b (o + 7)], 113⟩ 9)) : Ru ⟨Tryz.prog, f0, E, w0, R⟩ (ZAll L) c :=
  st_rowP [.val (.pointer none), .ptr b (o + 0), .ptr b (o + 1), .ptr b (o + 2), .ptr b (o + 3), .ptr b (o + 4), .ptr b (o + 5), .ptr b (o + 6), .ptr b (o + 7)] ent65 ufields (fun r N hN => cellsOk_cons ⟨rfl, trivial⟩ (cellsOk_cons ⟨rfl, hN⟩ (cellsOk_cons ⟨rfl, hN⟩ (cellsOk_cons ⟨rfl, hN⟩ (cellsOk_cons ⟨rfl, hN⟩ (cellsOk_cons ⟨rfl, hN⟩ (cellsOk_cons ⟨rfl, hN⟩ (cellsOk_cons ⟨rfl, hN⟩ (cellsOk_cons ⟨rfl, hN⟩ cellsOk_nil))))))))) hc hk
end
theorem ulen4 : Fn 63 [] [.int .i64 4] (.int .i64 86400000000000) := by
  refine fn_of Tryz.func63 rfl fun ww => ?_
  refine st_i 11 .i64 (x' := 4 - 4) (Go.IntWalk.i64_in _ (by omega)) (by kernel_rfl) ?_
  exact st_ret Tryz.func63 (by kernel_rfl)
theorem ulen5 : Fn 63 [] [.int .i64 5] (.int .i64 3600000000000) := by
  refine fn_of Tryz.func63 rfl fun ww => ?_
  refine st_i 11 .i64 (x' := 5 - 4) (Go.IntWalk.i64_in _ (by omega)) (by kernel_rfl) ?_
  exact st_ret Tryz.func63 (by kernel_rfl)
theorem ulen6 : Fn 63 [] [.int .i64 6] (.int .i64 60000000000) := by
  refine fn_of Tryz.func63 rfl fun ww => ?_
  refine st_i 11 .i64 (x' := 6 - 4) (Go.IntWalk.i64_in _ (by omega)) (by kernel_rfl) ?_
  exact st_ret Tryz.func63 (by kernel_rfl)
theorem ulen7 : Fn 63 [] [.int .i64 7] (.int .i64 1000000000) := by
  refine fn_of Tryz.func63 rfl fun ww => ?_
  refine st_i 11 .i64 (x' := 7 - 4) (Go.IntWalk.i64_in _ (by omega)) (by kernel_rfl) ?_
  exact st_ret Tryz.func63 (by kernel_rfl)
theorem ulen8 : Fn 63 [] [.int .i64 8] (.int .i64 1) := by
  refine fn_of Tryz.func63 rfl fun ww => ?_
  refine st_i 11 .i64 (x' := 8 - 4) (Go.IntWalk.i64_in _ (by omega)) (by kernel_rfl) ?_
  exact st_ret Tryz.func63 (by kernel_rfl)
theorem ulen_o (u : Int) (h : u < 4 ∨ 8 < u) : Fn 63 [] [.int .i64 u] (.int .i64 0) := by
  by_cases k : u < 4
  · refine fn_of Tryz.func63 rfl fun ww => ?_
    refine st_b 4 (show (decide (u < 4)) = true by exact decide_eq_true (by omega)) (by kernel_rfl) ?_
    exact st_ret Tryz.func63 (by kernel_rfl)
  · have k' : 8 < u := by omega
    refine fn_of Tryz.func63 rfl fun ww => ?_
    refine st_b 4 (show (decide (u < 4)) = false by exact decide_eq_false (by omega)) (by kernel_rfl) ?_
    refine st_b 7 (show (decide (u > 8)) = true by exact decide_eq_true (by omega)) (by kernel_rfl) ?_
    exact st_ret Tryz.func63 (by kernel_rfl)
theorem units {u : Int} (h : 4 ≤ u) (k : u ≤ 8) : u = 4 ∨ u = 5 ∨ u = 6 ∨ u = 7 ∨ u = 8 := by omega
theorem ulen_fn (u : Int) : Fn 63 [] [.int .i64 u] (.int .i64 (ulen u)) := by
  by_cases h : 4 ≤ u ∧ u ≤ 8
  · rcases units h.1 h.2 with rfl | rfl | rfl | rfl | rfl
    · exact ulen4
    · exact ulen5
    · exact ulen6
    · exact ulen7
    · exact ulen8
  · rw [ulen_no (by omega)]
    exact ulen_o u (by omega)
theorem ulimit : Fn 68 [] [] (wv 9007199254740992000000000) := by
  have i1 : I64 9007199254740992 := by unfold I64; omega
  have i2 : I64 1000000000 := by unfold I64; omega
  refine fn_of Tryz.func68 rfl fun ww => ?_
  refine st_fn ent23 (wmul_f (9007199254740992) (1000000000) (by assumption) (by assumption)) sub0 (by kernel_rfl) ?_
  exact st_retv Tryz.func68 (show Value.agg #[vI64 (hi (9007199254740992 * 1000000000)), Value.int IntKind.u64 (lo (9007199254740992 * 1000000000))] = _ by rfl) (by kernel_rfl)
section
variable (a b c d h mi s n : Int)
theorem utot (i1 : I64 d) (i2 : I64 h) (i3 : I64 mi) (i4 : I64 s) (i5 : I64 n) : Fn 66 [] [duv a b c d h mi s n] (wv (dtot d h mi s n)) := by
  have j1 : I64 86400000000000 := by unfold I64; omega
  have j2 : I64 3600000000000 := by unfold I64; omega
  have j3 : I64 60000000000 := by unfold I64; omega
  have j4 : I64 1000000000 := by unfold I64; omega
  have j5 : I64 1 := by unfold I64; omega
  have k1 := i1; have k2 := i2; have k3 := i3; have k4 := i4; have k5 := i5
  unfold I64 at k1 k2 k3 k4 k5
  refine fn_of Tryz.func66 rfl fun ww => ?_
  refine ufields_row 0 0 (by kernel_rfl) ?_
  refine st_round (by kernel_rfl) ?_
  refine st_fn ent63 (ulen4) sub0 (by kernel_rfl) ?_
  refine st_fn ent23 (wmul_f (d) (86400000000000) (by assumption) (by assumption)) sub0 (by kernel_rfl) ?_
  refine st_app0w (b2 := 3) (v1 := vI64 (hi (d * 86400000000000))) (v2 := Value.int IntKind.u64 (lo (d * 86400000000000))) (by kernel_rfl) (by kernel_rfl) rfl rfl (fun m3 rest3 hm3 hr3 => ?_)
  refine st_i 12 .i64 (x' := 4 + 1) (Go.IntWalk.i64_in _ (by omega)) (by kernel_rfl) ?_
  refine st_round (by kernel_rfl) ?_
  refine st_fn ent63 (ulen5) sub0 (by kernel_rfl) ?_
  refine st_fn ent23 (wmul_f (h) (3600000000000) (by assumption) (by assumption)) sub0 (by kernel_rfl) ?_
  refine st_appw (b := 4) (b2 := 5) (n := 1) (m := m3) (vs := [vI64 (hi (d * 86400000000000)), Value.int IntKind.u64 (lo (d * 86400000000000))]) (rest := rest3) (v1 := vI64 (hi (h * 3600000000000))) (v2 := Value.int IntKind.u64 (lo (h * 3600000000000))) (by kernel_rfl) (by kernel_rfl) (by kernel_rfl) rfl rfl rfl hr3 hm3 (by omega) (by kernel_rfl) (by kernel_rfl) (fun hm6 rest6 hr6 => ?_) (fun m6 rest6 hm6 hr6 => ?_)
  · have _hh := True.intro
    refine st_i 12 .i64 (x' := 4 + 1 + 1) (Go.IntWalk.i64_in _ (by omega)) (by kernel_rfl) ?_
    refine st_round (by kernel_rfl) ?_
    refine st_fn ent63 (ulen6) sub0 (by kernel_rfl) ?_
    refine st_fn ent23 (wmul_f (mi) (60000000000) (by assumption) (by assumption)) sub0 (by kernel_rfl) ?_
    refine st_appw (b := 4) (b2 := 6) (n := 2) (m := m3) (vs := [vI64 (hi (d * 86400000000000)), Value.int IntKind.u64 (lo (d * 86400000000000)), vI64 (hi (h * 3600000000000)), Value.int IntKind.u64 (lo (h * 3600000000000))]) (rest := rest6) (v1 := vI64 (hi (mi * 60000000000))) (v2 := Value.int IntKind.u64 (lo (mi * 60000000000))) (by kernel_rfl) (by kernel_rfl) (by kernel_rfl) rfl rfl rfl hr6 hm6 (by omega) (by kernel_rfl) (by kernel_rfl) (fun hm9 rest9 hr9 => ?_) (fun m9 rest9 hm9 hr9 => ?_)
    · have _hh := True.intro
      refine st_i 12 .i64 (x' := 4 + 1 + 1 + 1) (Go.IntWalk.i64_in _ (by omega)) (by kernel_rfl) ?_
      refine st_round (by kernel_rfl) ?_
      refine st_fn ent63 (ulen7) sub0 (by kernel_rfl) ?_
      refine st_fn ent23 (wmul_f (s) (1000000000) (by assumption) (by assumption)) sub0 (by kernel_rfl) ?_
      refine st_appw (b := 4) (b2 := 7) (n := 3) (m := m3) (vs := [vI64 (hi (d * 86400000000000)), Value.int IntKind.u64 (lo (d * 86400000000000)), vI64 (hi (h * 3600000000000)), Value.int IntKind.u64 (lo (h * 3600000000000)), vI64 (hi (mi * 60000000000)), Value.int IntKind.u64 (lo (mi * 60000000000))]) (rest := rest9) (v1 := vI64 (hi (s * 1000000000))) (v2 := Value.int IntKind.u64 (lo (s * 1000000000))) (by kernel_rfl) (by kernel_rfl) (by kernel_rfl) rfl rfl rfl hr9 hm9 (by omega) (by kernel_rfl) (by kernel_rfl) (fun hm12 rest12 hr12 => ?_) (fun m12 rest12 hm12 hr12 => ?_)
      · have _hh := True.intro
        refine st_i 12 .i64 (x' := 4 + 1 + 1 + 1 + 1) (Go.IntWalk.i64_in _ (by omega)) (by kernel_rfl) ?_
        refine st_round (by kernel_rfl) ?_
        refine st_fn ent63 (ulen8) sub0 (by kernel_rfl) ?_
        refine st_fn ent23 (wmul_f (n) (1) (by assumption) (by assumption)) sub0 (by kernel_rfl) ?_
        refine st_appw (b := 4) (b2 := 8) (n := 4) (m := m3) (vs := [vI64 (hi (d * 86400000000000)), Value.int IntKind.u64 (lo (d * 86400000000000)), vI64 (hi (h * 3600000000000)), Value.int IntKind.u64 (lo (h * 3600000000000)), vI64 (hi (mi * 60000000000)), Value.int IntKind.u64 (lo (mi * 60000000000)), vI64 (hi (s * 1000000000)), Value.int IntKind.u64 (lo (s * 1000000000))]) (rest := rest12) (v1 := vI64 (hi (n * 1))) (v2 := Value.int IntKind.u64 (lo (n * 1))) (by kernel_rfl) (by kernel_rfl) (by kernel_rfl) rfl rfl rfl hr12 hm12 (by omega) (by kernel_rfl) (by kernel_rfl) (fun hm15 rest15 hr15 => ?_) (fun m15 rest15 hm15 hr15 => ?_)
        · have _hh := True.intro
          refine st_i 12 .i64 (x' := 4 + 1 + 1 + 1 + 1 + 1) (Go.IntWalk.i64_in _ (by omega)) (by kernel_rfl) ?_
          refine st_round (by kernel_rfl) ?_
          refine st_sum5 (b := 4) (m := m3) (n1 := (d * 86400000000000)) (n2 := (h * 3600000000000)) (n3 := (mi * 60000000000)) (n4 := (s * 1000000000)) (n5 := (n * 1)) (rest := rest15) ((d * 86400000000000) + (h * 3600000000000) + (mi * 60000000000) + (s * 1000000000) + (n * 1)) rfl (by first | assumption | (unfold W128; omega)) (by first | assumption | (unfold W128; omega)) (by first | assumption | (unfold W128; omega)) (by first | assumption | (unfold W128; omega)) (by first | assumption | (unfold W128; omega)) (by first | assumption | (unfold W128; omega)) (by kernel_rfl) (by kernel_rfl) ?_
          exact st_retv Tryz.func66 (show Value.agg #[vI64 (hi (d * 86400000000000 + h * 3600000000000 + mi * 60000000000 + s * 1000000000 + n * 1)), Value.int IntKind.u64 (lo (d * 86400000000000 + h * 3600000000000 + mi * 60000000000 + s * 1000000000 + n * 1))] = _ by (unfold dtot; rw [Int.mul_one])) (by kernel_rfl)
        · have _hh := True.intro
          refine st_i 12 .i64 (x' := 4 + 1 + 1 + 1 + 1 + 1) (Go.IntWalk.i64_in _ (by omega)) (by kernel_rfl) ?_
          refine st_round (by kernel_rfl) ?_
          refine st_sum5 (b := 9) (m := m15) (n1 := (d * 86400000000000)) (n2 := (h * 3600000000000)) (n3 := (mi * 60000000000)) (n4 := (s * 1000000000)) (n5 := (n * 1)) (rest := rest15) ((d * 86400000000000) + (h * 3600000000000) + (mi * 60000000000) + (s * 1000000000) + (n * 1)) rfl (by first | assumption | (unfold W128; omega)) (by first | assumption | (unfold W128; omega)) (by first | assumption | (unfold W128; omega)) (by first | assumption | (unfold W128; omega)) (by first | assumption | (unfold W128; omega)) (by first | assumption | (unfold W128; omega)) (by kernel_rfl) (by kernel_rfl) ?_
          exact st_retv Tryz.func66 (show Value.agg #[vI64 (hi (d * 86400000000000 + h * 3600000000000 + mi * 60000000000 + s * 1000000000 + n * 1)), Value.int IntKind.u64 (lo (d * 86400000000000 + h * 3600000000000 + mi * 60000000000 + s * 1000000000 + n * 1))] = _ by (unfold dtot; rw [Int.mul_one])) (by kernel_rfl)
      · have _hh := True.intro
        refine st_i 12 .i64 (x' := 4 + 1 + 1 + 1 + 1) (Go.IntWalk.i64_in _ (by omega)) (by kernel_rfl) ?_
        refine st_round (by kernel_rfl) ?_
        refine st_fn ent63 (ulen8) sub0 (by kernel_rfl) ?_
        refine st_fn ent23 (wmul_f (n) (1) (by assumption) (by assumption)) sub0 (by kernel_rfl) ?_
        refine st_appw (b := 8) (b2 := 9) (n := 4) (m := m12) (vs := [vI64 (hi (d * 86400000000000)), Value.int IntKind.u64 (lo (d * 86400000000000)), vI64 (hi (h * 3600000000000)), Value.int IntKind.u64 (lo (h * 3600000000000)), vI64 (hi (mi * 60000000000)), Value.int IntKind.u64 (lo (mi * 60000000000)), vI64 (hi (s * 1000000000)), Value.int IntKind.u64 (lo (s * 1000000000))]) (rest := rest12) (v1 := vI64 (hi (n * 1))) (v2 := Value.int IntKind.u64 (lo (n * 1))) (by kernel_rfl) (by kernel_rfl) (by kernel_rfl) rfl rfl rfl hr12 hm12 (by omega) (by kernel_rfl) (by kernel_rfl) (fun hm15 rest15 hr15 => ?_) (fun m15 rest15 hm15 hr15 => ?_)
        · have _hh := True.intro
          refine st_i 12 .i64 (x' := 4 + 1 + 1 + 1 + 1 + 1) (Go.IntWalk.i64_in _ (by omega)) (by kernel_rfl) ?_
          refine st_round (by kernel_rfl) ?_
          refine st_sum5 (b := 8) (m := m12) (n1 := (d * 86400000000000)) (n2 := (h * 3600000000000)) (n3 := (mi * 60000000000)) (n4 := (s * 1000000000)) (n5 := (n * 1)) (rest := rest15) ((d * 86400000000000) + (h * 3600000000000) + (mi * 60000000000) + (s * 1000000000) + (n * 1)) rfl (by first | assumption | (unfold W128; omega)) (by first | assumption | (unfold W128; omega)) (by first | assumption | (unfold W128; omega)) (by first | assumption | (unfold W128; omega)) (by first | assumption | (unfold W128; omega)) (by first | assumption | (unfold W128; omega)) (by kernel_rfl) (by kernel_rfl) ?_
          exact st_retv Tryz.func66 (show Value.agg #[vI64 (hi (d * 86400000000000 + h * 3600000000000 + mi * 60000000000 + s * 1000000000 + n * 1)), Value.int IntKind.u64 (lo (d * 86400000000000 + h * 3600000000000 + mi * 60000000000 + s * 1000000000 + n * 1))] = _ by (unfold dtot; rw [Int.mul_one])) (by kernel_rfl)
        · have _hh := True.intro
          refine st_i 12 .i64 (x' := 4 + 1 + 1 + 1 + 1 + 1) (Go.IntWalk.i64_in _ (by omega)) (by kernel_rfl) ?_
          refine st_round (by kernel_rfl) ?_
          refine st_sum5 (b := 10) (m := m15) (n1 := (d * 86400000000000)) (n2 := (h * 3600000000000)) (n3 := (mi * 60000000000)) (n4 := (s * 1000000000)) (n5 := (n * 1)) (rest := rest15) ((d * 86400000000000) + (h * 3600000000000) + (mi * 60000000000) + (s * 1000000000) + (n * 1)) rfl (by first | assumption | (unfold W128; omega)) (by first | assumption | (unfold W128; omega)) (by first | assumption | (unfold W128; omega)) (by first | assumption | (unfold W128; omega)) (by first | assumption | (unfold W128; omega)) (by first | assumption | (unfold W128; omega)) (by kernel_rfl) (by kernel_rfl) ?_
          exact st_retv Tryz.func66 (show Value.agg #[vI64 (hi (d * 86400000000000 + h * 3600000000000 + mi * 60000000000 + s * 1000000000 + n * 1)), Value.int IntKind.u64 (lo (d * 86400000000000 + h * 3600000000000 + mi * 60000000000 + s * 1000000000 + n * 1))] = _ by (unfold dtot; rw [Int.mul_one])) (by kernel_rfl)
    · have _hh := True.intro
      refine st_i 12 .i64 (x' := 4 + 1 + 1 + 1) (Go.IntWalk.i64_in _ (by omega)) (by kernel_rfl) ?_
      refine st_round (by kernel_rfl) ?_
      refine st_fn ent63 (ulen7) sub0 (by kernel_rfl) ?_
      refine st_fn ent23 (wmul_f (s) (1000000000) (by assumption) (by assumption)) sub0 (by kernel_rfl) ?_
      refine st_appw (b := 7) (b2 := 8) (n := 3) (m := m9) (vs := [vI64 (hi (d * 86400000000000)), Value.int IntKind.u64 (lo (d * 86400000000000)), vI64 (hi (h * 3600000000000)), Value.int IntKind.u64 (lo (h * 3600000000000)), vI64 (hi (mi * 60000000000)), Value.int IntKind.u64 (lo (mi * 60000000000))]) (rest := rest9) (v1 := vI64 (hi (s * 1000000000))) (v2 := Value.int IntKind.u64 (lo (s * 1000000000))) (by kernel_rfl) (by kernel_rfl) (by kernel_rfl) rfl rfl rfl hr9 hm9 (by omega) (by kernel_rfl) (by kernel_rfl) (fun hm12 rest12 hr12 => ?_) (fun m12 rest12 hm12 hr12 => ?_)
      · have _hh := True.intro
        refine st_i 12 .i64 (x' := 4 + 1 + 1 + 1 + 1) (Go.IntWalk.i64_in _ (by omega)) (by kernel_rfl) ?_
        refine st_round (by kernel_rfl) ?_
        refine st_fn ent63 (ulen8) sub0 (by kernel_rfl) ?_
        refine st_fn ent23 (wmul_f (n) (1) (by assumption) (by assumption)) sub0 (by kernel_rfl) ?_
        refine st_appw (b := 7) (b2 := 9) (n := 4) (m := m9) (vs := [vI64 (hi (d * 86400000000000)), Value.int IntKind.u64 (lo (d * 86400000000000)), vI64 (hi (h * 3600000000000)), Value.int IntKind.u64 (lo (h * 3600000000000)), vI64 (hi (mi * 60000000000)), Value.int IntKind.u64 (lo (mi * 60000000000)), vI64 (hi (s * 1000000000)), Value.int IntKind.u64 (lo (s * 1000000000))]) (rest := rest12) (v1 := vI64 (hi (n * 1))) (v2 := Value.int IntKind.u64 (lo (n * 1))) (by kernel_rfl) (by kernel_rfl) (by kernel_rfl) rfl rfl rfl hr12 hm12 (by omega) (by kernel_rfl) (by kernel_rfl) (fun hm15 rest15 hr15 => ?_) (fun m15 rest15 hm15 hr15 => ?_)
        · have _hh := True.intro
          refine st_i 12 .i64 (x' := 4 + 1 + 1 + 1 + 1 + 1) (Go.IntWalk.i64_in _ (by omega)) (by kernel_rfl) ?_
          refine st_round (by kernel_rfl) ?_
          refine st_sum5 (b := 7) (m := m9) (n1 := (d * 86400000000000)) (n2 := (h * 3600000000000)) (n3 := (mi * 60000000000)) (n4 := (s * 1000000000)) (n5 := (n * 1)) (rest := rest15) ((d * 86400000000000) + (h * 3600000000000) + (mi * 60000000000) + (s * 1000000000) + (n * 1)) rfl (by first | assumption | (unfold W128; omega)) (by first | assumption | (unfold W128; omega)) (by first | assumption | (unfold W128; omega)) (by first | assumption | (unfold W128; omega)) (by first | assumption | (unfold W128; omega)) (by first | assumption | (unfold W128; omega)) (by kernel_rfl) (by kernel_rfl) ?_
          exact st_retv Tryz.func66 (show Value.agg #[vI64 (hi (d * 86400000000000 + h * 3600000000000 + mi * 60000000000 + s * 1000000000 + n * 1)), Value.int IntKind.u64 (lo (d * 86400000000000 + h * 3600000000000 + mi * 60000000000 + s * 1000000000 + n * 1))] = _ by (unfold dtot; rw [Int.mul_one])) (by kernel_rfl)
        · have _hh := True.intro
          refine st_i 12 .i64 (x' := 4 + 1 + 1 + 1 + 1 + 1) (Go.IntWalk.i64_in _ (by omega)) (by kernel_rfl) ?_
          refine st_round (by kernel_rfl) ?_
          refine st_sum5 (b := 10) (m := m15) (n1 := (d * 86400000000000)) (n2 := (h * 3600000000000)) (n3 := (mi * 60000000000)) (n4 := (s * 1000000000)) (n5 := (n * 1)) (rest := rest15) ((d * 86400000000000) + (h * 3600000000000) + (mi * 60000000000) + (s * 1000000000) + (n * 1)) rfl (by first | assumption | (unfold W128; omega)) (by first | assumption | (unfold W128; omega)) (by first | assumption | (unfold W128; omega)) (by first | assumption | (unfold W128; omega)) (by first | assumption | (unfold W128; omega)) (by first | assumption | (unfold W128; omega)) (by kernel_rfl) (by kernel_rfl) ?_
          exact st_retv Tryz.func66 (show Value.agg #[vI64 (hi (d * 86400000000000 + h * 3600000000000 + mi * 60000000000 + s * 1000000000 + n * 1)), Value.int IntKind.u64 (lo (d * 86400000000000 + h * 3600000000000 + mi * 60000000000 + s * 1000000000 + n * 1))] = _ by (unfold dtot; rw [Int.mul_one])) (by kernel_rfl)
      · have _hh := True.intro
        refine st_i 12 .i64 (x' := 4 + 1 + 1 + 1 + 1) (Go.IntWalk.i64_in _ (by omega)) (by kernel_rfl) ?_
        refine st_round (by kernel_rfl) ?_
        refine st_fn ent63 (ulen8) sub0 (by kernel_rfl) ?_
        refine st_fn ent23 (wmul_f (n) (1) (by assumption) (by assumption)) sub0 (by kernel_rfl) ?_
        refine st_appw (b := 9) (b2 := 10) (n := 4) (m := m12) (vs := [vI64 (hi (d * 86400000000000)), Value.int IntKind.u64 (lo (d * 86400000000000)), vI64 (hi (h * 3600000000000)), Value.int IntKind.u64 (lo (h * 3600000000000)), vI64 (hi (mi * 60000000000)), Value.int IntKind.u64 (lo (mi * 60000000000)), vI64 (hi (s * 1000000000)), Value.int IntKind.u64 (lo (s * 1000000000))]) (rest := rest12) (v1 := vI64 (hi (n * 1))) (v2 := Value.int IntKind.u64 (lo (n * 1))) (by kernel_rfl) (by kernel_rfl) (by kernel_rfl) rfl rfl rfl hr12 hm12 (by omega) (by kernel_rfl) (by kernel_rfl) (fun hm15 rest15 hr15 => ?_) (fun m15 rest15 hm15 hr15 => ?_)
        · have _hh := True.intro
          refine st_i 12 .i64 (x' := 4 + 1 + 1 + 1 + 1 + 1) (Go.IntWalk.i64_in _ (by omega)) (by kernel_rfl) ?_
          refine st_round (by kernel_rfl) ?_
          refine st_sum5 (b := 9) (m := m12) (n1 := (d * 86400000000000)) (n2 := (h * 3600000000000)) (n3 := (mi * 60000000000)) (n4 := (s * 1000000000)) (n5 := (n * 1)) (rest := rest15) ((d * 86400000000000) + (h * 3600000000000) + (mi * 60000000000) + (s * 1000000000) + (n * 1)) rfl (by first | assumption | (unfold W128; omega)) (by first | assumption | (unfold W128; omega)) (by first | assumption | (unfold W128; omega)) (by first | assumption | (unfold W128; omega)) (by first | assumption | (unfold W128; omega)) (by first | assumption | (unfold W128; omega)) (by kernel_rfl) (by kernel_rfl) ?_
          exact st_retv Tryz.func66 (show Value.agg #[vI64 (hi (d * 86400000000000 + h * 3600000000000 + mi * 60000000000 + s * 1000000000 + n * 1)), Value.int IntKind.u64 (lo (d * 86400000000000 + h * 3600000000000 + mi * 60000000000 + s * 1000000000 + n * 1))] = _ by (unfold dtot; rw [Int.mul_one])) (by kernel_rfl)
        · have _hh := True.intro
          refine st_i 12 .i64 (x' := 4 + 1 + 1 + 1 + 1 + 1) (Go.IntWalk.i64_in _ (by omega)) (by kernel_rfl) ?_
          refine st_round (by kernel_rfl) ?_
          refine st_sum5 (b := 11) (m := m15) (n1 := (d * 86400000000000)) (n2 := (h * 3600000000000)) (n3 := (mi * 60000000000)) (n4 := (s * 1000000000)) (n5 := (n * 1)) (rest := rest15) ((d * 86400000000000) + (h * 3600000000000) + (mi * 60000000000) + (s * 1000000000) + (n * 1)) rfl (by first | assumption | (unfold W128; omega)) (by first | assumption | (unfold W128; omega)) (by first | assumption | (unfold W128; omega)) (by first | assumption | (unfold W128; omega)) (by first | assumption | (unfold W128; omega)) (by first | assumption | (unfold W128; omega)) (by kernel_rfl) (by kernel_rfl) ?_
          exact st_retv Tryz.func66 (show Value.agg #[vI64 (hi (d * 86400000000000 + h * 3600000000000 + mi * 60000000000 + s * 1000000000 + n * 1)), Value.int IntKind.u64 (lo (d * 86400000000000 + h * 3600000000000 + mi * 60000000000 + s * 1000000000 + n * 1))] = _ by (unfold dtot; rw [Int.mul_one])) (by kernel_rfl)
  · have _hh := True.intro
    refine st_i 12 .i64 (x' := 4 + 1 + 1) (Go.IntWalk.i64_in _ (by omega)) (by kernel_rfl) ?_
    refine st_round (by kernel_rfl) ?_
    refine st_fn ent63 (ulen6) sub0 (by kernel_rfl) ?_
    refine st_fn ent23 (wmul_f (mi) (60000000000) (by assumption) (by assumption)) sub0 (by kernel_rfl) ?_
    refine st_appw (b := 6) (b2 := 7) (n := 2) (m := m6) (vs := [vI64 (hi (d * 86400000000000)), Value.int IntKind.u64 (lo (d * 86400000000000)), vI64 (hi (h * 3600000000000)), Value.int IntKind.u64 (lo (h * 3600000000000))]) (rest := rest6) (v1 := vI64 (hi (mi * 60000000000))) (v2 := Value.int IntKind.u64 (lo (mi * 60000000000))) (by kernel_rfl) (by kernel_rfl) (by kernel_rfl) rfl rfl rfl hr6 hm6 (by omega) (by kernel_rfl) (by kernel_rfl) (fun hm9 rest9 hr9 => ?_) (fun m9 rest9 hm9 hr9 => ?_)
    · have _hh := True.intro
      refine st_i 12 .i64 (x' := 4 + 1 + 1 + 1) (Go.IntWalk.i64_in _ (by omega)) (by kernel_rfl) ?_
      refine st_round (by kernel_rfl) ?_
      refine st_fn ent63 (ulen7) sub0 (by kernel_rfl) ?_
      refine st_fn ent23 (wmul_f (s) (1000000000) (by assumption) (by assumption)) sub0 (by kernel_rfl) ?_
      refine st_appw (b := 6) (b2 := 8) (n := 3) (m := m6) (vs := [vI64 (hi (d * 86400000000000)), Value.int IntKind.u64 (lo (d * 86400000000000)), vI64 (hi (h * 3600000000000)), Value.int IntKind.u64 (lo (h * 3600000000000)), vI64 (hi (mi * 60000000000)), Value.int IntKind.u64 (lo (mi * 60000000000))]) (rest := rest9) (v1 := vI64 (hi (s * 1000000000))) (v2 := Value.int IntKind.u64 (lo (s * 1000000000))) (by kernel_rfl) (by kernel_rfl) (by kernel_rfl) rfl rfl rfl hr9 hm9 (by omega) (by kernel_rfl) (by kernel_rfl) (fun hm12 rest12 hr12 => ?_) (fun m12 rest12 hm12 hr12 => ?_)
      · have _hh := True.intro
        refine st_i 12 .i64 (x' := 4 + 1 + 1 + 1 + 1) (Go.IntWalk.i64_in _ (by omega)) (by kernel_rfl) ?_
        refine st_round (by kernel_rfl) ?_
        refine st_fn ent63 (ulen8) sub0 (by kernel_rfl) ?_
        refine st_fn ent23 (wmul_f (n) (1) (by assumption) (by assumption)) sub0 (by kernel_rfl) ?_
        refine st_appw (b := 6) (b2 := 9) (n := 4) (m := m6) (vs := [vI64 (hi (d * 86400000000000)), Value.int IntKind.u64 (lo (d * 86400000000000)), vI64 (hi (h * 3600000000000)), Value.int IntKind.u64 (lo (h * 3600000000000)), vI64 (hi (mi * 60000000000)), Value.int IntKind.u64 (lo (mi * 60000000000)), vI64 (hi (s * 1000000000)), Value.int IntKind.u64 (lo (s * 1000000000))]) (rest := rest12) (v1 := vI64 (hi (n * 1))) (v2 := Value.int IntKind.u64 (lo (n * 1))) (by kernel_rfl) (by kernel_rfl) (by kernel_rfl) rfl rfl rfl hr12 hm12 (by omega) (by kernel_rfl) (by kernel_rfl) (fun hm15 rest15 hr15 => ?_) (fun m15 rest15 hm15 hr15 => ?_)
        · have _hh := True.intro
          refine st_i 12 .i64 (x' := 4 + 1 + 1 + 1 + 1 + 1) (Go.IntWalk.i64_in _ (by omega)) (by kernel_rfl) ?_
          refine st_round (by kernel_rfl) ?_
          refine st_sum5 (b := 6) (m := m6) (n1 := (d * 86400000000000)) (n2 := (h * 3600000000000)) (n3 := (mi * 60000000000)) (n4 := (s * 1000000000)) (n5 := (n * 1)) (rest := rest15) ((d * 86400000000000) + (h * 3600000000000) + (mi * 60000000000) + (s * 1000000000) + (n * 1)) rfl (by first | assumption | (unfold W128; omega)) (by first | assumption | (unfold W128; omega)) (by first | assumption | (unfold W128; omega)) (by first | assumption | (unfold W128; omega)) (by first | assumption | (unfold W128; omega)) (by first | assumption | (unfold W128; omega)) (by kernel_rfl) (by kernel_rfl) ?_
          exact st_retv Tryz.func66 (show Value.agg #[vI64 (hi (d * 86400000000000 + h * 3600000000000 + mi * 60000000000 + s * 1000000000 + n * 1)), Value.int IntKind.u64 (lo (d * 86400000000000 + h * 3600000000000 + mi * 60000000000 + s * 1000000000 + n * 1))] = _ by (unfold dtot; rw [Int.mul_one])) (by kernel_rfl)
        · have _hh := True.intro
          refine st_i 12 .i64 (x' := 4 + 1 + 1 + 1 + 1 + 1) (Go.IntWalk.i64_in _ (by omega)) (by kernel_rfl) ?_
          refine st_round (by kernel_rfl) ?_
          refine st_sum5 (b := 10) (m := m15) (n1 := (d * 86400000000000)) (n2 := (h * 3600000000000)) (n3 := (mi * 60000000000)) (n4 := (s * 1000000000)) (n5 := (n * 1)) (rest := rest15) ((d * 86400000000000) + (h * 3600000000000) + (mi * 60000000000) + (s * 1000000000) + (n * 1)) rfl (by first | assumption | (unfold W128; omega)) (by first | assumption | (unfold W128; omega)) (by first | assumption | (unfold W128; omega)) (by first | assumption | (unfold W128; omega)) (by first | assumption | (unfold W128; omega)) (by first | assumption | (unfold W128; omega)) (by kernel_rfl) (by kernel_rfl) ?_
          exact st_retv Tryz.func66 (show Value.agg #[vI64 (hi (d * 86400000000000 + h * 3600000000000 + mi * 60000000000 + s * 1000000000 + n * 1)), Value.int IntKind.u64 (lo (d * 86400000000000 + h * 3600000000000 + mi * 60000000000 + s * 1000000000 + n * 1))] = _ by (unfold dtot; rw [Int.mul_one])) (by kernel_rfl)
      · have _hh := True.intro
        refine st_i 12 .i64 (x' := 4 + 1 + 1 + 1 + 1) (Go.IntWalk.i64_in _ (by omega)) (by kernel_rfl) ?_
        refine st_round (by kernel_rfl) ?_
        refine st_fn ent63 (ulen8) sub0 (by kernel_rfl) ?_
        refine st_fn ent23 (wmul_f (n) (1) (by assumption) (by assumption)) sub0 (by kernel_rfl) ?_
        refine st_appw (b := 9) (b2 := 10) (n := 4) (m := m12) (vs := [vI64 (hi (d * 86400000000000)), Value.int IntKind.u64 (lo (d * 86400000000000)), vI64 (hi (h * 3600000000000)), Value.int IntKind.u64 (lo (h * 3600000000000)), vI64 (hi (mi * 60000000000)), Value.int IntKind.u64 (lo (mi * 60000000000)), vI64 (hi (s * 1000000000)), Value.int IntKind.u64 (lo (s * 1000000000))]) (rest := rest12) (v1 := vI64 (hi (n * 1))) (v2 := Value.int IntKind.u64 (lo (n * 1))) (by kernel_rfl) (by kernel_rfl) (by kernel_rfl) rfl rfl rfl hr12 hm12 (by omega) (by kernel_rfl) (by kernel_rfl) (fun hm15 rest15 hr15 => ?_) (fun m15 rest15 hm15 hr15 => ?_)
        · have _hh := True.intro
          refine st_i 12 .i64 (x' := 4 + 1 + 1 + 1 + 1 + 1) (Go.IntWalk.i64_in _ (by omega)) (by kernel_rfl) ?_
          refine st_round (by kernel_rfl) ?_
          refine st_sum5 (b := 9) (m := m12) (n1 := (d * 86400000000000)) (n2 := (h * 3600000000000)) (n3 := (mi * 60000000000)) (n4 := (s * 1000000000)) (n5 := (n * 1)) (rest := rest15) ((d * 86400000000000) + (h * 3600000000000) + (mi * 60000000000) + (s * 1000000000) + (n * 1)) rfl (by first | assumption | (unfold W128; omega)) (by first | assumption | (unfold W128; omega)) (by first | assumption | (unfold W128; omega)) (by first | assumption | (unfold W128; omega)) (by first | assumption | (unfold W128; omega)) (by first | assumption | (unfold W128; omega)) (by kernel_rfl) (by kernel_rfl) ?_
          exact st_retv Tryz.func66 (show Value.agg #[vI64 (hi (d * 86400000000000 + h * 3600000000000 + mi * 60000000000 + s * 1000000000 + n * 1)), Value.int IntKind.u64 (lo (d * 86400000000000 + h * 3600000000000 + mi * 60000000000 + s * 1000000000 + n * 1))] = _ by (unfold dtot; rw [Int.mul_one])) (by kernel_rfl)
        · have _hh := True.intro
          refine st_i 12 .i64 (x' := 4 + 1 + 1 + 1 + 1 + 1) (Go.IntWalk.i64_in _ (by omega)) (by kernel_rfl) ?_
          refine st_round (by kernel_rfl) ?_
          refine st_sum5 (b := 11) (m := m15) (n1 := (d * 86400000000000)) (n2 := (h * 3600000000000)) (n3 := (mi * 60000000000)) (n4 := (s * 1000000000)) (n5 := (n * 1)) (rest := rest15) ((d * 86400000000000) + (h * 3600000000000) + (mi * 60000000000) + (s * 1000000000) + (n * 1)) rfl (by first | assumption | (unfold W128; omega)) (by first | assumption | (unfold W128; omega)) (by first | assumption | (unfold W128; omega)) (by first | assumption | (unfold W128; omega)) (by first | assumption | (unfold W128; omega)) (by first | assumption | (unfold W128; omega)) (by kernel_rfl) (by kernel_rfl) ?_
          exact st_retv Tryz.func66 (show Value.agg #[vI64 (hi (d * 86400000000000 + h * 3600000000000 + mi * 60000000000 + s * 1000000000 + n * 1)), Value.int IntKind.u64 (lo (d * 86400000000000 + h * 3600000000000 + mi * 60000000000 + s * 1000000000 + n * 1))] = _ by (unfold dtot; rw [Int.mul_one])) (by kernel_rfl)
    · have _hh := True.intro
      refine st_i 12 .i64 (x' := 4 + 1 + 1 + 1) (Go.IntWalk.i64_in _ (by omega)) (by kernel_rfl) ?_
      refine st_round (by kernel_rfl) ?_
      refine st_fn ent63 (ulen7) sub0 (by kernel_rfl) ?_
      refine st_fn ent23 (wmul_f (s) (1000000000) (by assumption) (by assumption)) sub0 (by kernel_rfl) ?_
      refine st_appw (b := 8) (b2 := 9) (n := 3) (m := m9) (vs := [vI64 (hi (d * 86400000000000)), Value.int IntKind.u64 (lo (d * 86400000000000)), vI64 (hi (h * 3600000000000)), Value.int IntKind.u64 (lo (h * 3600000000000)), vI64 (hi (mi * 60000000000)), Value.int IntKind.u64 (lo (mi * 60000000000))]) (rest := rest9) (v1 := vI64 (hi (s * 1000000000))) (v2 := Value.int IntKind.u64 (lo (s * 1000000000))) (by kernel_rfl) (by kernel_rfl) (by kernel_rfl) rfl rfl rfl hr9 hm9 (by omega) (by kernel_rfl) (by kernel_rfl) (fun hm12 rest12 hr12 => ?_) (fun m12 rest12 hm12 hr12 => ?_)
      · have _hh := True.intro
        refine st_i 12 .i64 (x' := 4 + 1 + 1 + 1 + 1) (Go.IntWalk.i64_in _ (by omega)) (by kernel_rfl) ?_
        refine st_round (by kernel_rfl) ?_
        refine st_fn ent63 (ulen8) sub0 (by kernel_rfl) ?_
        refine st_fn ent23 (wmul_f (n) (1) (by assumption) (by assumption)) sub0 (by kernel_rfl) ?_
        refine st_appw (b := 8) (b2 := 10) (n := 4) (m := m9) (vs := [vI64 (hi (d * 86400000000000)), Value.int IntKind.u64 (lo (d * 86400000000000)), vI64 (hi (h * 3600000000000)), Value.int IntKind.u64 (lo (h * 3600000000000)), vI64 (hi (mi * 60000000000)), Value.int IntKind.u64 (lo (mi * 60000000000)), vI64 (hi (s * 1000000000)), Value.int IntKind.u64 (lo (s * 1000000000))]) (rest := rest12) (v1 := vI64 (hi (n * 1))) (v2 := Value.int IntKind.u64 (lo (n * 1))) (by kernel_rfl) (by kernel_rfl) (by kernel_rfl) rfl rfl rfl hr12 hm12 (by omega) (by kernel_rfl) (by kernel_rfl) (fun hm15 rest15 hr15 => ?_) (fun m15 rest15 hm15 hr15 => ?_)
        · have _hh := True.intro
          refine st_i 12 .i64 (x' := 4 + 1 + 1 + 1 + 1 + 1) (Go.IntWalk.i64_in _ (by omega)) (by kernel_rfl) ?_
          refine st_round (by kernel_rfl) ?_
          refine st_sum5 (b := 8) (m := m9) (n1 := (d * 86400000000000)) (n2 := (h * 3600000000000)) (n3 := (mi * 60000000000)) (n4 := (s * 1000000000)) (n5 := (n * 1)) (rest := rest15) ((d * 86400000000000) + (h * 3600000000000) + (mi * 60000000000) + (s * 1000000000) + (n * 1)) rfl (by first | assumption | (unfold W128; omega)) (by first | assumption | (unfold W128; omega)) (by first | assumption | (unfold W128; omega)) (by first | assumption | (unfold W128; omega)) (by first | assumption | (unfold W128; omega)) (by first | assumption | (unfold W128; omega)) (by kernel_rfl) (by kernel_rfl) ?_
          exact st_retv Tryz.func66 (show Value.agg #[vI64 (hi (d * 86400000000000 + h * 3600000000000 + mi * 60000000000 + s * 1000000000 + n * 1)), Value.int IntKind.u64 (lo (d * 86400000000000 + h * 3600000000000 + mi * 60000000000 + s * 1000000000 + n * 1))] = _ by (unfold dtot; rw [Int.mul_one])) (by kernel_rfl)
        · have _hh := True.intro
          refine st_i 12 .i64 (x' := 4 + 1 + 1 + 1 + 1 + 1) (Go.IntWalk.i64_in _ (by omega)) (by kernel_rfl) ?_
          refine st_round (by kernel_rfl) ?_
          refine st_sum5 (b := 11) (m := m15) (n1 := (d * 86400000000000)) (n2 := (h * 3600000000000)) (n3 := (mi * 60000000000)) (n4 := (s * 1000000000)) (n5 := (n * 1)) (rest := rest15) ((d * 86400000000000) + (h * 3600000000000) + (mi * 60000000000) + (s * 1000000000) + (n * 1)) rfl (by first | assumption | (unfold W128; omega)) (by first | assumption | (unfold W128; omega)) (by first | assumption | (unfold W128; omega)) (by first | assumption | (unfold W128; omega)) (by first | assumption | (unfold W128; omega)) (by first | assumption | (unfold W128; omega)) (by kernel_rfl) (by kernel_rfl) ?_
          exact st_retv Tryz.func66 (show Value.agg #[vI64 (hi (d * 86400000000000 + h * 3600000000000 + mi * 60000000000 + s * 1000000000 + n * 1)), Value.int IntKind.u64 (lo (d * 86400000000000 + h * 3600000000000 + mi * 60000000000 + s * 1000000000 + n * 1))] = _ by (unfold dtot; rw [Int.mul_one])) (by kernel_rfl)
      · have _hh := True.intro
        refine st_i 12 .i64 (x' := 4 + 1 + 1 + 1 + 1) (Go.IntWalk.i64_in _ (by omega)) (by kernel_rfl) ?_
        refine st_round (by kernel_rfl) ?_
        refine st_fn ent63 (ulen8) sub0 (by kernel_rfl) ?_
        refine st_fn ent23 (wmul_f (n) (1) (by assumption) (by assumption)) sub0 (by kernel_rfl) ?_
        refine st_appw (b := 10) (b2 := 11) (n := 4) (m := m12) (vs := [vI64 (hi (d * 86400000000000)), Value.int IntKind.u64 (lo (d * 86400000000000)), vI64 (hi (h * 3600000000000)), Value.int IntKind.u64 (lo (h * 3600000000000)), vI64 (hi (mi * 60000000000)), Value.int IntKind.u64 (lo (mi * 60000000000)), vI64 (hi (s * 1000000000)), Value.int IntKind.u64 (lo (s * 1000000000))]) (rest := rest12) (v1 := vI64 (hi (n * 1))) (v2 := Value.int IntKind.u64 (lo (n * 1))) (by kernel_rfl) (by kernel_rfl) (by kernel_rfl) rfl rfl rfl hr12 hm12 (by omega) (by kernel_rfl) (by kernel_rfl) (fun hm15 rest15 hr15 => ?_) (fun m15 rest15 hm15 hr15 => ?_)
        · have _hh := True.intro
          refine st_i 12 .i64 (x' := 4 + 1 + 1 + 1 + 1 + 1) (Go.IntWalk.i64_in _ (by omega)) (by kernel_rfl) ?_
          refine st_round (by kernel_rfl) ?_
          refine st_sum5 (b := 10) (m := m12) (n1 := (d * 86400000000000)) (n2 := (h * 3600000000000)) (n3 := (mi * 60000000000)) (n4 := (s * 1000000000)) (n5 := (n * 1)) (rest := rest15) ((d * 86400000000000) + (h * 3600000000000) + (mi * 60000000000) + (s * 1000000000) + (n * 1)) rfl (by first | assumption | (unfold W128; omega)) (by first | assumption | (unfold W128; omega)) (by first | assumption | (unfold W128; omega)) (by first | assumption | (unfold W128; omega)) (by first | assumption | (unfold W128; omega)) (by first | assumption | (unfold W128; omega)) (by kernel_rfl) (by kernel_rfl) ?_
          exact st_retv Tryz.func66 (show Value.agg #[vI64 (hi (d * 86400000000000 + h * 3600000000000 + mi * 60000000000 + s * 1000000000 + n * 1)), Value.int IntKind.u64 (lo (d * 86400000000000 + h * 3600000000000 + mi * 60000000000 + s * 1000000000 + n * 1))] = _ by (unfold dtot; rw [Int.mul_one])) (by kernel_rfl)
        · have _hh := True.intro
          refine st_i 12 .i64 (x' := 4 + 1 + 1 + 1 + 1 + 1) (Go.IntWalk.i64_in _ (by omega)) (by kernel_rfl) ?_
          refine st_round (by kernel_rfl) ?_
          refine st_sum5 (b := 12) (m := m15) (n1 := (d * 86400000000000)) (n2 := (h * 3600000000000)) (n3 := (mi * 60000000000)) (n4 := (s * 1000000000)) (n5 := (n * 1)) (rest := rest15) ((d * 86400000000000) + (h * 3600000000000) + (mi * 60000000000) + (s * 1000000000) + (n * 1)) rfl (by first | assumption | (unfold W128; omega)) (by first | assumption | (unfold W128; omega)) (by first | assumption | (unfold W128; omega)) (by first | assumption | (unfold W128; omega)) (by first | assumption | (unfold W128; omega)) (by first | assumption | (unfold W128; omega)) (by kernel_rfl) (by kernel_rfl) ?_
          exact st_retv Tryz.func66 (show Value.agg #[vI64 (hi (d * 86400000000000 + h * 3600000000000 + mi * 60000000000 + s * 1000000000 + n * 1)), Value.int IntKind.u64 (lo (d * 86400000000000 + h * 3600000000000 + mi * 60000000000 + s * 1000000000 + n * 1))] = _ by (unfold dtot; rw [Int.mul_one])) (by kernel_rfl)
end
end Go.Proofs.YthoedmikfpbfnaaGreat
end
section
/-
  What lies between two days: what the program answers of layer 19.
-/
set_option linter.unusedVariables false
set_option linter.unusedSimpArgs false
set_option maxRecDepth 100000
namespace Go.Proofs.YthoedmikfpbfnaaGreat
open Go Go.RowKit Go.Ev

section
variable (y m d y' m' d' L : Int)
theorem cunt_3 (h : dOk y m d) (h' : dOk y' m' d') : Fn 100 [] [dv y m d, dv y' m' d', .int .i64 3] (.tuple #[duv 0 0 ((dnum y' m' d' - dnum y m d).tdiv 7) ((dnum y' m' d' - dnum y m d).tmod 7) 0 0 0 0, .int .i64 0]) := by
  have d1 := cdays_yes y m d h
  have d2 := cdays_yes y' m' d' h'
  have b1 := h.2
  have b2 := h'.2
  generalize dnum y m d = n at *
  generalize dnum y' m' d' = n' at *
  have tt := td (n' - n) 7 (by omega)
  clear h h'
  refine fn_of Tryz.func100 rfl fun ww => ?_
  refine st_fn ent117 (d1) sub0 (by kernel_rfl) ?_
  refine st_fn ent117 (d2) sub0 (by kernel_rfl) ?_
  refine st_i 48 .i64 (x' := n' - n) (Go.IntWalk.i64_in _ (by omega)) (by kernel_rfl) ?_
  refine st_i 49 .i64 (x' := (n' - n).tdiv 7) (Go.IntWalk.i64_in _ (by omega)) (by kernel_rfl) ?_
  refine st_i 52 .i64 (x' := n' - n) (Go.IntWalk.i64_in _ (by omega)) (by kernel_rfl) ?_
  exact st_ret Tryz.func100 (by kernel_rfl)
theorem cunt_4 (h : dOk y m d) (h' : dOk y' m' d') : Fn 100 [] [dv y m d, dv y' m' d', .int .i64 4] (.tuple #[duv 0 0 0 (dnum y' m' d' - dnum y m d) 0 0 0 0, .int .i64 0]) := by
  have d1 := cdays_yes y m d h
  have d2 := cdays_yes y' m' d' h'
  have b1 := h.2
  have b2 := h'.2
  generalize dnum y m d = n at *
  generalize dnum y' m' d' = n' at *
  clear h h'
  refine fn_of Tryz.func100 rfl fun ww => ?_
  refine st_fn ent117 (d1) sub0 (by kernel_rfl) ?_
  refine st_fn ent117 (d2) sub0 (by kernel_rfl) ?_
  refine st_i 59 .i64 (x' := n' - n) (Go.IntWalk.i64_in _ (by omega)) (by kernel_rfl) ?_
  exact st_ret Tryz.func100 (by kernel_rfl)
theorem cunt_0 (L : Int) (l : L = 1 ∨ L = 2) (h : dOk y m d) (h' : dOk y' m' d') (e : cmp3 y' m' d' y m d = 0) : Fn 100 [] [dv y m d, dv y' m' d', .int .i64 L] (.tuple #[du0, .int .i64 0]) := by
  have d1 := cdays_yes y m d h
  have d2 := cdays_yes y' m' d' h'
  have cc := ccmp5 y' m' d' y m d
  rw [e] at cc
  clear h h' e
  rcases l with rfl | rfl
  · refine fn_of Tryz.func100 rfl fun ww => ?_
    refine st_fn ent117 (d1) sub0 (by kernel_rfl) ?_
    refine st_fn ent117 (d2) sub0 (by kernel_rfl) ?_
    refine st_fn ent56 (cc) sub0 (by kernel_rfl) ?_
    exact st_ret Tryz.func100 (by kernel_rfl)
  · refine fn_of Tryz.func100 rfl fun ww => ?_
    refine st_fn ent117 (d1) sub0 (by kernel_rfl) ?_
    refine st_fn ent117 (d2) sub0 (by kernel_rfl) ?_
    refine st_fn ent56 (cc) sub0 (by kernel_rfl) ?_
    exact st_ret Tryz.func100 (by kernel_rfl)
theorem cunt_1 (s N T : Int) (h : dOk y m d) (h' : dOk y' m' d') (hs : s = 1 ∨ s = -1) (e : cmp3 y' m' d' y m d = s) (hN : mM s y m d y' m' d' = N) (hT : ymi y m + s * N = T) :
    Fn 100 [] [dv y m d, dv y' m' d', .int .i64 1] (.tuple #[duv (s * (N / 12)) (s * (N - 12 * (N / 12))) 0 (dnum y' m' d' - dnum (lY T) (lM T) (cD (lY T) (lM T) d)) 0 0 0 0, .int .i64 0]) := by
  have d1 := cdays_yes y m d h
  have d2 := cdays_yes y' m' d' h'
  have yy := dOk_year h
  have yy' := dOk_year h'
  have n0 := mM_pos h.1.1 h.1.2.1 h'.1.1 h'.1.2.1 hs e
  have n1 := mM_le (y := y) (y' := y') (d := d) (d' := d') h.1.1 h.1.2.1 h'.1.1 h'.1.2.1 hs
  rw [hN] at n0 n1
  have n2 : N ≤ 10000000 := by
    rcases hs with rfl | rfl
    · rw [if_pos rfl] at n1; omega
    · rw [if_neg (by omega)] at n1; omega
  have c2 := cmost2 s y m d y' m' d' (N / 12) (by omega) (by omega) (fun k k0 k1 => by have := cfit2 s y m d y' m' d' k hs (by omega) (by omega) h.1.1 h.1.2.1 h'.1.1 h'.1.2.1 k0 k1; rwa [hN] at this)
  have c3 := cmost3 s y m d y' m' d' (N / 12) (N - 12 * (N / 12)) (by omega) (by omega) (fun k k0 k1 => by have := cfit3 s y m d y' m' d' k (N / 12) hs (by omega) (by omega) h.1.1 h.1.2.1 h'.1.1 h'.1.2.1 (by omega) (by omega) k0 k1; rwa [hN] at this)
  have cl := clater y m d (s * N) T (by unfold ymi at hT; omega) (by omega) (by omega) h.1.1 h.1.2.1 (by rcases hs with rfl | rfl <;> omega) (by rcases hs with rfl | rfl <;> omega)
  have fo := (from_ok h h' hs e).1
  unfold fD' fY' fM' at fo
  rw [hN, hT] at fo
  have d3 := cdays_yes (lY T) (lM T) (cD (lY T) (lM T) d) fo
  have b1 := fo.2
  have b2 := h'.2
  have cc := ccmp5 y' m' d' y m d
  rw [e] at cc
  have ml := cmonth (lY T) (lM T)
  generalize dnum y' m' d' = n' at *
  generalize dnum (lY T) (lM T) (cD (lY T) (lM T) d) = n'' at *
  clear h h' e hN hT fo yy yy' n1
  obtain ⟨q, hq⟩ : ∃ q, N / 12 = q := ⟨_, rfl⟩
  have hq2 : 12 * q ≤ N ∧ N < 12 * q + 12 := by omega
  rw [hq] at c2 c3 ⊢
  clear hq
  rcases hs with rfl | rfl
  · refine fn_of Tryz.func100 rfl fun ww => ?_
    refine st_fn ent117 (d1) sub0 (by kernel_rfl) ?_
    refine st_fn ent117 (d2) sub0 (by kernel_rfl) ?_
    refine st_fn ent56 (cc) sub0 (by kernel_rfl) ?_
    refine st_fm [4, 0, 3, 1] ent142 (c2) (by kernel_rfl) (by kernel_rfl) (by kernel_rfl) ?_
    refine st_fm [4, 5, 0, 3, 1] ent142 (c3) (by kernel_rfl) (by kernel_rfl) (by kernel_rfl) ?_
    refine st_i 80 .i64 (x' := 12 * q) (Go.IntWalk.i64_in _ (by omega)) (by kernel_rfl) ?_
    refine st_i 83 .i64 (x' := 12 * q + (N - 12 * q)) (Go.IntWalk.i64_in _ (by omega)) (by kernel_rfl) ?_
    refine st_i 84 IntKind.i64 (x := IntKind.i64.wrap (1 * (12 * q + (N - 12 * q)))) ((Go.IntWalk.i64_in (1 * (12 * q + (N - 12 * q))) (by omega)).trans ((show (1 : Int) * (12 * q + (N - 12 * q)) = 1 * N by omega))) (by kernel_rfl) ?_
    refine st_fn ent124 (cl) sub0 (by kernel_rfl) ?_
    refine st_fn ent145 (ml) sub0 (by kernel_rfl) ?_
    refine st_i 98 .i64 (x' := 1 * q) (Go.IntWalk.i64_in _ (by omega)) (by kernel_rfl) ?_
    refine st_i 102 .i64 (x' := 1 * (N - 12 * q)) (Go.IntWalk.i64_in _ (by omega)) (by kernel_rfl) ?_
    refine st_fn ent117 (d3) sub0 (by kernel_rfl) ?_
    refine st_i 112 .i64 (x' := n' - n'') (Go.IntWalk.i64_in _ (by omega)) (by kernel_rfl) ?_
    exact st_ret Tryz.func100 (by kernel_rfl)
  · refine fn_of Tryz.func100 rfl fun ww => ?_
    refine st_fn ent117 (d1) sub0 (by kernel_rfl) ?_
    refine st_fn ent117 (d2) sub0 (by kernel_rfl) ?_
    refine st_fn ent56 (cc) sub0 (by kernel_rfl) ?_
    refine st_fm [4, 0, 3, 1] ent142 (c2) (by kernel_rfl) (by kernel_rfl) (by kernel_rfl) ?_
    refine st_fm [4, 5, 0, 3, 1] ent142 (c3) (by kernel_rfl) (by kernel_rfl) (by kernel_rfl) ?_
    refine st_i 80 .i64 (x' := 12 * q) (Go.IntWalk.i64_in _ (by omega)) (by kernel_rfl) ?_
    refine st_i 83 .i64 (x' := 12 * q + (N - 12 * q)) (Go.IntWalk.i64_in _ (by omega)) (by kernel_rfl) ?_
    refine st_i 84 IntKind.i64 (x := IntKind.i64.wrap (-1 * (12 * q + (N - 12 * q)))) ((Go.IntWalk.i64_in (-1 * (12 * q + (N - 12 * q))) (by omega)).trans ((show (-1 : Int) * (12 * q + (N - 12 * q)) = -1 * N by omega))) (by kernel_rfl) ?_
    refine st_fn ent124 (cl) sub0 (by kernel_rfl) ?_
    refine st_fn ent145 (ml) sub0 (by kernel_rfl) ?_
    refine st_i 98 .i64 (x' := -1 * q) (Go.IntWalk.i64_in _ (by omega)) (by kernel_rfl) ?_
    refine st_i 102 .i64 (x' := -1 * (N - 12 * q)) (Go.IntWalk.i64_in _ (by omega)) (by kernel_rfl) ?_
    refine st_fn ent117 (d3) sub0 (by kernel_rfl) ?_
    refine st_i 112 .i64 (x' := n' - n'') (Go.IntWalk.i64_in _ (by omega)) (by kernel_rfl) ?_
    exact st_ret Tryz.func100 (by kernel_rfl)
theorem cunt_2 (s N T : Int) (h : dOk y m d) (h' : dOk y' m' d') (hs : s = 1 ∨ s = -1) (e : cmp3 y' m' d' y m d = s) (hN : mM s y m d y' m' d' = N) (hT : ymi y m + s * N = T) :
    Fn 100 [] [dv y m d, dv y' m' d', .int .i64 2] (.tuple #[duv 0 (s * N) 0 (dnum y' m' d' - dnum (lY T) (lM T) (cD (lY T) (lM T) d)) 0 0 0 0, .int .i64 0]) := by
  have d1 := cdays_yes y m d h
  have d2 := cdays_yes y' m' d' h'
  have yy := dOk_year h
  have yy' := dOk_year h'
  have n0 := mM_pos h.1.1 h.1.2.1 h'.1.1 h'.1.2.1 hs e
  have n1 := mM_le (y := y) (y' := y') (d := d) (d' := d') h.1.1 h.1.2.1 h'.1.1 h'.1.2.1 hs
  rw [hN] at n0 n1
  have n2 : N ≤ 10000000 := by
    rcases hs with rfl | rfl
    · rw [if_pos rfl] at n1; omega
    · rw [if_neg (by omega)] at n1; omega
  have c3 := cmost3 s y m d y' m' d' 0 N (by omega) (by omega) (fun k k0 k1 => by have := cfit3 s y m d y' m' d' k 0 hs (by omega) (by omega) h.1.1 h.1.2.1 h'.1.1 h'.1.2.1 (by omega) (by omega) k0 k1; rwa [hN, show N - 12 * 0 = N by omega] at this)
  have cl := clater y m d (s * N) T (by unfold ymi at hT; omega) (by omega) (by omega) h.1.1 h.1.2.1 (by rcases hs with rfl | rfl <;> omega) (by rcases hs with rfl | rfl <;> omega)
  have fo := (from_ok h h' hs e).1
  unfold fD' fY' fM' at fo
  rw [hN, hT] at fo
  have d3 := cdays_yes (lY T) (lM T) (cD (lY T) (lM T) d) fo
  have b1 := fo.2
  have b2 := h'.2
  have cc := ccmp5 y' m' d' y m d
  rw [e] at cc
  have ml := cmonth (lY T) (lM T)
  generalize dnum y' m' d' = n' at *
  generalize dnum (lY T) (lM T) (cD (lY T) (lM T) d) = n'' at *
  clear h h' e hN hT fo yy yy' n1
  rcases hs with rfl | rfl
  · refine fn_of Tryz.func100 rfl fun ww => ?_
    refine st_fn ent117 (d1) sub0 (by kernel_rfl) ?_
    refine st_fn ent117 (d2) sub0 (by kernel_rfl) ?_
    refine st_fn ent56 (cc) sub0 (by kernel_rfl) ?_
    refine st_fm [4, 5, 0, 3, 1] ent142 (c3) (by kernel_rfl) (by kernel_rfl) (by kernel_rfl) ?_
    refine st_i 80 .i64 (x' := 12 * 0) (Go.IntWalk.i64_in _ (by omega)) (by kernel_rfl) ?_
    refine st_i 83 .i64 (x' := 12 * 0 + N) (Go.IntWalk.i64_in _ (by omega)) (by kernel_rfl) ?_
    refine st_i 84 IntKind.i64 (x := IntKind.i64.wrap (1 * (12 * 0 + N))) ((Go.IntWalk.i64_in (1 * (12 * 0 + N)) (by omega)).trans ((show (1 : Int) * (12 * 0 + N) = 1 * N by omega))) (by kernel_rfl) ?_
    refine st_fn ent124 (cl) sub0 (by kernel_rfl) ?_
    refine st_fn ent145 (ml) sub0 (by kernel_rfl) ?_
    refine st_i 98 .i64 (x' := 1 * 0) (Go.IntWalk.i64_in _ (by omega)) (by kernel_rfl) ?_
    refine st_i 102 .i64 (x' := 1 * N) (Go.IntWalk.i64_in _ (by omega)) (by kernel_rfl) ?_
    refine st_fn ent117 (d3) sub0 (by kernel_rfl) ?_
    refine st_i 112 .i64 (x' := n' - n'') (Go.IntWalk.i64_in _ (by omega)) (by kernel_rfl) ?_
    exact st_retv Tryz.func100 (show Value.tuple #[Value.agg { toList := [vI64 (1 * 0), vI64 (1 * N), vI64 0, vI64 (n' - n''), vI64 0, vI64 0, vI64 0, vI64 0] }, vI64 0] = _ by rfl) (by kernel_rfl)
  · refine fn_of Tryz.func100 rfl fun ww => ?_
    refine st_fn ent117 (d1) sub0 (by kernel_rfl) ?_
    refine st_fn ent117 (d2) sub0 (by kernel_rfl) ?_
    refine st_fn ent56 (cc) sub0 (by kernel_rfl) ?_
    refine st_fm [4, 5, 0, 3, 1] ent142 (c3) (by kernel_rfl) (by kernel_rfl) (by kernel_rfl) ?_
    refine st_i 80 .i64 (x' := 12 * 0) (Go.IntWalk.i64_in _ (by omega)) (by kernel_rfl) ?_
    refine st_i 83 .i64 (x' := 12 * 0 + N) (Go.IntWalk.i64_in _ (by omega)) (by kernel_rfl) ?_
    refine st_i 84 IntKind.i64 (x := IntKind.i64.wrap (-1 * (12 * 0 + N))) ((Go.IntWalk.i64_in (-1 * (12 * 0 + N)) (by omega)).trans ((show (-1 : Int) * (12 * 0 + N) = -1 * N by omega))) (by kernel_rfl) ?_
    refine st_fn ent124 (cl) sub0 (by kernel_rfl) ?_
    refine st_fn ent145 (ml) sub0 (by kernel_rfl) ?_
    refine st_i 98 .i64 (x' := -1 * 0) (Go.IntWalk.i64_in _ (by omega)) (by kernel_rfl) ?_
    refine st_i 102 .i64 (x' := -1 * N) (Go.IntWalk.i64_in _ (by omega)) (by kernel_rfl) ?_
    refine st_fn ent117 (d3) sub0 (by kernel_rfl) ?_
    refine st_i 112 .i64 (x' := n' - n'') (Go.IntWalk.i64_in _ (by omega)) (by kernel_rfl) ?_
    exact st_retv Tryz.func100 (show Value.tuple #[Value.agg { toList := [vI64 (-1 * 0), vI64 (-1 * N), vI64 0, vI64 (n' - n''), vI64 0, vI64 0, vI64 0, vI64 0] }, vI64 0] = _ by rfl) (by kernel_rfl)
end
end Go.Proofs.YthoedmikfpbfnaaGreat
end
section
/-
  A region that draws its order, one of whose stores (number t) hits a cell that the region loads: what loads is taken first where t waits for it; what looks at no memory is taken whenever it may come; S is asked for until t has come.
-/
namespace Go.Proofs.YthoedmikfpbfnaaGreat
open Go Go.RowKit

section
variable {P : Program} {ops : Array Oper} {Q : Exit → Act → World → Prop} {md : Region.Mode} {S : World → Prop} {t : Nat}

/-- Operation number i. -/
def opAt (ops : Array Oper) (i : Nat) : Oper := (ops[i]?).getD { dst := none, op := .move (.const undef), type := 0, pos := "", after := #[], guard := none }
end
end Go.Proofs.YthoedmikfpbfnaaGreat
end
section
/-
  The contracts of the layer of times, as the reckoner wants them.
-/
set_option linter.unusedVariables false
namespace Go.Proofs.YthoedmikfpbfnaaGreat
open Go Go.RowKit Go.Ev

abbrev tv (h m s n : Int) : Value := .agg #[.int .i64 h, .int .i64 m, .int .i64 s, .int .i64 n]
theorem fcnanos_yes (h m s n : Int) (k : tOk h m s n) : Fn 98 [] [tv h m s n] (.tuple #[.int .i64 (tnan h m s n), .bool true]) := fn1 fun w => cnanos_yes h m s n w k
theorem fcnanos_no (h m s n : Int) (k : ¬ tOk h m s n) : Fn 98 [] [tv h m s n] (.tuple #[.int .i64 0, .bool false]) := fn1 fun w => cnanos_no h m s n w k
theorem fcof_yes (n : Int) (h0 : 0 ≤ n) (h1 : n < 86400000000000) : Fn 120 [] [.int .i64 n] (.tuple #[tv (tH n) (tM n) (tS n) (tN n), .bool true]) := fn1 fun w => cof_yes n w h0 h1
end Go.Proofs.YthoedmikfpbfnaaGreat
end
section
/-
  Times held against each other, by the reference (for the law ClockRounds).
-/
set_option linter.unusedVariables false
set_option maxRecDepth 100000
namespace Go.Proofs.YthoedmikfpbfnaaGreat
open Go Go.RowKit Go.Ev

theorem fccmp (h m s n h' m' s' n' : Int) : Fn 57 [] [tv h m s n, tv h' m' s' n'] (.int .i64 (cmp4 h m s n h' m' s' n')) := fn1 fun w => cCmp h m s n h' m' s' n' w
end Go.Proofs.YthoedmikfpbfnaaGreat
end
section
/-
  Date-times: what the program and the reference answer of layer 7.
-/
set_option linter.unusedVariables false
set_option maxRecDepth 100000
namespace Go.Proofs.YthoedmikfpbfnaaGreat
open Go Go.RowKit Go.Ev

abbrev ptv (y mo d h m s n : Int) : Value := .agg #[.int .i64 y, .int .i64 mo, .int .i64 d, .int .i64 h, .int .i64 m, .int .i64 s, .int .i64 n]
abbrev pt0 : Value := ptv 0 0 0 0 0 0 0
abbrev wz : Value := .agg #[.int .i64 0, .int .u64 0]
section
variable (y mo d h m s n : Int)
theorem pnumber_yes (k : pOk y mo d h m s n) : Fn 58 [] [ptv y mo d h m s n] (.tuple #[wv (pnum y mo d h m s n), .bool true]) := by
  obtain ⟨k1, k2, k3⟩ := k
  have b := tnan_bd k2
  obtain ⟨k4, k5, k6⟩ := k1
  have k1 : dOk y mo d := ⟨k4, k5, k6⟩
  clear k4
  have e : (if dnum y mo d = -100000001 then (if tnan h m s n = 0 then 1 else 0) else 0) = (0 : Int) := by
    split
    · split
      · rename_i q1 q2; exact absurd ⟨q1, q2⟩ k3
      · rfl
    · rfl
  unfold pnum
  by_cases q : dnum y mo d = -100000001
  · have q2 : tnan h m s n ≠ 0 := fun z => k3 ⟨q, z⟩
    clear e k3
    refine fn_of Tryz.func58 rfl fun ww => ?_
    refine st_fn ent117 (cdays_yes (y) (mo) (d) (by assumption)) sub0 (by kernel_rfl) ?_
    refine st_fn ent98 (fcnanos_yes (h) (m) (s) (n) (by assumption)) sub0 (by kernel_rfl) ?_
    refine st_b 30 (show (dnum y mo d == -100000001) = true by exact decide_eq_true (by omega)) (by kernel_rfl) ?_
    refine st_b 33 (show (tnan h m s n == 0) = false by exact decide_eq_false (by omega)) (by kernel_rfl) ?_
    refine st_fn ent23 (wmul_f (dnum y mo d) (86400000000000) (by (unfold I64; omega)) (by (unfold I64; omega))) sub0 (by kernel_rfl) ?_
    refine st_fn ent30 (wof_fn (tnan h m s n) (by (unfold I64; omega))) sub0 (by kernel_rfl) ?_
    refine st_fn ent44 (wadd_yes (dnum y mo d * 86400000000000) (tnan h m s n) (by (unfold W128; omega)) (by (unfold W128; omega)) (by (unfold W128; omega))) sub0 (by kernel_rfl) ?_
    exact st_ret Tryz.func58 (by kernel_rfl)
  · clear e k3
    refine fn_of Tryz.func58 rfl fun ww => ?_
    refine st_fn ent117 (cdays_yes (y) (mo) (d) (by assumption)) sub0 (by kernel_rfl) ?_
    refine st_fn ent98 (fcnanos_yes (h) (m) (s) (n) (by assumption)) sub0 (by kernel_rfl) ?_
    refine st_b 30 (show (dnum y mo d == -100000001) = false by exact decide_eq_false (by omega)) (by kernel_rfl) ?_
    refine st_fn ent23 (wmul_f (dnum y mo d) (86400000000000) (by (unfold I64; omega)) (by (unfold I64; omega))) sub0 (by kernel_rfl) ?_
    refine st_fn ent30 (wof_fn (tnan h m s n) (by (unfold I64; omega))) sub0 (by kernel_rfl) ?_
    refine st_fn ent44 (wadd_yes (dnum y mo d * 86400000000000) (tnan h m s n) (by (unfold W128; omega)) (by (unfold W128; omega)) (by (unfold W128; omega))) sub0 (by kernel_rfl) ?_
    exact st_ret Tryz.func58 (by kernel_rfl)
theorem pnumber_no (k : ¬ pOk y mo d h m s n) : Fn 58 [] [ptv y mo d h m s n] (.tuple #[wz, .bool false]) := by
  by_cases k1 : dOk y mo d
  · by_cases k2 : tOk h m s n
    · have k3 : dnum y mo d = -100000001 ∧ tnan h m s n = 0 := Classical.byContradiction fun q => k ⟨k1, k2, q⟩
      obtain ⟨k4, k5⟩ := k3
      clear k
      refine fn_of Tryz.func58 rfl fun ww => ?_
      refine st_fn ent117 (cdays_yes (y) (mo) (d) (by assumption)) sub0 (by kernel_rfl) ?_
      refine st_fn ent98 (fcnanos_yes (h) (m) (s) (n) (by assumption)) sub0 (by kernel_rfl) ?_
      refine st_b 30 (show (dnum y mo d == -100000001) = true by exact decide_eq_true (by omega)) (by kernel_rfl) ?_
      refine st_b 33 (show (tnan h m s n == 0) = true by exact decide_eq_true (by omega)) (by kernel_rfl) ?_
      exact st_ret Tryz.func58 (by kernel_rfl)
    · clear k
      refine fn_of Tryz.func58 rfl fun ww => ?_
      refine st_fn ent117 (cdays_yes (y) (mo) (d) (by assumption)) sub0 (by kernel_rfl) ?_
      refine st_fn ent98 (fcnanos_no (h) (m) (s) (n) (by assumption)) sub0 (by kernel_rfl) ?_
      exact st_ret Tryz.func58 (by kernel_rfl)
  · by_cases k2 : tOk h m s n
    · clear k
      refine fn_of Tryz.func58 rfl fun ww => ?_
      refine st_fn ent117 (cdays_no (y) (mo) (d) (by assumption)) sub0 (by kernel_rfl) ?_
      refine st_fn ent98 (fcnanos_yes (h) (m) (s) (n) (by assumption)) sub0 (by kernel_rfl) ?_
      exact st_ret Tryz.func58 (by kernel_rfl)
    · clear k
      refine fn_of Tryz.func58 rfl fun ww => ?_
      refine st_fn ent117 (cdays_no (y) (mo) (d) (by assumption)) sub0 (by kernel_rfl) ?_
      refine st_fn ent98 (fcnanos_no (h) (m) (s) (n) (by assumption)) sub0 (by kernel_rfl) ?_
      exact st_ret Tryz.func58 (by kernel_rfl)
theorem pright_yes (k : pOk y mo d h m s n) : Fn 18 [] [ptv y mo d h m s n] (.bool true) := by
  refine fn_of Tryz.func18 rfl fun ww => ?_
  refine st_fn ent58 (pnumber_yes (y) (mo) (d) (h) (m) (s) (n) (by assumption)) sub0 (by kernel_rfl) ?_
  exact st_ret Tryz.func18 (by kernel_rfl)
theorem pright_no (k : ¬ pOk y mo d h m s n) : Fn 18 [] [ptv y mo d h m s n] (.bool false) := by
  refine fn_of Tryz.func18 rfl fun ww => ?_
  refine st_fn ent58 (pnumber_no (y) (mo) (d) (h) (m) (s) (n) (by assumption)) sub0 (by kernel_rfl) ?_
  exact st_ret Tryz.func18 (by kernel_rfl)
end
section
variable (y mo d h m s n y' mo' d' h' m' s' n' : Int)
theorem psince_yes (k : pOk y mo d h m s n) (k' : pOk y' mo' d' h' m' s' n') : Fn 40 [] [ptv y mo d h m s n, ptv y' mo' d' h' m' s' n'] (.tuple #[wv (pnum y' mo' d' h' m' s' n' - pnum y mo d h m s n), .int .i64 0]) := by
  have i := pOk_in k
  have i' := pOk_in k'
  have hx : W128 (pnum y mo d h m s n) := by unfold pIn at i; unfold W128; omega
  have hx' : W128 (pnum y' mo' d' h' m' s' n') := by unfold pIn at i'; unfold W128; omega
  have hy : W128 (pnum y' mo' d' h' m' s' n' - pnum y mo d h m s n) := by unfold pIn at i i'; unfold W128; omega
  refine fn_of Tryz.func40 rfl fun ww => ?_
  refine st_fn ent58 (pnumber_yes (y) (mo) (d) (h) (m) (s) (n) (by assumption)) sub0 (by kernel_rfl) ?_
  refine st_fn ent58 (pnumber_yes (y') (mo') (d') (h') (m') (s') (n') (by assumption)) sub0 (by kernel_rfl) ?_
  refine st_fn ent92 (wsub_yes (pnum y' mo' d' h' m' s' n') (pnum y mo d h m s n) (by assumption) (by assumption) (by assumption)) sub0 (by kernel_rfl) ?_
  exact st_ret Tryz.func40 (by kernel_rfl)
theorem psince_no (k : ¬ (pOk y mo d h m s n ∧ pOk y' mo' d' h' m' s' n')) : Fn 40 [] [ptv y mo d h m s n, ptv y' mo' d' h' m' s' n'] (.tuple #[wz, .int .i64 1]) := by
  by_cases k1 : pOk y mo d h m s n
  · have k2 : ¬ pOk y' mo' d' h' m' s' n' := fun q => k ⟨k1, q⟩
    clear k
    refine fn_of Tryz.func40 rfl fun ww => ?_
    refine st_fn ent58 (pnumber_yes (y) (mo) (d) (h) (m) (s) (n) (by assumption)) sub0 (by kernel_rfl) ?_
    refine st_fn ent58 (pnumber_no (y') (mo') (d') (h') (m') (s') (n') (by assumption)) sub0 (by kernel_rfl) ?_
    exact st_ret Tryz.func40 (by kernel_rfl)
  · by_cases k2 : pOk y' mo' d' h' m' s' n'
    · clear k
      refine fn_of Tryz.func40 rfl fun ww => ?_
      refine st_fn ent58 (pnumber_no (y) (mo) (d) (h) (m) (s) (n) (by assumption)) sub0 (by kernel_rfl) ?_
      refine st_fn ent58 (pnumber_yes (y') (mo') (d') (h') (m') (s') (n') (by assumption)) sub0 (by kernel_rfl) ?_
      exact st_ret Tryz.func40 (by kernel_rfl)
    · clear k
      refine fn_of Tryz.func40 rfl fun ww => ?_
      refine st_fn ent58 (pnumber_no (y) (mo) (d) (h) (m) (s) (n) (by assumption)) sub0 (by kernel_rfl) ?_
      refine st_fn ent58 (pnumber_no (y') (mo') (d') (h') (m') (s') (n') (by assumption)) sub0 (by kernel_rfl) ?_
      exact st_ret Tryz.func40 (by kernel_rfl)
theorem pcmp_eq (k : cmp3 y mo d y' mo' d' = 0) : Fn 17 [] [ptv y mo d h m s n, ptv y' mo' d' h' m' s' n'] (.int .i64 (cmp4 h m s n h' m' s' n')) := by
  refine fn_of Tryz.func17 rfl fun ww => ?_
  refine st_fn ent56 (ccmp5 (y) (mo) (d) (y') (mo') (d')) sub0 (by kernel_rfl) ?_
  refine st_b 12 (show (cmp3 y mo d y' mo' d' != 0) = false by exact bne_eq_false_iff_eq.2 (by omega)) (by kernel_rfl) ?_
  refine st_fn ent57 (fccmp (h) (m) (s) (n) (h') (m') (s') (n')) sub0 (by kernel_rfl) ?_
  exact st_ret Tryz.func17 (by kernel_rfl)
theorem pcmp_ne (k : cmp3 y mo d y' mo' d' ≠ 0) : Fn 17 [] [ptv y mo d h m s n, ptv y' mo' d' h' m' s' n'] (.int .i64 (cmp3 y mo d y' mo' d')) := by
  refine fn_of Tryz.func17 rfl fun ww => ?_
  refine st_fn ent56 (ccmp5 (y) (mo) (d) (y') (mo') (d')) sub0 (by kernel_rfl) ?_
  refine st_b 12 (show (cmp3 y mo d y' mo' d' != 0) = true by exact bne_iff_ne.2 (by omega)) (by kernel_rfl) ?_
  exact st_ret Tryz.func17 (by kernel_rfl)
theorem pcmp : Fn 17 [] [ptv y mo d h m s n, ptv y' mo' d' h' m' s' n'] (.int .i64 (cmp7 y mo d h m s n y' mo' d' h' m' s' n')) := by
  by_cases k : cmp3 y mo d y' mo' d' = 0
  · have := pcmp_eq y mo d h m s n y' mo' d' h' m' s' n' k
    unfold cmp7; rw [if_pos k]; exact this
  · have := pcmp_ne y mo d h m s n y' mo' d' h' m' s' n' k
    unfold cmp7; rw [if_neg k]; exact this
end
end Go.Proofs.YthoedmikfpbfnaaGreat
end
section
/-
  What lies between two date-times: what the program answers of layer 19.
-/
set_option linter.unusedVariables false
set_option linter.unusedSimpArgs false
set_option maxRecDepth 100000
namespace Go.Proofs.YthoedmikfpbfnaaGreat
open Go Go.RowKit Go.Ev

section
variable (y mo d h m s n y' mo' d' h' m' s' n' L : Int)
variable (A B C D H M S N e : Int)
theorem cbet_n (k : pOk y mo d h m s n) (k' : pOk y' mo' d' h' m' s' n') (l1 : 1 ≤ L) (l2 : L ≤ 4) (v z : Int) (hv : v = -1 ∨ v = 0 ∨ v = 1) (ev : cmp3 y' mo' d' y mo d = v) (ez : tnan h' m' s' n' - tnan h m s n = z) (hz : ¬ z * v < 0) (F1 F2 F3 F4 e' : Int)
    (hu : Fn 100 [] [dv y mo d, dv y' mo' d', .int .i64 L] (.tuple #[duv A B C D 0 0 0 0, .int .i64 e])) (hl : Fn 97 [] [wv z, .int .i64 5] (.tuple #[duv F1 F2 F3 F4 H M S N, .int .i64 e'])) :
    Fn 42 [] [ptv y mo d h m s n, ptv y' mo' d' h' m' s' n', .int .i64 L] (.tuple #[duv A B C D H M S N, .int .i64 e]) := by
  have r := psince_yes y mo d h m s n y' mo' d' h' m' s' n' k k'
  have n1 := fcnanos_yes h m s n k.2.1
  have n2 := fcnanos_yes h' m' s' n' k'.2.1
  have b1 := tnan_bd k.2.1
  have b2 := tnan_bd k'.2.1
  have cc := ccmp5 y' mo' d' y mo d
  rw [ev] at cc
  generalize tnan h m s n = t at *
  generalize tnan h' m' s' n' = t' at *
  have iz : I64 z := by unfold I64; omega
  generalize pnum y' mo' d' h' m' s' n' - pnum y mo d h m s n = pn at r
  clear k k' ev
  rcases hv with rfl | rfl | rfl
  · refine fn_of Tryz.func42 rfl fun ww => ?_
    refine st_fn ent40 (r) sub0 (by kernel_rfl) ?_
    refine st_b 30 (show (decide (L < 1)) = false by exact decide_eq_false (by omega)) (by kernel_rfl) ?_
    refine st_b 34 (show (decide (L > 8)) = false by exact decide_eq_false (by omega)) (by kernel_rfl) ?_
    refine st_b 38 (show (decide (L > 4)) = false by exact decide_eq_false (by omega)) (by kernel_rfl) ?_
    refine st_fn ent98 (n1) sub0 (by kernel_rfl) ?_
    refine st_fn ent98 (n2) sub0 (by kernel_rfl) ?_
    refine st_i 58 IntKind.i64 (x := IntKind.i64.wrap (t' - t)) ((Go.IntWalk.i64_in (t' - t) (by omega)).trans (ez)) (by kernel_rfl) ?_
    refine st_fn ent56 (cc) sub0 (by kernel_rfl) ?_
    refine st_i 68 .i64 (x' := z * -1) (Go.IntWalk.i64_in _ (by omega)) (by kernel_rfl) ?_
    refine st_b 69 (show (decide (z * -1 < 0)) = false by exact decide_eq_false (by omega)) (by kernel_rfl) ?_
    refine st_fn ent100 (hu) sub0 (by kernel_rfl) ?_
    refine st_fn ent30 (wof_fn (z) (by assumption)) sub0 (by kernel_rfl) ?_
    refine st_fn ent97 (hl) sub0 (by kernel_rfl) ?_
    exact st_ret Tryz.func42 (by kernel_rfl)
  · refine fn_of Tryz.func42 rfl fun ww => ?_
    refine st_fn ent40 (r) sub0 (by kernel_rfl) ?_
    refine st_b 30 (show (decide (L < 1)) = false by exact decide_eq_false (by omega)) (by kernel_rfl) ?_
    refine st_b 34 (show (decide (L > 8)) = false by exact decide_eq_false (by omega)) (by kernel_rfl) ?_
    refine st_b 38 (show (decide (L > 4)) = false by exact decide_eq_false (by omega)) (by kernel_rfl) ?_
    refine st_fn ent98 (n1) sub0 (by kernel_rfl) ?_
    refine st_fn ent98 (n2) sub0 (by kernel_rfl) ?_
    refine st_i 58 IntKind.i64 (x := IntKind.i64.wrap (t' - t)) ((Go.IntWalk.i64_in (t' - t) (by omega)).trans (ez)) (by kernel_rfl) ?_
    refine st_fn ent56 (cc) sub0 (by kernel_rfl) ?_
    refine st_i 68 .i64 (x' := z * 0) (Go.IntWalk.i64_in _ (by omega)) (by kernel_rfl) ?_
    refine st_b 69 (show (decide (z * 0 < 0)) = false by exact decide_eq_false (by omega)) (by kernel_rfl) ?_
    refine st_fn ent100 (hu) sub0 (by kernel_rfl) ?_
    refine st_fn ent30 (wof_fn (z) (by assumption)) sub0 (by kernel_rfl) ?_
    refine st_fn ent97 (hl) sub0 (by kernel_rfl) ?_
    exact st_ret Tryz.func42 (by kernel_rfl)
  · refine fn_of Tryz.func42 rfl fun ww => ?_
    refine st_fn ent40 (r) sub0 (by kernel_rfl) ?_
    refine st_b 30 (show (decide (L < 1)) = false by exact decide_eq_false (by omega)) (by kernel_rfl) ?_
    refine st_b 34 (show (decide (L > 8)) = false by exact decide_eq_false (by omega)) (by kernel_rfl) ?_
    refine st_b 38 (show (decide (L > 4)) = false by exact decide_eq_false (by omega)) (by kernel_rfl) ?_
    refine st_fn ent98 (n1) sub0 (by kernel_rfl) ?_
    refine st_fn ent98 (n2) sub0 (by kernel_rfl) ?_
    refine st_i 58 IntKind.i64 (x := IntKind.i64.wrap (t' - t)) ((Go.IntWalk.i64_in (t' - t) (by omega)).trans (ez)) (by kernel_rfl) ?_
    refine st_fn ent56 (cc) sub0 (by kernel_rfl) ?_
    refine st_i 68 .i64 (x' := z * 1) (Go.IntWalk.i64_in _ (by omega)) (by kernel_rfl) ?_
    refine st_b 69 (show (decide (z * 1 < 0)) = false by exact decide_eq_false (by omega)) (by kernel_rfl) ?_
    refine st_fn ent100 (hu) sub0 (by kernel_rfl) ?_
    refine st_fn ent30 (wof_fn (z) (by assumption)) sub0 (by kernel_rfl) ?_
    refine st_fn ent97 (hl) sub0 (by kernel_rfl) ?_
    exact st_ret Tryz.func42 (by kernel_rfl)
theorem cbet_s (k : pOk y mo d h m s n) (k' : pOk y' mo' d' h' m' s' n') (l1 : 1 ≤ L) (l2 : L ≤ 4) (v z : Int) (hv : v = -1 ∨ v = 1) (ev : cmp3 y' mo' d' y mo d = v) (ez : tnan h' m' s' n' - tnan h m s n = z) (hz : z * v < 0) (Y X W F1 F2 F3 F4 e' : Int)
    (hd : Fn 99 [] [dv y' mo' d', .int .i64 (-v)] (.tuple #[dv Y X W, .int .i64 0]))
    (hu : Fn 100 [] [dv y mo d, dv Y X W, .int .i64 L] (.tuple #[duv A B C D 0 0 0 0, .int .i64 e])) (hl : Fn 97 [] [wv (z + v * 86400000000000), .int .i64 5] (.tuple #[duv F1 F2 F3 F4 H M S N, .int .i64 e'])) :
    Fn 42 [] [ptv y mo d h m s n, ptv y' mo' d' h' m' s' n', .int .i64 L] (.tuple #[duv A B C D H M S N, .int .i64 e]) := by
  have r := psince_yes y mo d h m s n y' mo' d' h' m' s' n' k k'
  have n1 := fcnanos_yes h m s n k.2.1
  have n2 := fcnanos_yes h' m' s' n' k'.2.1
  have b1 := tnan_bd k.2.1
  have b2 := tnan_bd k'.2.1
  have cc := ccmp5 y' mo' d' y mo d
  rw [ev] at cc
  generalize tnan h m s n = t at *
  generalize tnan h' m' s' n' = t' at *
  have iz : I64 (z + v * 86400000000000) := by rcases hv with rfl | rfl <;> (unfold I64; omega)
  generalize pnum y' mo' d' h' m' s' n' - pnum y mo d h m s n = pn at r
  clear k k' ev
  rcases hv with rfl | rfl
  · have iz' : I64 (z + -86400000000000) := by unfold I64; omega
    rw [show z + -1 * 86400000000000 = z + -86400000000000 by omega] at hl
    rw [show -(-1 : Int) = 1 by omega] at hd
    refine fn_of Tryz.func42 rfl fun ww => ?_
    refine st_fn ent40 (r) sub0 (by kernel_rfl) ?_
    refine st_b 30 (show (decide (L < 1)) = false by exact decide_eq_false (by omega)) (by kernel_rfl) ?_
    refine st_b 34 (show (decide (L > 8)) = false by exact decide_eq_false (by omega)) (by kernel_rfl) ?_
    refine st_b 38 (show (decide (L > 4)) = false by exact decide_eq_false (by omega)) (by kernel_rfl) ?_
    refine st_fn ent98 (n1) sub0 (by kernel_rfl) ?_
    refine st_fn ent98 (n2) sub0 (by kernel_rfl) ?_
    refine st_i 58 IntKind.i64 (x := IntKind.i64.wrap (t' - t)) ((Go.IntWalk.i64_in (t' - t) (by omega)).trans (ez)) (by kernel_rfl) ?_
    refine st_fn ent56 (cc) sub0 (by kernel_rfl) ?_
    refine st_i 68 .i64 (x' := z * -1) (Go.IntWalk.i64_in _ (by omega)) (by kernel_rfl) ?_
    refine st_b 69 (show (decide (z * -1 < 0)) = true by exact decide_eq_true (by omega)) (by kernel_rfl) ?_
    refine st_i 73 .i64 (x' := 0 - -1) (Go.IntWalk.i64_in _ (by omega)) (by kernel_rfl) ?_
    refine st_fn ent99 (hd) sub0 (by kernel_rfl) ?_
    refine st_i 79 .i64 (x' := -1 * 86400000000000) (Go.IntWalk.i64_in _ (by omega)) (by kernel_rfl) ?_
    refine st_i 80 .i64 (x' := z + -1 * 86400000000000) (Go.IntWalk.i64_in _ (by omega)) (by kernel_rfl) ?_
    refine st_fn ent100 (hu) sub0 (by kernel_rfl) ?_
    refine st_fn ent30 (wof_fn (z + -1 * 86400000000000) (by assumption)) sub0 (by kernel_rfl) ?_
    refine st_fn ent97 (hl) sub0 (by kernel_rfl) ?_
    exact st_ret Tryz.func42 (by kernel_rfl)
  · have iz' : I64 (z + 86400000000000) := by unfold I64; omega
    rw [show z + 1 * 86400000000000 = z + 86400000000000 by omega] at hl
    refine fn_of Tryz.func42 rfl fun ww => ?_
    refine st_fn ent40 (r) sub0 (by kernel_rfl) ?_
    refine st_b 30 (show (decide (L < 1)) = false by exact decide_eq_false (by omega)) (by kernel_rfl) ?_
    refine st_b 34 (show (decide (L > 8)) = false by exact decide_eq_false (by omega)) (by kernel_rfl) ?_
    refine st_b 38 (show (decide (L > 4)) = false by exact decide_eq_false (by omega)) (by kernel_rfl) ?_
    refine st_fn ent98 (n1) sub0 (by kernel_rfl) ?_
    refine st_fn ent98 (n2) sub0 (by kernel_rfl) ?_
    refine st_i 58 IntKind.i64 (x := IntKind.i64.wrap (t' - t)) ((Go.IntWalk.i64_in (t' - t) (by omega)).trans (ez)) (by kernel_rfl) ?_
    refine st_fn ent56 (cc) sub0 (by kernel_rfl) ?_
    refine st_i 68 .i64 (x' := z * 1) (Go.IntWalk.i64_in _ (by omega)) (by kernel_rfl) ?_
    refine st_b 69 (show (decide (z * 1 < 0)) = true by exact decide_eq_true (by omega)) (by kernel_rfl) ?_
    refine st_i 73 .i64 (x' := 0 - 1) (Go.IntWalk.i64_in _ (by omega)) (by kernel_rfl) ?_
    refine st_fn ent99 (hd) sub0 (by kernel_rfl) ?_
    refine st_i 79 .i64 (x' := 1 * 86400000000000) (Go.IntWalk.i64_in _ (by omega)) (by kernel_rfl) ?_
    refine st_i 80 .i64 (x' := z + 1 * 86400000000000) (Go.IntWalk.i64_in _ (by omega)) (by kernel_rfl) ?_
    refine st_fn ent100 (hu) sub0 (by kernel_rfl) ?_
    refine st_fn ent30 (wof_fn (z + 1 * 86400000000000) (by assumption)) sub0 (by kernel_rfl) ?_
    refine st_fn ent97 (hl) sub0 (by kernel_rfl) ?_
    exact st_ret Tryz.func42 (by kernel_rfl)
end
end Go.Proofs.YthoedmikfpbfnaaGreat
end
