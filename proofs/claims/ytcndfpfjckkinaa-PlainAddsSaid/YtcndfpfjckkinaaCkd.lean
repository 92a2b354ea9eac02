/-
  clock.Add.
-/
import Derived.Test.YtcndfpfjckkinaaCkc
import Derived.Test.YtcndfpfjckkinaaChainy
import Derived.Test.YtcndfpfjckkinaaGf
set_option linter.unusedSimpArgs false
set_option linter.unusedVariables false
namespace Go.Proofs.Ytcndfpfjckkinaa
open Go Go.RowKit

def dayN : Int := 86400000000000
def addQ (a x : Int) : Int := (a + x).fdiv 86400000000000
def addR (a x : Int) : Int := (a + x).fmod 86400000000000
theorem add_split {a x : Int} (a0 : 0 ≤ a) (a1 : a < 86400000000000) :
    0 ≤ addR a x ∧ addR a x < 86400000000000 ∧ (a + x.fmod 86400000000000 < 86400000000000 → addQ a x = x.fdiv 86400000000000 ∧ addR a x = a + x.fmod 86400000000000) ∧
      (¬ a + x.fmod 86400000000000 < 86400000000000 → addQ a x = x.fdiv 86400000000000 + 1 ∧ addR a x = a + x.fmod 86400000000000 - 86400000000000) := by
  unfold addQ addR
  rw [Int.fmod_eq_emod_of_nonneg _ (by omega), Int.fmod_eq_emod_of_nonneg _ (by omega), Int.fdiv_eq_ediv_of_nonneg _ (by omega), Int.fdiv_eq_ediv_of_nonneg _ (by omega)]
  omega
theorem day_W {x : Int} (hx : W128 x) : W128 (x.fdiv 86400000000000) ∧ W128 (x.fdiv 86400000000000 + 1) := by
  rw [Int.fdiv_eq_ediv_of_nonneg _ (by omega)]; unfold W128 at *; omega
theorem fmod_day (x : Int) : 0 ≤ x.fmod 86400000000000 ∧ x.fmod 86400000000000 < 86400000000000 := by
  rw [Int.fmod_eq_emod_of_nonneg _ (by omega)]; omega
/-- A time, so many nanoseconds on: the time, the midnights, the error. -/
def RetAdd (w : World) (a x : Int) (e : Ending) (w' : World) : Prop :=
  (I64 (addQ a x) → e = .returned (.tuple #[.agg #[.int .i64 (tH (addR a x)), .int .i64 (tM (addR a x)), .int .i64 (tS (addR a x)), .int .i64 (tN (addR a x))], .int .i64 (addQ a x), .int .i64 0])) ∧
  (¬ I64 (addQ a x) → e = .returned (.tuple #[.agg #[.int .i64 0, .int .i64 0, .int .i64 0, .int .i64 0], .int .i64 0, .int .i64 2])) ∧ Ext w w'
set_option maxRecDepth 100000 in
set_option maxHeartbeats 3200000 in
theorem cadd_no (h m s n x : Int) (w : World) (k : ¬ tOk h m s n) :
    Calls Try.prog 114 #[.agg #[.int .i64 h, .int .i64 m, .int .i64 s, .int .i64 n], .agg #[.int .i64 (hi x), .int .u64 (lo x)]] w (fun e w' => e = .returned (.tuple #[.agg #[.int .i64 0, .int .i64 0, .int .i64 0, .int .i64 0], .int .i64 0, .int .i64 1]) ∧ Ext w w') := by
  have HN := Lib.hid cnanos_no
  have HK := Lib.hid k
  go_enter Try.func114, Try.ntmps114
  go_upto_region 1 with fail
  have xw := Ext.refl w
  refine wp_name ?_
  intro V1 hV
  replace xw : Ext w V1 := by rw [hV]; exact Ext.alloc (Ext.alloc (Ext.alloc (xw)))
  have b2 : Bx V1 w.heap.size #[.int .i64 h, .int .i64 m, .int .i64 s, .int .i64 n] 23 := by rw [hV]; exact ((Bx.new rfl).alloc _).alloc _
  have b3 : Box2 V1 (w.heap.size + 1) (.int .i64 (hi x)) (.int .u64 (lo x)) 38 := by rw [hV]; exact (Box2.new (by simp)).alloc _
  have b4 : Bx V1 (w.heap.size + 1 + 1) #[.int .i64 0, .int .i64 0, .int .i64 0, .int .i64 0] 23 := by rw [hV]; exact Bx.new (by simp)
  clear hV
  have b2_c0 := b2.c 0 (v := .int .i64 h) rfl
  have b2_c1 := b2.c 1 (v := .int .i64 m) rfl
  have b2_c2 := b2.c 2 (v := .int .i64 s) rfl
  have b2_c3 := b2.c 3 (v := .int .i64 n) rfl
  go_wp2_with fail
  refine (HN.out h m s n _ HK.out).mono ?_
  rintro e w2 ⟨rfl, x2⟩
  clear b2_c0 b2_c1 b2_c2 b2_c3
  replace b2 := b2.ext x2
  replace b3 := b3.ext x2
  replace b4 := b4.ext x2
  replace xw := Ext.trans xw x2
  go_upto_region 2 with fail
  go_upto_region 3 with fail
  have b4_c0 := b4.c 0 (v := .int .i64 0) rfl
  have b4_c1 := b4.c 1 (v := .int .i64 0) rfl
  have b4_c2 := b4.c 2 (v := .int .i64 0) rfl
  have b4_c3 := b4.c 3 (v := .int .i64 0) rfl
  have b4_f0 := b4.f 0
  have b4_f1 := b4.f 1
  have b4_f2 := b4.f 2
  have b4_f3 := b4.f 3
  have xr := Ext.set (Ext.set (Ext.set (Ext.set (xw) (k := w.heap.size + 1 + 1) (o := 0) (u := .int .i64 0) (by omega)) (k := w.heap.size + 1 + 1) (o := 1) (u := .int .i64 0) (by omega)) (k := w.heap.size + 1 + 1) (o := 2) (u := .int .i64 0) (by omega)) (k := w.heap.size + 1 + 1) (o := 3) (u := .int .i64 0) (by omega)
  go_wp2_with fail
  refine bodyPost_ret (v := .tuple #[.agg #[.int .i64 0, .int .i64 0, .int .i64 0, .int .i64 0], .int .i64 0, .int .i64 1]) (by simp [results, Try.results114, go_sem, b4_c0, b4_c1, b4_c2, b4_c3]) rfl ⟨rfl, xr⟩
set_option maxRecDepth 100000 in
set_option maxHeartbeats 3200000 in
theorem cadd (h m s n x : Int) (w : World) (k : tOk h m s n) (hx : W128 x) :
    Calls Try.prog 114 #[.agg #[.int .i64 h, .int .i64 m, .int .i64 s, .int .i64 n], .agg #[.int .i64 (hi x), .int .u64 (lo x)]] w (RetAdd w (tnan h m s n) x) := by
  have HN := Lib.hid cnanos_yes
  have HK := Lib.hid k
  have HB := Lib.hid dby
  have HO := Lib.hid liv_of
  have HAd := Lib.hid wadd
  have HI := Lib.hid wint
  have HOf6 := Lib.hid cof_yes
  obtain ⟨a0, a1⟩ := tnan_bd k
  obtain ⟨a, ha⟩ : ∃ a, a = tnan h m s n := ⟨_, rfl⟩
  rw [← ha] at a0 a1 ⊢
  have HA := Lib.hid ha.symm
  obtain ⟨hR0, hR1, hlt, hge⟩ := add_split (x := x) a0 a1
  obtain ⟨hq, hQ1⟩ := day_W hx
  obtain ⟨r0, r1⟩ := fmod_day x
  obtain ⟨q, eq⟩ : ∃ q, q = x.fdiv 86400000000000 := ⟨_, rfl⟩
  obtain ⟨r, er⟩ : ∃ r, r = x.fmod 86400000000000 := ⟨_, rfl⟩
  rw [← eq] at hlt hge hq hQ1
  rw [← er] at hlt hge r0 r1
  have HQ := Lib.hid eq.symm
  have HR := Lib.hid er.symm
  obtain ⟨Q, eQ⟩ : ∃ Q, Q = addQ a x := ⟨_, rfl⟩
  obtain ⟨R, eR⟩ : ∃ R, R = addR a x := ⟨_, rfl⟩
  rw [← eQ] at hlt hge
  rw [← eR] at hR0 hR1 hlt hge
  have HeQ := Lib.hid eQ
  have HeR := Lib.hid eR
  clear ha k eq er eQ eR
  by_cases hl : a + r < 86400000000000
  · obtain ⟨e1, e2⟩ := hlt hl
    clear hlt hge
    have g1 : decide (86400000000000 ≤ a + r) = false := decide_eq_false (by omega)
    have hQ : W128 Q := by rw [e1]; exact hq
    have HR2 := Lib.hid e2.symm
    have HQ3 := Lib.hid e1.symm
    clear e1 e2 hQ1
    by_cases hI : I64 Q
    · have HT1 := Lib.hid (show t64 q = Q from by rw [HQ3.out]; exact if_pos hI)
      have HT2 := Lib.hid (show decide (I64 q) = true from by rw [HQ3.out]; exact decide_eq_true hI)
      go_enter Try.func114, Try.ntmps114
      go_upto_region 1 with fail
      have xw := Ext.refl w
      refine wp_name ?_
      intro V1 hV
      replace xw : Ext w V1 := by rw [hV]; exact Ext.alloc (Ext.alloc (Ext.alloc (xw)))
      have b2 : Bx V1 w.heap.size #[.int .i64 h, .int .i64 m, .int .i64 s, .int .i64 n] 23 := by rw [hV]; exact ((Bx.new rfl).alloc _).alloc _
      have b3 : Box2 V1 (w.heap.size + 1) (.int .i64 (hi x)) (.int .u64 (lo x)) 38 := by rw [hV]; exact (Box2.new (by simp)).alloc _
      have b4 : Bx V1 (w.heap.size + 1 + 1) #[.int .i64 0, .int .i64 0, .int .i64 0, .int .i64 0] 23 := by rw [hV]; exact Bx.new (by simp)
      clear hV
      have b2_c0 := b2.c 0 (v := .int .i64 h) rfl
      have b2_c1 := b2.c 1 (v := .int .i64 m) rfl
      have b2_c2 := b2.c 2 (v := .int .i64 s) rfl
      have b2_c3 := b2.c 3 (v := .int .i64 n) rfl
      go_wp2_with fail
      refine (HN.out h m s n _ HK.out).mono ?_
      rintro e w2 ⟨rfl, x2⟩
      rw [HA.out]
      clear b2_c0 b2_c1 b2_c2 b2_c3
      replace b2 := b2.ext x2
      replace b3 := b3.ext x2
      replace b4 := b4.ext x2
      replace xw := Ext.trans xw x2
      go_upto_region 2 with fail
      go_upto_region 4 with fail
      have b3_c0 := b3.c0
      have b3_c1 := b3.c1
      go_wp2_with fail
      refine (HB.out x _ _ hx (by omega) (by unfold I64; omega)).mono ?_
      rintro e w3 ⟨rfl, x3⟩
      rw [HQ.out, HR.out]
      clear b3_c0 b3_c1
      replace b2 := b2.ext x3
      replace b3 := b3.ext x3
      replace b4 := b4.ext x3
      replace xw := Ext.trans xw x3
      go_upto_region 5 with fail
      have o5 := b2.kind.lt
      have o6 := b3.kind.lt
      have o7 := b4.kind.lt
      have o8 := xw.size
      refine wp_name ?_
      intro V4 hV
      have b2N : Bx V4 w.heap.size #[.int .i64 h, .int .i64 m, .int .i64 s, .int .i64 n] 23 := by rw [hV]; exact (b2).alloc _
      have b3N : Box2 V4 (w.heap.size + 1) (.int .i64 (hi x)) (.int .u64 (lo x)) 38 := by rw [hV]; exact (b3).alloc _
      have b4N : Bx V4 (w.heap.size + 1 + 1) #[.int .i64 0, .int .i64 0, .int .i64 0, .int .i64 0] 23 := by rw [hV]; exact (b4).alloc _
      replace xw : Ext w V4 := by rw [hV]; exact Ext.alloc (xw)
      replace b2 := b2N; clear b2N
      replace b3 := b3N; clear b3N
      replace b4 := b4N; clear b4N
      have b9 : Box2 V4 w3.heap.size (.int .i64 (hi q)) (.int .u64 (lo q)) 38 := by rw [hV]; exact Box2.new rfl
      clear hV
      go_upto_region 6 with fail
      go_upto_region 9 with fail
      have b9_c0 := b9.c0
      have b9_c1 := b9.c1
      go_wp2_with fail
      refine (HI.out q _).mono ?_
      rw [HT1.out, HT2.out]
      rintro e w9 ⟨rfl, x9⟩
      clear b9_c0 b9_c1
      replace b2 := b2.ext x9
      replace b3 := b3.ext x9
      replace b4 := b4.ext x9
      replace b9 := b9.ext x9
      replace xw := Ext.trans xw x9
      go_upto_region 10 with fail
      go_upto_region 12 with fail
      go_wp2_with fail
      rw [HR2.out]
      refine (HOf6.out R _ hR0 hR1).mono ?_
      rintro e w10 ⟨rfl, x10⟩
      replace b2 := b2.ext x10
      replace b3 := b3.ext x10
      replace b4 := b4.ext x10
      replace b9 := b9.ext x10
      replace xw := Ext.trans xw x10
      go_upto_region 13 with fail
      have o12 := b9.kind.lt
      have o13 := xw.size
      refine wp_name ?_
      intro V11 hV
      have b2N : Bx V11 w.heap.size #[.int .i64 h, .int .i64 m, .int .i64 s, .int .i64 n] 23 := by rw [hV]; exact (b2).alloc _
      have b3N : Box2 V11 (w.heap.size + 1) (.int .i64 (hi x)) (.int .u64 (lo x)) 38 := by rw [hV]; exact (b3).alloc _
      have b4N : Bx V11 (w.heap.size + 1 + 1) #[.int .i64 0, .int .i64 0, .int .i64 0, .int .i64 0] 23 := by rw [hV]; exact (b4).alloc _
      have b9N : Box2 V11 w3.heap.size (.int .i64 (hi q)) (.int .u64 (lo q)) 38 := by rw [hV]; exact (b9).alloc _
      replace xw : Ext w V11 := by rw [hV]; exact Ext.alloc (xw)
      replace b2 := b2N; clear b2N
      replace b3 := b3N; clear b3N
      replace b4 := b4N; clear b4N
      replace b9 := b9N; clear b9N
      have b13 : Bx V11 w10.heap.size #[.int .i64 (tH R), .int .i64 (tM R), .int .i64 (tS R), .int .i64 (tN R)] 23 := by rw [hV]; exact Bx.new rfl
      clear hV
      have b13_c0 := b13.c 0 (v := .int .i64 (tH R)) rfl
      have b13_c1 := b13.c 1 (v := .int .i64 (tM R)) rfl
      have b13_c2 := b13.c 2 (v := .int .i64 (tS R)) rfl
      have b13_c3 := b13.c 3 (v := .int .i64 (tN R)) rfl
      have b4_c0 := b4.c 0 (v := .int .i64 0) rfl
      have b4_c1 := b4.c 1 (v := .int .i64 0) rfl
      have b4_c2 := b4.c 2 (v := .int .i64 0) rfl
      have b4_c3 := b4.c 3 (v := .int .i64 0) rfl
      have b4_f0 := b4.f 0
      have b4_f1 := b4.f 1
      have b4_f2 := b4.f 2
      have b4_f3 := b4.f 3
      have xr := Ext.set (Ext.set (Ext.set (Ext.set (xw) (k := w.heap.size + 1 + 1) (o := 0) (u := .int .i64 (tH R)) (by omega)) (k := w.heap.size + 1 + 1) (o := 1) (u := .int .i64 (tM R)) (by omega)) (k := w.heap.size + 1 + 1) (o := 2) (u := .int .i64 (tS R)) (by omega)) (k := w.heap.size + 1 + 1) (o := 3) (u := .int .i64 (tN R)) (by omega)
      go_wp2_with fail
      refine bodyPost_ret (v := .tuple #[.agg #[.int .i64 (tH R), .int .i64 (tM R), .int .i64 (tS R), .int .i64 (tN R)], .int .i64 Q, .int .i64 0]) (by simp [results, Try.results114, go_sem, b4_c0, b4_c1, b4_c2, b4_c3]) rfl ⟨fun _ => by rw [← HeQ.out, ← HeR.out], fun hn => absurd hI (by rw [HeQ.out]; exact hn), xr⟩
    · have HT1 := Lib.hid (show t64 q = 0 from by rw [HQ3.out]; exact if_neg hI)
      have HT2 := Lib.hid (show decide (I64 q) = false from by rw [HQ3.out]; exact decide_eq_false hI)
      go_enter Try.func114, Try.ntmps114
      go_upto_region 1 with fail
      have xw := Ext.refl w
      refine wp_name ?_
      intro V14 hV
      replace xw : Ext w V14 := by rw [hV]; exact Ext.alloc (Ext.alloc (Ext.alloc (xw)))
      have b2 : Bx V14 w.heap.size #[.int .i64 h, .int .i64 m, .int .i64 s, .int .i64 n] 23 := by rw [hV]; exact ((Bx.new rfl).alloc _).alloc _
      have b3 : Box2 V14 (w.heap.size + 1) (.int .i64 (hi x)) (.int .u64 (lo x)) 38 := by rw [hV]; exact (Box2.new (by simp)).alloc _
      have b4 : Bx V14 (w.heap.size + 1 + 1) #[.int .i64 0, .int .i64 0, .int .i64 0, .int .i64 0] 23 := by rw [hV]; exact Bx.new (by simp)
      clear hV
      have b2_c0 := b2.c 0 (v := .int .i64 h) rfl
      have b2_c1 := b2.c 1 (v := .int .i64 m) rfl
      have b2_c2 := b2.c 2 (v := .int .i64 s) rfl
      have b2_c3 := b2.c 3 (v := .int .i64 n) rfl
      go_wp2_with fail
      refine (HN.out h m s n _ HK.out).mono ?_
      rintro e w15 ⟨rfl, x15⟩
      rw [HA.out]
      clear b2_c0 b2_c1 b2_c2 b2_c3
      replace b2 := b2.ext x15
      replace b3 := b3.ext x15
      replace b4 := b4.ext x15
      replace xw := Ext.trans xw x15
      go_upto_region 2 with fail
      go_upto_region 4 with fail
      have b3_c0 := b3.c0
      have b3_c1 := b3.c1
      go_wp2_with fail
      refine (HB.out x _ _ hx (by omega) (by unfold I64; omega)).mono ?_
      rintro e w16 ⟨rfl, x16⟩
      rw [HQ.out, HR.out]
      clear b3_c0 b3_c1
      replace b2 := b2.ext x16
      replace b3 := b3.ext x16
      replace b4 := b4.ext x16
      replace xw := Ext.trans xw x16
      go_upto_region 5 with fail
      have o18 := b2.kind.lt
      have o19 := b3.kind.lt
      have o20 := b4.kind.lt
      have o21 := xw.size
      refine wp_name ?_
      intro V17 hV
      have b2N : Bx V17 w.heap.size #[.int .i64 h, .int .i64 m, .int .i64 s, .int .i64 n] 23 := by rw [hV]; exact (b2).alloc _
      have b3N : Box2 V17 (w.heap.size + 1) (.int .i64 (hi x)) (.int .u64 (lo x)) 38 := by rw [hV]; exact (b3).alloc _
      have b4N : Bx V17 (w.heap.size + 1 + 1) #[.int .i64 0, .int .i64 0, .int .i64 0, .int .i64 0] 23 := by rw [hV]; exact (b4).alloc _
      replace xw : Ext w V17 := by rw [hV]; exact Ext.alloc (xw)
      replace b2 := b2N; clear b2N
      replace b3 := b3N; clear b3N
      replace b4 := b4N; clear b4N
      have b9 : Box2 V17 w16.heap.size (.int .i64 (hi q)) (.int .u64 (lo q)) 38 := by rw [hV]; exact Box2.new rfl
      clear hV
      go_upto_region 6 with fail
      go_upto_region 9 with fail
      have b9_c0 := b9.c0
      have b9_c1 := b9.c1
      go_wp2_with fail
      refine (HI.out q _).mono ?_
      rw [HT1.out, HT2.out]
      rintro e w22 ⟨rfl, x22⟩
      clear b9_c0 b9_c1
      replace b2 := b2.ext x22
      replace b3 := b3.ext x22
      replace b4 := b4.ext x22
      replace b9 := b9.ext x22
      replace xw := Ext.trans xw x22
      go_upto_region 10 with fail
      go_upto_region 11 with fail
      have b4_c0 := b4.c 0 (v := .int .i64 0) rfl
      have b4_c1 := b4.c 1 (v := .int .i64 0) rfl
      have b4_c2 := b4.c 2 (v := .int .i64 0) rfl
      have b4_c3 := b4.c 3 (v := .int .i64 0) rfl
      have b4_f0 := b4.f 0
      have b4_f1 := b4.f 1
      have b4_f2 := b4.f 2
      have b4_f3 := b4.f 3
      have xr := Ext.set (Ext.set (Ext.set (Ext.set (xw) (k := w.heap.size + 1 + 1) (o := 0) (u := .int .i64 0) (by omega)) (k := w.heap.size + 1 + 1) (o := 1) (u := .int .i64 0) (by omega)) (k := w.heap.size + 1 + 1) (o := 2) (u := .int .i64 0) (by omega)) (k := w.heap.size + 1 + 1) (o := 3) (u := .int .i64 0) (by omega)
      go_wp2_with fail
      refine bodyPost_ret (v := .tuple #[.agg #[.int .i64 0, .int .i64 0, .int .i64 0, .int .i64 0], .int .i64 0, .int .i64 2]) (by simp [results, Try.results114, go_sem, b4_c0, b4_c1, b4_c2, b4_c3]) rfl ⟨fun hy => absurd hy (by rw [← HeQ.out]; exact hI), fun _ => rfl, xr⟩
  · obtain ⟨e1, e2⟩ := hge hl
    clear hlt hge
    have g1 : decide (86400000000000 ≤ a + r) = true := decide_eq_true (by omega)
    have hQ : W128 Q := by rw [e1]; exact hQ1
    have HQ2 := Lib.hid e1.symm
    have HR2 := Lib.hid e2.symm
    clear e1 e2 hQ1
    by_cases hI : I64 Q
    · have HT1 := Lib.hid (show t64 Q = Q from if_pos hI)
      have HT2 := Lib.hid (show decide (I64 Q) = true from decide_eq_true hI)
      go_enter Try.func114, Try.ntmps114
      go_upto_region 1 with fail
      have xw := Ext.refl w
      refine wp_name ?_
      intro V23 hV
      replace xw : Ext w V23 := by rw [hV]; exact Ext.alloc (Ext.alloc (Ext.alloc (xw)))
      have b2 : Bx V23 w.heap.size #[.int .i64 h, .int .i64 m, .int .i64 s, .int .i64 n] 23 := by rw [hV]; exact ((Bx.new rfl).alloc _).alloc _
      have b3 : Box2 V23 (w.heap.size + 1) (.int .i64 (hi x)) (.int .u64 (lo x)) 38 := by rw [hV]; exact (Box2.new (by simp)).alloc _
      have b4 : Bx V23 (w.heap.size + 1 + 1) #[.int .i64 0, .int .i64 0, .int .i64 0, .int .i64 0] 23 := by rw [hV]; exact Bx.new (by simp)
      clear hV
      have b2_c0 := b2.c 0 (v := .int .i64 h) rfl
      have b2_c1 := b2.c 1 (v := .int .i64 m) rfl
      have b2_c2 := b2.c 2 (v := .int .i64 s) rfl
      have b2_c3 := b2.c 3 (v := .int .i64 n) rfl
      go_wp2_with fail
      refine (HN.out h m s n _ HK.out).mono ?_
      rintro e w24 ⟨rfl, x24⟩
      rw [HA.out]
      clear b2_c0 b2_c1 b2_c2 b2_c3
      replace b2 := b2.ext x24
      replace b3 := b3.ext x24
      replace b4 := b4.ext x24
      replace xw := Ext.trans xw x24
      go_upto_region 2 with fail
      go_upto_region 4 with fail
      have b3_c0 := b3.c0
      have b3_c1 := b3.c1
      go_wp2_with fail
      refine (HB.out x _ _ hx (by omega) (by unfold I64; omega)).mono ?_
      rintro e w25 ⟨rfl, x25⟩
      rw [HQ.out, HR.out]
      clear b3_c0 b3_c1
      replace b2 := b2.ext x25
      replace b3 := b3.ext x25
      replace b4 := b4.ext x25
      replace xw := Ext.trans xw x25
      go_upto_region 5 with fail
      have o27 := b2.kind.lt
      have o28 := b3.kind.lt
      have o29 := b4.kind.lt
      have o30 := xw.size
      refine wp_name ?_
      intro V26 hV
      have b2N : Bx V26 w.heap.size #[.int .i64 h, .int .i64 m, .int .i64 s, .int .i64 n] 23 := by rw [hV]; exact (b2).alloc _
      have b3N : Box2 V26 (w.heap.size + 1) (.int .i64 (hi x)) (.int .u64 (lo x)) 38 := by rw [hV]; exact (b3).alloc _
      have b4N : Bx V26 (w.heap.size + 1 + 1) #[.int .i64 0, .int .i64 0, .int .i64 0, .int .i64 0] 23 := by rw [hV]; exact (b4).alloc _
      replace xw : Ext w V26 := by rw [hV]; exact Ext.alloc (xw)
      replace b2 := b2N; clear b2N
      replace b3 := b3N; clear b3N
      replace b4 := b4N; clear b4N
      have b9 : Box2 V26 w25.heap.size (.int .i64 (hi q)) (.int .u64 (lo q)) 38 := by rw [hV]; exact Box2.new rfl
      clear hV
      go_upto_region 6 with fail
      go_upto_region 8 with fail
      refine wp_region_noPanic ?_
      have b9D := b9.drew
      refine wp_region_Y 6 (fun w' => w'.cell? ⟨w25.heap.size, 0, none⟩ = some (.int .i64 (hi q)) ∧ w'.cell? ⟨w25.heap.size, 1, none⟩ = some (.int .u64 (lo q))) (by kernel_rfl) ?_
      have hHeld := (show V26.drew.cell? ⟨w25.heap.size, 0, none⟩ = some (.int .i64 (hi q)) ∧ V26.drew.cell? ⟨w25.heap.size, 1, none⟩ = some (.int .u64 (lo q)) from ⟨b9D.c0, b9D.c1⟩)
      refine wpAnyY_take (i := 0) (v := .agg #[.int .i64 (hi q), .int .u64 (lo q)]) rfl (by kernel_rfl) (by kernel_rfl) (by kernel_rfl) (by kernel_rfl) (by kernel_rfl) (by decide) (fun _ _ _ h => h) (Or.inl ⟨by kernel_rfl, fun w' h => (by obtain ⟨h0, h1⟩ := h; go_simp)⟩) hHeld ?_
      clear b9D
      have y0 : Ext V26 V26.drew := (Ext.refl V26).drew
      replace b2 := b2.ext y0
      replace b3 := b3.ext y0
      replace b4 := b4.ext y0
      replace b9 := b9.ext y0
      replace xw := Ext.trans xw y0
      clear y0
      refine wpAnyY_one (i := 1) (by kernel_rfl) ?_; refine wpOp_of rfl fun K' hK => ?_; go_simp
      refine (HO.out 1 _ (by unfold I64; omega)).mono ?_
      rintro e w31 ⟨rfl, x31⟩
      replace b2 := b2.ext x31
      replace b3 := b3.ext x31
      replace b4 := b4.ext x31
      replace b9 := b9.ext x31
      replace xw := Ext.trans xw x31
      refine hK _ _ ⟨Or.inr (Or.inr ⟨b9.c0, b9.c1⟩), ?_⟩; clear hK K' hHeld
      have hHeld := (show w31.cell? ⟨w25.heap.size, 0, none⟩ = some (.int .i64 (hi q)) ∧ w31.cell? ⟨w25.heap.size, 1, none⟩ = some (.int .u64 (lo q)) from ⟨b9.c0, b9.c1⟩)
      refine wpAnyY_one (i := 2) (by kernel_rfl) ?_; refine wpOp_of rfl fun K' hK => ?_; go_simp
      refine (HAd.out q 1 _ hq (by unfold W128; omega)).mono ?_
      rintro e w32 ⟨rfl, x32⟩
      rw [HQ2.out, thi_yes hQ, tlo_yes hQ, ter_yes hQ]
      replace b2 := b2.ext x32
      replace b3 := b3.ext x32
      replace b4 := b4.ext x32
      replace b9 := b9.ext x32
      replace xw := Ext.trans xw x32
      refine hK _ _ ⟨Or.inr (Or.inr ⟨b9.c0, b9.c1⟩), ?_⟩; clear hK K' hHeld
      have hHeld := (show w32.cell? ⟨w25.heap.size, 0, none⟩ = some (.int .i64 (hi q)) ∧ w32.cell? ⟨w25.heap.size, 1, none⟩ = some (.int .u64 (lo q)) from ⟨b9.c0, b9.c1⟩)
      refine wpAnyY_takeW (i := 3) (v := .tuple #[.agg #[.int .i64 (hi Q), .int .u64 (lo Q)], .int .i64 0]) rfl (by kernel_rfl) (by kernel_rfl) (by kernel_rfl) (of_decide_eq_true (by kernel_rfl)) (by kernel_rfl) (by decide) (fun _ _ _ h => h) (Or.inl ⟨by kernel_rfl, fun w' _ => (by go_simp)⟩) hHeld ?_
      refine wpAnyY_takeW (i := 4) (v := .agg #[.int .i64 (hi Q), .int .u64 (lo Q)]) rfl (by kernel_rfl) (by kernel_rfl) (by kernel_rfl) (of_decide_eq_true (by kernel_rfl)) (by kernel_rfl) (by decide) (fun _ _ _ h => h) (Or.inl ⟨by kernel_rfl, fun w' _ => (by go_simp)⟩) hHeld ?_
      refine wpAnyY_takeW (i := 5) (v := .int .i64 0) rfl (by kernel_rfl) (by kernel_rfl) (by kernel_rfl) (of_decide_eq_true (by kernel_rfl)) (by kernel_rfl) (by decide) (fun _ _ _ h => h) (Or.inl ⟨by kernel_rfl, fun w' _ => (by go_simp)⟩) hHeld ?_
      have b9_c0 := b9.c0
      have b9_c1 := b9.c1
      have b9_f0 := b9.f0
      have b9_f1 := b9.f1
      refine wpAnyY_one (i := 6) (by kernel_rfl) ?_; refine wpOp_of rfl fun K' hK => ?_; go_simp
      clear b9_c0 b9_c1 b9_f0 b9_f1
      have b2N := ((b2).other (b := w25.heap.size) (by omega) 0 (.int .i64 (hi Q))).other (b := w25.heap.size) (by omega) 1 (.int .u64 (lo Q))
      have b3N := ((b3).other (b := w25.heap.size) (by omega) 0 (.int .i64 (hi Q))).other (b := w25.heap.size) (by omega) 1 (.int .u64 (lo Q))
      have b4N := ((b4).other (b := w25.heap.size) (by omega) 0 (.int .i64 (hi Q))).other (b := w25.heap.size) (by omega) 1 (.int .u64 (lo Q))
      have b9N := (b9).set (.int .i64 (hi Q)) (.int .u64 (lo Q))
      replace xw := Ext.set (Ext.set (xw) (k := w25.heap.size) (o := 0) (u := .int .i64 (hi Q)) (by omega)) (k := w25.heap.size) (o := 1) (u := .int .u64 (lo Q)) (by omega)
      replace b2 := b2N; clear b2N
      replace b3 := b3N; clear b3N
      replace b4 := b4N; clear b4N
      replace b9 := b9N; clear b9N
      refine hK _ _ ⟨Or.inl rfl, ?_⟩; clear hK K' hHeld
      have hHeld := True.intro
      refine ⟨by kernel_rfl, ?_⟩
      refine NoPanic.normal ?_
      clear hHeld
      go_upto_region 9 with fail
      refine wp_name ?_
      intro V33 hV
      rw [← hV] at b2 b3 b4 b9 xw
      clear hV
      have b9_c0 := b9.c0
      have b9_c1 := b9.c1
      go_wp2_with fail
      refine (HI.out Q _).mono ?_
      rw [HT1.out, HT2.out]
      rintro e w34 ⟨rfl, x34⟩
      clear b9_c0 b9_c1
      replace b2 := b2.ext x34
      replace b3 := b3.ext x34
      replace b4 := b4.ext x34
      replace b9 := b9.ext x34
      replace xw := Ext.trans xw x34
      go_upto_region 10 with fail
      go_upto_region 12 with fail
      go_wp2_with fail
      rw [HR2.out]
      refine (HOf6.out R _ hR0 hR1).mono ?_
      rintro e w35 ⟨rfl, x35⟩
      replace b2 := b2.ext x35
      replace b3 := b3.ext x35
      replace b4 := b4.ext x35
      replace b9 := b9.ext x35
      replace xw := Ext.trans xw x35
      go_upto_region 13 with fail
      have o37 := b9.kind.lt
      have o38 := xw.size
      refine wp_name ?_
      intro V36 hV
      have b2N : Bx V36 w.heap.size #[.int .i64 h, .int .i64 m, .int .i64 s, .int .i64 n] 23 := by rw [hV]; exact (b2).alloc _
      have b3N : Box2 V36 (w.heap.size + 1) (.int .i64 (hi x)) (.int .u64 (lo x)) 38 := by rw [hV]; exact (b3).alloc _
      have b4N : Bx V36 (w.heap.size + 1 + 1) #[.int .i64 0, .int .i64 0, .int .i64 0, .int .i64 0] 23 := by rw [hV]; exact (b4).alloc _
      have b9N : Box2 V36 w25.heap.size (.int .i64 (hi Q)) (.int .u64 (lo Q)) 38 := by rw [hV]; exact (b9).alloc _
      replace xw : Ext w V36 := by rw [hV]; exact Ext.alloc (xw)
      replace b2 := b2N; clear b2N
      replace b3 := b3N; clear b3N
      replace b4 := b4N; clear b4N
      replace b9 := b9N; clear b9N
      have b13 : Bx V36 w35.heap.size #[.int .i64 (tH R), .int .i64 (tM R), .int .i64 (tS R), .int .i64 (tN R)] 23 := by rw [hV]; exact Bx.new rfl
      clear hV
      have b13_c0 := b13.c 0 (v := .int .i64 (tH R)) rfl
      have b13_c1 := b13.c 1 (v := .int .i64 (tM R)) rfl
      have b13_c2 := b13.c 2 (v := .int .i64 (tS R)) rfl
      have b13_c3 := b13.c 3 (v := .int .i64 (tN R)) rfl
      have b4_c0 := b4.c 0 (v := .int .i64 0) rfl
      have b4_c1 := b4.c 1 (v := .int .i64 0) rfl
      have b4_c2 := b4.c 2 (v := .int .i64 0) rfl
      have b4_c3 := b4.c 3 (v := .int .i64 0) rfl
      have b4_f0 := b4.f 0
      have b4_f1 := b4.f 1
      have b4_f2 := b4.f 2
      have b4_f3 := b4.f 3
      have xr := Ext.set (Ext.set (Ext.set (Ext.set (xw) (k := w.heap.size + 1 + 1) (o := 0) (u := .int .i64 (tH R)) (by omega)) (k := w.heap.size + 1 + 1) (o := 1) (u := .int .i64 (tM R)) (by omega)) (k := w.heap.size + 1 + 1) (o := 2) (u := .int .i64 (tS R)) (by omega)) (k := w.heap.size + 1 + 1) (o := 3) (u := .int .i64 (tN R)) (by omega)
      go_wp2_with fail
      refine bodyPost_ret (v := .tuple #[.agg #[.int .i64 (tH R), .int .i64 (tM R), .int .i64 (tS R), .int .i64 (tN R)], .int .i64 Q, .int .i64 0]) (by simp [results, Try.results114, go_sem, b4_c0, b4_c1, b4_c2, b4_c3]) rfl ⟨fun _ => by rw [← HeQ.out, ← HeR.out], fun hn => absurd hI (by rw [HeQ.out]; exact hn), xr⟩
    · have HT1 := Lib.hid (show t64 Q = 0 from if_neg hI)
      have HT2 := Lib.hid (show decide (I64 Q) = false from decide_eq_false hI)
      go_enter Try.func114, Try.ntmps114
      go_upto_region 1 with fail
      have xw := Ext.refl w
      refine wp_name ?_
      intro V39 hV
      replace xw : Ext w V39 := by rw [hV]; exact Ext.alloc (Ext.alloc (Ext.alloc (xw)))
      have b2 : Bx V39 w.heap.size #[.int .i64 h, .int .i64 m, .int .i64 s, .int .i64 n] 23 := by rw [hV]; exact ((Bx.new rfl).alloc _).alloc _
      have b3 : Box2 V39 (w.heap.size + 1) (.int .i64 (hi x)) (.int .u64 (lo x)) 38 := by rw [hV]; exact (Box2.new (by simp)).alloc _
      have b4 : Bx V39 (w.heap.size + 1 + 1) #[.int .i64 0, .int .i64 0, .int .i64 0, .int .i64 0] 23 := by rw [hV]; exact Bx.new (by simp)
      clear hV
      have b2_c0 := b2.c 0 (v := .int .i64 h) rfl
      have b2_c1 := b2.c 1 (v := .int .i64 m) rfl
      have b2_c2 := b2.c 2 (v := .int .i64 s) rfl
      have b2_c3 := b2.c 3 (v := .int .i64 n) rfl
      go_wp2_with fail
      refine (HN.out h m s n _ HK.out).mono ?_
      rintro e w40 ⟨rfl, x40⟩
      rw [HA.out]
      clear b2_c0 b2_c1 b2_c2 b2_c3
      replace b2 := b2.ext x40
      replace b3 := b3.ext x40
      replace b4 := b4.ext x40
      replace xw := Ext.trans xw x40
      go_upto_region 2 with fail
      go_upto_region 4 with fail
      have b3_c0 := b3.c0
      have b3_c1 := b3.c1
      go_wp2_with fail
      refine (HB.out x _ _ hx (by omega) (by unfold I64; omega)).mono ?_
      rintro e w41 ⟨rfl, x41⟩
      rw [HQ.out, HR.out]
      clear b3_c0 b3_c1
      replace b2 := b2.ext x41
      replace b3 := b3.ext x41
      replace b4 := b4.ext x41
      replace xw := Ext.trans xw x41
      go_upto_region 5 with fail
      have o43 := b2.kind.lt
      have o44 := b3.kind.lt
      have o45 := b4.kind.lt
      have o46 := xw.size
      refine wp_name ?_
      intro V42 hV
      have b2N : Bx V42 w.heap.size #[.int .i64 h, .int .i64 m, .int .i64 s, .int .i64 n] 23 := by rw [hV]; exact (b2).alloc _
      have b3N : Box2 V42 (w.heap.size + 1) (.int .i64 (hi x)) (.int .u64 (lo x)) 38 := by rw [hV]; exact (b3).alloc _
      have b4N : Bx V42 (w.heap.size + 1 + 1) #[.int .i64 0, .int .i64 0, .int .i64 0, .int .i64 0] 23 := by rw [hV]; exact (b4).alloc _
      replace xw : Ext w V42 := by rw [hV]; exact Ext.alloc (xw)
      replace b2 := b2N; clear b2N
      replace b3 := b3N; clear b3N
      replace b4 := b4N; clear b4N
      have b9 : Box2 V42 w41.heap.size (.int .i64 (hi q)) (.int .u64 (lo q)) 38 := by rw [hV]; exact Box2.new rfl
      clear hV
      go_upto_region 6 with fail
      go_upto_region 8 with fail
      refine wp_region_noPanic ?_
      have b9D := b9.drew
      refine wp_region_Y 6 (fun w' => w'.cell? ⟨w41.heap.size, 0, none⟩ = some (.int .i64 (hi q)) ∧ w'.cell? ⟨w41.heap.size, 1, none⟩ = some (.int .u64 (lo q))) (by kernel_rfl) ?_
      have hHeld := (show V42.drew.cell? ⟨w41.heap.size, 0, none⟩ = some (.int .i64 (hi q)) ∧ V42.drew.cell? ⟨w41.heap.size, 1, none⟩ = some (.int .u64 (lo q)) from ⟨b9D.c0, b9D.c1⟩)
      refine wpAnyY_take (i := 0) (v := .agg #[.int .i64 (hi q), .int .u64 (lo q)]) rfl (by kernel_rfl) (by kernel_rfl) (by kernel_rfl) (by kernel_rfl) (by kernel_rfl) (by decide) (fun _ _ _ h => h) (Or.inl ⟨by kernel_rfl, fun w' h => (by obtain ⟨h0, h1⟩ := h; go_simp)⟩) hHeld ?_
      clear b9D
      have y0 : Ext V42 V42.drew := (Ext.refl V42).drew
      replace b2 := b2.ext y0
      replace b3 := b3.ext y0
      replace b4 := b4.ext y0
      replace b9 := b9.ext y0
      replace xw := Ext.trans xw y0
      clear y0
      refine wpAnyY_one (i := 1) (by kernel_rfl) ?_; refine wpOp_of rfl fun K' hK => ?_; go_simp
      refine (HO.out 1 _ (by unfold I64; omega)).mono ?_
      rintro e w47 ⟨rfl, x47⟩
      replace b2 := b2.ext x47
      replace b3 := b3.ext x47
      replace b4 := b4.ext x47
      replace b9 := b9.ext x47
      replace xw := Ext.trans xw x47
      refine hK _ _ ⟨Or.inr (Or.inr ⟨b9.c0, b9.c1⟩), ?_⟩; clear hK K' hHeld
      have hHeld := (show w47.cell? ⟨w41.heap.size, 0, none⟩ = some (.int .i64 (hi q)) ∧ w47.cell? ⟨w41.heap.size, 1, none⟩ = some (.int .u64 (lo q)) from ⟨b9.c0, b9.c1⟩)
      refine wpAnyY_one (i := 2) (by kernel_rfl) ?_; refine wpOp_of rfl fun K' hK => ?_; go_simp
      refine (HAd.out q 1 _ hq (by unfold W128; omega)).mono ?_
      rintro e w48 ⟨rfl, x48⟩
      rw [HQ2.out, thi_yes hQ, tlo_yes hQ, ter_yes hQ]
      replace b2 := b2.ext x48
      replace b3 := b3.ext x48
      replace b4 := b4.ext x48
      replace b9 := b9.ext x48
      replace xw := Ext.trans xw x48
      refine hK _ _ ⟨Or.inr (Or.inr ⟨b9.c0, b9.c1⟩), ?_⟩; clear hK K' hHeld
      have hHeld := (show w48.cell? ⟨w41.heap.size, 0, none⟩ = some (.int .i64 (hi q)) ∧ w48.cell? ⟨w41.heap.size, 1, none⟩ = some (.int .u64 (lo q)) from ⟨b9.c0, b9.c1⟩)
      refine wpAnyY_takeW (i := 3) (v := .tuple #[.agg #[.int .i64 (hi Q), .int .u64 (lo Q)], .int .i64 0]) rfl (by kernel_rfl) (by kernel_rfl) (by kernel_rfl) (of_decide_eq_true (by kernel_rfl)) (by kernel_rfl) (by decide) (fun _ _ _ h => h) (Or.inl ⟨by kernel_rfl, fun w' _ => (by go_simp)⟩) hHeld ?_
      refine wpAnyY_takeW (i := 4) (v := .agg #[.int .i64 (hi Q), .int .u64 (lo Q)]) rfl (by kernel_rfl) (by kernel_rfl) (by kernel_rfl) (of_decide_eq_true (by kernel_rfl)) (by kernel_rfl) (by decide) (fun _ _ _ h => h) (Or.inl ⟨by kernel_rfl, fun w' _ => (by go_simp)⟩) hHeld ?_
      refine wpAnyY_takeW (i := 5) (v := .int .i64 0) rfl (by kernel_rfl) (by kernel_rfl) (by kernel_rfl) (of_decide_eq_true (by kernel_rfl)) (by kernel_rfl) (by decide) (fun _ _ _ h => h) (Or.inl ⟨by kernel_rfl, fun w' _ => (by go_simp)⟩) hHeld ?_
      have b9_c0 := b9.c0
      have b9_c1 := b9.c1
      have b9_f0 := b9.f0
      have b9_f1 := b9.f1
      refine wpAnyY_one (i := 6) (by kernel_rfl) ?_; refine wpOp_of rfl fun K' hK => ?_; go_simp
      clear b9_c0 b9_c1 b9_f0 b9_f1
      have b2N := ((b2).other (b := w41.heap.size) (by omega) 0 (.int .i64 (hi Q))).other (b := w41.heap.size) (by omega) 1 (.int .u64 (lo Q))
      have b3N := ((b3).other (b := w41.heap.size) (by omega) 0 (.int .i64 (hi Q))).other (b := w41.heap.size) (by omega) 1 (.int .u64 (lo Q))
      have b4N := ((b4).other (b := w41.heap.size) (by omega) 0 (.int .i64 (hi Q))).other (b := w41.heap.size) (by omega) 1 (.int .u64 (lo Q))
      have b9N := (b9).set (.int .i64 (hi Q)) (.int .u64 (lo Q))
      replace xw := Ext.set (Ext.set (xw) (k := w41.heap.size) (o := 0) (u := .int .i64 (hi Q)) (by omega)) (k := w41.heap.size) (o := 1) (u := .int .u64 (lo Q)) (by omega)
      replace b2 := b2N; clear b2N
      replace b3 := b3N; clear b3N
      replace b4 := b4N; clear b4N
      replace b9 := b9N; clear b9N
      refine hK _ _ ⟨Or.inl rfl, ?_⟩; clear hK K' hHeld
      have hHeld := True.intro
      refine ⟨by kernel_rfl, ?_⟩
      refine NoPanic.normal ?_
      clear hHeld
      go_upto_region 9 with fail
      refine wp_name ?_
      intro V49 hV
      rw [← hV] at b2 b3 b4 b9 xw
      clear hV
      have b9_c0 := b9.c0
      have b9_c1 := b9.c1
      go_wp2_with fail
      refine (HI.out Q _).mono ?_
      rw [HT1.out, HT2.out]
      rintro e w50 ⟨rfl, x50⟩
      clear b9_c0 b9_c1
      replace b2 := b2.ext x50
      replace b3 := b3.ext x50
      replace b4 := b4.ext x50
      replace b9 := b9.ext x50
      replace xw := Ext.trans xw x50
      go_upto_region 10 with fail
      go_upto_region 11 with fail
      have b4_c0 := b4.c 0 (v := .int .i64 0) rfl
      have b4_c1 := b4.c 1 (v := .int .i64 0) rfl
      have b4_c2 := b4.c 2 (v := .int .i64 0) rfl
      have b4_c3 := b4.c 3 (v := .int .i64 0) rfl
      have b4_f0 := b4.f 0
      have b4_f1 := b4.f 1
      have b4_f2 := b4.f 2
      have b4_f3 := b4.f 3
      have xr := Ext.set (Ext.set (Ext.set (Ext.set (xw) (k := w.heap.size + 1 + 1) (o := 0) (u := .int .i64 0) (by omega)) (k := w.heap.size + 1 + 1) (o := 1) (u := .int .i64 0) (by omega)) (k := w.heap.size + 1 + 1) (o := 2) (u := .int .i64 0) (by omega)) (k := w.heap.size + 1 + 1) (o := 3) (u := .int .i64 0) (by omega)
      go_wp2_with fail
      refine bodyPost_ret (v := .tuple #[.agg #[.int .i64 0, .int .i64 0, .int .i64 0, .int .i64 0], .int .i64 0, .int .i64 2]) (by simp [results, Try.results114, go_sem, b4_c0, b4_c1, b4_c2, b4_c3]) rfl ⟨fun hy => absurd hy (by rw [← HeQ.out]; exact hI), fun _ => rfl, xr⟩
end Go.Proofs.Ytcndfpfjckkinaa
