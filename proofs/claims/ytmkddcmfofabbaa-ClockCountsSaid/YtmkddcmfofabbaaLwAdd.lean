/-
  The law ClockAdds, walked; what every right program answers.
-/
import Derived.Test.YtmkddcmfofabbaaCke
set_option linter.unusedSimpArgs false
set_option linter.unusedVariables false
namespace Go.Proofs.Ytmkddcmfofabbaa
open Go Go.RowKit

theorem liv_nan (w : World) : Calls Try.prog 67 #[.agg #[.int .i64 0, .int .i64 1, .int .i64 0, .int .i64 5]] w (fun e w' => e = .returned (.tuple #[.int .i64 60000000005, .bool true]) ∧ Ext w w') := cnanos_yes 0 1 0 5 w (by unfold tOk; omega)
theorem liv_add (w : World) : Calls Try.prog 74 #[.agg #[.int .i64 23, .int .i64 0, .int .i64 0, .int .i64 0], .agg #[.int .i64 (hi 7200000000000), .int .u64 (lo 7200000000000)]] w (fun e w' => e = .returned (.tuple #[.agg #[.int .i64 1, .int .i64 0, .int .i64 0, .int .i64 0], .int .i64 1, .int .i64 0]) ∧ Ext w w') :=
  (cadd 23 0 0 0 7200000000000 w (by unfold tOk; omega) (by unfold W128; omega)).mono fun e w' h => ⟨h.1 (by decide), h.2.2⟩
set_option maxRecDepth 100000 in
set_option maxHeartbeats 3200000 in
theorem alive6 (w : World) : Calls Try.prog 72 #[] w (fun e w' => e = .returned (.bool true) ∧ Ext w w') := by
  have HO := Lib.hid liv_of
  have HN := Lib.hid liv_nan
  have HAd := Lib.hid liv_add
  go_enter Try.func72, Try.ntmps72
  have xw := Ext.refl w
  go_wp2_with fail
  refine (HO.out 7200000000000 _ (by unfold I64; omega)).mono ?_
  rintro e w1 ⟨rfl, x1⟩
  replace xw := Ext.trans xw x1
  go_wp2_with fail
  refine (HAd.out _).mono ?_
  rintro e w2 ⟨rfl, x2⟩
  replace xw := Ext.trans xw x2
  go_upto_region 2 with fail
  have o4 := xw.size
  refine wp_name ?_
  intro V3 hV
  replace xw : Ext w V3 := by rw [hV]; exact Ext.alloc (xw)
  have b1 : Bx V3 w2.heap.size #[.int .i64 1, .int .i64 0, .int .i64 0, .int .i64 0] 74 := by rw [hV]; exact Bx.new rfl
  clear hV
  go_wp2_with fail
  refine (HN.out _).mono ?_
  rintro e w5 ⟨rfl, x5⟩
  replace b1 := b1.ext x5
  replace xw := Ext.trans xw x5
  go_upto_region 3 with fail
  have b1_c0 := b1.c 0 (v := .int .i64 1) rfl
  have b1_c1 := b1.c 1 (v := .int .i64 0) rfl
  have b1_c2 := b1.c 2 (v := .int .i64 0) rfl
  have b1_c3 := b1.c 3 (v := .int .i64 0) rfl
  have xr := xw
  go_wp2_with fail
  refine bodyPost_ret (v := .bool true) (by simp [results, Try.results72, go_sem]) rfl ⟨rfl, xr⟩
set_option maxRecDepth 100000 in
set_option maxHeartbeats 3200000 in
theorem law_adds_no (h m s n x : Int) (w : World) (hx : W128 x) (k : ¬ tOk h m s n) :
    Calls Try.prog 18 #[.agg #[.int .i64 h, .int .i64 m, .int .i64 s, .int .i64 n], .agg #[.int .i64 (hi x), .int .u64 (lo x)]] w (fun e w' => e = .returned (.bool true) ∧ Ext w w') := by
  have HAl := Lib.hid alive6
  have HA := Lib.hid cadd_no
  have HB := Lib.hid zadd_no
  have Hk := Lib.hid k
  clear k
  go_enter Try.func18, Try.ntmps18
  go_upto_region 1 with fail
  have xw := Ext.refl w
  refine wp_name ?_
  intro V1 hV
  replace xw : Ext w V1 := by rw [hV]; exact Ext.alloc (Ext.alloc (xw))
  have b2 : Bx V1 w.heap.size #[.int .i64 h, .int .i64 m, .int .i64 s, .int .i64 n] 74 := by rw [hV]; exact (Bx.new rfl).alloc _
  have b3 : Box2 V1 (w.heap.size + 1) (.int .i64 (hi x)) (.int .u64 (lo x)) 26 := by rw [hV]; exact Box2.new (by simp)
  clear hV
  have b2_c0 := b2.c 0 (v := .int .i64 h) rfl
  have b2_c1 := b2.c 1 (v := .int .i64 m) rfl
  have b2_c2 := b2.c 2 (v := .int .i64 s) rfl
  have b2_c3 := b2.c 3 (v := .int .i64 n) rfl
  have b3_c0 := b3.c0
  have b3_c1 := b3.c1
  go_wp2_with fail
  refine (HA.out h m s n x _ Hk.out).mono ?_
  rintro e w2 ⟨rfl, x2⟩
  clear b2_c0 b2_c1 b2_c2 b2_c3 b3_c0 b3_c1
  replace b2 := b2.ext x2
  replace b3 := b3.ext x2
  replace xw := Ext.trans xw x2
  go_upto_region 2 with fail
  have o4 := b2.kind.lt
  have o5 := b3.kind.lt
  have o6 := xw.size
  refine wp_name ?_
  intro V3 hV
  have b2N : Bx V3 w.heap.size #[.int .i64 h, .int .i64 m, .int .i64 s, .int .i64 n] 74 := by rw [hV]; exact (b2).alloc _
  have b3N : Box2 V3 (w.heap.size + 1) (.int .i64 (hi x)) (.int .u64 (lo x)) 26 := by rw [hV]; exact (b3).alloc _
  replace xw : Ext w V3 := by rw [hV]; exact Ext.alloc (xw)
  replace b2 := b2N; clear b2N
  replace b3 := b3N; clear b3N
  have b5 : Bx V3 w2.heap.size #[.int .i64 0, .int .i64 0, .int .i64 0, .int .i64 0] 74 := by rw [hV]; exact Bx.new rfl
  clear hV
  have b2_c0 := b2.c 0 (v := .int .i64 h) rfl
  have b2_c1 := b2.c 1 (v := .int .i64 m) rfl
  have b2_c2 := b2.c 2 (v := .int .i64 s) rfl
  have b2_c3 := b2.c 3 (v := .int .i64 n) rfl
  have b3_c0 := b3.c0
  have b3_c1 := b3.c1
  go_wp2_with fail
  refine (HB.out h m s n x _ Hk.out).mono ?_
  rintro e w7 ⟨rfl, x7⟩
  clear b2_c0 b2_c1 b2_c2 b2_c3 b3_c0 b3_c1
  replace b2 := b2.ext x7
  replace b3 := b3.ext x7
  replace b5 := b5.ext x7
  replace xw := Ext.trans xw x7
  go_upto_region 3 with fail
  have o9 := b5.kind.lt
  have o10 := xw.size
  refine wp_name ?_
  intro V8 hV
  have b2N : Bx V8 w.heap.size #[.int .i64 h, .int .i64 m, .int .i64 s, .int .i64 n] 74 := by rw [hV]; exact (b2).alloc _
  have b3N : Box2 V8 (w.heap.size + 1) (.int .i64 (hi x)) (.int .u64 (lo x)) 26 := by rw [hV]; exact (b3).alloc _
  have b5N : Bx V8 w2.heap.size #[.int .i64 0, .int .i64 0, .int .i64 0, .int .i64 0] 74 := by rw [hV]; exact (b5).alloc _
  replace xw : Ext w V8 := by rw [hV]; exact Ext.alloc (xw)
  replace b2 := b2N; clear b2N
  replace b3 := b3N; clear b3N
  replace b5 := b5N; clear b5N
  have b8 : Bx V8 w7.heap.size #[.int .i64 0, .int .i64 0, .int .i64 0, .int .i64 0] 74 := by rw [hV]; exact Bx.new rfl
  clear hV
  go_wp2_with fail
  refine (HAl.out _).mono ?_
  rintro e w11 ⟨rfl, x11⟩
  replace b2 := b2.ext x11
  replace b3 := b3.ext x11
  replace b5 := b5.ext x11
  replace b8 := b8.ext x11
  replace xw := Ext.trans xw x11
  have b5_c0 := b5.c 0 (v := .int .i64 0) rfl
  have b5_c1 := b5.c 1 (v := .int .i64 0) rfl
  have b5_c2 := b5.c 2 (v := .int .i64 0) rfl
  have b5_c3 := b5.c 3 (v := .int .i64 0) rfl
  have b8_c0 := b8.c 0 (v := .int .i64 0) rfl
  have b8_c1 := b8.c 1 (v := .int .i64 0) rfl
  have b8_c2 := b8.c 2 (v := .int .i64 0) rfl
  have b8_c3 := b8.c 3 (v := .int .i64 0) rfl
  have xr := xw
  go_wp2_with fail
  refine bodyPost_ret (v := .bool true) (by simp [results, Try.results18, go_sem]) rfl ⟨rfl, xr⟩
set_option maxRecDepth 100000 in
set_option maxHeartbeats 3200000 in
theorem law_adds_yes (h m s n x : Int) (w : World) (hx : W128 x) (k : tOk h m s n) (hI : I64 (addQ (tnan h m s n) x)) :
    Calls Try.prog 18 #[.agg #[.int .i64 h, .int .i64 m, .int .i64 s, .int .i64 n], .agg #[.int .i64 (hi x), .int .u64 (lo x)]] w (fun e w' => e = .returned (.bool true) ∧ Ext w w') := by
  have HAl := Lib.hid alive6
  have HA := Lib.hid cadd
  have HB := Lib.hid zadd6
  have Hk := Lib.hid k
  have HI := Lib.hid hI
  clear k hI
  obtain ⟨A0, e0⟩ : ∃ y, tH (addR (tnan h m s n) x) = y := ⟨_, rfl⟩
  have G0 := Lib.hid e0
  clear e0
  obtain ⟨A1, e1⟩ : ∃ y, tM (addR (tnan h m s n) x) = y := ⟨_, rfl⟩
  have G1 := Lib.hid e1
  clear e1
  obtain ⟨A2, e2⟩ : ∃ y, tS (addR (tnan h m s n) x) = y := ⟨_, rfl⟩
  have G2 := Lib.hid e2
  clear e2
  obtain ⟨A3, e3⟩ : ∃ y, tN (addR (tnan h m s n) x) = y := ⟨_, rfl⟩
  have G3 := Lib.hid e3
  clear e3
  obtain ⟨A4, e4⟩ : ∃ y, addQ (tnan h m s n) x = y := ⟨_, rfl⟩
  have G4 := Lib.hid e4
  clear e4
  go_enter Try.func18, Try.ntmps18
  go_upto_region 1 with fail
  have xw := Ext.refl w
  refine wp_name ?_
  intro V1 hV
  replace xw : Ext w V1 := by rw [hV]; exact Ext.alloc (Ext.alloc (xw))
  have b2 : Bx V1 w.heap.size #[.int .i64 h, .int .i64 m, .int .i64 s, .int .i64 n] 74 := by rw [hV]; exact (Bx.new rfl).alloc _
  have b3 : Box2 V1 (w.heap.size + 1) (.int .i64 (hi x)) (.int .u64 (lo x)) 26 := by rw [hV]; exact Box2.new (by simp)
  clear hV
  have b2_c0 := b2.c 0 (v := .int .i64 h) rfl
  have b2_c1 := b2.c 1 (v := .int .i64 m) rfl
  have b2_c2 := b2.c 2 (v := .int .i64 s) rfl
  have b2_c3 := b2.c 3 (v := .int .i64 n) rfl
  have b3_c0 := b3.c0
  have b3_c1 := b3.c1
  go_wp2_with fail
  refine (HA.out h m s n x _ Hk.out hx).mono ?_
  rintro e w2 ⟨h1, h2, x2⟩
  replace h1 := h1 HI.out
  rw [G0.out, G1.out, G2.out, G3.out, G4.out] at h1
  subst h1
  clear h2
  clear b2_c0 b2_c1 b2_c2 b2_c3 b3_c0 b3_c1
  replace b2 := b2.ext x2
  replace b3 := b3.ext x2
  replace xw := Ext.trans xw x2
  go_upto_region 2 with fail
  have o4 := b2.kind.lt
  have o5 := b3.kind.lt
  have o6 := xw.size
  refine wp_name ?_
  intro V3 hV
  have b2N : Bx V3 w.heap.size #[.int .i64 h, .int .i64 m, .int .i64 s, .int .i64 n] 74 := by rw [hV]; exact (b2).alloc _
  have b3N : Box2 V3 (w.heap.size + 1) (.int .i64 (hi x)) (.int .u64 (lo x)) 26 := by rw [hV]; exact (b3).alloc _
  replace xw : Ext w V3 := by rw [hV]; exact Ext.alloc (xw)
  replace b2 := b2N; clear b2N
  replace b3 := b3N; clear b3N
  have b5 : Bx V3 w2.heap.size #[.int .i64 A0, .int .i64 A1, .int .i64 A2, .int .i64 A3] 74 := by rw [hV]; exact Bx.new rfl
  clear hV
  have b2_c0 := b2.c 0 (v := .int .i64 h) rfl
  have b2_c1 := b2.c 1 (v := .int .i64 m) rfl
  have b2_c2 := b2.c 2 (v := .int .i64 s) rfl
  have b2_c3 := b2.c 3 (v := .int .i64 n) rfl
  have b3_c0 := b3.c0
  have b3_c1 := b3.c1
  go_wp2_with fail
  refine (HB.out h m s n x _ Hk.out hx).mono ?_
  rintro e w7 ⟨h1, h2, x7⟩
  replace h1 := h1 HI.out
  rw [G0.out, G1.out, G2.out, G3.out, G4.out] at h1
  subst h1
  clear h2
  clear b2_c0 b2_c1 b2_c2 b2_c3 b3_c0 b3_c1
  replace b2 := b2.ext x7
  replace b3 := b3.ext x7
  replace b5 := b5.ext x7
  replace xw := Ext.trans xw x7
  go_upto_region 3 with fail
  have o9 := b5.kind.lt
  have o10 := xw.size
  refine wp_name ?_
  intro V8 hV
  have b2N : Bx V8 w.heap.size #[.int .i64 h, .int .i64 m, .int .i64 s, .int .i64 n] 74 := by rw [hV]; exact (b2).alloc _
  have b3N : Box2 V8 (w.heap.size + 1) (.int .i64 (hi x)) (.int .u64 (lo x)) 26 := by rw [hV]; exact (b3).alloc _
  have b5N : Bx V8 w2.heap.size #[.int .i64 A0, .int .i64 A1, .int .i64 A2, .int .i64 A3] 74 := by rw [hV]; exact (b5).alloc _
  replace xw : Ext w V8 := by rw [hV]; exact Ext.alloc (xw)
  replace b2 := b2N; clear b2N
  replace b3 := b3N; clear b3N
  replace b5 := b5N; clear b5N
  have b8 : Bx V8 w7.heap.size #[.int .i64 A0, .int .i64 A1, .int .i64 A2, .int .i64 A3] 74 := by rw [hV]; exact Bx.new rfl
  clear hV
  go_wp2_with fail
  refine (HAl.out _).mono ?_
  rintro e w11 ⟨rfl, x11⟩
  replace b2 := b2.ext x11
  replace b3 := b3.ext x11
  replace b5 := b5.ext x11
  replace b8 := b8.ext x11
  replace xw := Ext.trans xw x11
  have b5_c0 := b5.c 0 (v := .int .i64 A0) rfl
  have b5_c1 := b5.c 1 (v := .int .i64 A1) rfl
  have b5_c2 := b5.c 2 (v := .int .i64 A2) rfl
  have b5_c3 := b5.c 3 (v := .int .i64 A3) rfl
  have b8_c0 := b8.c 0 (v := .int .i64 A0) rfl
  have b8_c1 := b8.c 1 (v := .int .i64 A1) rfl
  have b8_c2 := b8.c 2 (v := .int .i64 A2) rfl
  have b8_c3 := b8.c 3 (v := .int .i64 A3) rfl
  have xr := xw
  go_wp2_with fail
  refine bodyPost_ret (v := .bool true) (by simp [results, Try.results18, go_sem]) rfl ⟨rfl, xr⟩
set_option maxRecDepth 100000 in
set_option maxHeartbeats 3200000 in
theorem law_adds_over (h m s n x : Int) (w : World) (hx : W128 x) (k : tOk h m s n) (hI : ¬ I64 (addQ (tnan h m s n) x)) :
    Calls Try.prog 18 #[.agg #[.int .i64 h, .int .i64 m, .int .i64 s, .int .i64 n], .agg #[.int .i64 (hi x), .int .u64 (lo x)]] w (fun e w' => e = .returned (.bool true) ∧ Ext w w') := by
  have HAl := Lib.hid alive6
  have HA := Lib.hid cadd
  have HB := Lib.hid zadd6
  have Hk := Lib.hid k
  have HI := Lib.hid hI
  clear k hI
  go_enter Try.func18, Try.ntmps18
  go_upto_region 1 with fail
  have xw := Ext.refl w
  refine wp_name ?_
  intro V1 hV
  replace xw : Ext w V1 := by rw [hV]; exact Ext.alloc (Ext.alloc (xw))
  have b2 : Bx V1 w.heap.size #[.int .i64 h, .int .i64 m, .int .i64 s, .int .i64 n] 74 := by rw [hV]; exact (Bx.new rfl).alloc _
  have b3 : Box2 V1 (w.heap.size + 1) (.int .i64 (hi x)) (.int .u64 (lo x)) 26 := by rw [hV]; exact Box2.new (by simp)
  clear hV
  have b2_c0 := b2.c 0 (v := .int .i64 h) rfl
  have b2_c1 := b2.c 1 (v := .int .i64 m) rfl
  have b2_c2 := b2.c 2 (v := .int .i64 s) rfl
  have b2_c3 := b2.c 3 (v := .int .i64 n) rfl
  have b3_c0 := b3.c0
  have b3_c1 := b3.c1
  go_wp2_with fail
  refine (HA.out h m s n x _ Hk.out hx).mono ?_
  rintro e w2 ⟨h1, h2, x2⟩
  obtain rfl := h2 HI.out
  clear h1 h2
  clear b2_c0 b2_c1 b2_c2 b2_c3 b3_c0 b3_c1
  replace b2 := b2.ext x2
  replace b3 := b3.ext x2
  replace xw := Ext.trans xw x2
  go_upto_region 2 with fail
  have o4 := b2.kind.lt
  have o5 := b3.kind.lt
  have o6 := xw.size
  refine wp_name ?_
  intro V3 hV
  have b2N : Bx V3 w.heap.size #[.int .i64 h, .int .i64 m, .int .i64 s, .int .i64 n] 74 := by rw [hV]; exact (b2).alloc _
  have b3N : Box2 V3 (w.heap.size + 1) (.int .i64 (hi x)) (.int .u64 (lo x)) 26 := by rw [hV]; exact (b3).alloc _
  replace xw : Ext w V3 := by rw [hV]; exact Ext.alloc (xw)
  replace b2 := b2N; clear b2N
  replace b3 := b3N; clear b3N
  have b5 : Bx V3 w2.heap.size #[.int .i64 0, .int .i64 0, .int .i64 0, .int .i64 0] 74 := by rw [hV]; exact Bx.new rfl
  clear hV
  have b2_c0 := b2.c 0 (v := .int .i64 h) rfl
  have b2_c1 := b2.c 1 (v := .int .i64 m) rfl
  have b2_c2 := b2.c 2 (v := .int .i64 s) rfl
  have b2_c3 := b2.c 3 (v := .int .i64 n) rfl
  have b3_c0 := b3.c0
  have b3_c1 := b3.c1
  go_wp2_with fail
  refine (HB.out h m s n x _ Hk.out hx).mono ?_
  rintro e w7 ⟨h1, h2, x7⟩
  obtain rfl := h2 HI.out
  clear h1 h2
  clear b2_c0 b2_c1 b2_c2 b2_c3 b3_c0 b3_c1
  replace b2 := b2.ext x7
  replace b3 := b3.ext x7
  replace b5 := b5.ext x7
  replace xw := Ext.trans xw x7
  go_upto_region 3 with fail
  have o9 := b5.kind.lt
  have o10 := xw.size
  refine wp_name ?_
  intro V8 hV
  have b2N : Bx V8 w.heap.size #[.int .i64 h, .int .i64 m, .int .i64 s, .int .i64 n] 74 := by rw [hV]; exact (b2).alloc _
  have b3N : Box2 V8 (w.heap.size + 1) (.int .i64 (hi x)) (.int .u64 (lo x)) 26 := by rw [hV]; exact (b3).alloc _
  have b5N : Bx V8 w2.heap.size #[.int .i64 0, .int .i64 0, .int .i64 0, .int .i64 0] 74 := by rw [hV]; exact (b5).alloc _
  replace xw : Ext w V8 := by rw [hV]; exact Ext.alloc (xw)
  replace b2 := b2N; clear b2N
  replace b3 := b3N; clear b3N
  replace b5 := b5N; clear b5N
  have b8 : Bx V8 w7.heap.size #[.int .i64 0, .int .i64 0, .int .i64 0, .int .i64 0] 74 := by rw [hV]; exact Bx.new rfl
  clear hV
  go_wp2_with fail
  refine (HAl.out _).mono ?_
  rintro e w11 ⟨rfl, x11⟩
  replace b2 := b2.ext x11
  replace b3 := b3.ext x11
  replace b5 := b5.ext x11
  replace b8 := b8.ext x11
  replace xw := Ext.trans xw x11
  have b5_c0 := b5.c 0 (v := .int .i64 0) rfl
  have b5_c1 := b5.c 1 (v := .int .i64 0) rfl
  have b5_c2 := b5.c 2 (v := .int .i64 0) rfl
  have b5_c3 := b5.c 3 (v := .int .i64 0) rfl
  have b8_c0 := b8.c 0 (v := .int .i64 0) rfl
  have b8_c1 := b8.c 1 (v := .int .i64 0) rfl
  have b8_c2 := b8.c 2 (v := .int .i64 0) rfl
  have b8_c3 := b8.c 3 (v := .int .i64 0) rfl
  have xr := xw
  go_wp2_with fail
  refine bodyPost_ret (v := .bool true) (by simp [results, Try.results18, go_sem]) rfl ⟨rfl, xr⟩
theorem law_adds (h m s n x : Int) (w : World) (hx : W128 x) :
    Calls Try.prog 18 #[.agg #[.int .i64 h, .int .i64 m, .int .i64 s, .int .i64 n], .agg #[.int .i64 (hi x), .int .u64 (lo x)]] w (fun e w' => e = .returned (.bool true) ∧ Ext w w') := by
  by_cases k : tOk h m s n
  · by_cases hI : I64 (addQ (tnan h m s n) x)
    · exact law_adds_yes h m s n x w hx k hI
    · exact law_adds_over h m s n x w hx k hI
  · exact law_adds_no h m s n x w hx k
end Go.Proofs.Ytmkddcmfofabbaa
