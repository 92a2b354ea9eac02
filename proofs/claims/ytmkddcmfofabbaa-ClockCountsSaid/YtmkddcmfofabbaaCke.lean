/-
  The reference's Add of the clock.
-/
import Derived.Test.YtmkddcmfofabbaaCkd
set_option linter.unusedSimpArgs false
set_option linter.unusedVariables false
namespace Go.Proofs.Ytmkddcmfofabbaa
open Go Go.RowKit

set_option maxRecDepth 100000 in
set_option maxHeartbeats 3200000 in
theorem zadd_no (h m s n x : Int) (w : World) (k : ¬ tOk h m s n) :
    Calls Try.prog 75 #[.agg #[.int .i64 h, .int .i64 m, .int .i64 s, .int .i64 n], .agg #[.int .i64 (hi x), .int .u64 (lo x)]] w (fun e w' => e = .returned (.tuple #[.agg #[.int .i64 0, .int .i64 0, .int .i64 0, .int .i64 0], .int .i64 0, .int .i64 1]) ∧ Ext w w') := by
  have HRt := Lib.hid zright
  have HK := Lib.hid (tOkB_no k)
  go_enter Try.func75, Try.ntmps75
  go_upto_region 1 with fail
  have xw := Ext.refl w
  refine wp_name ?_
  intro V1 hV
  replace xw : Ext w V1 := by rw [hV]; exact Ext.alloc (Ext.alloc (Ext.alloc (xw)))
  have b2 : Bx V1 w.heap.size #[.int .i64 h, .int .i64 m, .int .i64 s, .int .i64 n] 74 := by rw [hV]; exact ((Bx.new rfl).alloc _).alloc _
  have b3 : Box2 V1 (w.heap.size + 1) (.int .i64 (hi x)) (.int .u64 (lo x)) 26 := by rw [hV]; exact (Box2.new (by simp)).alloc _
  have b4 : Bx V1 (w.heap.size + 1 + 1) #[.int .i64 0, .int .i64 0, .int .i64 0, .int .i64 0] 74 := by rw [hV]; exact Bx.new (by simp)
  clear hV
  have b2_c0 := b2.c 0 (v := .int .i64 h) rfl
  have b2_c1 := b2.c 1 (v := .int .i64 m) rfl
  have b2_c2 := b2.c 2 (v := .int .i64 s) rfl
  have b2_c3 := b2.c 3 (v := .int .i64 n) rfl
  go_wp2_with fail
  refine (HRt.out h m s n _).mono ?_
  rw [HK.out]
  rintro e w2 ⟨rfl, x2⟩
  clear b2_c0 b2_c1 b2_c2 b2_c3
  replace b2 := b2.ext x2
  replace b3 := b3.ext x2
  replace b4 := b4.ext x2
  replace xw := Ext.trans xw x2
  go_upto_region 2 with fail
  have b4_c0 := b4.c 0 (v := .int .i64 0) rfl
  have b4_c1 := b4.c 1 (v := .int .i64 0) rfl
  have b4_c2 := b4.c 2 (v := .int .i64 0) rfl
  have b4_c3 := b4.c 3 (v := .int .i64 0) rfl
  have b4_f0 := b4.f 0
  have b4_f1 := b4.f 1
  have b4_f2 := b4.f 2
  have b4_f3 := b4.f 3
  have xr := Ext.set (Ext.set (Ext.set (Ext.set (xw) (k := w.heap.size + 1 + 1) (o := 0) (u := .int .i64 0) (by omega)) (k := w.heap.size + 1 + 1) (o := 1) (u := .int .i64 0) (by omega)) (k := w.heap.size + 1 + 1) (o := 2) (u := .int .i64 0) (by omega)) (k := w.heap.size + 1 + 1) (o := 3) (u := .int .i64 0) (by omega)
  go_wp2_with fail
  refine bodyPost_ret (v := .tuple #[.agg #[.int .i64 0, .int .i64 0, .int .i64 0, .int .i64 0], .int .i64 0, .int .i64 1]) (by simp [results, Try.results75, go_sem, b4_c0, b4_c1, b4_c2, b4_c3]) rfl ⟨rfl, xr⟩
set_option maxRecDepth 100000 in
set_option maxHeartbeats 3200000 in
theorem zadd6 (h m s n x : Int) (w : World) (k : tOk h m s n) (hx : W128 x) :
    Calls Try.prog 75 #[.agg #[.int .i64 h, .int .i64 m, .int .i64 s, .int .i64 n], .agg #[.int .i64 (hi x), .int .u64 (lo x)]] w (RetAdd w (tnan h m s n) x) := by
  have HRt := Lib.hid zright
  have HK := Lib.hid (tOkB_yes k)
  have Hk := Lib.hid k
  have HN := Lib.hid znanos
  have HDy := Lib.hid zday
  have HFt := Lib.hid fits_any
  have HOf6 := Lib.hid zof
  have D0 : (86400000000000 : Int) ≠ 0 := by omega
  obtain ⟨a0, a1⟩ := tnan_bd k
  obtain ⟨a, ha⟩ : ∃ a, a = tnan h m s n := ⟨_, rfl⟩
  rw [← ha] at a0 a1 ⊢
  have HA := Lib.hid ha.symm
  obtain ⟨hR0, hR1, -, -⟩ := add_split (x := x) a0 a1
  obtain ⟨Q, eQ⟩ : ∃ Q, Q = addQ a x := ⟨_, rfl⟩
  obtain ⟨R, eR⟩ : ∃ R, R = addR a x := ⟨_, rfl⟩
  rw [← eR] at hR0 hR1
  have HeQ := Lib.hid eQ
  have HeR := Lib.hid eR
  have HQ := Lib.hid (show (a + x).fdiv 86400000000000 = Q from eQ.symm)
  have HR := Lib.hid (show (a + x).fmod 86400000000000 = R from eR.symm)
  have iR : I64 R := by unfold I64; omega
  have HU1 := Lib.hid (show t64 R = R from if_pos iR)
  have HU2 := Lib.hid (show decide (I64 R) = true from decide_eq_true iR)
  clear ha k eQ eR iR
  have HOf := Lib.hid of_any
  have HOfw := Lib.hid ofw
  have HAdd := Lib.hid add_z
  have HDiv := Lib.hid div_z
  by_cases hI : I64 Q
  · have HT1 := Lib.hid (show t64 Q = Q from if_pos hI)
    have HT2 := Lib.hid (show decide (I64 Q) = true from decide_eq_true hI)
    go_enter Try.func75, Try.ntmps75
    go_upto_region 1 with fail
    have xw := Ext.refl w
    refine wp_name ?_
    intro V1 hV
    replace xw : Ext w V1 := by rw [hV]; exact Ext.alloc (Ext.alloc (Ext.alloc (xw)))
    have b2 : Bx V1 w.heap.size #[.int .i64 h, .int .i64 m, .int .i64 s, .int .i64 n] 74 := by rw [hV]; exact ((Bx.new rfl).alloc _).alloc _
    have b3 : Box2 V1 (w.heap.size + 1) (.int .i64 (hi x)) (.int .u64 (lo x)) 26 := by rw [hV]; exact (Box2.new (by simp)).alloc _
    have b4 : Bx V1 (w.heap.size + 1 + 1) #[.int .i64 0, .int .i64 0, .int .i64 0, .int .i64 0] 74 := by rw [hV]; exact Bx.new (by simp)
    clear hV
    have b2_c0 := b2.c 0 (v := .int .i64 h) rfl
    have b2_c1 := b2.c 1 (v := .int .i64 m) rfl
    have b2_c2 := b2.c 2 (v := .int .i64 s) rfl
    have b2_c3 := b2.c 3 (v := .int .i64 n) rfl
    go_wp2_with fail
    refine (HRt.out h m s n _).mono ?_
    rw [HK.out]
    rintro e w2 ⟨rfl, x2⟩
    clear b2_c0 b2_c1 b2_c2 b2_c3
    replace b2 := b2.ext x2
    replace b3 := b3.ext x2
    replace b4 := b4.ext x2
    replace xw := Ext.trans xw x2
    go_upto_region 3 with fail
    refine wp_region_noPanic ?_
    refine wp_region_held_drew (S := fun w' => Ext w2 w') (by kernel_rfl) (Ext.refl w2).drew (fun hHeld => ?_)
    have b2_d0 := fun w' (hh : Ext w2 w') => (b2.ext hh).c 0 (v := .int .i64 h) rfl
    have b2_d1 := fun w' (hh : Ext w2 w') => (b2.ext hh).c 1 (v := .int .i64 m) rfl
    have b2_d2 := fun w' (hh : Ext w2 w') => (b2.ext hh).c 2 (v := .int .i64 s) rfl
    have b2_d3 := fun w' (hh : Ext w2 w') => (b2.ext hh).c 3 (v := .int .i64 n) rfl
    have b3_d0 := fun w' (hh : Ext w2 w') => (b3.ext hh).c0
    have b3_d1 := fun w' (hh : Ext w2 w') => (b3.ext hh).c1
    refine wpAnyH_take (i := 0) (v := .agg #[.int .i64 h, .int .i64 m, .int .i64 s, .int .i64 n]) rfl (by kernel_rfl) (by kernel_rfl) (by kernel_rfl) (fun _ _ _ h => h) (Or.inl ⟨by kernel_rfl, fun w' h => (by go_simp)⟩) hHeld ?_
    refine wpAnyH_take (i := 3) (v := .agg #[.int .i64 (hi x), .int .u64 (lo x)]) rfl (by kernel_rfl) (by kernel_rfl) (by kernel_rfl) (fun _ _ _ h => h) (Or.inl ⟨by kernel_rfl, fun w' h => (by go_simp)⟩) hHeld ?_
    refine region2 (N := 15) (f0 := [0, 3]) (l := [(1, false), (2, false), (4, false), (5, false), (6, false), (7, false), (8, true), (9, true), (10, true)]) (T := [13, 14]) (iA := 11) (dA := 7) (iB := 12) (dB := 8) (oA := .cells #[.bool false, .slice none 0 0] 37) (oB := .cells #[.bool false, .slice none 0 0] 37) (fun _ _ _ _ _ h => h) (by kernel_rfl) (by kernel_rfl) rfl (by kernel_rfl) (by kernel_rfl)
      (fun K a w h => wpOp_of rfl fun K' hK => (by go_simp; exact hK _ _ h)) (fun K a w h => wpOp_of rfl fun K' hK => (by go_simp; exact hK _ _ h)) (by decide) (by simp [Act.put]) (by simp [Act.put]) (fun _ _ h x => h.trans x) hHeld ?_
    have y0 : Ext w2 w2.drew := (Ext.refl w2).drew
    intro a1 v3 haw yv3
    obtain ⟨s13, s23, rfl⟩ := away2 haw; refine wpOp_of rfl fun K' hK => ?_; go_simp
    replace y0 := Ext.trans y0 yv3
    refine (HN.out h m s n _ Hk.out).mono ?_
    rw [HA.out]
    rintro e w4 ⟨rfl, x4⟩
    refine hK _ _ ⟨⟨x4, rfl, slots2 rfl rfl⟩, ?_⟩; clear hK K'
    replace y0 := Ext.trans y0 x4
    intro a1 v5 haw yv5
    obtain ⟨s15, s25, rfl⟩ := away2 haw; refine wpOp_of rfl fun K' hK => ?_; go_simp
    replace y0 := Ext.trans y0 yv5
    refine (HOf.out a _ (by omega) (by omega)).mono ?_
    rintro e w6 ⟨n6, a6, l6, c6, rfl, z6, x6⟩
    replace x6 : Ext _ w6 := x6
    have B6 : Bits 64 (a) := by unfold Bits; omega
    refine hK _ _ ⟨⟨x6, rfl, slots2 rfl rfl⟩, ?_⟩; clear hK K'
    replace y0 := Ext.trans y0 x6
    intro a1 v7 haw yv7
    obtain ⟨s17, s27, rfl⟩ := away2 haw; refine wpOp_of rfl fun K' hK => ?_; go_simp
    replace y0 := Ext.trans y0 yv7
    replace z6 := z6.ext yv7
    refine (HOfw.out x _ hx).mono ?_
    rintro e w8 ⟨n8, a8, l8, c8, rfl, z8, x8⟩
    replace x8 : Ext _ w8 := x8
    have B8 : Bits 128 (x) := hx.bits
    refine hK _ _ ⟨⟨x8, rfl, slots2 rfl rfl⟩, ?_⟩; clear hK K'
    replace y0 := Ext.trans y0 x8
    replace z6 := z6.ext x8
    intro a1 v9 haw yv9
    obtain ⟨s19, s29, rfl⟩ := away2 haw; refine wpOp_of rfl fun K' hK => ?_; go_simp
    replace y0 := Ext.trans y0 yv9
    replace z6 := z6.ext yv9
    replace z8 := z8.ext yv9
    refine (HAdd.out _ _ _ _ _ _ _ _ a x _ z6 z8 (B6.fit (by omega)) (B8.fit (by omega))).mono ?_
    rintro e w10 ⟨n10, a10, l10, c10, rfl, z10, x10⟩
    replace x10 : Ext _ w10 := x10
    have B10 : Bits 129 (a + x) := (B6.mono (by omega)).add B8
    refine hK _ _ ⟨⟨x10, rfl, slots2 rfl rfl⟩, ?_⟩; clear hK K'
    replace y0 := Ext.trans y0 x10
    replace z6 := z6.ext x10
    replace z8 := z8.ext x10
    intro a1 v11 haw yv11
    obtain ⟨s111, s211, rfl⟩ := away2 haw; refine wpOp_of rfl fun K' hK => ?_; go_simp
    replace y0 := Ext.trans y0 yv11
    replace z6 := z6.ext yv11
    replace z8 := z8.ext yv11
    replace z10 := z10.ext yv11
    refine (HDy.out _).mono ?_
    rintro e w12 ⟨n12, a12, l12, c12, rfl, z12, x12⟩
    replace x12 : Ext _ w12 := x12
    have B12 : Bits 64 (86400000000000 : Int) := by unfold Bits; omega
    refine hK _ _ ⟨⟨x12, rfl, slots2 rfl rfl⟩, ?_⟩; clear hK K'
    replace y0 := Ext.trans y0 x12
    replace z6 := z6.ext x12
    replace z8 := z8.ext x12
    replace z10 := z10.ext x12
    intro a1 v13 haw yv13
    obtain ⟨s113, s213, rfl⟩ := away2 haw; refine wpOp_of rfl fun K' hK => ?_; go_simp
    replace y0 := Ext.trans y0 yv13
    replace z6 := z6.ext yv13
    replace z8 := z8.ext yv13
    replace z10 := z10.ext yv13
    replace z12 := z12.ext yv13
    refine (HDiv.out _ _ _ _ _ _ _ _ (a + x) 86400000000000 _ z10 z12 129 (by omega) B10 (B12.mono (by omega)) D0).mono ?_
    rintro e w14 ⟨n14q, a14q, l14q, c14q, n14r, a14r, l14r, c14r, rfl, z14q, z14r, x14⟩
    replace x14 : Ext _ w14 := x14
    have B14q : Bits 130 ((a + x).fdiv 86400000000000) := fdiv_b B10 D0
    have B14r : Bits 64 ((a + x).fmod 86400000000000) := fmod_b B12 D0
    rw [HQ.out] at z14q
    rw [HR.out] at z14r
    have B14Q : Bits 130 Q := by rw [← HQ.out]; exact B14q
    have B14R : Bits 64 R := by rw [← HR.out]; exact B14r
    refine hK _ _ ⟨⟨x14, rfl, slots2 rfl rfl⟩, ?_⟩; clear hK K'
    replace y0 := Ext.trans y0 x14
    replace z6 := z6.ext x14
    replace z8 := z8.ext x14
    replace z10 := z10.ext x14
    replace z12 := z12.ext x14
    refine ⟨_, .tuple #[.agg #[.bool n14q, .slice a14q l14q c14q], .agg #[.bool n14r, .slice a14r l14r c14r]], rfl, Or.inl ⟨by rfl, fun w' h => (by go_simp)⟩, by simp, ?_⟩
    refine ⟨_, .agg #[.bool n14q, .slice a14q l14q c14q], rfl, Or.inl ⟨by rfl, fun w' h => (by go_simp)⟩, by simp, ?_⟩
    refine ⟨_, .agg #[.bool n14r, .slice a14r l14r c14r], rfl, Or.inl ⟨by rfl, fun w' h => (by go_simp)⟩, by simp, ?_⟩
    intro a' v15 haw yv15
    obtain ⟨s115, s215, rfl⟩ := away2 haw
    rintro k7 k8 ⟨k7a, k7b, k7c⟩ ⟨k8a, k8b, k8c⟩ k7ne hS'
    replace y0 := Ext.trans y0 yv15
    replace z6 := z6.ext yv15
    replace z8 := z8.ext yv15
    replace z10 := z10.ext yv15
    replace z12 := z12.ext yv15
    replace z14q := z14q.ext yv15
    replace z14r := z14r.ext yv15
    simp [Act.put] at k7b; subst k7b; replace k7a : w2.heap.size ≤ k7 := k7a
    simp [Act.put] at k8b; subst k8b; replace k8a : w2.heap.size ≤ k8 := k8a
    clear b2_d0 b2_d1 b2_d2 b2_d3 b3_d0 b3_d1
    have o16 := b2.kind.lt
    have o17 := b3.kind.lt
    have o18 := b4.kind.lt
    have o19 := xw.size
    replace b2 := b2.ext y0
    replace b3 := b3.ext y0
    replace b4 := b4.ext y0
    replace xw := Ext.trans xw y0
    have b7 : Box2 v15 k7 (.bool false) (.slice none 0 0) 37 := k7c
    clear k7c
    have b8 : Box2 v15 k8 (.bool false) (.slice none 0 0) 37 := k8c
    clear k8c
    have hT : Ext w2 v15 := hS'
    have b7_c0 := b7.c0
    have b7_c1 := b7.c1
    have b7_f0 := b7.f0
    have b7_f1 := b7.f1
    refine wpOp_of rfl fun K' hK => ?_
    go_simp
    clear b7_c0 b7_c1 b7_f0 b7_f1
    replace hT := Ext.set hT (k := k7) (o := 0) (u := .bool n14q) k7a
    replace hT := Ext.set hT (k := k7) (o := 1) (u := .slice a14q l14q c14q) k7a
    refine hK _ _ ⟨hT, ?_⟩
    clear hK K'
    have b2N := ((b2).other (b := k7) (by omega) 0 (.bool n14q)).other (b := k7) (by omega) 1 (.slice a14q l14q c14q)
    have b3N := ((b3).other (b := k7) (by omega) 0 (.bool n14q)).other (b := k7) (by omega) 1 (.slice a14q l14q c14q)
    have b4N := ((b4).other (b := k7) (by omega) 0 (.bool n14q)).other (b := k7) (by omega) 1 (.slice a14q l14q c14q)
    have b7N := (b7).set (.bool n14q) (.slice a14q l14q c14q)
    have b8N := ((b8).other (b := k7) (by omega) 0 (.bool n14q)).other (b := k7) (by omega) 1 (.slice a14q l14q c14q)
    have z6N := (z6).set2 (b7).kind (by decide) (.bool n14q) (.slice a14q l14q c14q)
    have z8N := (z8).set2 (b7).kind (by decide) (.bool n14q) (.slice a14q l14q c14q)
    have z10N := (z10).set2 (b7).kind (by decide) (.bool n14q) (.slice a14q l14q c14q)
    have z12N := (z12).set2 (b7).kind (by decide) (.bool n14q) (.slice a14q l14q c14q)
    have z14qN := (z14q).set2 (b7).kind (by decide) (.bool n14q) (.slice a14q l14q c14q)
    have z14rN := (z14r).set2 (b7).kind (by decide) (.bool n14q) (.slice a14q l14q c14q)
    replace xw := Ext.set (Ext.set (xw) (k := k7) (o := 0) (u := .bool n14q) (by omega)) (k := k7) (o := 1) (u := .slice a14q l14q c14q) (by omega)
    replace b2 := b2N; clear b2N
    replace b3 := b3N; clear b3N
    replace b4 := b4N; clear b4N
    replace b7 := b7N; clear b7N
    replace b8 := b8N; clear b8N
    replace z6 := z6N; clear z6N
    replace z8 := z8N; clear z8N
    replace z10 := z10N; clear z10N
    replace z12 := z12N; clear z12N
    replace z14q := z14qN; clear z14qN
    replace z14r := z14rN; clear z14rN
    have b8_c0 := b8.c0
    have b8_c1 := b8.c1
    have b8_f0 := b8.f0
    have b8_f1 := b8.f1
    refine wpOp_of rfl fun K' hK => ?_
    go_simp
    clear b8_c0 b8_c1 b8_f0 b8_f1
    replace hT := Ext.set hT (k := k8) (o := 0) (u := .bool n14r) k8a
    replace hT := Ext.set hT (k := k8) (o := 1) (u := .slice a14r l14r c14r) k8a
    refine hK _ _ ⟨hT, ?_⟩
    clear hK K'
    have b2N := ((b2).other (b := k8) (by omega) 0 (.bool n14r)).other (b := k8) (by omega) 1 (.slice a14r l14r c14r)
    have b3N := ((b3).other (b := k8) (by omega) 0 (.bool n14r)).other (b := k8) (by omega) 1 (.slice a14r l14r c14r)
    have b4N := ((b4).other (b := k8) (by omega) 0 (.bool n14r)).other (b := k8) (by omega) 1 (.slice a14r l14r c14r)
    have b7N := ((b7).other (b := k8) (by omega) 0 (.bool n14r)).other (b := k8) (by omega) 1 (.slice a14r l14r c14r)
    have b8N := (b8).set (.bool n14r) (.slice a14r l14r c14r)
    have z6N := (z6).set2 (b8).kind (by decide) (.bool n14r) (.slice a14r l14r c14r)
    have z8N := (z8).set2 (b8).kind (by decide) (.bool n14r) (.slice a14r l14r c14r)
    have z10N := (z10).set2 (b8).kind (by decide) (.bool n14r) (.slice a14r l14r c14r)
    have z12N := (z12).set2 (b8).kind (by decide) (.bool n14r) (.slice a14r l14r c14r)
    have z14qN := (z14q).set2 (b8).kind (by decide) (.bool n14r) (.slice a14r l14r c14r)
    have z14rN := (z14r).set2 (b8).kind (by decide) (.bool n14r) (.slice a14r l14r c14r)
    replace xw := Ext.set (Ext.set (xw) (k := k8) (o := 0) (u := .bool n14r) (by omega)) (k := k8) (o := 1) (u := .slice a14r l14r c14r) (by omega)
    replace b2 := b2N; clear b2N
    replace b3 := b3N; clear b3N
    replace b4 := b4N; clear b4N
    replace b7 := b7N; clear b7N
    replace b8 := b8N; clear b8N
    replace z6 := z6N; clear z6N
    replace z8 := z8N; clear z8N
    replace z10 := z10N; clear z10N
    replace z12 := z12N; clear z12N
    replace z14q := z14qN; clear z14qN
    replace z14r := z14rN; clear z14rN
    refine NoPanic.normal ?_
    clear hT hS' y0 hHeld
    go_upto_region 4 with fail
    refine wp_name ?_
    intro V20 hV
    rw [← hV] at b2 b3 b4 b7 b8 z6 z8 z10 z12 z14q z14r xw
    clear hV
    clear z6 z8 z10 z12
    have b7_c0 := b7.c0
    have b7_c1 := b7.c1
    go_wp2_with fail
    refine (HFt.out _ _ _ _ Q _ z14q (B14Q.mono (by omega))).mono ?_
    unfold Fit64
    rw [HT1.out, HT2.out]
    rintro e w21 ⟨rfl, x21⟩
    clear b7_c0 b7_c1
    replace b2 := b2.ext x21
    replace b3 := b3.ext x21
    replace b4 := b4.ext x21
    replace b7 := b7.ext x21
    replace b8 := b8.ext x21
    replace z14q := z14q.ext x21
    replace z14r := z14r.ext x21
    replace xw := Ext.trans xw x21
    go_upto_region 5 with fail
    go_upto_region 7 with fail
    have b8_c0 := b8.c0
    have b8_c1 := b8.c1
    go_wp2_with fail
    refine (HFt.out _ _ _ _ R _ z14r (B14R.mono (by omega))).mono ?_
    unfold Fit64
    rw [HU1.out, HU2.out]
    rintro e w22 ⟨rfl, x22⟩
    clear b8_c0 b8_c1
    replace b2 := b2.ext x22
    replace b3 := b3.ext x22
    replace b4 := b4.ext x22
    replace b7 := b7.ext x22
    replace b8 := b8.ext x22
    replace z14q := z14q.ext x22
    replace z14r := z14r.ext x22
    replace xw := Ext.trans xw x22
    go_upto_region 8 with fail
    go_wp2_with fail
    refine (HOf6.out R _ hR0 hR1).mono ?_
    rintro e w23 ⟨rfl, x23⟩
    replace b2 := b2.ext x23
    replace b3 := b3.ext x23
    replace b4 := b4.ext x23
    replace b7 := b7.ext x23
    replace b8 := b8.ext x23
    replace z14q := z14q.ext x23
    replace z14r := z14r.ext x23
    replace xw := Ext.trans xw x23
    have b4_c0 := b4.c 0 (v := .int .i64 0) rfl
    have b4_c1 := b4.c 1 (v := .int .i64 0) rfl
    have b4_c2 := b4.c 2 (v := .int .i64 0) rfl
    have b4_c3 := b4.c 3 (v := .int .i64 0) rfl
    have b4_f0 := b4.f 0
    have b4_f1 := b4.f 1
    have b4_f2 := b4.f 2
    have b4_f3 := b4.f 3
    have xr := Ext.set (Ext.set (Ext.set (Ext.set (xw) (k := w.heap.size + 1 + 1) (o := 0) (u := .int .i64 (tH R)) (by omega)) (k := w.heap.size + 1 + 1) (o := 1) (u := .int .i64 (tM R)) (by omega)) (k := w.heap.size + 1 + 1) (o := 2) (u := .int .i64 (tS R)) (by omega)) (k := w.heap.size + 1 + 1) (o := 3) (u := .int .i64 (tN R)) (by omega)
    go_wp2_with fail
    refine bodyPost_ret (v := .tuple #[.agg #[.int .i64 (tH R), .int .i64 (tM R), .int .i64 (tS R), .int .i64 (tN R)], .int .i64 Q, .int .i64 0]) (by simp [results, Try.results75, go_sem, b4_c0, b4_c1, b4_c2, b4_c3]) rfl ⟨fun _ => by rw [← HeQ.out, ← HeR.out], fun hn => absurd hI (by rw [HeQ.out]; exact hn), xr⟩
  · have HT1 := Lib.hid (show t64 Q = 0 from if_neg hI)
    have HT2 := Lib.hid (show decide (I64 Q) = false from decide_eq_false hI)
    go_enter Try.func75, Try.ntmps75
    go_upto_region 1 with fail
    have xw := Ext.refl w
    refine wp_name ?_
    intro V24 hV
    replace xw : Ext w V24 := by rw [hV]; exact Ext.alloc (Ext.alloc (Ext.alloc (xw)))
    have b2 : Bx V24 w.heap.size #[.int .i64 h, .int .i64 m, .int .i64 s, .int .i64 n] 74 := by rw [hV]; exact ((Bx.new rfl).alloc _).alloc _
    have b3 : Box2 V24 (w.heap.size + 1) (.int .i64 (hi x)) (.int .u64 (lo x)) 26 := by rw [hV]; exact (Box2.new (by simp)).alloc _
    have b4 : Bx V24 (w.heap.size + 1 + 1) #[.int .i64 0, .int .i64 0, .int .i64 0, .int .i64 0] 74 := by rw [hV]; exact Bx.new (by simp)
    clear hV
    have b2_c0 := b2.c 0 (v := .int .i64 h) rfl
    have b2_c1 := b2.c 1 (v := .int .i64 m) rfl
    have b2_c2 := b2.c 2 (v := .int .i64 s) rfl
    have b2_c3 := b2.c 3 (v := .int .i64 n) rfl
    go_wp2_with fail
    refine (HRt.out h m s n _).mono ?_
    rw [HK.out]
    rintro e w25 ⟨rfl, x25⟩
    clear b2_c0 b2_c1 b2_c2 b2_c3
    replace b2 := b2.ext x25
    replace b3 := b3.ext x25
    replace b4 := b4.ext x25
    replace xw := Ext.trans xw x25
    go_upto_region 3 with fail
    refine wp_region_noPanic ?_
    refine wp_region_held_drew (S := fun w' => Ext w25 w') (by kernel_rfl) (Ext.refl w25).drew (fun hHeld => ?_)
    have b2_d0 := fun w' (hh : Ext w25 w') => (b2.ext hh).c 0 (v := .int .i64 h) rfl
    have b2_d1 := fun w' (hh : Ext w25 w') => (b2.ext hh).c 1 (v := .int .i64 m) rfl
    have b2_d2 := fun w' (hh : Ext w25 w') => (b2.ext hh).c 2 (v := .int .i64 s) rfl
    have b2_d3 := fun w' (hh : Ext w25 w') => (b2.ext hh).c 3 (v := .int .i64 n) rfl
    have b3_d0 := fun w' (hh : Ext w25 w') => (b3.ext hh).c0
    have b3_d1 := fun w' (hh : Ext w25 w') => (b3.ext hh).c1
    refine wpAnyH_take (i := 0) (v := .agg #[.int .i64 h, .int .i64 m, .int .i64 s, .int .i64 n]) rfl (by kernel_rfl) (by kernel_rfl) (by kernel_rfl) (fun _ _ _ h => h) (Or.inl ⟨by kernel_rfl, fun w' h => (by go_simp)⟩) hHeld ?_
    refine wpAnyH_take (i := 3) (v := .agg #[.int .i64 (hi x), .int .u64 (lo x)]) rfl (by kernel_rfl) (by kernel_rfl) (by kernel_rfl) (fun _ _ _ h => h) (Or.inl ⟨by kernel_rfl, fun w' h => (by go_simp)⟩) hHeld ?_
    refine region2 (N := 15) (f0 := [0, 3]) (l := [(1, false), (2, false), (4, false), (5, false), (6, false), (7, false), (8, true), (9, true), (10, true)]) (T := [13, 14]) (iA := 11) (dA := 7) (iB := 12) (dB := 8) (oA := .cells #[.bool false, .slice none 0 0] 37) (oB := .cells #[.bool false, .slice none 0 0] 37) (fun _ _ _ _ _ h => h) (by kernel_rfl) (by kernel_rfl) rfl (by kernel_rfl) (by kernel_rfl)
      (fun K a w h => wpOp_of rfl fun K' hK => (by go_simp; exact hK _ _ h)) (fun K a w h => wpOp_of rfl fun K' hK => (by go_simp; exact hK _ _ h)) (by decide) (by simp [Act.put]) (by simp [Act.put]) (fun _ _ h x => h.trans x) hHeld ?_
    have y0 : Ext w25 w25.drew := (Ext.refl w25).drew
    intro a1 v26 haw yv26
    obtain ⟨s126, s226, rfl⟩ := away2 haw; refine wpOp_of rfl fun K' hK => ?_; go_simp
    replace y0 := Ext.trans y0 yv26
    refine (HN.out h m s n _ Hk.out).mono ?_
    rw [HA.out]
    rintro e w27 ⟨rfl, x27⟩
    refine hK _ _ ⟨⟨x27, rfl, slots2 rfl rfl⟩, ?_⟩; clear hK K'
    replace y0 := Ext.trans y0 x27
    intro a1 v28 haw yv28
    obtain ⟨s128, s228, rfl⟩ := away2 haw; refine wpOp_of rfl fun K' hK => ?_; go_simp
    replace y0 := Ext.trans y0 yv28
    refine (HOf.out a _ (by omega) (by omega)).mono ?_
    rintro e w29 ⟨n29, a29, l29, c29, rfl, z29, x29⟩
    replace x29 : Ext _ w29 := x29
    have B29 : Bits 64 (a) := by unfold Bits; omega
    refine hK _ _ ⟨⟨x29, rfl, slots2 rfl rfl⟩, ?_⟩; clear hK K'
    replace y0 := Ext.trans y0 x29
    intro a1 v30 haw yv30
    obtain ⟨s130, s230, rfl⟩ := away2 haw; refine wpOp_of rfl fun K' hK => ?_; go_simp
    replace y0 := Ext.trans y0 yv30
    replace z29 := z29.ext yv30
    refine (HOfw.out x _ hx).mono ?_
    rintro e w31 ⟨n31, a31, l31, c31, rfl, z31, x31⟩
    replace x31 : Ext _ w31 := x31
    have B31 : Bits 128 (x) := hx.bits
    refine hK _ _ ⟨⟨x31, rfl, slots2 rfl rfl⟩, ?_⟩; clear hK K'
    replace y0 := Ext.trans y0 x31
    replace z29 := z29.ext x31
    intro a1 v32 haw yv32
    obtain ⟨s132, s232, rfl⟩ := away2 haw; refine wpOp_of rfl fun K' hK => ?_; go_simp
    replace y0 := Ext.trans y0 yv32
    replace z29 := z29.ext yv32
    replace z31 := z31.ext yv32
    refine (HAdd.out _ _ _ _ _ _ _ _ a x _ z29 z31 (B29.fit (by omega)) (B31.fit (by omega))).mono ?_
    rintro e w33 ⟨n33, a33, l33, c33, rfl, z33, x33⟩
    replace x33 : Ext _ w33 := x33
    have B33 : Bits 129 (a + x) := (B29.mono (by omega)).add B31
    refine hK _ _ ⟨⟨x33, rfl, slots2 rfl rfl⟩, ?_⟩; clear hK K'
    replace y0 := Ext.trans y0 x33
    replace z29 := z29.ext x33
    replace z31 := z31.ext x33
    intro a1 v34 haw yv34
    obtain ⟨s134, s234, rfl⟩ := away2 haw; refine wpOp_of rfl fun K' hK => ?_; go_simp
    replace y0 := Ext.trans y0 yv34
    replace z29 := z29.ext yv34
    replace z31 := z31.ext yv34
    replace z33 := z33.ext yv34
    refine (HDy.out _).mono ?_
    rintro e w35 ⟨n35, a35, l35, c35, rfl, z35, x35⟩
    replace x35 : Ext _ w35 := x35
    have B35 : Bits 64 (86400000000000 : Int) := by unfold Bits; omega
    refine hK _ _ ⟨⟨x35, rfl, slots2 rfl rfl⟩, ?_⟩; clear hK K'
    replace y0 := Ext.trans y0 x35
    replace z29 := z29.ext x35
    replace z31 := z31.ext x35
    replace z33 := z33.ext x35
    intro a1 v36 haw yv36
    obtain ⟨s136, s236, rfl⟩ := away2 haw; refine wpOp_of rfl fun K' hK => ?_; go_simp
    replace y0 := Ext.trans y0 yv36
    replace z29 := z29.ext yv36
    replace z31 := z31.ext yv36
    replace z33 := z33.ext yv36
    replace z35 := z35.ext yv36
    refine (HDiv.out _ _ _ _ _ _ _ _ (a + x) 86400000000000 _ z33 z35 129 (by omega) B33 (B35.mono (by omega)) D0).mono ?_
    rintro e w37 ⟨n37q, a37q, l37q, c37q, n37r, a37r, l37r, c37r, rfl, z37q, z37r, x37⟩
    replace x37 : Ext _ w37 := x37
    have B37q : Bits 130 ((a + x).fdiv 86400000000000) := fdiv_b B33 D0
    have B37r : Bits 64 ((a + x).fmod 86400000000000) := fmod_b B35 D0
    rw [HQ.out] at z37q
    rw [HR.out] at z37r
    have B37Q : Bits 130 Q := by rw [← HQ.out]; exact B37q
    have B37R : Bits 64 R := by rw [← HR.out]; exact B37r
    refine hK _ _ ⟨⟨x37, rfl, slots2 rfl rfl⟩, ?_⟩; clear hK K'
    replace y0 := Ext.trans y0 x37
    replace z29 := z29.ext x37
    replace z31 := z31.ext x37
    replace z33 := z33.ext x37
    replace z35 := z35.ext x37
    refine ⟨_, .tuple #[.agg #[.bool n37q, .slice a37q l37q c37q], .agg #[.bool n37r, .slice a37r l37r c37r]], rfl, Or.inl ⟨by rfl, fun w' h => (by go_simp)⟩, by simp, ?_⟩
    refine ⟨_, .agg #[.bool n37q, .slice a37q l37q c37q], rfl, Or.inl ⟨by rfl, fun w' h => (by go_simp)⟩, by simp, ?_⟩
    refine ⟨_, .agg #[.bool n37r, .slice a37r l37r c37r], rfl, Or.inl ⟨by rfl, fun w' h => (by go_simp)⟩, by simp, ?_⟩
    intro a' v38 haw yv38
    obtain ⟨s138, s238, rfl⟩ := away2 haw
    rintro k7 k8 ⟨k7a, k7b, k7c⟩ ⟨k8a, k8b, k8c⟩ k7ne hS'
    replace y0 := Ext.trans y0 yv38
    replace z29 := z29.ext yv38
    replace z31 := z31.ext yv38
    replace z33 := z33.ext yv38
    replace z35 := z35.ext yv38
    replace z37q := z37q.ext yv38
    replace z37r := z37r.ext yv38
    simp [Act.put] at k7b; subst k7b; replace k7a : w25.heap.size ≤ k7 := k7a
    simp [Act.put] at k8b; subst k8b; replace k8a : w25.heap.size ≤ k8 := k8a
    clear b2_d0 b2_d1 b2_d2 b2_d3 b3_d0 b3_d1
    have o39 := b2.kind.lt
    have o40 := b3.kind.lt
    have o41 := b4.kind.lt
    have o42 := xw.size
    replace b2 := b2.ext y0
    replace b3 := b3.ext y0
    replace b4 := b4.ext y0
    replace xw := Ext.trans xw y0
    have b7 : Box2 v38 k7 (.bool false) (.slice none 0 0) 37 := k7c
    clear k7c
    have b8 : Box2 v38 k8 (.bool false) (.slice none 0 0) 37 := k8c
    clear k8c
    have hT : Ext w25 v38 := hS'
    have b7_c0 := b7.c0
    have b7_c1 := b7.c1
    have b7_f0 := b7.f0
    have b7_f1 := b7.f1
    refine wpOp_of rfl fun K' hK => ?_
    go_simp
    clear b7_c0 b7_c1 b7_f0 b7_f1
    replace hT := Ext.set hT (k := k7) (o := 0) (u := .bool n37q) k7a
    replace hT := Ext.set hT (k := k7) (o := 1) (u := .slice a37q l37q c37q) k7a
    refine hK _ _ ⟨hT, ?_⟩
    clear hK K'
    have b2N := ((b2).other (b := k7) (by omega) 0 (.bool n37q)).other (b := k7) (by omega) 1 (.slice a37q l37q c37q)
    have b3N := ((b3).other (b := k7) (by omega) 0 (.bool n37q)).other (b := k7) (by omega) 1 (.slice a37q l37q c37q)
    have b4N := ((b4).other (b := k7) (by omega) 0 (.bool n37q)).other (b := k7) (by omega) 1 (.slice a37q l37q c37q)
    have b7N := (b7).set (.bool n37q) (.slice a37q l37q c37q)
    have b8N := ((b8).other (b := k7) (by omega) 0 (.bool n37q)).other (b := k7) (by omega) 1 (.slice a37q l37q c37q)
    have z29N := (z29).set2 (b7).kind (by decide) (.bool n37q) (.slice a37q l37q c37q)
    have z31N := (z31).set2 (b7).kind (by decide) (.bool n37q) (.slice a37q l37q c37q)
    have z33N := (z33).set2 (b7).kind (by decide) (.bool n37q) (.slice a37q l37q c37q)
    have z35N := (z35).set2 (b7).kind (by decide) (.bool n37q) (.slice a37q l37q c37q)
    have z37qN := (z37q).set2 (b7).kind (by decide) (.bool n37q) (.slice a37q l37q c37q)
    have z37rN := (z37r).set2 (b7).kind (by decide) (.bool n37q) (.slice a37q l37q c37q)
    replace xw := Ext.set (Ext.set (xw) (k := k7) (o := 0) (u := .bool n37q) (by omega)) (k := k7) (o := 1) (u := .slice a37q l37q c37q) (by omega)
    replace b2 := b2N; clear b2N
    replace b3 := b3N; clear b3N
    replace b4 := b4N; clear b4N
    replace b7 := b7N; clear b7N
    replace b8 := b8N; clear b8N
    replace z29 := z29N; clear z29N
    replace z31 := z31N; clear z31N
    replace z33 := z33N; clear z33N
    replace z35 := z35N; clear z35N
    replace z37q := z37qN; clear z37qN
    replace z37r := z37rN; clear z37rN
    have b8_c0 := b8.c0
    have b8_c1 := b8.c1
    have b8_f0 := b8.f0
    have b8_f1 := b8.f1
    refine wpOp_of rfl fun K' hK => ?_
    go_simp
    clear b8_c0 b8_c1 b8_f0 b8_f1
    replace hT := Ext.set hT (k := k8) (o := 0) (u := .bool n37r) k8a
    replace hT := Ext.set hT (k := k8) (o := 1) (u := .slice a37r l37r c37r) k8a
    refine hK _ _ ⟨hT, ?_⟩
    clear hK K'
    have b2N := ((b2).other (b := k8) (by omega) 0 (.bool n37r)).other (b := k8) (by omega) 1 (.slice a37r l37r c37r)
    have b3N := ((b3).other (b := k8) (by omega) 0 (.bool n37r)).other (b := k8) (by omega) 1 (.slice a37r l37r c37r)
    have b4N := ((b4).other (b := k8) (by omega) 0 (.bool n37r)).other (b := k8) (by omega) 1 (.slice a37r l37r c37r)
    have b7N := ((b7).other (b := k8) (by omega) 0 (.bool n37r)).other (b := k8) (by omega) 1 (.slice a37r l37r c37r)
    have b8N := (b8).set (.bool n37r) (.slice a37r l37r c37r)
    have z29N := (z29).set2 (b8).kind (by decide) (.bool n37r) (.slice a37r l37r c37r)
    have z31N := (z31).set2 (b8).kind (by decide) (.bool n37r) (.slice a37r l37r c37r)
    have z33N := (z33).set2 (b8).kind (by decide) (.bool n37r) (.slice a37r l37r c37r)
    have z35N := (z35).set2 (b8).kind (by decide) (.bool n37r) (.slice a37r l37r c37r)
    have z37qN := (z37q).set2 (b8).kind (by decide) (.bool n37r) (.slice a37r l37r c37r)
    have z37rN := (z37r).set2 (b8).kind (by decide) (.bool n37r) (.slice a37r l37r c37r)
    replace xw := Ext.set (Ext.set (xw) (k := k8) (o := 0) (u := .bool n37r) (by omega)) (k := k8) (o := 1) (u := .slice a37r l37r c37r) (by omega)
    replace b2 := b2N; clear b2N
    replace b3 := b3N; clear b3N
    replace b4 := b4N; clear b4N
    replace b7 := b7N; clear b7N
    replace b8 := b8N; clear b8N
    replace z29 := z29N; clear z29N
    replace z31 := z31N; clear z31N
    replace z33 := z33N; clear z33N
    replace z35 := z35N; clear z35N
    replace z37q := z37qN; clear z37qN
    replace z37r := z37rN; clear z37rN
    refine NoPanic.normal ?_
    clear hT hS' y0 hHeld
    go_upto_region 4 with fail
    refine wp_name ?_
    intro V43 hV
    rw [← hV] at b2 b3 b4 b7 b8 z29 z31 z33 z35 z37q z37r xw
    clear hV
    clear z29 z31 z33 z35
    have b7_c0 := b7.c0
    have b7_c1 := b7.c1
    go_wp2_with fail
    refine (HFt.out _ _ _ _ Q _ z37q (B37Q.mono (by omega))).mono ?_
    unfold Fit64
    rw [HT1.out, HT2.out]
    rintro e w44 ⟨rfl, x44⟩
    clear b7_c0 b7_c1
    replace b2 := b2.ext x44
    replace b3 := b3.ext x44
    replace b4 := b4.ext x44
    replace b7 := b7.ext x44
    replace b8 := b8.ext x44
    replace z37q := z37q.ext x44
    replace z37r := z37r.ext x44
    replace xw := Ext.trans xw x44
    go_upto_region 5 with fail
    go_upto_region 6 with fail
    have b4_c0 := b4.c 0 (v := .int .i64 0) rfl
    have b4_c1 := b4.c 1 (v := .int .i64 0) rfl
    have b4_c2 := b4.c 2 (v := .int .i64 0) rfl
    have b4_c3 := b4.c 3 (v := .int .i64 0) rfl
    have b4_f0 := b4.f 0
    have b4_f1 := b4.f 1
    have b4_f2 := b4.f 2
    have b4_f3 := b4.f 3
    have xr := Ext.set (Ext.set (Ext.set (Ext.set (xw) (k := w.heap.size + 1 + 1) (o := 0) (u := .int .i64 0) (by omega)) (k := w.heap.size + 1 + 1) (o := 1) (u := .int .i64 0) (by omega)) (k := w.heap.size + 1 + 1) (o := 2) (u := .int .i64 0) (by omega)) (k := w.heap.size + 1 + 1) (o := 3) (u := .int .i64 0) (by omega)
    go_wp2_with fail
    refine bodyPost_ret (v := .tuple #[.agg #[.int .i64 0, .int .i64 0, .int .i64 0, .int .i64 0], .int .i64 0, .int .i64 2]) (by simp [results, Try.results75, go_sem, b4_c0, b4_c1, b4_c2, b4_c3]) rfl ⟨fun hy => absurd hy (by rw [← HeQ.out]; exact hI), fun _ => rfl, xr⟩
end Go.Proofs.Ytmkddcmfofabbaa
