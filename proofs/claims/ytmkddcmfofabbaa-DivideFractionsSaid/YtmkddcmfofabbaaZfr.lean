/-
  The reference's Fraction of layer 3.
-/
import Derived.Test.YtmkddcmfofabbaaDfr
set_option linter.unusedSimpArgs false
set_option linter.unusedVariables false
namespace Go.Proofs.Ytmkddcmfofabbaa
open Go Go.RowKit

set_option maxRecDepth 100000 in
set_option maxHeartbeats 3200000 in
theorem zfrac0 (n d : Int) (w : World) (hn : W128 n) (hd : W128 d) (h0 : d = 0) :
    Calls Try.prog 66 #[.agg #[.int .i64 (hi n), .int .u64 (lo n)], .agg #[.int .i64 (hi d), .int .u64 (lo d)]] w (RetFr w n d) := by
  have HOfw := Lib.hid ofw
  have HSgn := Lib.hid sign_z
  have HTold := Lib.hid told_any
  have HLow := Lib.hid zlowest
  have H0 := Lib.hid h0
  have g0 : (cmpI d 0 == 0) = true := by rw [h0]; rfl
  clear h0
  go_enter Try.func66, Try.ntmps66
  go_upto_region 1 with fail
  have xw := Ext.refl w
  refine wp_name ?_
  intro V1 hV
  replace xw : Ext w V1 := by rw [hV]; exact Ext.alloc (Ext.alloc (Ext.alloc (Ext.alloc (xw))))
  have b2 : Box2 V1 w.heap.size (.int .i64 (hi n)) (.int .u64 (lo n)) 26 := by rw [hV]; exact (((Box2.new rfl).alloc _).alloc _).alloc _
  have b3 : Box2 V1 (w.heap.size + 1) (.int .i64 (hi d)) (.int .u64 (lo d)) 26 := by rw [hV]; exact ((Box2.new (by simp)).alloc _).alloc _
  have b4 : Box2 V1 (w.heap.size + 1 + 1) (.int .i64 0) (.int .u64 0) 26 := by rw [hV]; exact (Box2.new (by simp)).alloc _
  have b5 : Box2 V1 (w.heap.size + 1 + 1 + 1) (.int .i64 0) (.int .u64 0) 26 := by rw [hV]; exact Box2.new (by simp)
  clear hV
  refine wp_region_noPanic ?_
  refine wp_region_held_drew (S := fun w' => Ext V1 w') (by kernel_rfl) (Ext.refl V1).drew (fun hHeld => ?_)
  have b2_d0 := fun w' (h : Ext V1 w') => (b2.ext h).c0
  have b2_d1 := fun w' (h : Ext V1 w') => (b2.ext h).c1
  have b3_d0 := fun w' (h : Ext V1 w') => (b3.ext h).c0
  have b3_d1 := fun w' (h : Ext V1 w') => (b3.ext h).c1
  refine wpAnyH_take (i := 0) (v := .agg #[.int .i64 (hi n), .int .u64 (lo n)]) rfl (by kernel_rfl) (by kernel_rfl) (by kernel_rfl) (fun _ _ _ h => h) (Or.inl ⟨by kernel_rfl, fun w' h => (by go_simp)⟩) hHeld ?_
  refine wpAnyH_take (i := 2) (v := .agg #[.int .i64 (hi d), .int .u64 (lo d)]) rfl (by kernel_rfl) (by kernel_rfl) (by kernel_rfl) (fun _ _ _ h => h) (Or.inl ⟨by kernel_rfl, fun w' h => (by go_simp)⟩) hHeld ?_
  refine region2 (N := 8) (f0 := [0, 2]) (l := [(1, false), (3, false)]) (T := [6, 7]) (iA := 4) (dA := 7) (iB := 5) (dB := 8) (oA := .cells #[.bool false, .slice none 0 0] 37) (oB := .cells #[.bool false, .slice none 0 0] 37) (fun _ _ _ _ _ h => h) (by kernel_rfl) (by kernel_rfl) rfl (by kernel_rfl) (by kernel_rfl)
    (fun K a w h => wpOp_of rfl fun K' hK => (by go_simp; exact hK _ _ h)) (fun K a w h => wpOp_of rfl fun K' hK => (by go_simp; exact hK _ _ h)) (by decide) (by simp [Act.put]) (by simp [Act.put]) (fun _ _ h x => h.trans x) hHeld ?_
  have y0 : Ext V1 V1.drew := (Ext.refl V1).drew
  intro a1 v2 h1 yv2
  obtain ⟨s12, s22, rfl⟩ := away2 h1; refine wpOp_of rfl fun K' hK => ?_; go_simp
  replace y0 := Ext.trans y0 yv2
  refine (HOfw.out n _ hn).mono ?_
  rintro e w3 ⟨n3, a3, l3, c3, rfl, z3, x3⟩
  replace x3 : Ext _ w3 := x3
  have B3 : Bits 128 (n) := hn.bits
  refine hK _ _ ⟨⟨x3, rfl, slots2 rfl rfl⟩, ?_⟩; clear hK K'
  replace y0 := Ext.trans y0 x3
  intro a1 v4 h1 yv4
  obtain ⟨s14, s24, rfl⟩ := away2 h1; refine wpOp_of rfl fun K' hK => ?_; go_simp
  replace y0 := Ext.trans y0 yv4
  replace z3 := z3.ext yv4
  refine (HOfw.out d _ hd).mono ?_
  rintro e w5 ⟨n5, a5, l5, c5, rfl, z5, x5⟩
  replace x5 : Ext _ w5 := x5
  have B5 : Bits 128 (d) := hd.bits
  refine hK _ _ ⟨⟨x5, rfl, slots2 rfl rfl⟩, ?_⟩; clear hK K'
  replace y0 := Ext.trans y0 x5
  replace z3 := z3.ext x5
  intro a' v6 h yv6
  obtain ⟨s16, s26, rfl⟩ := away2 h
  rintro k7 k8 ⟨k7a, k7b, k7c⟩ ⟨k8a, k8b, k8c⟩ k7ne hS'
  replace y0 := Ext.trans y0 yv6
  replace z3 := z3.ext yv6
  replace z5 := z5.ext yv6
  simp [Act.put] at k7b; subst k7b; replace k7a : V1.heap.size ≤ k7 := k7a
  simp [Act.put] at k8b; subst k8b; replace k8a : V1.heap.size ≤ k8 := k8a
  clear b2_d0 b2_d1 b3_d0 b3_d1
  have o7 := b2.kind.lt
  have o8 := b3.kind.lt
  have o9 := b4.kind.lt
  have o10 := b5.kind.lt
  have o11 := xw.size
  replace b2 := b2.ext y0
  replace b3 := b3.ext y0
  replace b4 := b4.ext y0
  replace b5 := b5.ext y0
  replace xw := Ext.trans xw y0
  have b7 : Box2 v6 k7 (.bool false) (.slice none 0 0) 37 := k7c
  clear k7c
  have b8 : Box2 v6 k8 (.bool false) (.slice none 0 0) 37 := k8c
  clear k8c
  have hT : Ext V1 v6 := hS'
  have b7_c0 := b7.c0
  have b7_c1 := b7.c1
  have b7_f0 := b7.f0
  have b7_f1 := b7.f1
  refine wpOp_of rfl fun K' hK => ?_
  go_simp
  clear b7_c0 b7_c1 b7_f0 b7_f1
  replace hT := Ext.set hT (k := k7) (o := 0) (u := .bool n3) k7a
  replace hT := Ext.set hT (k := k7) (o := 1) (u := .slice a3 l3 c3) k7a
  refine hK _ _ ⟨hT, ?_⟩
  clear hK K'
  have b2N := ((b2).other (b := k7) (by omega) 0 (.bool n3)).other (b := k7) (by omega) 1 (.slice a3 l3 c3)
  have b3N := ((b3).other (b := k7) (by omega) 0 (.bool n3)).other (b := k7) (by omega) 1 (.slice a3 l3 c3)
  have b4N := ((b4).other (b := k7) (by omega) 0 (.bool n3)).other (b := k7) (by omega) 1 (.slice a3 l3 c3)
  have b5N := ((b5).other (b := k7) (by omega) 0 (.bool n3)).other (b := k7) (by omega) 1 (.slice a3 l3 c3)
  have b7N := (b7).set (.bool n3) (.slice a3 l3 c3)
  have b8N := ((b8).other (b := k7) (by omega) 0 (.bool n3)).other (b := k7) (by omega) 1 (.slice a3 l3 c3)
  have z3N := (z3).set2 (b7).kind (by decide) (.bool n3) (.slice a3 l3 c3)
  have z5N := (z5).set2 (b7).kind (by decide) (.bool n3) (.slice a3 l3 c3)
  replace xw := Ext.set (Ext.set (xw) (k := k7) (o := 0) (u := .bool n3) (by omega)) (k := k7) (o := 1) (u := .slice a3 l3 c3) (by omega)
  replace b2 := b2N; clear b2N
  replace b3 := b3N; clear b3N
  replace b4 := b4N; clear b4N
  replace b5 := b5N; clear b5N
  replace b7 := b7N; clear b7N
  replace b8 := b8N; clear b8N
  replace z3 := z3N; clear z3N
  replace z5 := z5N; clear z5N
  have b8_c0 := b8.c0
  have b8_c1 := b8.c1
  have b8_f0 := b8.f0
  have b8_f1 := b8.f1
  refine wpOp_of rfl fun K' hK => ?_
  go_simp
  clear b8_c0 b8_c1 b8_f0 b8_f1
  replace hT := Ext.set hT (k := k8) (o := 0) (u := .bool n5) k8a
  replace hT := Ext.set hT (k := k8) (o := 1) (u := .slice a5 l5 c5) k8a
  refine hK _ _ ⟨hT, ?_⟩
  clear hK K'
  have b2N := ((b2).other (b := k8) (by omega) 0 (.bool n5)).other (b := k8) (by omega) 1 (.slice a5 l5 c5)
  have b3N := ((b3).other (b := k8) (by omega) 0 (.bool n5)).other (b := k8) (by omega) 1 (.slice a5 l5 c5)
  have b4N := ((b4).other (b := k8) (by omega) 0 (.bool n5)).other (b := k8) (by omega) 1 (.slice a5 l5 c5)
  have b5N := ((b5).other (b := k8) (by omega) 0 (.bool n5)).other (b := k8) (by omega) 1 (.slice a5 l5 c5)
  have b7N := ((b7).other (b := k8) (by omega) 0 (.bool n5)).other (b := k8) (by omega) 1 (.slice a5 l5 c5)
  have b8N := (b8).set (.bool n5) (.slice a5 l5 c5)
  have z3N := (z3).set2 (b8).kind (by decide) (.bool n5) (.slice a5 l5 c5)
  have z5N := (z5).set2 (b8).kind (by decide) (.bool n5) (.slice a5 l5 c5)
  replace xw := Ext.set (Ext.set (xw) (k := k8) (o := 0) (u := .bool n5) (by omega)) (k := k8) (o := 1) (u := .slice a5 l5 c5) (by omega)
  replace b2 := b2N; clear b2N
  replace b3 := b3N; clear b3N
  replace b4 := b4N; clear b4N
  replace b5 := b5N; clear b5N
  replace b7 := b7N; clear b7N
  replace b8 := b8N; clear b8N
  replace z3 := z3N; clear z3N
  replace z5 := z5N; clear z5N
  refine NoPanic.normal ?_
  clear hT hS' y0 hHeld
  go_upto_region 2 with fail
  refine wp_name ?_
  intro V12 hV
  rw [← hV] at b2 b3 b4 b5 b7 b8 z3 z5 xw
  clear hV
  have b8_c0 := b8.c0
  have b8_c1 := b8.c1
  go_wp2_with fail
  refine (HSgn.out _ _ _ _ d _ z5 (B5.fit (by omega))).mono ?_
  rintro e w13 ⟨rfl, x13⟩
  replace x13 : Ext _ w13 := x13
  clear b8_c0 b8_c1
  replace b2 := b2.ext x13
  replace b3 := b3.ext x13
  replace b4 := b4.ext x13
  replace b5 := b5.ext x13
  replace b7 := b7.ext x13
  replace b8 := b8.ext x13
  replace z3 := z3.ext x13
  replace z5 := z5.ext x13
  replace xw := Ext.trans xw x13
  go_upto_region 3 with fail
  have b4_c0 := b4.c0
  have b4_c1 := b4.c1
  have b4_f0 := b4.f0
  have b4_f1 := b4.f1
  have b5_c0 := b5.c0
  have b5_c1 := b5.c1
  have b5_f0 := b5.f0
  have b5_f1 := b5.f1
  have xr := Ext.set (Ext.set (Ext.set (Ext.set (xw) (k := w.heap.size + 1 + 1) (o := 0) (u := .int .i64 0) (by omega)) (k := w.heap.size + 1 + 1) (o := 1) (u := .int .u64 0) (by omega)) (k := w.heap.size + 1 + 1 + 1) (o := 0) (u := .int .i64 0) (by omega)) (k := w.heap.size + 1 + 1 + 1) (o := 1) (u := .int .u64 0) (by omega)
  go_wp2_with fail
  refine bodyPost_ret (v := .tuple #[.agg #[.int .i64 0, .int .u64 0], .agg #[.int .i64 0, .int .u64 0], .int .i64 3]) (by simp [results, Try.results66, go_sem, b4_c0, b4_c1, b5_c0, b5_c1]) rfl (by rw [H0.out]; exact retFr_zero xr)
set_option maxRecDepth 100000 in
set_option maxHeartbeats 3200000 in
theorem zfrac_yes (n d : Int) (w : World) (hn : W128 n) (hd : W128 d) (h0 : d ≠ 0) (hP : W128 (frP n d)) (hQ : W128 (frQ n d)) :
    Calls Try.prog 66 #[.agg #[.int .i64 (hi n), .int .u64 (lo n)], .agg #[.int .i64 (hi d), .int .u64 (lo d)]] w (RetFr w n d) := by
  have HOfw := Lib.hid ofw
  have HSgn := Lib.hid sign_z
  have HTold := Lib.hid told_any
  have HLow := Lib.hid zlowest
  have H0 := Lib.hid h0
  have g0 : (cmpI d 0 == 0) = false := cmp_no h0
  obtain ⟨t1, e3⟩ : ∃ r, thi (frQ n d) = r := ⟨_, rfl⟩
  obtain ⟨t2, e4⟩ : ∃ r, tlo (frQ n d) = r := ⟨_, rfl⟩
  obtain ⟨t3, e5⟩ : ∃ r, ter (frQ n d) = r := ⟨_, rfl⟩
  have HT1 := Lib.hid e3
  have HT2 := Lib.hid e4
  have HT3 := Lib.hid e5
  clear e3 e4 e5
  clear h0
  go_enter Try.func66, Try.ntmps66
  go_upto_region 1 with fail
  have xw := Ext.refl w
  refine wp_name ?_
  intro V1 hV
  replace xw : Ext w V1 := by rw [hV]; exact Ext.alloc (Ext.alloc (Ext.alloc (Ext.alloc (xw))))
  have b2 : Box2 V1 w.heap.size (.int .i64 (hi n)) (.int .u64 (lo n)) 26 := by rw [hV]; exact (((Box2.new rfl).alloc _).alloc _).alloc _
  have b3 : Box2 V1 (w.heap.size + 1) (.int .i64 (hi d)) (.int .u64 (lo d)) 26 := by rw [hV]; exact ((Box2.new (by simp)).alloc _).alloc _
  have b4 : Box2 V1 (w.heap.size + 1 + 1) (.int .i64 0) (.int .u64 0) 26 := by rw [hV]; exact (Box2.new (by simp)).alloc _
  have b5 : Box2 V1 (w.heap.size + 1 + 1 + 1) (.int .i64 0) (.int .u64 0) 26 := by rw [hV]; exact Box2.new (by simp)
  clear hV
  refine wp_region_noPanic ?_
  refine wp_region_held_drew (S := fun w' => Ext V1 w') (by kernel_rfl) (Ext.refl V1).drew (fun hHeld => ?_)
  have b2_d0 := fun w' (h : Ext V1 w') => (b2.ext h).c0
  have b2_d1 := fun w' (h : Ext V1 w') => (b2.ext h).c1
  have b3_d0 := fun w' (h : Ext V1 w') => (b3.ext h).c0
  have b3_d1 := fun w' (h : Ext V1 w') => (b3.ext h).c1
  refine wpAnyH_take (i := 0) (v := .agg #[.int .i64 (hi n), .int .u64 (lo n)]) rfl (by kernel_rfl) (by kernel_rfl) (by kernel_rfl) (fun _ _ _ h => h) (Or.inl ⟨by kernel_rfl, fun w' h => (by go_simp)⟩) hHeld ?_
  refine wpAnyH_take (i := 2) (v := .agg #[.int .i64 (hi d), .int .u64 (lo d)]) rfl (by kernel_rfl) (by kernel_rfl) (by kernel_rfl) (fun _ _ _ h => h) (Or.inl ⟨by kernel_rfl, fun w' h => (by go_simp)⟩) hHeld ?_
  refine region2 (N := 8) (f0 := [0, 2]) (l := [(1, false), (3, false)]) (T := [6, 7]) (iA := 4) (dA := 7) (iB := 5) (dB := 8) (oA := .cells #[.bool false, .slice none 0 0] 37) (oB := .cells #[.bool false, .slice none 0 0] 37) (fun _ _ _ _ _ h => h) (by kernel_rfl) (by kernel_rfl) rfl (by kernel_rfl) (by kernel_rfl)
    (fun K a w h => wpOp_of rfl fun K' hK => (by go_simp; exact hK _ _ h)) (fun K a w h => wpOp_of rfl fun K' hK => (by go_simp; exact hK _ _ h)) (by decide) (by simp [Act.put]) (by simp [Act.put]) (fun _ _ h x => h.trans x) hHeld ?_
  have y0 : Ext V1 V1.drew := (Ext.refl V1).drew
  intro a1 v2 h1 yv2
  obtain ⟨s12, s22, rfl⟩ := away2 h1; refine wpOp_of rfl fun K' hK => ?_; go_simp
  replace y0 := Ext.trans y0 yv2
  refine (HOfw.out n _ hn).mono ?_
  rintro e w3 ⟨n3, a3, l3, c3, rfl, z3, x3⟩
  replace x3 : Ext _ w3 := x3
  have B3 : Bits 128 (n) := hn.bits
  refine hK _ _ ⟨⟨x3, rfl, slots2 rfl rfl⟩, ?_⟩; clear hK K'
  replace y0 := Ext.trans y0 x3
  intro a1 v4 h1 yv4
  obtain ⟨s14, s24, rfl⟩ := away2 h1; refine wpOp_of rfl fun K' hK => ?_; go_simp
  replace y0 := Ext.trans y0 yv4
  replace z3 := z3.ext yv4
  refine (HOfw.out d _ hd).mono ?_
  rintro e w5 ⟨n5, a5, l5, c5, rfl, z5, x5⟩
  replace x5 : Ext _ w5 := x5
  have B5 : Bits 128 (d) := hd.bits
  refine hK _ _ ⟨⟨x5, rfl, slots2 rfl rfl⟩, ?_⟩; clear hK K'
  replace y0 := Ext.trans y0 x5
  replace z3 := z3.ext x5
  intro a' v6 h yv6
  obtain ⟨s16, s26, rfl⟩ := away2 h
  rintro k7 k8 ⟨k7a, k7b, k7c⟩ ⟨k8a, k8b, k8c⟩ k7ne hS'
  replace y0 := Ext.trans y0 yv6
  replace z3 := z3.ext yv6
  replace z5 := z5.ext yv6
  simp [Act.put] at k7b; subst k7b; replace k7a : V1.heap.size ≤ k7 := k7a
  simp [Act.put] at k8b; subst k8b; replace k8a : V1.heap.size ≤ k8 := k8a
  clear b2_d0 b2_d1 b3_d0 b3_d1
  have o7 := b2.kind.lt
  have o8 := b3.kind.lt
  have o9 := b4.kind.lt
  have o10 := b5.kind.lt
  have o11 := xw.size
  replace b2 := b2.ext y0
  replace b3 := b3.ext y0
  replace b4 := b4.ext y0
  replace b5 := b5.ext y0
  replace xw := Ext.trans xw y0
  have b7 : Box2 v6 k7 (.bool false) (.slice none 0 0) 37 := k7c
  clear k7c
  have b8 : Box2 v6 k8 (.bool false) (.slice none 0 0) 37 := k8c
  clear k8c
  have hT : Ext V1 v6 := hS'
  have b7_c0 := b7.c0
  have b7_c1 := b7.c1
  have b7_f0 := b7.f0
  have b7_f1 := b7.f1
  refine wpOp_of rfl fun K' hK => ?_
  go_simp
  clear b7_c0 b7_c1 b7_f0 b7_f1
  replace hT := Ext.set hT (k := k7) (o := 0) (u := .bool n3) k7a
  replace hT := Ext.set hT (k := k7) (o := 1) (u := .slice a3 l3 c3) k7a
  refine hK _ _ ⟨hT, ?_⟩
  clear hK K'
  have b2N := ((b2).other (b := k7) (by omega) 0 (.bool n3)).other (b := k7) (by omega) 1 (.slice a3 l3 c3)
  have b3N := ((b3).other (b := k7) (by omega) 0 (.bool n3)).other (b := k7) (by omega) 1 (.slice a3 l3 c3)
  have b4N := ((b4).other (b := k7) (by omega) 0 (.bool n3)).other (b := k7) (by omega) 1 (.slice a3 l3 c3)
  have b5N := ((b5).other (b := k7) (by omega) 0 (.bool n3)).other (b := k7) (by omega) 1 (.slice a3 l3 c3)
  have b7N := (b7).set (.bool n3) (.slice a3 l3 c3)
  have b8N := ((b8).other (b := k7) (by omega) 0 (.bool n3)).other (b := k7) (by omega) 1 (.slice a3 l3 c3)
  have z3N := (z3).set2 (b7).kind (by decide) (.bool n3) (.slice a3 l3 c3)
  have z5N := (z5).set2 (b7).kind (by decide) (.bool n3) (.slice a3 l3 c3)
  replace xw := Ext.set (Ext.set (xw) (k := k7) (o := 0) (u := .bool n3) (by omega)) (k := k7) (o := 1) (u := .slice a3 l3 c3) (by omega)
  replace b2 := b2N; clear b2N
  replace b3 := b3N; clear b3N
  replace b4 := b4N; clear b4N
  replace b5 := b5N; clear b5N
  replace b7 := b7N; clear b7N
  replace b8 := b8N; clear b8N
  replace z3 := z3N; clear z3N
  replace z5 := z5N; clear z5N
  have b8_c0 := b8.c0
  have b8_c1 := b8.c1
  have b8_f0 := b8.f0
  have b8_f1 := b8.f1
  refine wpOp_of rfl fun K' hK => ?_
  go_simp
  clear b8_c0 b8_c1 b8_f0 b8_f1
  replace hT := Ext.set hT (k := k8) (o := 0) (u := .bool n5) k8a
  replace hT := Ext.set hT (k := k8) (o := 1) (u := .slice a5 l5 c5) k8a
  refine hK _ _ ⟨hT, ?_⟩
  clear hK K'
  have b2N := ((b2).other (b := k8) (by omega) 0 (.bool n5)).other (b := k8) (by omega) 1 (.slice a5 l5 c5)
  have b3N := ((b3).other (b := k8) (by omega) 0 (.bool n5)).other (b := k8) (by omega) 1 (.slice a5 l5 c5)
  have b4N := ((b4).other (b := k8) (by omega) 0 (.bool n5)).other (b := k8) (by omega) 1 (.slice a5 l5 c5)
  have b5N := ((b5).other (b := k8) (by omega) 0 (.bool n5)).other (b := k8) (by omega) 1 (.slice a5 l5 c5)
  have b7N := ((b7).other (b := k8) (by omega) 0 (.bool n5)).other (b := k8) (by omega) 1 (.slice a5 l5 c5)
  have b8N := (b8).set (.bool n5) (.slice a5 l5 c5)
  have z3N := (z3).set2 (b8).kind (by decide) (.bool n5) (.slice a5 l5 c5)
  have z5N := (z5).set2 (b8).kind (by decide) (.bool n5) (.slice a5 l5 c5)
  replace xw := Ext.set (Ext.set (xw) (k := k8) (o := 0) (u := .bool n5) (by omega)) (k := k8) (o := 1) (u := .slice a5 l5 c5) (by omega)
  replace b2 := b2N; clear b2N
  replace b3 := b3N; clear b3N
  replace b4 := b4N; clear b4N
  replace b5 := b5N; clear b5N
  replace b7 := b7N; clear b7N
  replace b8 := b8N; clear b8N
  replace z3 := z3N; clear z3N
  replace z5 := z5N; clear z5N
  refine NoPanic.normal ?_
  clear hT hS' y0 hHeld
  go_upto_region 2 with fail
  refine wp_name ?_
  intro V12 hV
  rw [← hV] at b2 b3 b4 b5 b7 b8 z3 z5 xw
  clear hV
  have b8_c0 := b8.c0
  have b8_c1 := b8.c1
  go_wp2_with fail
  refine (HSgn.out _ _ _ _ d _ z5 (B5.fit (by omega))).mono ?_
  rintro e w13 ⟨rfl, x13⟩
  replace x13 : Ext _ w13 := x13
  clear b8_c0 b8_c1
  replace b2 := b2.ext x13
  replace b3 := b3.ext x13
  replace b4 := b4.ext x13
  replace b5 := b5.ext x13
  replace b7 := b7.ext x13
  replace b8 := b8.ext x13
  replace z3 := z3.ext x13
  replace z5 := z5.ext x13
  replace xw := Ext.trans xw x13
  go_upto_region 4 with fail
  have b7_c0 := b7.c0
  have b7_c1 := b7.c1
  have b8_c0 := b8.c0
  have b8_c1 := b8.c1
  go_wp2_with fail
  refine (HLow.out 128 (by omega) _ _ _ _ _ _ _ _ n d _ z3 z5 B3 B5 H0.out).mono ?_
  rintro e w14 ⟨n14q, a14q, l14q, c14q, n14r, a14r, l14r, c14r, rfl, z14q, z14r, x14⟩
  replace x14 : Ext _ w14 := x14
  have B14q : Bits 128 (frP n d) := frP_bits B3
  have B14r : Bits 128 (frQ n d) := frQ_bits B5
  clear b7_c0 b7_c1 b8_c0 b8_c1
  replace b2 := b2.ext x14
  replace b3 := b3.ext x14
  replace b4 := b4.ext x14
  replace b5 := b5.ext x14
  replace b7 := b7.ext x14
  replace b8 := b8.ext x14
  replace z3 := z3.ext x14
  replace z5 := z5.ext x14
  replace xw := Ext.trans xw x14
  go_upto_region 5 with fail
  have o16 := b7.kind.lt
  have o17 := b8.kind.lt
  have o18 := xw.size
  refine wp_name ?_
  intro V15 hV
  have b2N : Box2 V15 w.heap.size (.int .i64 (hi n)) (.int .u64 (lo n)) 26 := by rw [hV]; exact ((b2).alloc _).alloc _
  have b3N : Box2 V15 (w.heap.size + 1) (.int .i64 (hi d)) (.int .u64 (lo d)) 26 := by rw [hV]; exact ((b3).alloc _).alloc _
  have b4N : Box2 V15 (w.heap.size + 1 + 1) (.int .i64 0) (.int .u64 0) 26 := by rw [hV]; exact ((b4).alloc _).alloc _
  have b5N : Box2 V15 (w.heap.size + 1 + 1 + 1) (.int .i64 0) (.int .u64 0) 26 := by rw [hV]; exact ((b5).alloc _).alloc _
  have b7N : Box2 V15 k7 (.bool n3) (.slice a3 l3 c3) 37 := by rw [hV]; exact ((b7).alloc _).alloc _
  have b8N : Box2 V15 k8 (.bool n5) (.slice a5 l5 c5) 37 := by rw [hV]; exact ((b8).alloc _).alloc _
  have z3N : IsZ V15 n3 (.slice a3 l3 c3) n := by rw [hV]; exact ((z3).alloc _).alloc _
  have z5N : IsZ V15 n5 (.slice a5 l5 c5) d := by rw [hV]; exact ((z5).alloc _).alloc _
  have z14qN : IsZ V15 n14q (.slice a14q l14q c14q) (frP n d) := by rw [hV]; exact ((z14q).alloc _).alloc _
  have z14rN : IsZ V15 n14r (.slice a14r l14r c14r) (frQ n d) := by rw [hV]; exact ((z14r).alloc _).alloc _
  replace xw : Ext w V15 := by rw [hV]; exact Ext.alloc (Ext.alloc (xw))
  replace b2 := b2N; clear b2N
  replace b3 := b3N; clear b3N
  replace b4 := b4N; clear b4N
  replace b5 := b5N; clear b5N
  replace b7 := b7N; clear b7N
  replace b8 := b8N; clear b8N
  replace z3 := z3N; clear z3N
  replace z5 := z5N; clear z5N
  replace z14q := z14qN; clear z14qN
  replace z14r := z14rN; clear z14rN
  have b9 : Box2 V15 w14.heap.size (.bool n14q) (.slice a14q l14q c14q) 37 := by rw [hV]; exact (Box2.new rfl).alloc _
  have b10 : Box2 V15 (w14.heap.size + 1) (.bool n14r) (.slice a14r l14r c14r) 37 := by rw [hV]; exact Box2.new (by simp)
  clear hV
  have b9_c0 := b9.c0
  have b9_c1 := b9.c1
  go_wp2_with fail
  refine (HTold.out _ _ _ _ (frP n d) _ z14q (B14q.mono (by omega))).mono ?_
  rintro e w19 ⟨rfl, x19⟩
  rw [thi_yes hP, tlo_yes hP, ter_yes hP]
  clear b9_c0 b9_c1
  replace b2 := b2.ext x19
  replace b3 := b3.ext x19
  replace b4 := b4.ext x19
  replace b5 := b5.ext x19
  replace b7 := b7.ext x19
  replace b8 := b8.ext x19
  replace b9 := b9.ext x19
  replace b10 := b10.ext x19
  replace z3 := z3.ext x19
  replace z5 := z5.ext x19
  replace z14q := z14q.ext x19
  replace z14r := z14r.ext x19
  replace xw := Ext.trans xw x19
  go_upto_region 6 with fail
  have o21 := b9.kind.lt
  have o22 := b10.kind.lt
  have o23 := xw.size
  refine wp_name ?_
  intro V20 hV
  have b2N : Box2 V20 w.heap.size (.int .i64 (hi n)) (.int .u64 (lo n)) 26 := by rw [hV]; exact (b2).alloc _
  have b3N : Box2 V20 (w.heap.size + 1) (.int .i64 (hi d)) (.int .u64 (lo d)) 26 := by rw [hV]; exact (b3).alloc _
  have b4N : Box2 V20 (w.heap.size + 1 + 1) (.int .i64 0) (.int .u64 0) 26 := by rw [hV]; exact (b4).alloc _
  have b5N : Box2 V20 (w.heap.size + 1 + 1 + 1) (.int .i64 0) (.int .u64 0) 26 := by rw [hV]; exact (b5).alloc _
  have b7N : Box2 V20 k7 (.bool n3) (.slice a3 l3 c3) 37 := by rw [hV]; exact (b7).alloc _
  have b8N : Box2 V20 k8 (.bool n5) (.slice a5 l5 c5) 37 := by rw [hV]; exact (b8).alloc _
  have b9N : Box2 V20 w14.heap.size (.bool n14q) (.slice a14q l14q c14q) 37 := by rw [hV]; exact (b9).alloc _
  have b10N : Box2 V20 (w14.heap.size + 1) (.bool n14r) (.slice a14r l14r c14r) 37 := by rw [hV]; exact (b10).alloc _
  have z3N : IsZ V20 n3 (.slice a3 l3 c3) n := by rw [hV]; exact (z3).alloc _
  have z5N : IsZ V20 n5 (.slice a5 l5 c5) d := by rw [hV]; exact (z5).alloc _
  have z14qN : IsZ V20 n14q (.slice a14q l14q c14q) (frP n d) := by rw [hV]; exact (z14q).alloc _
  have z14rN : IsZ V20 n14r (.slice a14r l14r c14r) (frQ n d) := by rw [hV]; exact (z14r).alloc _
  replace xw : Ext w V20 := by rw [hV]; exact Ext.alloc (xw)
  replace b2 := b2N; clear b2N
  replace b3 := b3N; clear b3N
  replace b4 := b4N; clear b4N
  replace b5 := b5N; clear b5N
  replace b7 := b7N; clear b7N
  replace b8 := b8N; clear b8N
  replace b9 := b9N; clear b9N
  replace b10 := b10N; clear b10N
  replace z3 := z3N; clear z3N
  replace z5 := z5N; clear z5N
  replace z14q := z14qN; clear z14qN
  replace z14r := z14rN; clear z14rN
  have b11 : Box2 V20 w19.heap.size (.int .i64 (hi (frP n d))) (.int .u64 (lo (frP n d))) 26 := by rw [hV]; exact Box2.new rfl
  clear hV
  have b10_c0 := b10.c0
  have b10_c1 := b10.c1
  go_wp2_with fail
  refine (HTold.out _ _ _ _ (frQ n d) _ z14r (B14r.mono (by omega))).mono ?_
  rintro e w24 ⟨rfl, x24⟩
  rw [thi_yes hQ, tlo_yes hQ, ter_yes hQ]
  clear b10_c0 b10_c1
  replace b2 := b2.ext x24
  replace b3 := b3.ext x24
  replace b4 := b4.ext x24
  replace b5 := b5.ext x24
  replace b7 := b7.ext x24
  replace b8 := b8.ext x24
  replace b9 := b9.ext x24
  replace b10 := b10.ext x24
  replace b11 := b11.ext x24
  replace z3 := z3.ext x24
  replace z5 := z5.ext x24
  replace z14q := z14q.ext x24
  replace z14r := z14r.ext x24
  replace xw := Ext.trans xw x24
  go_upto_region 7 with fail
  have o26 := b11.kind.lt
  have o27 := xw.size
  refine wp_name ?_
  intro V25 hV
  have b2N : Box2 V25 w.heap.size (.int .i64 (hi n)) (.int .u64 (lo n)) 26 := by rw [hV]; exact (b2).alloc _
  have b3N : Box2 V25 (w.heap.size + 1) (.int .i64 (hi d)) (.int .u64 (lo d)) 26 := by rw [hV]; exact (b3).alloc _
  have b4N : Box2 V25 (w.heap.size + 1 + 1) (.int .i64 0) (.int .u64 0) 26 := by rw [hV]; exact (b4).alloc _
  have b5N : Box2 V25 (w.heap.size + 1 + 1 + 1) (.int .i64 0) (.int .u64 0) 26 := by rw [hV]; exact (b5).alloc _
  have b7N : Box2 V25 k7 (.bool n3) (.slice a3 l3 c3) 37 := by rw [hV]; exact (b7).alloc _
  have b8N : Box2 V25 k8 (.bool n5) (.slice a5 l5 c5) 37 := by rw [hV]; exact (b8).alloc _
  have b9N : Box2 V25 w14.heap.size (.bool n14q) (.slice a14q l14q c14q) 37 := by rw [hV]; exact (b9).alloc _
  have b10N : Box2 V25 (w14.heap.size + 1) (.bool n14r) (.slice a14r l14r c14r) 37 := by rw [hV]; exact (b10).alloc _
  have b11N : Box2 V25 w19.heap.size (.int .i64 (hi (frP n d))) (.int .u64 (lo (frP n d))) 26 := by rw [hV]; exact (b11).alloc _
  have z3N : IsZ V25 n3 (.slice a3 l3 c3) n := by rw [hV]; exact (z3).alloc _
  have z5N : IsZ V25 n5 (.slice a5 l5 c5) d := by rw [hV]; exact (z5).alloc _
  have z14qN : IsZ V25 n14q (.slice a14q l14q c14q) (frP n d) := by rw [hV]; exact (z14q).alloc _
  have z14rN : IsZ V25 n14r (.slice a14r l14r c14r) (frQ n d) := by rw [hV]; exact (z14r).alloc _
  replace xw : Ext w V25 := by rw [hV]; exact Ext.alloc (xw)
  replace b2 := b2N; clear b2N
  replace b3 := b3N; clear b3N
  replace b4 := b4N; clear b4N
  replace b5 := b5N; clear b5N
  replace b7 := b7N; clear b7N
  replace b8 := b8N; clear b8N
  replace b9 := b9N; clear b9N
  replace b10 := b10N; clear b10N
  replace b11 := b11N; clear b11N
  replace z3 := z3N; clear z3N
  replace z5 := z5N; clear z5N
  replace z14q := z14qN; clear z14qN
  replace z14r := z14rN; clear z14rN
  have b13 : Box2 V25 w24.heap.size (.int .i64 (hi (frQ n d))) (.int .u64 (lo (frQ n d))) 26 := by rw [hV]; exact Box2.new rfl
  clear hV
  go_upto_region 9 with fail
  have b11_c0 := b11.c0
  have b11_c1 := b11.c1
  have b13_c0 := b13.c0
  have b13_c1 := b13.c1
  have b4_c0 := b4.c0
  have b4_c1 := b4.c1
  have b4_f0 := b4.f0
  have b4_f1 := b4.f1
  have b5_c0 := b5.c0
  have b5_c1 := b5.c1
  have b5_f0 := b5.f0
  have b5_f1 := b5.f1
  have ne4_5 : ¬ w.heap.size + 1 + 1 = w.heap.size + 1 + 1 + 1 := by omega
  have ne5_4 : ¬ w.heap.size + 1 + 1 + 1 = w.heap.size + 1 + 1 := by omega
  have ne4_11 : ¬ w.heap.size + 1 + 1 = w19.heap.size := by omega
  have ne11_4 : ¬ w19.heap.size = w.heap.size + 1 + 1 := by omega
  have ne4_13 : ¬ w.heap.size + 1 + 1 = w24.heap.size := by omega
  have ne13_4 : ¬ w24.heap.size = w.heap.size + 1 + 1 := by omega
  have ne5_11 : ¬ w.heap.size + 1 + 1 + 1 = w19.heap.size := by omega
  have ne11_5 : ¬ w19.heap.size = w.heap.size + 1 + 1 + 1 := by omega
  have ne5_13 : ¬ w.heap.size + 1 + 1 + 1 = w24.heap.size := by omega
  have ne13_5 : ¬ w24.heap.size = w.heap.size + 1 + 1 + 1 := by omega
  go_region
  clear ne4_5 ne5_4 ne4_11 ne11_4 ne4_13 ne13_4 ne5_11 ne11_5 ne5_13 ne13_5
  have xr := Ext.drew (Ext.set (Ext.set (Ext.set (Ext.set (xw) (k := w.heap.size + 1 + 1) (o := 0) (u := .int .i64 (hi (frP n d))) (by omega)) (k := w.heap.size + 1 + 1) (o := 1) (u := .int .u64 (lo (frP n d))) (by omega)) (k := w.heap.size + 1 + 1 + 1) (o := 0) (u := .int .i64 (hi (frQ n d))) (by omega)) (k := w.heap.size + 1 + 1 + 1) (o := 1) (u := .int .u64 (lo (frQ n d))) (by omega))
  go_wp2_with fail
  refine bodyPost_ret (v := .tuple #[.agg #[.int .i64 (hi (frP n d)), .int .u64 (lo (frP n d))], .agg #[.int .i64 (hi (frQ n d)), .int .u64 (lo (frQ n d))], .int .i64 0]) (by simp [results, Try.results66, go_sem, b4_c0, b4_c1, b5_c0, b5_c1]) rfl (retFr_yes ⟨H0.out, hP, hQ⟩ xr)
set_option maxRecDepth 100000 in
set_option maxHeartbeats 3200000 in
theorem zfrac_no1 (n d : Int) (w : World) (hn : W128 n) (hd : W128 d) (h0 : d ≠ 0) (hP : ¬ W128 (frP n d)) :
    Calls Try.prog 66 #[.agg #[.int .i64 (hi n), .int .u64 (lo n)], .agg #[.int .i64 (hi d), .int .u64 (lo d)]] w (RetFr w n d) := by
  have HOfw := Lib.hid ofw
  have HSgn := Lib.hid sign_z
  have HTold := Lib.hid told_any
  have HLow := Lib.hid zlowest
  have H0 := Lib.hid h0
  have g0 : (cmpI d 0 == 0) = false := cmp_no h0
  obtain ⟨t1, e3⟩ : ∃ r, thi (frQ n d) = r := ⟨_, rfl⟩
  obtain ⟨t2, e4⟩ : ∃ r, tlo (frQ n d) = r := ⟨_, rfl⟩
  obtain ⟨t3, e5⟩ : ∃ r, ter (frQ n d) = r := ⟨_, rfl⟩
  have HT1 := Lib.hid e3
  have HT2 := Lib.hid e4
  have HT3 := Lib.hid e5
  clear e3 e4 e5
  clear h0
  go_enter Try.func66, Try.ntmps66
  go_upto_region 1 with fail
  have xw := Ext.refl w
  refine wp_name ?_
  intro V1 hV
  replace xw : Ext w V1 := by rw [hV]; exact Ext.alloc (Ext.alloc (Ext.alloc (Ext.alloc (xw))))
  have b2 : Box2 V1 w.heap.size (.int .i64 (hi n)) (.int .u64 (lo n)) 26 := by rw [hV]; exact (((Box2.new rfl).alloc _).alloc _).alloc _
  have b3 : Box2 V1 (w.heap.size + 1) (.int .i64 (hi d)) (.int .u64 (lo d)) 26 := by rw [hV]; exact ((Box2.new (by simp)).alloc _).alloc _
  have b4 : Box2 V1 (w.heap.size + 1 + 1) (.int .i64 0) (.int .u64 0) 26 := by rw [hV]; exact (Box2.new (by simp)).alloc _
  have b5 : Box2 V1 (w.heap.size + 1 + 1 + 1) (.int .i64 0) (.int .u64 0) 26 := by rw [hV]; exact Box2.new (by simp)
  clear hV
  refine wp_region_noPanic ?_
  refine wp_region_held_drew (S := fun w' => Ext V1 w') (by kernel_rfl) (Ext.refl V1).drew (fun hHeld => ?_)
  have b2_d0 := fun w' (h : Ext V1 w') => (b2.ext h).c0
  have b2_d1 := fun w' (h : Ext V1 w') => (b2.ext h).c1
  have b3_d0 := fun w' (h : Ext V1 w') => (b3.ext h).c0
  have b3_d1 := fun w' (h : Ext V1 w') => (b3.ext h).c1
  refine wpAnyH_take (i := 0) (v := .agg #[.int .i64 (hi n), .int .u64 (lo n)]) rfl (by kernel_rfl) (by kernel_rfl) (by kernel_rfl) (fun _ _ _ h => h) (Or.inl ⟨by kernel_rfl, fun w' h => (by go_simp)⟩) hHeld ?_
  refine wpAnyH_take (i := 2) (v := .agg #[.int .i64 (hi d), .int .u64 (lo d)]) rfl (by kernel_rfl) (by kernel_rfl) (by kernel_rfl) (fun _ _ _ h => h) (Or.inl ⟨by kernel_rfl, fun w' h => (by go_simp)⟩) hHeld ?_
  refine region2 (N := 8) (f0 := [0, 2]) (l := [(1, false), (3, false)]) (T := [6, 7]) (iA := 4) (dA := 7) (iB := 5) (dB := 8) (oA := .cells #[.bool false, .slice none 0 0] 37) (oB := .cells #[.bool false, .slice none 0 0] 37) (fun _ _ _ _ _ h => h) (by kernel_rfl) (by kernel_rfl) rfl (by kernel_rfl) (by kernel_rfl)
    (fun K a w h => wpOp_of rfl fun K' hK => (by go_simp; exact hK _ _ h)) (fun K a w h => wpOp_of rfl fun K' hK => (by go_simp; exact hK _ _ h)) (by decide) (by simp [Act.put]) (by simp [Act.put]) (fun _ _ h x => h.trans x) hHeld ?_
  have y0 : Ext V1 V1.drew := (Ext.refl V1).drew
  intro a1 v2 h1 yv2
  obtain ⟨s12, s22, rfl⟩ := away2 h1; refine wpOp_of rfl fun K' hK => ?_; go_simp
  replace y0 := Ext.trans y0 yv2
  refine (HOfw.out n _ hn).mono ?_
  rintro e w3 ⟨n3, a3, l3, c3, rfl, z3, x3⟩
  replace x3 : Ext _ w3 := x3
  have B3 : Bits 128 (n) := hn.bits
  refine hK _ _ ⟨⟨x3, rfl, slots2 rfl rfl⟩, ?_⟩; clear hK K'
  replace y0 := Ext.trans y0 x3
  intro a1 v4 h1 yv4
  obtain ⟨s14, s24, rfl⟩ := away2 h1; refine wpOp_of rfl fun K' hK => ?_; go_simp
  replace y0 := Ext.trans y0 yv4
  replace z3 := z3.ext yv4
  refine (HOfw.out d _ hd).mono ?_
  rintro e w5 ⟨n5, a5, l5, c5, rfl, z5, x5⟩
  replace x5 : Ext _ w5 := x5
  have B5 : Bits 128 (d) := hd.bits
  refine hK _ _ ⟨⟨x5, rfl, slots2 rfl rfl⟩, ?_⟩; clear hK K'
  replace y0 := Ext.trans y0 x5
  replace z3 := z3.ext x5
  intro a' v6 h yv6
  obtain ⟨s16, s26, rfl⟩ := away2 h
  rintro k7 k8 ⟨k7a, k7b, k7c⟩ ⟨k8a, k8b, k8c⟩ k7ne hS'
  replace y0 := Ext.trans y0 yv6
  replace z3 := z3.ext yv6
  replace z5 := z5.ext yv6
  simp [Act.put] at k7b; subst k7b; replace k7a : V1.heap.size ≤ k7 := k7a
  simp [Act.put] at k8b; subst k8b; replace k8a : V1.heap.size ≤ k8 := k8a
  clear b2_d0 b2_d1 b3_d0 b3_d1
  have o7 := b2.kind.lt
  have o8 := b3.kind.lt
  have o9 := b4.kind.lt
  have o10 := b5.kind.lt
  have o11 := xw.size
  replace b2 := b2.ext y0
  replace b3 := b3.ext y0
  replace b4 := b4.ext y0
  replace b5 := b5.ext y0
  replace xw := Ext.trans xw y0
  have b7 : Box2 v6 k7 (.bool false) (.slice none 0 0) 37 := k7c
  clear k7c
  have b8 : Box2 v6 k8 (.bool false) (.slice none 0 0) 37 := k8c
  clear k8c
  have hT : Ext V1 v6 := hS'
  have b7_c0 := b7.c0
  have b7_c1 := b7.c1
  have b7_f0 := b7.f0
  have b7_f1 := b7.f1
  refine wpOp_of rfl fun K' hK => ?_
  go_simp
  clear b7_c0 b7_c1 b7_f0 b7_f1
  replace hT := Ext.set hT (k := k7) (o := 0) (u := .bool n3) k7a
  replace hT := Ext.set hT (k := k7) (o := 1) (u := .slice a3 l3 c3) k7a
  refine hK _ _ ⟨hT, ?_⟩
  clear hK K'
  have b2N := ((b2).other (b := k7) (by omega) 0 (.bool n3)).other (b := k7) (by omega) 1 (.slice a3 l3 c3)
  have b3N := ((b3).other (b := k7) (by omega) 0 (.bool n3)).other (b := k7) (by omega) 1 (.slice a3 l3 c3)
  have b4N := ((b4).other (b := k7) (by omega) 0 (.bool n3)).other (b := k7) (by omega) 1 (.slice a3 l3 c3)
  have b5N := ((b5).other (b := k7) (by omega) 0 (.bool n3)).other (b := k7) (by omega) 1 (.slice a3 l3 c3)
  have b7N := (b7).set (.bool n3) (.slice a3 l3 c3)
  have b8N := ((b8).other (b := k7) (by omega) 0 (.bool n3)).other (b := k7) (by omega) 1 (.slice a3 l3 c3)
  have z3N := (z3).set2 (b7).kind (by decide) (.bool n3) (.slice a3 l3 c3)
  have z5N := (z5).set2 (b7).kind (by decide) (.bool n3) (.slice a3 l3 c3)
  replace xw := Ext.set (Ext.set (xw) (k := k7) (o := 0) (u := .bool n3) (by omega)) (k := k7) (o := 1) (u := .slice a3 l3 c3) (by omega)
  replace b2 := b2N; clear b2N
  replace b3 := b3N; clear b3N
  replace b4 := b4N; clear b4N
  replace b5 := b5N; clear b5N
  replace b7 := b7N; clear b7N
  replace b8 := b8N; clear b8N
  replace z3 := z3N; clear z3N
  replace z5 := z5N; clear z5N
  have b8_c0 := b8.c0
  have b8_c1 := b8.c1
  have b8_f0 := b8.f0
  have b8_f1 := b8.f1
  refine wpOp_of rfl fun K' hK => ?_
  go_simp
  clear b8_c0 b8_c1 b8_f0 b8_f1
  replace hT := Ext.set hT (k := k8) (o := 0) (u := .bool n5) k8a
  replace hT := Ext.set hT (k := k8) (o := 1) (u := .slice a5 l5 c5) k8a
  refine hK _ _ ⟨hT, ?_⟩
  clear hK K'
  have b2N := ((b2).other (b := k8) (by omega) 0 (.bool n5)).other (b := k8) (by omega) 1 (.slice a5 l5 c5)
  have b3N := ((b3).other (b := k8) (by omega) 0 (.bool n5)).other (b := k8) (by omega) 1 (.slice a5 l5 c5)
  have b4N := ((b4).other (b := k8) (by omega) 0 (.bool n5)).other (b := k8) (by omega) 1 (.slice a5 l5 c5)
  have b5N := ((b5).other (b := k8) (by omega) 0 (.bool n5)).other (b := k8) (by omega) 1 (.slice a5 l5 c5)
  have b7N := ((b7).other (b := k8) (by omega) 0 (.bool n5)).other (b := k8) (by omega) 1 (.slice a5 l5 c5)
  have b8N := (b8).set (.bool n5) (.slice a5 l5 c5)
  have z3N := (z3).set2 (b8).kind (by decide) (.bool n5) (.slice a5 l5 c5)
  have z5N := (z5).set2 (b8).kind (by decide) (.bool n5) (.slice a5 l5 c5)
  replace xw := Ext.set (Ext.set (xw) (k := k8) (o := 0) (u := .bool n5) (by omega)) (k := k8) (o := 1) (u := .slice a5 l5 c5) (by omega)
  replace b2 := b2N; clear b2N
  replace b3 := b3N; clear b3N
  replace b4 := b4N; clear b4N
  replace b5 := b5N; clear b5N
  replace b7 := b7N; clear b7N
  replace b8 := b8N; clear b8N
  replace z3 := z3N; clear z3N
  replace z5 := z5N; clear z5N
  refine NoPanic.normal ?_
  clear hT hS' y0 hHeld
  go_upto_region 2 with fail
  refine wp_name ?_
  intro V12 hV
  rw [← hV] at b2 b3 b4 b5 b7 b8 z3 z5 xw
  clear hV
  have b8_c0 := b8.c0
  have b8_c1 := b8.c1
  go_wp2_with fail
  refine (HSgn.out _ _ _ _ d _ z5 (B5.fit (by omega))).mono ?_
  rintro e w13 ⟨rfl, x13⟩
  replace x13 : Ext _ w13 := x13
  clear b8_c0 b8_c1
  replace b2 := b2.ext x13
  replace b3 := b3.ext x13
  replace b4 := b4.ext x13
  replace b5 := b5.ext x13
  replace b7 := b7.ext x13
  replace b8 := b8.ext x13
  replace z3 := z3.ext x13
  replace z5 := z5.ext x13
  replace xw := Ext.trans xw x13
  go_upto_region 4 with fail
  have b7_c0 := b7.c0
  have b7_c1 := b7.c1
  have b8_c0 := b8.c0
  have b8_c1 := b8.c1
  go_wp2_with fail
  refine (HLow.out 128 (by omega) _ _ _ _ _ _ _ _ n d _ z3 z5 B3 B5 H0.out).mono ?_
  rintro e w14 ⟨n14q, a14q, l14q, c14q, n14r, a14r, l14r, c14r, rfl, z14q, z14r, x14⟩
  replace x14 : Ext _ w14 := x14
  have B14q : Bits 128 (frP n d) := frP_bits B3
  have B14r : Bits 128 (frQ n d) := frQ_bits B5
  clear b7_c0 b7_c1 b8_c0 b8_c1
  replace b2 := b2.ext x14
  replace b3 := b3.ext x14
  replace b4 := b4.ext x14
  replace b5 := b5.ext x14
  replace b7 := b7.ext x14
  replace b8 := b8.ext x14
  replace z3 := z3.ext x14
  replace z5 := z5.ext x14
  replace xw := Ext.trans xw x14
  go_upto_region 5 with fail
  have o16 := b7.kind.lt
  have o17 := b8.kind.lt
  have o18 := xw.size
  refine wp_name ?_
  intro V15 hV
  have b2N : Box2 V15 w.heap.size (.int .i64 (hi n)) (.int .u64 (lo n)) 26 := by rw [hV]; exact ((b2).alloc _).alloc _
  have b3N : Box2 V15 (w.heap.size + 1) (.int .i64 (hi d)) (.int .u64 (lo d)) 26 := by rw [hV]; exact ((b3).alloc _).alloc _
  have b4N : Box2 V15 (w.heap.size + 1 + 1) (.int .i64 0) (.int .u64 0) 26 := by rw [hV]; exact ((b4).alloc _).alloc _
  have b5N : Box2 V15 (w.heap.size + 1 + 1 + 1) (.int .i64 0) (.int .u64 0) 26 := by rw [hV]; exact ((b5).alloc _).alloc _
  have b7N : Box2 V15 k7 (.bool n3) (.slice a3 l3 c3) 37 := by rw [hV]; exact ((b7).alloc _).alloc _
  have b8N : Box2 V15 k8 (.bool n5) (.slice a5 l5 c5) 37 := by rw [hV]; exact ((b8).alloc _).alloc _
  have z3N : IsZ V15 n3 (.slice a3 l3 c3) n := by rw [hV]; exact ((z3).alloc _).alloc _
  have z5N : IsZ V15 n5 (.slice a5 l5 c5) d := by rw [hV]; exact ((z5).alloc _).alloc _
  have z14qN : IsZ V15 n14q (.slice a14q l14q c14q) (frP n d) := by rw [hV]; exact ((z14q).alloc _).alloc _
  have z14rN : IsZ V15 n14r (.slice a14r l14r c14r) (frQ n d) := by rw [hV]; exact ((z14r).alloc _).alloc _
  replace xw : Ext w V15 := by rw [hV]; exact Ext.alloc (Ext.alloc (xw))
  replace b2 := b2N; clear b2N
  replace b3 := b3N; clear b3N
  replace b4 := b4N; clear b4N
  replace b5 := b5N; clear b5N
  replace b7 := b7N; clear b7N
  replace b8 := b8N; clear b8N
  replace z3 := z3N; clear z3N
  replace z5 := z5N; clear z5N
  replace z14q := z14qN; clear z14qN
  replace z14r := z14rN; clear z14rN
  have b9 : Box2 V15 w14.heap.size (.bool n14q) (.slice a14q l14q c14q) 37 := by rw [hV]; exact (Box2.new rfl).alloc _
  have b10 : Box2 V15 (w14.heap.size + 1) (.bool n14r) (.slice a14r l14r c14r) 37 := by rw [hV]; exact Box2.new (by simp)
  clear hV
  have b9_c0 := b9.c0
  have b9_c1 := b9.c1
  go_wp2_with fail
  refine (HTold.out _ _ _ _ (frP n d) _ z14q (B14q.mono (by omega))).mono ?_
  rintro e w19 ⟨rfl, x19⟩
  rw [thi_no hP, tlo_no hP, ter_no hP]
  clear b9_c0 b9_c1
  replace b2 := b2.ext x19
  replace b3 := b3.ext x19
  replace b4 := b4.ext x19
  replace b5 := b5.ext x19
  replace b7 := b7.ext x19
  replace b8 := b8.ext x19
  replace b9 := b9.ext x19
  replace b10 := b10.ext x19
  replace z3 := z3.ext x19
  replace z5 := z5.ext x19
  replace z14q := z14q.ext x19
  replace z14r := z14r.ext x19
  replace xw := Ext.trans xw x19
  go_upto_region 6 with fail
  have o21 := b9.kind.lt
  have o22 := b10.kind.lt
  have o23 := xw.size
  refine wp_name ?_
  intro V20 hV
  have b2N : Box2 V20 w.heap.size (.int .i64 (hi n)) (.int .u64 (lo n)) 26 := by rw [hV]; exact (b2).alloc _
  have b3N : Box2 V20 (w.heap.size + 1) (.int .i64 (hi d)) (.int .u64 (lo d)) 26 := by rw [hV]; exact (b3).alloc _
  have b4N : Box2 V20 (w.heap.size + 1 + 1) (.int .i64 0) (.int .u64 0) 26 := by rw [hV]; exact (b4).alloc _
  have b5N : Box2 V20 (w.heap.size + 1 + 1 + 1) (.int .i64 0) (.int .u64 0) 26 := by rw [hV]; exact (b5).alloc _
  have b7N : Box2 V20 k7 (.bool n3) (.slice a3 l3 c3) 37 := by rw [hV]; exact (b7).alloc _
  have b8N : Box2 V20 k8 (.bool n5) (.slice a5 l5 c5) 37 := by rw [hV]; exact (b8).alloc _
  have b9N : Box2 V20 w14.heap.size (.bool n14q) (.slice a14q l14q c14q) 37 := by rw [hV]; exact (b9).alloc _
  have b10N : Box2 V20 (w14.heap.size + 1) (.bool n14r) (.slice a14r l14r c14r) 37 := by rw [hV]; exact (b10).alloc _
  have z3N : IsZ V20 n3 (.slice a3 l3 c3) n := by rw [hV]; exact (z3).alloc _
  have z5N : IsZ V20 n5 (.slice a5 l5 c5) d := by rw [hV]; exact (z5).alloc _
  have z14qN : IsZ V20 n14q (.slice a14q l14q c14q) (frP n d) := by rw [hV]; exact (z14q).alloc _
  have z14rN : IsZ V20 n14r (.slice a14r l14r c14r) (frQ n d) := by rw [hV]; exact (z14r).alloc _
  replace xw : Ext w V20 := by rw [hV]; exact Ext.alloc (xw)
  replace b2 := b2N; clear b2N
  replace b3 := b3N; clear b3N
  replace b4 := b4N; clear b4N
  replace b5 := b5N; clear b5N
  replace b7 := b7N; clear b7N
  replace b8 := b8N; clear b8N
  replace b9 := b9N; clear b9N
  replace b10 := b10N; clear b10N
  replace z3 := z3N; clear z3N
  replace z5 := z5N; clear z5N
  replace z14q := z14qN; clear z14qN
  replace z14r := z14rN; clear z14rN
  have b11 : Box2 V20 w19.heap.size (.int .i64 0) (.int .u64 0) 26 := by rw [hV]; exact Box2.new rfl
  clear hV
  have b10_c0 := b10.c0
  have b10_c1 := b10.c1
  go_wp2_with fail
  refine (HTold.out _ _ _ _ (frQ n d) _ z14r (B14r.mono (by omega))).mono ?_
  rintro e w24 ⟨rfl, x24⟩
  rw [HT1.out, HT2.out, HT3.out]
  clear b10_c0 b10_c1
  replace b2 := b2.ext x24
  replace b3 := b3.ext x24
  replace b4 := b4.ext x24
  replace b5 := b5.ext x24
  replace b7 := b7.ext x24
  replace b8 := b8.ext x24
  replace b9 := b9.ext x24
  replace b10 := b10.ext x24
  replace b11 := b11.ext x24
  replace z3 := z3.ext x24
  replace z5 := z5.ext x24
  replace z14q := z14q.ext x24
  replace z14r := z14r.ext x24
  replace xw := Ext.trans xw x24
  go_upto_region 7 with fail
  have o26 := b11.kind.lt
  have o27 := xw.size
  refine wp_name ?_
  intro V25 hV
  have b2N : Box2 V25 w.heap.size (.int .i64 (hi n)) (.int .u64 (lo n)) 26 := by rw [hV]; exact (b2).alloc _
  have b3N : Box2 V25 (w.heap.size + 1) (.int .i64 (hi d)) (.int .u64 (lo d)) 26 := by rw [hV]; exact (b3).alloc _
  have b4N : Box2 V25 (w.heap.size + 1 + 1) (.int .i64 0) (.int .u64 0) 26 := by rw [hV]; exact (b4).alloc _
  have b5N : Box2 V25 (w.heap.size + 1 + 1 + 1) (.int .i64 0) (.int .u64 0) 26 := by rw [hV]; exact (b5).alloc _
  have b7N : Box2 V25 k7 (.bool n3) (.slice a3 l3 c3) 37 := by rw [hV]; exact (b7).alloc _
  have b8N : Box2 V25 k8 (.bool n5) (.slice a5 l5 c5) 37 := by rw [hV]; exact (b8).alloc _
  have b9N : Box2 V25 w14.heap.size (.bool n14q) (.slice a14q l14q c14q) 37 := by rw [hV]; exact (b9).alloc _
  have b10N : Box2 V25 (w14.heap.size + 1) (.bool n14r) (.slice a14r l14r c14r) 37 := by rw [hV]; exact (b10).alloc _
  have b11N : Box2 V25 w19.heap.size (.int .i64 0) (.int .u64 0) 26 := by rw [hV]; exact (b11).alloc _
  have z3N : IsZ V25 n3 (.slice a3 l3 c3) n := by rw [hV]; exact (z3).alloc _
  have z5N : IsZ V25 n5 (.slice a5 l5 c5) d := by rw [hV]; exact (z5).alloc _
  have z14qN : IsZ V25 n14q (.slice a14q l14q c14q) (frP n d) := by rw [hV]; exact (z14q).alloc _
  have z14rN : IsZ V25 n14r (.slice a14r l14r c14r) (frQ n d) := by rw [hV]; exact (z14r).alloc _
  replace xw : Ext w V25 := by rw [hV]; exact Ext.alloc (xw)
  replace b2 := b2N; clear b2N
  replace b3 := b3N; clear b3N
  replace b4 := b4N; clear b4N
  replace b5 := b5N; clear b5N
  replace b7 := b7N; clear b7N
  replace b8 := b8N; clear b8N
  replace b9 := b9N; clear b9N
  replace b10 := b10N; clear b10N
  replace b11 := b11N; clear b11N
  replace z3 := z3N; clear z3N
  replace z5 := z5N; clear z5N
  replace z14q := z14qN; clear z14qN
  replace z14r := z14rN; clear z14rN
  have b13 : Box2 V25 w24.heap.size (.int .i64 t1) (.int .u64 t2) 26 := by rw [hV]; exact Box2.new rfl
  clear hV
  go_upto_region 8 with fail
  have b4_c0 := b4.c0
  have b4_c1 := b4.c1
  have b4_f0 := b4.f0
  have b4_f1 := b4.f1
  have b5_c0 := b5.c0
  have b5_c1 := b5.c1
  have b5_f0 := b5.f0
  have b5_f1 := b5.f1
  have xr := Ext.set (Ext.set (Ext.set (Ext.set (xw) (k := w.heap.size + 1 + 1) (o := 0) (u := .int .i64 0) (by omega)) (k := w.heap.size + 1 + 1) (o := 1) (u := .int .u64 0) (by omega)) (k := w.heap.size + 1 + 1 + 1) (o := 0) (u := .int .i64 0) (by omega)) (k := w.heap.size + 1 + 1 + 1) (o := 1) (u := .int .u64 0) (by omega)
  go_wp2_with fail
  refine bodyPost_ret (v := .tuple #[.agg #[.int .i64 0, .int .u64 0], .agg #[.int .i64 0, .int .u64 0], .int .i64 2]) (by simp [results, Try.results66, go_sem, b4_c0, b4_c1, b5_c0, b5_c1]) rfl (retFr_no H0.out (fun h => hP h.2.1) xr)
set_option maxRecDepth 100000 in
set_option maxHeartbeats 3200000 in
theorem zfrac_no2 (n d : Int) (w : World) (hn : W128 n) (hd : W128 d) (h0 : d ≠ 0) (hP : W128 (frP n d)) (hQ : ¬ W128 (frQ n d)) :
    Calls Try.prog 66 #[.agg #[.int .i64 (hi n), .int .u64 (lo n)], .agg #[.int .i64 (hi d), .int .u64 (lo d)]] w (RetFr w n d) := by
  have HOfw := Lib.hid ofw
  have HSgn := Lib.hid sign_z
  have HTold := Lib.hid told_any
  have HLow := Lib.hid zlowest
  have H0 := Lib.hid h0
  have g0 : (cmpI d 0 == 0) = false := cmp_no h0
  obtain ⟨t1, e3⟩ : ∃ r, thi (frQ n d) = r := ⟨_, rfl⟩
  obtain ⟨t2, e4⟩ : ∃ r, tlo (frQ n d) = r := ⟨_, rfl⟩
  obtain ⟨t3, e5⟩ : ∃ r, ter (frQ n d) = r := ⟨_, rfl⟩
  have HT1 := Lib.hid e3
  have HT2 := Lib.hid e4
  have HT3 := Lib.hid e5
  clear e3 e4 e5
  clear h0
  go_enter Try.func66, Try.ntmps66
  go_upto_region 1 with fail
  have xw := Ext.refl w
  refine wp_name ?_
  intro V1 hV
  replace xw : Ext w V1 := by rw [hV]; exact Ext.alloc (Ext.alloc (Ext.alloc (Ext.alloc (xw))))
  have b2 : Box2 V1 w.heap.size (.int .i64 (hi n)) (.int .u64 (lo n)) 26 := by rw [hV]; exact (((Box2.new rfl).alloc _).alloc _).alloc _
  have b3 : Box2 V1 (w.heap.size + 1) (.int .i64 (hi d)) (.int .u64 (lo d)) 26 := by rw [hV]; exact ((Box2.new (by simp)).alloc _).alloc _
  have b4 : Box2 V1 (w.heap.size + 1 + 1) (.int .i64 0) (.int .u64 0) 26 := by rw [hV]; exact (Box2.new (by simp)).alloc _
  have b5 : Box2 V1 (w.heap.size + 1 + 1 + 1) (.int .i64 0) (.int .u64 0) 26 := by rw [hV]; exact Box2.new (by simp)
  clear hV
  refine wp_region_noPanic ?_
  refine wp_region_held_drew (S := fun w' => Ext V1 w') (by kernel_rfl) (Ext.refl V1).drew (fun hHeld => ?_)
  have b2_d0 := fun w' (h : Ext V1 w') => (b2.ext h).c0
  have b2_d1 := fun w' (h : Ext V1 w') => (b2.ext h).c1
  have b3_d0 := fun w' (h : Ext V1 w') => (b3.ext h).c0
  have b3_d1 := fun w' (h : Ext V1 w') => (b3.ext h).c1
  refine wpAnyH_take (i := 0) (v := .agg #[.int .i64 (hi n), .int .u64 (lo n)]) rfl (by kernel_rfl) (by kernel_rfl) (by kernel_rfl) (fun _ _ _ h => h) (Or.inl ⟨by kernel_rfl, fun w' h => (by go_simp)⟩) hHeld ?_
  refine wpAnyH_take (i := 2) (v := .agg #[.int .i64 (hi d), .int .u64 (lo d)]) rfl (by kernel_rfl) (by kernel_rfl) (by kernel_rfl) (fun _ _ _ h => h) (Or.inl ⟨by kernel_rfl, fun w' h => (by go_simp)⟩) hHeld ?_
  refine region2 (N := 8) (f0 := [0, 2]) (l := [(1, false), (3, false)]) (T := [6, 7]) (iA := 4) (dA := 7) (iB := 5) (dB := 8) (oA := .cells #[.bool false, .slice none 0 0] 37) (oB := .cells #[.bool false, .slice none 0 0] 37) (fun _ _ _ _ _ h => h) (by kernel_rfl) (by kernel_rfl) rfl (by kernel_rfl) (by kernel_rfl)
    (fun K a w h => wpOp_of rfl fun K' hK => (by go_simp; exact hK _ _ h)) (fun K a w h => wpOp_of rfl fun K' hK => (by go_simp; exact hK _ _ h)) (by decide) (by simp [Act.put]) (by simp [Act.put]) (fun _ _ h x => h.trans x) hHeld ?_
  have y0 : Ext V1 V1.drew := (Ext.refl V1).drew
  intro a1 v2 h1 yv2
  obtain ⟨s12, s22, rfl⟩ := away2 h1; refine wpOp_of rfl fun K' hK => ?_; go_simp
  replace y0 := Ext.trans y0 yv2
  refine (HOfw.out n _ hn).mono ?_
  rintro e w3 ⟨n3, a3, l3, c3, rfl, z3, x3⟩
  replace x3 : Ext _ w3 := x3
  have B3 : Bits 128 (n) := hn.bits
  refine hK _ _ ⟨⟨x3, rfl, slots2 rfl rfl⟩, ?_⟩; clear hK K'
  replace y0 := Ext.trans y0 x3
  intro a1 v4 h1 yv4
  obtain ⟨s14, s24, rfl⟩ := away2 h1; refine wpOp_of rfl fun K' hK => ?_; go_simp
  replace y0 := Ext.trans y0 yv4
  replace z3 := z3.ext yv4
  refine (HOfw.out d _ hd).mono ?_
  rintro e w5 ⟨n5, a5, l5, c5, rfl, z5, x5⟩
  replace x5 : Ext _ w5 := x5
  have B5 : Bits 128 (d) := hd.bits
  refine hK _ _ ⟨⟨x5, rfl, slots2 rfl rfl⟩, ?_⟩; clear hK K'
  replace y0 := Ext.trans y0 x5
  replace z3 := z3.ext x5
  intro a' v6 h yv6
  obtain ⟨s16, s26, rfl⟩ := away2 h
  rintro k7 k8 ⟨k7a, k7b, k7c⟩ ⟨k8a, k8b, k8c⟩ k7ne hS'
  replace y0 := Ext.trans y0 yv6
  replace z3 := z3.ext yv6
  replace z5 := z5.ext yv6
  simp [Act.put] at k7b; subst k7b; replace k7a : V1.heap.size ≤ k7 := k7a
  simp [Act.put] at k8b; subst k8b; replace k8a : V1.heap.size ≤ k8 := k8a
  clear b2_d0 b2_d1 b3_d0 b3_d1
  have o7 := b2.kind.lt
  have o8 := b3.kind.lt
  have o9 := b4.kind.lt
  have o10 := b5.kind.lt
  have o11 := xw.size
  replace b2 := b2.ext y0
  replace b3 := b3.ext y0
  replace b4 := b4.ext y0
  replace b5 := b5.ext y0
  replace xw := Ext.trans xw y0
  have b7 : Box2 v6 k7 (.bool false) (.slice none 0 0) 37 := k7c
  clear k7c
  have b8 : Box2 v6 k8 (.bool false) (.slice none 0 0) 37 := k8c
  clear k8c
  have hT : Ext V1 v6 := hS'
  have b7_c0 := b7.c0
  have b7_c1 := b7.c1
  have b7_f0 := b7.f0
  have b7_f1 := b7.f1
  refine wpOp_of rfl fun K' hK => ?_
  go_simp
  clear b7_c0 b7_c1 b7_f0 b7_f1
  replace hT := Ext.set hT (k := k7) (o := 0) (u := .bool n3) k7a
  replace hT := Ext.set hT (k := k7) (o := 1) (u := .slice a3 l3 c3) k7a
  refine hK _ _ ⟨hT, ?_⟩
  clear hK K'
  have b2N := ((b2).other (b := k7) (by omega) 0 (.bool n3)).other (b := k7) (by omega) 1 (.slice a3 l3 c3)
  have b3N := ((b3).other (b := k7) (by omega) 0 (.bool n3)).other (b := k7) (by omega) 1 (.slice a3 l3 c3)
  have b4N := ((b4).other (b := k7) (by omega) 0 (.bool n3)).other (b := k7) (by omega) 1 (.slice a3 l3 c3)
  have b5N := ((b5).other (b := k7) (by omega) 0 (.bool n3)).other (b := k7) (by omega) 1 (.slice a3 l3 c3)
  have b7N := (b7).set (.bool n3) (.slice a3 l3 c3)
  have b8N := ((b8).other (b := k7) (by omega) 0 (.bool n3)).other (b := k7) (by omega) 1 (.slice a3 l3 c3)
  have z3N := (z3).set2 (b7).kind (by decide) (.bool n3) (.slice a3 l3 c3)
  have z5N := (z5).set2 (b7).kind (by decide) (.bool n3) (.slice a3 l3 c3)
  replace xw := Ext.set (Ext.set (xw) (k := k7) (o := 0) (u := .bool n3) (by omega)) (k := k7) (o := 1) (u := .slice a3 l3 c3) (by omega)
  replace b2 := b2N; clear b2N
  replace b3 := b3N; clear b3N
  replace b4 := b4N; clear b4N
  replace b5 := b5N; clear b5N
  replace b7 := b7N; clear b7N
  replace b8 := b8N; clear b8N
  replace z3 := z3N; clear z3N
  replace z5 := z5N; clear z5N
  have b8_c0 := b8.c0
  have b8_c1 := b8.c1
  have b8_f0 := b8.f0
  have b8_f1 := b8.f1
  refine wpOp_of rfl fun K' hK => ?_
  go_simp
  clear b8_c0 b8_c1 b8_f0 b8_f1
  replace hT := Ext.set hT (k := k8) (o := 0) (u := .bool n5) k8a
  replace hT := Ext.set hT (k := k8) (o := 1) (u := .slice a5 l5 c5) k8a
  refine hK _ _ ⟨hT, ?_⟩
  clear hK K'
  have b2N := ((b2).other (b := k8) (by omega) 0 (.bool n5)).other (b := k8) (by omega) 1 (.slice a5 l5 c5)
  have b3N := ((b3).other (b := k8) (by omega) 0 (.bool n5)).other (b := k8) (by omega) 1 (.slice a5 l5 c5)
  have b4N := ((b4).other (b := k8) (by omega) 0 (.bool n5)).other (b := k8) (by omega) 1 (.slice a5 l5 c5)
  have b5N := ((b5).other (b := k8) (by omega) 0 (.bool n5)).other (b := k8) (by omega) 1 (.slice a5 l5 c5)
  have b7N := ((b7).other (b := k8) (by omega) 0 (.bool n5)).other (b := k8) (by omega) 1 (.slice a5 l5 c5)
  have b8N := (b8).set (.bool n5) (.slice a5 l5 c5)
  have z3N := (z3).set2 (b8).kind (by decide) (.bool n5) (.slice a5 l5 c5)
  have z5N := (z5).set2 (b8).kind (by decide) (.bool n5) (.slice a5 l5 c5)
  replace xw := Ext.set (Ext.set (xw) (k := k8) (o := 0) (u := .bool n5) (by omega)) (k := k8) (o := 1) (u := .slice a5 l5 c5) (by omega)
  replace b2 := b2N; clear b2N
  replace b3 := b3N; clear b3N
  replace b4 := b4N; clear b4N
  replace b5 := b5N; clear b5N
  replace b7 := b7N; clear b7N
  replace b8 := b8N; clear b8N
  replace z3 := z3N; clear z3N
  replace z5 := z5N; clear z5N
  refine NoPanic.normal ?_
  clear hT hS' y0 hHeld
  go_upto_region 2 with fail
  refine wp_name ?_
  intro V12 hV
  rw [← hV] at b2 b3 b4 b5 b7 b8 z3 z5 xw
  clear hV
  have b8_c0 := b8.c0
  have b8_c1 := b8.c1
  go_wp2_with fail
  refine (HSgn.out _ _ _ _ d _ z5 (B5.fit (by omega))).mono ?_
  rintro e w13 ⟨rfl, x13⟩
  replace x13 : Ext _ w13 := x13
  clear b8_c0 b8_c1
  replace b2 := b2.ext x13
  replace b3 := b3.ext x13
  replace b4 := b4.ext x13
  replace b5 := b5.ext x13
  replace b7 := b7.ext x13
  replace b8 := b8.ext x13
  replace z3 := z3.ext x13
  replace z5 := z5.ext x13
  replace xw := Ext.trans xw x13
  go_upto_region 4 with fail
  have b7_c0 := b7.c0
  have b7_c1 := b7.c1
  have b8_c0 := b8.c0
  have b8_c1 := b8.c1
  go_wp2_with fail
  refine (HLow.out 128 (by omega) _ _ _ _ _ _ _ _ n d _ z3 z5 B3 B5 H0.out).mono ?_
  rintro e w14 ⟨n14q, a14q, l14q, c14q, n14r, a14r, l14r, c14r, rfl, z14q, z14r, x14⟩
  replace x14 : Ext _ w14 := x14
  have B14q : Bits 128 (frP n d) := frP_bits B3
  have B14r : Bits 128 (frQ n d) := frQ_bits B5
  clear b7_c0 b7_c1 b8_c0 b8_c1
  replace b2 := b2.ext x14
  replace b3 := b3.ext x14
  replace b4 := b4.ext x14
  replace b5 := b5.ext x14
  replace b7 := b7.ext x14
  replace b8 := b8.ext x14
  replace z3 := z3.ext x14
  replace z5 := z5.ext x14
  replace xw := Ext.trans xw x14
  go_upto_region 5 with fail
  have o16 := b7.kind.lt
  have o17 := b8.kind.lt
  have o18 := xw.size
  refine wp_name ?_
  intro V15 hV
  have b2N : Box2 V15 w.heap.size (.int .i64 (hi n)) (.int .u64 (lo n)) 26 := by rw [hV]; exact ((b2).alloc _).alloc _
  have b3N : Box2 V15 (w.heap.size + 1) (.int .i64 (hi d)) (.int .u64 (lo d)) 26 := by rw [hV]; exact ((b3).alloc _).alloc _
  have b4N : Box2 V15 (w.heap.size + 1 + 1) (.int .i64 0) (.int .u64 0) 26 := by rw [hV]; exact ((b4).alloc _).alloc _
  have b5N : Box2 V15 (w.heap.size + 1 + 1 + 1) (.int .i64 0) (.int .u64 0) 26 := by rw [hV]; exact ((b5).alloc _).alloc _
  have b7N : Box2 V15 k7 (.bool n3) (.slice a3 l3 c3) 37 := by rw [hV]; exact ((b7).alloc _).alloc _
  have b8N : Box2 V15 k8 (.bool n5) (.slice a5 l5 c5) 37 := by rw [hV]; exact ((b8).alloc _).alloc _
  have z3N : IsZ V15 n3 (.slice a3 l3 c3) n := by rw [hV]; exact ((z3).alloc _).alloc _
  have z5N : IsZ V15 n5 (.slice a5 l5 c5) d := by rw [hV]; exact ((z5).alloc _).alloc _
  have z14qN : IsZ V15 n14q (.slice a14q l14q c14q) (frP n d) := by rw [hV]; exact ((z14q).alloc _).alloc _
  have z14rN : IsZ V15 n14r (.slice a14r l14r c14r) (frQ n d) := by rw [hV]; exact ((z14r).alloc _).alloc _
  replace xw : Ext w V15 := by rw [hV]; exact Ext.alloc (Ext.alloc (xw))
  replace b2 := b2N; clear b2N
  replace b3 := b3N; clear b3N
  replace b4 := b4N; clear b4N
  replace b5 := b5N; clear b5N
  replace b7 := b7N; clear b7N
  replace b8 := b8N; clear b8N
  replace z3 := z3N; clear z3N
  replace z5 := z5N; clear z5N
  replace z14q := z14qN; clear z14qN
  replace z14r := z14rN; clear z14rN
  have b9 : Box2 V15 w14.heap.size (.bool n14q) (.slice a14q l14q c14q) 37 := by rw [hV]; exact (Box2.new rfl).alloc _
  have b10 : Box2 V15 (w14.heap.size + 1) (.bool n14r) (.slice a14r l14r c14r) 37 := by rw [hV]; exact Box2.new (by simp)
  clear hV
  have b9_c0 := b9.c0
  have b9_c1 := b9.c1
  go_wp2_with fail
  refine (HTold.out _ _ _ _ (frP n d) _ z14q (B14q.mono (by omega))).mono ?_
  rintro e w19 ⟨rfl, x19⟩
  rw [thi_yes hP, tlo_yes hP, ter_yes hP]
  clear b9_c0 b9_c1
  replace b2 := b2.ext x19
  replace b3 := b3.ext x19
  replace b4 := b4.ext x19
  replace b5 := b5.ext x19
  replace b7 := b7.ext x19
  replace b8 := b8.ext x19
  replace b9 := b9.ext x19
  replace b10 := b10.ext x19
  replace z3 := z3.ext x19
  replace z5 := z5.ext x19
  replace z14q := z14q.ext x19
  replace z14r := z14r.ext x19
  replace xw := Ext.trans xw x19
  go_upto_region 6 with fail
  have o21 := b9.kind.lt
  have o22 := b10.kind.lt
  have o23 := xw.size
  refine wp_name ?_
  intro V20 hV
  have b2N : Box2 V20 w.heap.size (.int .i64 (hi n)) (.int .u64 (lo n)) 26 := by rw [hV]; exact (b2).alloc _
  have b3N : Box2 V20 (w.heap.size + 1) (.int .i64 (hi d)) (.int .u64 (lo d)) 26 := by rw [hV]; exact (b3).alloc _
  have b4N : Box2 V20 (w.heap.size + 1 + 1) (.int .i64 0) (.int .u64 0) 26 := by rw [hV]; exact (b4).alloc _
  have b5N : Box2 V20 (w.heap.size + 1 + 1 + 1) (.int .i64 0) (.int .u64 0) 26 := by rw [hV]; exact (b5).alloc _
  have b7N : Box2 V20 k7 (.bool n3) (.slice a3 l3 c3) 37 := by rw [hV]; exact (b7).alloc _
  have b8N : Box2 V20 k8 (.bool n5) (.slice a5 l5 c5) 37 := by rw [hV]; exact (b8).alloc _
  have b9N : Box2 V20 w14.heap.size (.bool n14q) (.slice a14q l14q c14q) 37 := by rw [hV]; exact (b9).alloc _
  have b10N : Box2 V20 (w14.heap.size + 1) (.bool n14r) (.slice a14r l14r c14r) 37 := by rw [hV]; exact (b10).alloc _
  have z3N : IsZ V20 n3 (.slice a3 l3 c3) n := by rw [hV]; exact (z3).alloc _
  have z5N : IsZ V20 n5 (.slice a5 l5 c5) d := by rw [hV]; exact (z5).alloc _
  have z14qN : IsZ V20 n14q (.slice a14q l14q c14q) (frP n d) := by rw [hV]; exact (z14q).alloc _
  have z14rN : IsZ V20 n14r (.slice a14r l14r c14r) (frQ n d) := by rw [hV]; exact (z14r).alloc _
  replace xw : Ext w V20 := by rw [hV]; exact Ext.alloc (xw)
  replace b2 := b2N; clear b2N
  replace b3 := b3N; clear b3N
  replace b4 := b4N; clear b4N
  replace b5 := b5N; clear b5N
  replace b7 := b7N; clear b7N
  replace b8 := b8N; clear b8N
  replace b9 := b9N; clear b9N
  replace b10 := b10N; clear b10N
  replace z3 := z3N; clear z3N
  replace z5 := z5N; clear z5N
  replace z14q := z14qN; clear z14qN
  replace z14r := z14rN; clear z14rN
  have b11 : Box2 V20 w19.heap.size (.int .i64 (hi (frP n d))) (.int .u64 (lo (frP n d))) 26 := by rw [hV]; exact Box2.new rfl
  clear hV
  have b10_c0 := b10.c0
  have b10_c1 := b10.c1
  go_wp2_with fail
  refine (HTold.out _ _ _ _ (frQ n d) _ z14r (B14r.mono (by omega))).mono ?_
  rintro e w24 ⟨rfl, x24⟩
  rw [thi_no hQ, tlo_no hQ, ter_no hQ]
  clear b10_c0 b10_c1
  replace b2 := b2.ext x24
  replace b3 := b3.ext x24
  replace b4 := b4.ext x24
  replace b5 := b5.ext x24
  replace b7 := b7.ext x24
  replace b8 := b8.ext x24
  replace b9 := b9.ext x24
  replace b10 := b10.ext x24
  replace b11 := b11.ext x24
  replace z3 := z3.ext x24
  replace z5 := z5.ext x24
  replace z14q := z14q.ext x24
  replace z14r := z14r.ext x24
  replace xw := Ext.trans xw x24
  go_upto_region 7 with fail
  have o26 := b11.kind.lt
  have o27 := xw.size
  refine wp_name ?_
  intro V25 hV
  have b2N : Box2 V25 w.heap.size (.int .i64 (hi n)) (.int .u64 (lo n)) 26 := by rw [hV]; exact (b2).alloc _
  have b3N : Box2 V25 (w.heap.size + 1) (.int .i64 (hi d)) (.int .u64 (lo d)) 26 := by rw [hV]; exact (b3).alloc _
  have b4N : Box2 V25 (w.heap.size + 1 + 1) (.int .i64 0) (.int .u64 0) 26 := by rw [hV]; exact (b4).alloc _
  have b5N : Box2 V25 (w.heap.size + 1 + 1 + 1) (.int .i64 0) (.int .u64 0) 26 := by rw [hV]; exact (b5).alloc _
  have b7N : Box2 V25 k7 (.bool n3) (.slice a3 l3 c3) 37 := by rw [hV]; exact (b7).alloc _
  have b8N : Box2 V25 k8 (.bool n5) (.slice a5 l5 c5) 37 := by rw [hV]; exact (b8).alloc _
  have b9N : Box2 V25 w14.heap.size (.bool n14q) (.slice a14q l14q c14q) 37 := by rw [hV]; exact (b9).alloc _
  have b10N : Box2 V25 (w14.heap.size + 1) (.bool n14r) (.slice a14r l14r c14r) 37 := by rw [hV]; exact (b10).alloc _
  have b11N : Box2 V25 w19.heap.size (.int .i64 (hi (frP n d))) (.int .u64 (lo (frP n d))) 26 := by rw [hV]; exact (b11).alloc _
  have z3N : IsZ V25 n3 (.slice a3 l3 c3) n := by rw [hV]; exact (z3).alloc _
  have z5N : IsZ V25 n5 (.slice a5 l5 c5) d := by rw [hV]; exact (z5).alloc _
  have z14qN : IsZ V25 n14q (.slice a14q l14q c14q) (frP n d) := by rw [hV]; exact (z14q).alloc _
  have z14rN : IsZ V25 n14r (.slice a14r l14r c14r) (frQ n d) := by rw [hV]; exact (z14r).alloc _
  replace xw : Ext w V25 := by rw [hV]; exact Ext.alloc (xw)
  replace b2 := b2N; clear b2N
  replace b3 := b3N; clear b3N
  replace b4 := b4N; clear b4N
  replace b5 := b5N; clear b5N
  replace b7 := b7N; clear b7N
  replace b8 := b8N; clear b8N
  replace b9 := b9N; clear b9N
  replace b10 := b10N; clear b10N
  replace b11 := b11N; clear b11N
  replace z3 := z3N; clear z3N
  replace z5 := z5N; clear z5N
  replace z14q := z14qN; clear z14qN
  replace z14r := z14rN; clear z14rN
  have b13 : Box2 V25 w24.heap.size (.int .i64 0) (.int .u64 0) 26 := by rw [hV]; exact Box2.new rfl
  clear hV
  go_upto_region 8 with fail
  have b4_c0 := b4.c0
  have b4_c1 := b4.c1
  have b4_f0 := b4.f0
  have b4_f1 := b4.f1
  have b5_c0 := b5.c0
  have b5_c1 := b5.c1
  have b5_f0 := b5.f0
  have b5_f1 := b5.f1
  have xr := Ext.set (Ext.set (Ext.set (Ext.set (xw) (k := w.heap.size + 1 + 1) (o := 0) (u := .int .i64 0) (by omega)) (k := w.heap.size + 1 + 1) (o := 1) (u := .int .u64 0) (by omega)) (k := w.heap.size + 1 + 1 + 1) (o := 0) (u := .int .i64 0) (by omega)) (k := w.heap.size + 1 + 1 + 1) (o := 1) (u := .int .u64 0) (by omega)
  go_wp2_with fail
  refine bodyPost_ret (v := .tuple #[.agg #[.int .i64 0, .int .u64 0], .agg #[.int .i64 0, .int .u64 0], .int .i64 2]) (by simp [results, Try.results66, go_sem, b4_c0, b4_c1, b5_c0, b5_c1]) rfl (retFr_no H0.out (fun h => hQ h.2.2) xr)
theorem zfrac_any (n d : Int) (w : World) (hn : W128 n) (hd : W128 d) :
    Calls Try.prog 66 #[.agg #[.int .i64 (hi n), .int .u64 (lo n)], .agg #[.int .i64 (hi d), .int .u64 (lo d)]] w (RetFr w n d) := by
  by_cases h0 : d = 0
  · exact zfrac0 n d w hn hd h0
  by_cases hP : W128 (frP n d)
  · by_cases hQ : W128 (frQ n d)
    · exact zfrac_yes n d w hn hd h0 hP hQ
    · exact zfrac_no2 n d w hn hd h0 hP hQ
  · exact zfrac_no1 n d w hn hd h0 hP
end Go.Proofs.Ytmkddcmfofabbaa
