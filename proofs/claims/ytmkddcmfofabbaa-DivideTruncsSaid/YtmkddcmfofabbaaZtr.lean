/-
  The reference's Trunc of layer 3.
-/
import Derived.Test.YtmkddcmfofabbaaZcut
import Derived.Test.YtmkddcmfofabbaaZcm
import Derived.Test.YtmkddcmfofabbaaZt0
set_option linter.unusedSimpArgs false
set_option linter.unusedVariables false
namespace Go.Proofs.Ytmkddcmfofabbaa
open Go Go.RowKit

theorem tmod_b {K : Nat} {a b : Int} (h : Bits K b) (h0 : b ≠ 0) : Bits K (a.tmod b) := by
  obtain ⟨k1, k2, k3⟩ := tdm (a := a) h0
  exact h.le (by omega)
theorem tdiv_b {K : Nat} {a b : Int} (h : Bits K a) : Bits K (a.tdiv b) := h.le (by rw [tdiv_nat]; exact Nat.div_le_self _ _)
set_option maxRecDepth 100000 in
set_option maxHeartbeats 3200000 in
theorem ztrunc (a b : Int) (w : World) (ha : W128 a) (hb : W128 b) (h0 : b ≠ 0) :
    Calls Try.prog 60 #[.agg #[.int .i64 (hi a), .int .u64 (lo a)], .agg #[.int .i64 (hi b), .int .u64 (lo b)]] w (RetQ w (a.tdiv b) (a.tmod b)) := by
  have HOfw := Lib.hid ofw
  have HSgn := Lib.hid sign_z
  have HCut := Lib.hid zcut
  have HTq := Lib.hid ztold3
  have hrW := tmod_W (a := a) hb h0
  have D0 := Lib.hid h0
  have g0 : (cmpI b 0 == 0) = false := cmp_no h0
  clear h0
  go_enter Try.func60, Try.ntmps60
  go_upto_region 1 with fail
  have xw := Ext.refl w
  refine wp_name ?_
  intro V1 hV
  replace xw : Ext w V1 := by rw [hV]; exact Ext.alloc (Ext.alloc (Ext.alloc (Ext.alloc (xw))))
  have b2 : Box2 V1 w.heap.size (.int .i64 (hi a)) (.int .u64 (lo a)) 26 := by rw [hV]; exact (((Box2.new rfl).alloc _).alloc _).alloc _
  have b3 : Box2 V1 (w.heap.size + 1) (.int .i64 (hi b)) (.int .u64 (lo b)) 26 := by rw [hV]; exact ((Box2.new (by simp)).alloc _).alloc _
  have b4 : Box2 V1 (w.heap.size + 1 + 1) (.int .i64 0) (.int .u64 0) 26 := by rw [hV]; exact (Box2.new (by simp)).alloc _
  have b5 : Box2 V1 (w.heap.size + 1 + 1 + 1) (.int .i64 0) (.int .u64 0) 26 := by rw [hV]; exact Box2.new (by simp)
  clear hV
  refine wp_region_noPanic ?_
  refine wp_region_held_drew (S := fun w' => Ext V1 w') (by kernel_rfl) (Ext.refl V1).drew (fun hHeld => ?_)
  have b2_d0 := fun w' (h : Ext V1 w') => (b2.ext h).c0
  have b2_d1 := fun w' (h : Ext V1 w') => (b2.ext h).c1
  have b3_d0 := fun w' (h : Ext V1 w') => (b3.ext h).c0
  have b3_d1 := fun w' (h : Ext V1 w') => (b3.ext h).c1
  refine wpAnyH_take (i := 0) (v := .agg #[.int .i64 (hi a), .int .u64 (lo a)]) rfl (by kernel_rfl) (by kernel_rfl) (by kernel_rfl) (fun _ _ _ h => h) (Or.inl ⟨by kernel_rfl, fun w' h => (by go_simp)⟩) hHeld ?_
  refine wpAnyH_take (i := 2) (v := .agg #[.int .i64 (hi b), .int .u64 (lo b)]) rfl (by kernel_rfl) (by kernel_rfl) (by kernel_rfl) (fun _ _ _ h => h) (Or.inl ⟨by kernel_rfl, fun w' h => (by go_simp)⟩) hHeld ?_
  refine region2 (N := 8) (f0 := [0, 2]) (l := [(1, false), (3, false)]) (T := [6, 7]) (iA := 4) (dA := 7) (iB := 5) (dB := 8) (oA := .cells #[.bool false, .slice none 0 0] 37) (oB := .cells #[.bool false, .slice none 0 0] 37) (fun _ _ _ _ _ h => h) (by kernel_rfl) (by kernel_rfl) rfl (by kernel_rfl) (by kernel_rfl)
    (fun K a w h => wpOp_of rfl fun K' hK => (by go_simp; exact hK _ _ h)) (fun K a w h => wpOp_of rfl fun K' hK => (by go_simp; exact hK _ _ h)) (by decide) (by simp [Act.put]) (by simp [Act.put]) (fun _ _ h x => h.trans x) hHeld ?_
  have y0 : Ext V1 V1.drew := (Ext.refl V1).drew
  intro a1 v2 h1 yv2
  obtain ⟨s12, s22, rfl⟩ := away2 h1; refine wpOp_of rfl fun K' hK => ?_; go_simp
  replace y0 := Ext.trans y0 yv2
  refine (HOfw.out a _ ha).mono ?_
  rintro e w3 ⟨n3, a3, l3, c3, rfl, z3, x3⟩
  replace x3 : Ext _ w3 := x3
  have B3 : Bits 128 (a) := ha.bits
  refine hK _ _ ⟨⟨x3, rfl, slots2 rfl rfl⟩, ?_⟩; clear hK K'
  replace y0 := Ext.trans y0 x3
  intro a1 v4 h1 yv4
  obtain ⟨s14, s24, rfl⟩ := away2 h1; refine wpOp_of rfl fun K' hK => ?_; go_simp
  replace y0 := Ext.trans y0 yv4
  replace z3 := z3.ext yv4
  refine (HOfw.out b _ hb).mono ?_
  rintro e w5 ⟨n5, a5, l5, c5, rfl, z5, x5⟩
  replace x5 : Ext _ w5 := x5
  have B5 : Bits 128 (b) := hb.bits
  refine hK _ _ ⟨⟨x5, rfl, slots2 rfl rfl⟩, ?_⟩; clear hK K'
  replace y0 := Ext.trans y0 x5
  replace z3 := z3.ext x5
  intro a' v6 h yv6
  obtain ⟨s16, s26, rfl⟩ := away2 h
  rintro k7 k8 ⟨k7a, k7b, k7c⟩ ⟨k8a, k8b, k8c⟩ k7ne hS'
  replace y0 := Ext.trans y0 yv6
  replace z3 := z3.ext yv6
  replace z5 := z5.ext yv6
  simp [Act.put] at k7b; subst k7b; replace k7a : V1.heap.size ≤ k7 := k7a
  simp [Act.put] at k8b; subst k8b; replace k8a : V1.heap.size ≤ k8 := k8a
  clear b2_d0 b2_d1 b3_d0 b3_d1
  have o7 := b2.kind.lt
  have o8 := b3.kind.lt
  have o9 := b4.kind.lt
  have o10 := b5.kind.lt
  have o11 := xw.size
  replace b2 := b2.ext y0
  replace b3 := b3.ext y0
  replace b4 := b4.ext y0
  replace b5 := b5.ext y0
  replace xw := Ext.trans xw y0
  have b7 : Box2 v6 k7 (.bool false) (.slice none 0 0) 37 := k7c
  clear k7c
  have b8 : Box2 v6 k8 (.bool false) (.slice none 0 0) 37 := k8c
  clear k8c
  have hT : Ext V1 v6 := hS'
  have b7_c0 := b7.c0
  have b7_c1 := b7.c1
  have b7_f0 := b7.f0
  have b7_f1 := b7.f1
  refine wpOp_of rfl fun K' hK => ?_
  go_simp
  clear b7_c0 b7_c1 b7_f0 b7_f1
  replace hT := Ext.set (Ext.set hT (k := k7) (o := 0) (u := .bool n3) k7a) (k := k7) (o := 1) (u := .slice a3 l3 c3) k7a
  refine hK _ _ ⟨hT, ?_⟩
  clear hK K'
  have b2N := (b2).other2 (b := k7) (by omega) (.bool n3) (.slice a3 l3 c3)
  have b3N := (b3).other2 (b := k7) (by omega) (.bool n3) (.slice a3 l3 c3)
  have b4N := (b4).other2 (b := k7) (by omega) (.bool n3) (.slice a3 l3 c3)
  have b5N := (b5).other2 (b := k7) (by omega) (.bool n3) (.slice a3 l3 c3)
  have b7N := (b7).set (.bool n3) (.slice a3 l3 c3)
  have b8N := (b8).other2 (b := k7) (by omega) (.bool n3) (.slice a3 l3 c3)
  have z3N := (z3).set2 (b7).kind (by decide) (.bool n3) (.slice a3 l3 c3)
  have z5N := (z5).set2 (b7).kind (by decide) (.bool n3) (.slice a3 l3 c3)
  replace xw := Ext.set (Ext.set xw (k := k7) (o := 0) (u := .bool n3) (by omega)) (k := k7) (o := 1) (u := .slice a3 l3 c3) (by omega)
  replace b2 := b2N; clear b2N
  replace b3 := b3N; clear b3N
  replace b4 := b4N; clear b4N
  replace b5 := b5N; clear b5N
  replace b7 := b7N; clear b7N
  replace b8 := b8N; clear b8N
  replace z3 := z3N; clear z3N
  replace z5 := z5N; clear z5N
  have b8_c0 := b8.c0
  have b8_c1 := b8.c1
  have b8_f0 := b8.f0
  have b8_f1 := b8.f1
  refine wpOp_of rfl fun K' hK => ?_
  go_simp
  clear b8_c0 b8_c1 b8_f0 b8_f1
  replace hT := Ext.set (Ext.set hT (k := k8) (o := 0) (u := .bool n5) k8a) (k := k8) (o := 1) (u := .slice a5 l5 c5) k8a
  refine hK _ _ ⟨hT, ?_⟩
  clear hK K'
  have b2N := (b2).other2 (b := k8) (by omega) (.bool n5) (.slice a5 l5 c5)
  have b3N := (b3).other2 (b := k8) (by omega) (.bool n5) (.slice a5 l5 c5)
  have b4N := (b4).other2 (b := k8) (by omega) (.bool n5) (.slice a5 l5 c5)
  have b5N := (b5).other2 (b := k8) (by omega) (.bool n5) (.slice a5 l5 c5)
  have b7N := (b7).other2 (b := k8) (by omega) (.bool n5) (.slice a5 l5 c5)
  have b8N := (b8).set (.bool n5) (.slice a5 l5 c5)
  have z3N := (z3).set2 (b8).kind (by decide) (.bool n5) (.slice a5 l5 c5)
  have z5N := (z5).set2 (b8).kind (by decide) (.bool n5) (.slice a5 l5 c5)
  replace xw := Ext.set (Ext.set xw (k := k8) (o := 0) (u := .bool n5) (by omega)) (k := k8) (o := 1) (u := .slice a5 l5 c5) (by omega)
  replace b2 := b2N; clear b2N
  replace b3 := b3N; clear b3N
  replace b4 := b4N; clear b4N
  replace b5 := b5N; clear b5N
  replace b7 := b7N; clear b7N
  replace b8 := b8N; clear b8N
  replace z3 := z3N; clear z3N
  replace z5 := z5N; clear z5N
  refine NoPanic.normal ?_
  clear hT hS' y0 hHeld
  go_upto_region 2 with fail
  refine wp_name ?_
  intro V12 hV
  rw [← hV] at b2 b3 b4 b5 b7 b8 z3 z5 xw
  clear hV
  have b8_c0 := b8.c0
  have b8_c1 := b8.c1
  go_wp2_with fail
  refine (HSgn.out _ _ _ _ b _ z5 (B5.fit (by omega))).mono ?_
  rintro e w13 ⟨rfl, x13⟩
  replace x13 : Ext _ w13 := x13
  clear b8_c0 b8_c1
  replace b2 := b2.ext x13
  replace b3 := b3.ext x13
  replace b4 := b4.ext x13
  replace b5 := b5.ext x13
  replace b7 := b7.ext x13
  replace b8 := b8.ext x13
  replace z3 := z3.ext x13
  replace z5 := z5.ext x13
  replace xw := Ext.trans xw x13
  go_upto_region 4 with fail
  have b7_c0 := b7.c0
  have b7_c1 := b7.c1
  have b8_c0 := b8.c0
  have b8_c1 := b8.c1
  go_wp2_with fail
  refine (HCut.out 128 (by omega) _ _ _ _ _ _ _ _ a b _ z3 z5 B3 B5 D0.out).mono ?_
  rintro e w14 ⟨n14q, a14q, l14q, c14q, n14r, a14r, l14r, c14r, rfl, z14q, z14r, x14⟩
  replace x14 : Ext _ w14 := x14
  have B14q : Bits 128 (a.tdiv b) := tdiv_b B3
  have B14r : Bits 128 (a.tmod b) := tmod_b B5 D0.out
  clear b7_c0 b7_c1 b8_c0 b8_c1
  replace b2 := b2.ext x14
  replace b3 := b3.ext x14
  replace b4 := b4.ext x14
  replace b5 := b5.ext x14
  replace b7 := b7.ext x14
  replace b8 := b8.ext x14
  replace z3 := z3.ext x14
  replace z5 := z5.ext x14
  replace xw := Ext.trans xw x14
  go_upto_region 5 with fail
  have o16 := b7.kind.lt
  have o17 := b8.kind.lt
  have o18 := xw.size
  refine wp_name ?_
  intro V15 hV
  have b2N : Box2 V15 w.heap.size (.int .i64 (hi a)) (.int .u64 (lo a)) 26 := by rw [hV]; exact ((b2).alloc _).alloc _
  have b3N : Box2 V15 (w.heap.size + 1) (.int .i64 (hi b)) (.int .u64 (lo b)) 26 := by rw [hV]; exact ((b3).alloc _).alloc _
  have b4N : Box2 V15 (w.heap.size + 1 + 1) (.int .i64 0) (.int .u64 0) 26 := by rw [hV]; exact ((b4).alloc _).alloc _
  have b5N : Box2 V15 (w.heap.size + 1 + 1 + 1) (.int .i64 0) (.int .u64 0) 26 := by rw [hV]; exact ((b5).alloc _).alloc _
  have b7N : Box2 V15 k7 (.bool n3) (.slice a3 l3 c3) 37 := by rw [hV]; exact ((b7).alloc _).alloc _
  have b8N : Box2 V15 k8 (.bool n5) (.slice a5 l5 c5) 37 := by rw [hV]; exact ((b8).alloc _).alloc _
  have z3N : IsZ V15 n3 (.slice a3 l3 c3) a := by rw [hV]; exact ((z3).alloc _).alloc _
  have z5N : IsZ V15 n5 (.slice a5 l5 c5) b := by rw [hV]; exact ((z5).alloc _).alloc _
  have z14qN : IsZ V15 n14q (.slice a14q l14q c14q) (a.tdiv b) := by rw [hV]; exact ((z14q).alloc _).alloc _
  have z14rN : IsZ V15 n14r (.slice a14r l14r c14r) (a.tmod b) := by rw [hV]; exact ((z14r).alloc _).alloc _
  replace xw : Ext w V15 := by rw [hV]; exact Ext.alloc (Ext.alloc (xw))
  replace b2 := b2N; clear b2N
  replace b3 := b3N; clear b3N
  replace b4 := b4N; clear b4N
  replace b5 := b5N; clear b5N
  replace b7 := b7N; clear b7N
  replace b8 := b8N; clear b8N
  replace z3 := z3N; clear z3N
  replace z5 := z5N; clear z5N
  replace z14q := z14qN; clear z14qN
  replace z14r := z14rN; clear z14rN
  have b9 : Box2 V15 w14.heap.size (.bool n14q) (.slice a14q l14q c14q) 37 := by rw [hV]; exact (Box2.new rfl).alloc _
  have b10 : Box2 V15 (w14.heap.size + 1) (.bool n14r) (.slice a14r l14r c14r) 37 := by rw [hV]; exact Box2.new (by simp)
  clear hV
  have b9_c0 := b9.c0
  have b9_c1 := b9.c1
  have b10_c0 := b10.c0
  have b10_c1 := b10.c1
  go_wp2_with fail
  refine (HTq.out _ _ _ _ _ _ _ _ (a.tdiv b) (a.tmod b) _ z14q z14r (B14q.mono (by omega)) (B14r.mono (by omega)) hrW).mono ?_
  rintro e w19 ⟨rfl, x19⟩
  clear b9_c0 b9_c1 b10_c0 b10_c1
  replace b2 := b2.ext x19
  replace b3 := b3.ext x19
  replace b4 := b4.ext x19
  replace b5 := b5.ext x19
  replace b7 := b7.ext x19
  replace b8 := b8.ext x19
  replace b9 := b9.ext x19
  replace b10 := b10.ext x19
  replace z3 := z3.ext x19
  replace z5 := z5.ext x19
  replace z14q := z14q.ext x19
  replace z14r := z14r.ext x19
  replace xw := Ext.trans xw x19
  have b4_c0 := b4.c0
  have b4_c1 := b4.c1
  have b4_f0 := b4.f0
  have b4_f1 := b4.f1
  have b5_c0 := b5.c0
  have b5_c1 := b5.c1
  have b5_f0 := b5.f0
  have b5_f1 := b5.f1
  have xr := Ext.set (Ext.set (Ext.set (Ext.set (xw) (k := w.heap.size + 1 + 1) (o := 0) (u := .int .i64 (thi (a.tdiv b))) (by omega)) (k := w.heap.size + 1 + 1) (o := 1) (u := .int .u64 (tlo (a.tdiv b))) (by omega)) (k := w.heap.size + 1 + 1 + 1) (o := 0) (u := .int .i64 (qh (a.tdiv b) (a.tmod b))) (by omega)) (k := w.heap.size + 1 + 1 + 1) (o := 1) (u := .int .u64 (ql (a.tdiv b) (a.tmod b))) (by omega)
  go_wp2_with fail
  refine bodyPost_ret (v := .tuple #[.agg #[.int .i64 (thi (a.tdiv b)), .int .u64 (tlo (a.tdiv b))], .agg #[.int .i64 (qh (a.tdiv b) (a.tmod b)), .int .u64 (ql (a.tdiv b) (a.tmod b))], .int .i64 (ter (a.tdiv b))]) (by simp [results, Try.results60, go_sem, b4_c0, b4_c1, b5_c0, b5_c1]) rfl ⟨rfl, xr⟩
theorem ztrunc_any (a b : Int) (w : World) (ha : W128 a) (hb : W128 b) :
    Calls Try.prog 60 #[.agg #[.int .i64 (hi a), .int .u64 (lo a)], .agg #[.int .i64 (hi b), .int .u64 (lo b)]] w (RetF w b (a.tdiv b) (a.tmod b)) := by
  by_cases h0 : b = 0
  · subst h0; exact ztrunc0 a 0 w ha hb rfl _ _
  · exact (ztrunc a b w ha hb h0).mono fun e w' h => retF_q h0 h
end Go.Proofs.Ytmkddcmfofabbaa
