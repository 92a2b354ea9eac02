/-
  The reference's Cut of layer 3.
-/
import Derived.Test.YtmkddcmfofabbaaNm
import Derived.Test.YtmkddcmfofabbaaLwBys
namespace Go.Proofs.Ytmkddcmfofabbaa
open Go Go.RowKit

theorem cut_same {a b : Int} (h : decide (a < 0) = decide (b < 0)) : Int.fdiv a.natAbs b.natAbs = a.tdiv b := by
  rw [Int.fdiv_eq_ediv_of_nonneg _ (by omega), ← tdiv_mag a b, h]
  simp only [beq_self_eq_true, Bool.not_true, wsg_f]
  rw [mag_abs, mag_abs]
theorem cut_other {a b : Int} (h : ¬ decide (a < 0) = decide (b < 0)) : -(Int.fdiv a.natAbs b.natAbs) = a.tdiv b := by
  rw [Int.fdiv_eq_ediv_of_nonneg _ (by omega), ← tdiv_mag a b, beq_false_of_ne h]
  simp only [Bool.not_false, wsg_t]
  rw [mag_abs, mag_abs]
set_option maxRecDepth 100000 in
set_option maxHeartbeats 3200000 in
theorem zcut (K : Nat) (hK : K ≤ 30000) (na nb : Bool) (aa ab : Option Addr) (la ca lb cb : Nat) (a b : Int) (w : World) (za : IsZ w na (.slice aa la ca) a) (zb : IsZ w nb (.slice ab lb cb) b) (Ba : Bits K a) (Bb : Bits K b) (h0 : b ≠ 0) :
    Calls Try.prog 107 #[.agg #[.bool na, .slice aa la ca], .agg #[.bool nb, .slice ab lb cb]] w (RetZZ w (a.tdiv b) (a.tmod b)) := by
  have HAbs := Lib.hid abs_any
  have HDiv := Lib.hid div_z
  have HNeg := Lib.hid neg_any
  have HMul := Lib.hid mul_z
  have HSub := Lib.hid sub_z
  have BQ : Bits K (a.tdiv b) := Ba.le (by rw [tdiv_nat]; exact Nat.div_le_self _ _)
  have D0 : ((b.natAbs : Nat) : Int) ≠ 0 := by omega
  have HM := Lib.hid (show a - (a.tdiv b) * b = a.tmod b by rw [Int.tmod_def, Int.mul_comm])
  clear h0
  go_enter Try.func107, Try.ntmps107
  go_upto_region 1 with fail
  have xw := Ext.refl w
  refine wp_name ?_
  intro V1 hV
  have zaN : IsZ V1 na (.slice aa la ca) a := by rw [hV]; exact ((((za).alloc _).alloc _).alloc _).alloc _
  have zbN : IsZ V1 nb (.slice ab lb cb) b := by rw [hV]; exact ((((zb).alloc _).alloc _).alloc _).alloc _
  replace xw : Ext w V1 := by rw [hV]; exact Ext.alloc (Ext.alloc (Ext.alloc (Ext.alloc (xw))))
  replace za := zaN; clear zaN
  replace zb := zbN; clear zbN
  have b2 : Box2 V1 w.heap.size (.bool na) (.slice aa la ca) 37 := by rw [hV]; exact (((Box2.new rfl).alloc _).alloc _).alloc _
  have b3 : Box2 V1 (w.heap.size + 1) (.bool nb) (.slice ab lb cb) 37 := by rw [hV]; exact ((Box2.new (by simp)).alloc _).alloc _
  have b4 : Box2 V1 (w.heap.size + 1 + 1) (.bool false) (.slice none 0 0) 37 := by rw [hV]; exact (Box2.new (by simp)).alloc _
  have b5 : Box2 V1 (w.heap.size + 1 + 1 + 1) (.bool false) (.slice none 0 0) 37 := by rw [hV]; exact Box2.new (by simp)
  clear hV
  refine wp_region_noPanic ?_
  refine wp_region_held_drew (S := fun w' => Ext V1 w') (by kernel_rfl) (Ext.refl V1).drew (fun hHeld => ?_)
  have b2_d0 := fun w' (h : Ext V1 w') => (b2.ext h).c0
  have b2_d1 := fun w' (h : Ext V1 w') => (b2.ext h).c1
  have b3_d0 := fun w' (h : Ext V1 w') => (b3.ext h).c0
  have b3_d1 := fun w' (h : Ext V1 w') => (b3.ext h).c1
  refine wpAnyH_take (i := 0) (v := .agg #[.bool na, .slice aa la ca]) rfl (by kernel_rfl) (by kernel_rfl) (by kernel_rfl) (fun _ _ _ h => h) (Or.inl ⟨by kernel_rfl, fun w' h => (by go_simp)⟩) hHeld ?_
  refine wpAnyH_take (i := 2) (v := .agg #[.bool nb, .slice ab lb cb]) rfl (by kernel_rfl) (by kernel_rfl) (by kernel_rfl) (fun _ _ _ h => h) (Or.inl ⟨by kernel_rfl, fun w' h => (by go_simp)⟩) hHeld ?_
  refine region2 (N := 12) (f0 := [0, 2]) (l := [(1, false), (3, false), (4, false), (5, true), (6, true), (7, true)]) (T := [10, 11]) (iA := 8) (dA := 6) (iB := 9) (dB := 7) (oA := .cells #[.bool false, .slice none 0 0] 37) (oB := .cells #[.bool false, .slice none 0 0] 37) (fun _ _ _ _ _ h => h) (by kernel_rfl) (by kernel_rfl) rfl (by kernel_rfl) (by kernel_rfl)
    (fun K a w h => wpOp_of rfl fun K' hK => (by go_simp; exact hK _ _ h)) (fun K a w h => wpOp_of rfl fun K' hK => (by go_simp; exact hK _ _ h)) (by decide) (by simp [Act.put]) (by simp [Act.put]) (fun _ _ h x => h.trans x) hHeld ?_
  have y0 : Ext V1 V1.drew := (Ext.refl V1).drew
  intro a1 v2 h1 yv2
  obtain ⟨s12, s22, rfl⟩ := away2 h1; refine wpOp_of rfl fun K' hK => ?_; go_simp
  replace y0 := Ext.trans y0 yv2
  have zaC := za.ext y0
  refine (HAbs.out _ _ _ _ a _ zaC (Ba.fit (by omega))).mono ?_
  rintro e w3 ⟨n3, a3, l3, c3, rfl, z3, x3⟩
  replace x3 : Ext _ w3 := x3
  have B3 : Bits K ((a.natAbs : Int)) := Ba.abs
  clear zaC
  refine hK _ _ ⟨⟨x3, rfl, slots2 rfl rfl⟩, ?_⟩; clear hK K'
  replace y0 := Ext.trans y0 x3
  intro a1 v4 h1 yv4
  obtain ⟨s14, s24, rfl⟩ := away2 h1; refine wpOp_of rfl fun K' hK => ?_; go_simp
  replace y0 := Ext.trans y0 yv4
  replace z3 := z3.ext yv4
  have zbC := zb.ext y0
  refine (HAbs.out _ _ _ _ b _ zbC (Bb.fit (by omega))).mono ?_
  rintro e w5 ⟨n5, a5, l5, c5, rfl, z5, x5⟩
  replace x5 : Ext _ w5 := x5
  have B5 : Bits K ((b.natAbs : Int)) := Bb.abs
  clear zbC
  refine hK _ _ ⟨⟨x5, rfl, slots2 rfl rfl⟩, ?_⟩; clear hK K'
  replace y0 := Ext.trans y0 x5
  replace z3 := z3.ext x5
  intro a1 v6 h1 yv6
  obtain ⟨s16, s26, rfl⟩ := away2 h1; refine wpOp_of rfl fun K' hK => ?_; go_simp
  replace y0 := Ext.trans y0 yv6
  replace z3 := z3.ext yv6
  replace z5 := z5.ext yv6
  refine (HDiv.out _ _ _ _ _ _ _ _ (a.natAbs : Int) (b.natAbs : Int) _ z3 z5 K (by omega) B3 B5 D0).mono ?_
  rintro e w7 ⟨n7q, a7q, l7q, c7q, n7r, a7r, l7r, c7r, rfl, z7q, z7r, x7⟩
  replace x7 : Ext _ w7 := x7
  have B7q : Bits (K + 1) ((a.natAbs : Int).fdiv (b.natAbs : Int)) := fdiv_b B3 D0
  have B7r : Bits K ((a.natAbs : Int).fmod (b.natAbs : Int)) := fmod_b B5 D0
  refine hK _ _ ⟨⟨x7, rfl, slots2 rfl rfl⟩, ?_⟩; clear hK K'
  replace y0 := Ext.trans y0 x7
  replace z3 := z3.ext x7
  replace z5 := z5.ext x7
  refine ⟨_, .tuple #[.agg #[.bool n7q, .slice a7q l7q c7q], .agg #[.bool n7r, .slice a7r l7r c7r]], rfl, Or.inl ⟨by rfl, fun w' h => (by go_simp)⟩, by simp, ?_⟩
  refine ⟨_, .agg #[.bool n7q, .slice a7q l7q c7q], rfl, Or.inl ⟨by rfl, fun w' h => (by go_simp)⟩, by simp, ?_⟩
  refine ⟨_, .agg #[.bool n7r, .slice a7r l7r c7r], rfl, Or.inl ⟨by rfl, fun w' h => (by go_simp)⟩, by simp, ?_⟩
  intro a' v8 h yv8
  obtain ⟨s18, s28, rfl⟩ := away2 h
  rintro k6 k7 ⟨k6a, k6b, k6c⟩ ⟨k7a, k7b, k7c⟩ k6ne hS'
  replace y0 := Ext.trans y0 yv8
  replace z3 := z3.ext yv8
  replace z5 := z5.ext yv8
  replace z7q := z7q.ext yv8
  replace z7r := z7r.ext yv8
  simp [Act.put] at k6b; subst k6b; replace k6a : V1.heap.size ≤ k6 := k6a
  simp [Act.put] at k7b; subst k7b; replace k7a : V1.heap.size ≤ k7 := k7a
  clear b2_d0 b2_d1 b3_d0 b3_d1
  have o9 := b2.kind.lt
  have o10 := b3.kind.lt
  have o11 := b4.kind.lt
  have o12 := b5.kind.lt
  have o13 := xw.size
  replace b2 := b2.ext y0
  replace b3 := b3.ext y0
  replace b4 := b4.ext y0
  replace b5 := b5.ext y0
  replace za := za.ext y0
  replace zb := zb.ext y0
  replace xw := Ext.trans xw y0
  have b6 : Box2 v8 k6 (.bool false) (.slice none 0 0) 37 := k6c
  clear k6c
  have b7 : Box2 v8 k7 (.bool false) (.slice none 0 0) 37 := k7c
  clear k7c
  have hT : Ext V1 v8 := hS'
  have b6_c0 := b6.c0
  have b6_c1 := b6.c1
  have b6_f0 := b6.f0
  have b6_f1 := b6.f1
  refine wpOp_of rfl fun K' hK => ?_
  go_simp
  clear b6_c0 b6_c1 b6_f0 b6_f1
  replace hT := Ext.set (Ext.set hT (k := k6) (o := 0) (u := .bool n7q) k6a) (k := k6) (o := 1) (u := .slice a7q l7q c7q) k6a
  refine hK _ _ ⟨hT, ?_⟩
  clear hK K'
  have b2N := (b2).other2 (b := k6) (by omega) (.bool n7q) (.slice a7q l7q c7q)
  have b3N := (b3).other2 (b := k6) (by omega) (.bool n7q) (.slice a7q l7q c7q)
  have b4N := (b4).other2 (b := k6) (by omega) (.bool n7q) (.slice a7q l7q c7q)
  have b5N := (b5).other2 (b := k6) (by omega) (.bool n7q) (.slice a7q l7q c7q)
  have b6N := (b6).set (.bool n7q) (.slice a7q l7q c7q)
  have b7N := (b7).other2 (b := k6) (by omega) (.bool n7q) (.slice a7q l7q c7q)
  have zaN := (za).set2 (b6).kind (by decide) (.bool n7q) (.slice a7q l7q c7q)
  have zbN := (zb).set2 (b6).kind (by decide) (.bool n7q) (.slice a7q l7q c7q)
  have z3N := (z3).set2 (b6).kind (by decide) (.bool n7q) (.slice a7q l7q c7q)
  have z5N := (z5).set2 (b6).kind (by decide) (.bool n7q) (.slice a7q l7q c7q)
  have z7qN := (z7q).set2 (b6).kind (by decide) (.bool n7q) (.slice a7q l7q c7q)
  have z7rN := (z7r).set2 (b6).kind (by decide) (.bool n7q) (.slice a7q l7q c7q)
  replace xw := Ext.set (Ext.set xw (k := k6) (o := 0) (u := .bool n7q) (by omega)) (k := k6) (o := 1) (u := .slice a7q l7q c7q) (by omega)
  replace b2 := b2N; clear b2N
  replace b3 := b3N; clear b3N
  replace b4 := b4N; clear b4N
  replace b5 := b5N; clear b5N
  replace b6 := b6N; clear b6N
  replace b7 := b7N; clear b7N
  replace za := zaN; clear zaN
  replace zb := zbN; clear zbN
  replace z3 := z3N; clear z3N
  replace z5 := z5N; clear z5N
  replace z7q := z7qN; clear z7qN
  replace z7r := z7rN; clear z7rN
  have b7_c0 := b7.c0
  have b7_c1 := b7.c1
  have b7_f0 := b7.f0
  have b7_f1 := b7.f1
  refine wpOp_of rfl fun K' hK => ?_
  go_simp
  clear b7_c0 b7_c1 b7_f0 b7_f1
  replace hT := Ext.set (Ext.set hT (k := k7) (o := 0) (u := .bool n7r) k7a) (k := k7) (o := 1) (u := .slice a7r l7r c7r) k7a
  refine hK _ _ ⟨hT, ?_⟩
  clear hK K'
  have b2N := (b2).other2 (b := k7) (by omega) (.bool n7r) (.slice a7r l7r c7r)
  have b3N := (b3).other2 (b := k7) (by omega) (.bool n7r) (.slice a7r l7r c7r)
  have b4N := (b4).other2 (b := k7) (by omega) (.bool n7r) (.slice a7r l7r c7r)
  have b5N := (b5).other2 (b := k7) (by omega) (.bool n7r) (.slice a7r l7r c7r)
  have b6N := (b6).other2 (b := k7) (by omega) (.bool n7r) (.slice a7r l7r c7r)
  have b7N := (b7).set (.bool n7r) (.slice a7r l7r c7r)
  have zaN := (za).set2 (b7).kind (by decide) (.bool n7r) (.slice a7r l7r c7r)
  have zbN := (zb).set2 (b7).kind (by decide) (.bool n7r) (.slice a7r l7r c7r)
  have z3N := (z3).set2 (b7).kind (by decide) (.bool n7r) (.slice a7r l7r c7r)
  have z5N := (z5).set2 (b7).kind (by decide) (.bool n7r) (.slice a7r l7r c7r)
  have z7qN := (z7q).set2 (b7).kind (by decide) (.bool n7r) (.slice a7r l7r c7r)
  have z7rN := (z7r).set2 (b7).kind (by decide) (.bool n7r) (.slice a7r l7r c7r)
  replace xw := Ext.set (Ext.set xw (k := k7) (o := 0) (u := .bool n7r) (by omega)) (k := k7) (o := 1) (u := .slice a7r l7r c7r) (by omega)
  replace b2 := b2N; clear b2N
  replace b3 := b3N; clear b3N
  replace b4 := b4N; clear b4N
  replace b5 := b5N; clear b5N
  replace b6 := b6N; clear b6N
  replace b7 := b7N; clear b7N
  replace za := zaN; clear zaN
  replace zb := zbN; clear zbN
  replace z3 := z3N; clear z3N
  replace z5 := z5N; clear z5N
  replace z7q := z7qN; clear z7qN
  replace z7r := z7rN; clear z7rN
  refine NoPanic.normal ?_
  clear hT hS' y0 hHeld
  go_upto_region 2 with fail
  refine wp_name ?_
  intro V14 hV
  rw [← hV] at b2 b3 b4 b5 b6 b7 za zb z3 z5 z7q z7r xw
  clear hV
  clear z3 z5
  have na' := (isZ_sign za).2
  have nb' := (isZ_sign zb).2
  by_cases hs : na = nb
  · have e : (a.natAbs : Int).fdiv (b.natAbs : Int) = a.tdiv b := cut_same (by rw [← na', ← nb']; exact hs)
    rw [e] at z7q
    clear na' nb' e
    subst hs
    have b2_c0 := b2.c0
    have b2_c1 := b2.c1
    have b3_c0 := b3.c0
    have b3_c1 := b3.c1
    go_upto_region 4 with fail
    clear b2_c0 b2_c1 b3_c0 b3_c1
    refine wp_region_noPanic ?_
    have b6D := b6.drew
    have b2D := b2.drew
    have b3D := b3.drew
    refine wp_region_held_drew (S := fun w' => w'.cell? ⟨k6, 0, none⟩ = some (.bool n7q) ∧ w'.cell? ⟨k6, 1, none⟩ = some (.slice a7q l7q c7q) ∧ w'.cell? ⟨w.heap.size, 0, none⟩ = some (.bool na) ∧ w'.cell? ⟨w.heap.size, 1, none⟩ = some (.slice aa la ca) ∧ w'.cell? ⟨w.heap.size + 1, 0, none⟩ = some (.bool na) ∧ w'.cell? ⟨w.heap.size + 1, 1, none⟩ = some (.slice ab lb cb)) (by kernel_rfl) ⟨b6D.c0, b6D.c1, b2D.c0, b2D.c1, b3D.c0, b3D.c1⟩ (fun hHeld => ?_)
    refine wpAnyH_take (i := 0) (v := .agg #[.bool n7q, .slice a7q l7q c7q]) rfl (by kernel_rfl) (by kernel_rfl) (by kernel_rfl) (fun _ _ _ h => h) (Or.inl ⟨by kernel_rfl, fun w' h => (by obtain ⟨h0, h1, h2, h3, h4, h5⟩ := h; go_simp)⟩) hHeld ?_
    refine wpAnyH_take (i := 1) (v := .agg #[.bool na, .slice aa la ca]) rfl (by kernel_rfl) (by kernel_rfl) (by kernel_rfl) (fun _ _ _ h => h) (Or.inl ⟨by kernel_rfl, fun w' h => (by obtain ⟨h0, h1, h2, h3, h4, h5⟩ := h; go_simp)⟩) hHeld ?_
    refine wpAnyH_take (i := 2) (v := .agg #[.bool n7q, .slice a7q l7q c7q]) rfl (by kernel_rfl) (by kernel_rfl) (by kernel_rfl) (fun _ _ _ h => h) (Or.inl ⟨by kernel_rfl, fun w' h => (by obtain ⟨h0, h1, h2, h3, h4, h5⟩ := h; go_simp)⟩) hHeld ?_
    refine wpAnyH_take (i := 3) (v := .agg #[.bool na, .slice ab lb cb]) rfl (by kernel_rfl) (by kernel_rfl) (by kernel_rfl) (fun _ _ _ h => h) (Or.inl ⟨by kernel_rfl, fun w' h => (by obtain ⟨h0, h1, h2, h3, h4, h5⟩ := h; go_simp)⟩) hHeld ?_
    clear b6D b2D b3D
    have y0 : Ext V14 V14.drew := (Ext.refl V14).drew
    replace b2 := b2.ext y0
    replace b3 := b3.ext y0
    replace b4 := b4.ext y0
    replace b5 := b5.ext y0
    replace b6 := b6.ext y0
    replace b7 := b7.ext y0
    replace za := za.ext y0
    replace zb := zb.ext y0
    replace z7q := z7q.ext y0
    replace z7r := z7r.ext y0
    replace xw := Ext.trans xw y0
    clear y0
    refine wpAnyH_all (rs := [4]) (by kernel_rfl) (by simp) ?_; intro j hj; obtain rfl := List.mem_singleton.1 hj; clear hj; refine wpOp_of rfl fun K' hK => ?_; go_simp
    refine (HMul.out _ _ _ _ _ _ _ _ (a.tdiv b) b _ z7q zb (BQ.fit (by omega)) (Bb.fit (by omega))).mono ?_
    rintro e w15 ⟨n15, a15, l15, c15, rfl, z15, x15⟩
    replace x15 : Ext _ w15 := x15
    have B15 : Bits (K + K) ((a.tdiv b) * b) := BQ.mul Bb
    replace b2 := b2.ext x15
    replace b3 := b3.ext x15
    replace b4 := b4.ext x15
    replace b5 := b5.ext x15
    replace b6 := b6.ext x15
    replace b7 := b7.ext x15
    replace za := za.ext x15
    replace zb := zb.ext x15
    replace z7q := z7q.ext x15
    replace z7r := z7r.ext x15
    replace xw := Ext.trans xw x15
    refine hK _ _ ⟨⟨b6.c0, b6.c1, b2.c0, b2.c1, b3.c0, b3.c1⟩, ?_⟩; clear hK K' hHeld
    have hHeld := (show w15.cell? ⟨k6, 0, none⟩ = some (.bool n7q) ∧ w15.cell? ⟨k6, 1, none⟩ = some (.slice a7q l7q c7q) ∧ w15.cell? ⟨w.heap.size, 0, none⟩ = some (.bool na) ∧ w15.cell? ⟨w.heap.size, 1, none⟩ = some (.slice aa la ca) ∧ w15.cell? ⟨w.heap.size + 1, 0, none⟩ = some (.bool na) ∧ w15.cell? ⟨w.heap.size + 1, 1, none⟩ = some (.slice ab lb cb) from ⟨b6.c0, b6.c1, b2.c0, b2.c1, b3.c0, b3.c1⟩)
    refine wpAnyH_all (rs := [5]) (by kernel_rfl) (by simp) ?_; intro j hj; obtain rfl := List.mem_singleton.1 hj; clear hj; refine wpOp_of rfl fun K' hK => ?_; go_simp
    refine (HSub.out _ _ _ _ _ _ _ _ a ((a.tdiv b) * b) _ za z15 (Ba.fit (by omega)) (B15.fit (by omega))).mono ?_
    rintro e w16 ⟨n16, a16, l16, c16, rfl, z16, x16⟩
    replace x16 : Ext _ w16 := x16
    have B16 : Bits ((K + (K + K)) + 1) (a - ((a.tdiv b) * b)) := (Ba.mono (by omega)).sub (B15.mono (by omega))
    replace b2 := b2.ext x16
    replace b3 := b3.ext x16
    replace b4 := b4.ext x16
    replace b5 := b5.ext x16
    replace b6 := b6.ext x16
    replace b7 := b7.ext x16
    replace za := za.ext x16
    replace zb := zb.ext x16
    replace z7q := z7q.ext x16
    replace z7r := z7r.ext x16
    replace z15 := z15.ext x16
    replace xw := Ext.trans xw x16
    refine hK _ _ ⟨⟨b6.c0, b6.c1, b2.c0, b2.c1, b3.c0, b3.c1⟩, ?_⟩; clear hK K' hHeld
    have hHeld := (show w16.cell? ⟨k6, 0, none⟩ = some (.bool n7q) ∧ w16.cell? ⟨k6, 1, none⟩ = some (.slice a7q l7q c7q) ∧ w16.cell? ⟨w.heap.size, 0, none⟩ = some (.bool na) ∧ w16.cell? ⟨w.heap.size, 1, none⟩ = some (.slice aa la ca) ∧ w16.cell? ⟨w.heap.size + 1, 0, none⟩ = some (.bool na) ∧ w16.cell? ⟨w.heap.size + 1, 1, none⟩ = some (.slice ab lb cb) from ⟨b6.c0, b6.c1, b2.c0, b2.c1, b3.c0, b3.c1⟩)
    have b4_c0 := b4.c0
    have b4_c1 := b4.c1
    have b4_f0 := b4.f0
    have b4_f1 := b4.f1
    refine wpAnyH_all (rs := [6]) (by kernel_rfl) (by simp) ?_; intro j hj; obtain rfl := List.mem_singleton.1 hj; clear hj; refine wpOp_of rfl fun K' hK => ?_; go_simp
    clear b4_c0 b4_c1 b4_f0 b4_f1
    have b2N := (b2).other2 (b := w.heap.size + 1 + 1) (by omega) (.bool n7q) (.slice a7q l7q c7q)
    have b3N := (b3).other2 (b := w.heap.size + 1 + 1) (by omega) (.bool n7q) (.slice a7q l7q c7q)
    have b4N := (b4).set (.bool n7q) (.slice a7q l7q c7q)
    have b5N := (b5).other2 (b := w.heap.size + 1 + 1) (by omega) (.bool n7q) (.slice a7q l7q c7q)
    have b6N := (b6).other2 (b := w.heap.size + 1 + 1) (by omega) (.bool n7q) (.slice a7q l7q c7q)
    have b7N := (b7).other2 (b := w.heap.size + 1 + 1) (by omega) (.bool n7q) (.slice a7q l7q c7q)
    have zaN := (za).set2 (b4).kind (by decide) (.bool n7q) (.slice a7q l7q c7q)
    have zbN := (zb).set2 (b4).kind (by decide) (.bool n7q) (.slice a7q l7q c7q)
    have z7qN := (z7q).set2 (b4).kind (by decide) (.bool n7q) (.slice a7q l7q c7q)
    have z7rN := (z7r).set2 (b4).kind (by decide) (.bool n7q) (.slice a7q l7q c7q)
    have z15N := (z15).set2 (b4).kind (by decide) (.bool n7q) (.slice a7q l7q c7q)
    have z16N := (z16).set2 (b4).kind (by decide) (.bool n7q) (.slice a7q l7q c7q)
    replace xw := Ext.set (Ext.set xw (k := w.heap.size + 1 + 1) (o := 0) (u := .bool n7q) (by omega)) (k := w.heap.size + 1 + 1) (o := 1) (u := .slice a7q l7q c7q) (by omega)
    replace b2 := b2N; clear b2N
    replace b3 := b3N; clear b3N
    replace b4 := b4N; clear b4N
    replace b5 := b5N; clear b5N
    replace b6 := b6N; clear b6N
    replace b7 := b7N; clear b7N
    replace za := zaN; clear zaN
    replace zb := zbN; clear zbN
    replace z7q := z7qN; clear z7qN
    replace z7r := z7rN; clear z7rN
    replace z15 := z15N; clear z15N
    replace z16 := z16N; clear z16N
    refine hK _ _ ⟨⟨b6.c0, b6.c1, b2.c0, b2.c1, b3.c0, b3.c1⟩, ?_⟩; clear hK K' hHeld
    have hHeld := (⟨b6.c0, b6.c1, b2.c0, b2.c1, b3.c0, b3.c1⟩ : _ ∧ _ ∧ _ ∧ _ ∧ _ ∧ _)
    have b5_c0 := b5.c0
    have b5_c1 := b5.c1
    have b5_f0 := b5.f0
    have b5_f1 := b5.f1
    refine wpAnyH_all (rs := [7]) (by kernel_rfl) (by simp) ?_; intro j hj; obtain rfl := List.mem_singleton.1 hj; clear hj; refine wpOp_of rfl fun K' hK => ?_; go_simp
    clear b5_c0 b5_c1 b5_f0 b5_f1
    have b2N := (b2).other2 (b := w.heap.size + 1 + 1 + 1) (by omega) (.bool n16) (.slice a16 l16 c16)
    have b3N := (b3).other2 (b := w.heap.size + 1 + 1 + 1) (by omega) (.bool n16) (.slice a16 l16 c16)
    have b4N := (b4).other2 (b := w.heap.size + 1 + 1 + 1) (by omega) (.bool n16) (.slice a16 l16 c16)
    have b5N := (b5).set (.bool n16) (.slice a16 l16 c16)
    have b6N := (b6).other2 (b := w.heap.size + 1 + 1 + 1) (by omega) (.bool n16) (.slice a16 l16 c16)
    have b7N := (b7).other2 (b := w.heap.size + 1 + 1 + 1) (by omega) (.bool n16) (.slice a16 l16 c16)
    have zaN := (za).set2 (b5).kind (by decide) (.bool n16) (.slice a16 l16 c16)
    have zbN := (zb).set2 (b5).kind (by decide) (.bool n16) (.slice a16 l16 c16)
    have z7qN := (z7q).set2 (b5).kind (by decide) (.bool n16) (.slice a16 l16 c16)
    have z7rN := (z7r).set2 (b5).kind (by decide) (.bool n16) (.slice a16 l16 c16)
    have z15N := (z15).set2 (b5).kind (by decide) (.bool n16) (.slice a16 l16 c16)
    have z16N := (z16).set2 (b5).kind (by decide) (.bool n16) (.slice a16 l16 c16)
    replace xw := Ext.set (Ext.set xw (k := w.heap.size + 1 + 1 + 1) (o := 0) (u := .bool n16) (by omega)) (k := w.heap.size + 1 + 1 + 1) (o := 1) (u := .slice a16 l16 c16) (by omega)
    replace b2 := b2N; clear b2N
    replace b3 := b3N; clear b3N
    replace b4 := b4N; clear b4N
    replace b5 := b5N; clear b5N
    replace b6 := b6N; clear b6N
    replace b7 := b7N; clear b7N
    replace za := zaN; clear zaN
    replace zb := zbN; clear zbN
    replace z7q := z7qN; clear z7qN
    replace z7r := z7rN; clear z7rN
    replace z15 := z15N; clear z15N
    replace z16 := z16N; clear z16N
    refine hK _ _ ⟨⟨b6.c0, b6.c1, b2.c0, b2.c1, b3.c0, b3.c1⟩, ?_⟩; clear hK K' hHeld
    have hHeld := (⟨b6.c0, b6.c1, b2.c0, b2.c1, b3.c0, b3.c1⟩ : _ ∧ _ ∧ _ ∧ _ ∧ _ ∧ _)
    refine ⟨by kernel_rfl, ?_⟩
    refine NoPanic.normal ?_
    clear hHeld
    have b4_c0 := b4.c0
    have b4_c1 := b4.c1
    have b4_f0 := b4.f0
    have b4_f1 := b4.f1
    have b5_c0 := b5.c0
    have b5_c1 := b5.c1
    have b5_f0 := b5.f0
    have b5_f1 := b5.f1
    have zr0 := z7q
    have zr1 := z16
    have xr := xw
    go_wp2_with fail
    refine bodyPost_ret (v := .tuple #[.agg #[.bool n7q, .slice a7q l7q c7q], .agg #[.bool n16, .slice a16 l16 c16]]) (by simp [results, Try.results107, go_sem, b4_c0, b4_c1, b5_c0, b5_c1]) rfl ⟨_, _, _, _, _, _, _, _, rfl, zr0, by rw [← HM.out]; exact zr1, xr⟩
  · have e : -((a.natAbs : Int).fdiv (b.natAbs : Int)) = a.tdiv b := cut_other (by rw [← na', ← nb']; exact hs)
    clear na' nb'
    have HE := Lib.hid e
    clear e
    have hs1 : (na == nb) = false := by simpa using hs
    have hs2 : (na != nb) = true := by simpa using hs
    have b2_c0 := b2.c0
    have b2_c1 := b2.c1
    have b3_c0 := b3.c0
    have b3_c1 := b3.c1
    go_upto_region 3 with fail
    clear b2_c0 b2_c1 b3_c0 b3_c1
    have b6_c0 := b6.c0
    have b6_c1 := b6.c1
    go_wp2_with fail
    refine (HNeg.out _ _ _ _ ((a.natAbs : Int).fdiv (b.natAbs : Int)) _ z7q (B7q.fit (by omega))).mono ?_
    rintro e w17 ⟨n17, a17, l17, c17, rfl, z17, x17⟩
    replace x17 : Ext _ w17 := x17
    have B17 : Bits (K + 1) (-((a.natAbs : Int).fdiv (b.natAbs : Int))) := B7q.neg
    clear b6_c0 b6_c1
    replace b2 := b2.ext x17
    replace b3 := b3.ext x17
    replace b4 := b4.ext x17
    replace b5 := b5.ext x17
    replace b6 := b6.ext x17
    replace b7 := b7.ext x17
    replace za := za.ext x17
    replace zb := zb.ext x17
    replace z7q := z7q.ext x17
    replace z7r := z7r.ext x17
    replace xw := Ext.trans xw x17
    have b6_c0 := b6.c0
    have b6_c1 := b6.c1
    have b6_f0 := b6.f0
    have b6_f1 := b6.f1
    go_upto_region 4 with fail
    clear b6_c0 b6_c1 b6_f0 b6_f1
    refine wp_name ?_
    intro V18 hV
    have b2N : Box2 V18 w.heap.size (.bool na) (.slice aa la ca) 37 := by rw [hV]; exact (b2).other2 (b := k6) (by omega) (.bool n17) (.slice a17 l17 c17)
    have b3N : Box2 V18 (w.heap.size + 1) (.bool nb) (.slice ab lb cb) 37 := by rw [hV]; exact (b3).other2 (b := k6) (by omega) (.bool n17) (.slice a17 l17 c17)
    have b4N : Box2 V18 (w.heap.size + 1 + 1) (.bool false) (.slice none 0 0) 37 := by rw [hV]; exact (b4).other2 (b := k6) (by omega) (.bool n17) (.slice a17 l17 c17)
    have b5N : Box2 V18 (w.heap.size + 1 + 1 + 1) (.bool false) (.slice none 0 0) 37 := by rw [hV]; exact (b5).other2 (b := k6) (by omega) (.bool n17) (.slice a17 l17 c17)
    have b6N : Box2 V18 k6 (.bool n17) (.slice a17 l17 c17) 37 := by rw [hV]; exact (b6).set (.bool n17) (.slice a17 l17 c17)
    have b7N : Box2 V18 k7 (.bool n7r) (.slice a7r l7r c7r) 37 := by rw [hV]; exact (b7).other2 (b := k6) (by omega) (.bool n17) (.slice a17 l17 c17)
    have zaN : IsZ V18 na (.slice aa la ca) a := by rw [hV]; exact (za).set2 (b6).kind (by decide) (.bool n17) (.slice a17 l17 c17)
    have zbN : IsZ V18 nb (.slice ab lb cb) b := by rw [hV]; exact (zb).set2 (b6).kind (by decide) (.bool n17) (.slice a17 l17 c17)
    have z7qN : IsZ V18 n7q (.slice a7q l7q c7q) ((a.natAbs : Int).fdiv (b.natAbs : Int)) := by rw [hV]; exact (z7q).set2 (b6).kind (by decide) (.bool n17) (.slice a17 l17 c17)
    have z7rN : IsZ V18 n7r (.slice a7r l7r c7r) ((a.natAbs : Int).fmod (b.natAbs : Int)) := by rw [hV]; exact (z7r).set2 (b6).kind (by decide) (.bool n17) (.slice a17 l17 c17)
    have z17N : IsZ V18 n17 (.slice a17 l17 c17) (-((a.natAbs : Int).fdiv (b.natAbs : Int))) := by rw [hV]; exact (z17).set2 (b6).kind (by decide) (.bool n17) (.slice a17 l17 c17)
    replace xw : Ext w V18 := by rw [hV]; exact Ext.set (Ext.set (xw) (k := k6) (o := 0) (u := .bool n17) (by omega)) (k := k6) (o := 1) (u := .slice a17 l17 c17) (by omega)
    replace b2 := b2N; clear b2N
    replace b3 := b3N; clear b3N
    replace b4 := b4N; clear b4N
    replace b5 := b5N; clear b5N
    replace b6 := b6N; clear b6N
    replace b7 := b7N; clear b7N
    replace za := zaN; clear zaN
    replace zb := zbN; clear zbN
    replace z7q := z7qN; clear z7qN
    replace z7r := z7rN; clear z7rN
    replace z17 := z17N; clear z17N
    clear hV
    clear z7q
    rw [HE.out] at z17
    refine wp_region_noPanic ?_
    have b6D := b6.drew
    have b2D := b2.drew
    have b3D := b3.drew
    refine wp_region_held_drew (S := fun w' => w'.cell? ⟨k6, 0, none⟩ = some (.bool n17) ∧ w'.cell? ⟨k6, 1, none⟩ = some (.slice a17 l17 c17) ∧ w'.cell? ⟨w.heap.size, 0, none⟩ = some (.bool na) ∧ w'.cell? ⟨w.heap.size, 1, none⟩ = some (.slice aa la ca) ∧ w'.cell? ⟨w.heap.size + 1, 0, none⟩ = some (.bool nb) ∧ w'.cell? ⟨w.heap.size + 1, 1, none⟩ = some (.slice ab lb cb)) (by kernel_rfl) ⟨b6D.c0, b6D.c1, b2D.c0, b2D.c1, b3D.c0, b3D.c1⟩ (fun hHeld => ?_)
    refine wpAnyH_take (i := 0) (v := .agg #[.bool n17, .slice a17 l17 c17]) rfl (by kernel_rfl) (by kernel_rfl) (by kernel_rfl) (fun _ _ _ h => h) (Or.inl ⟨by kernel_rfl, fun w' h => (by obtain ⟨h0, h1, h2, h3, h4, h5⟩ := h; go_simp)⟩) hHeld ?_
    refine wpAnyH_take (i := 1) (v := .agg #[.bool na, .slice aa la ca]) rfl (by kernel_rfl) (by kernel_rfl) (by kernel_rfl) (fun _ _ _ h => h) (Or.inl ⟨by kernel_rfl, fun w' h => (by obtain ⟨h0, h1, h2, h3, h4, h5⟩ := h; go_simp)⟩) hHeld ?_
    refine wpAnyH_take (i := 2) (v := .agg #[.bool n17, .slice a17 l17 c17]) rfl (by kernel_rfl) (by kernel_rfl) (by kernel_rfl) (fun _ _ _ h => h) (Or.inl ⟨by kernel_rfl, fun w' h => (by obtain ⟨h0, h1, h2, h3, h4, h5⟩ := h; go_simp)⟩) hHeld ?_
    refine wpAnyH_take (i := 3) (v := .agg #[.bool nb, .slice ab lb cb]) rfl (by kernel_rfl) (by kernel_rfl) (by kernel_rfl) (fun _ _ _ h => h) (Or.inl ⟨by kernel_rfl, fun w' h => (by obtain ⟨h0, h1, h2, h3, h4, h5⟩ := h; go_simp)⟩) hHeld ?_
    clear b6D b2D b3D
    have y0 : Ext V18 V18.drew := (Ext.refl V18).drew
    replace b2 := b2.ext y0
    replace b3 := b3.ext y0
    replace b4 := b4.ext y0
    replace b5 := b5.ext y0
    replace b6 := b6.ext y0
    replace b7 := b7.ext y0
    replace za := za.ext y0
    replace zb := zb.ext y0
    replace z7r := z7r.ext y0
    replace z17 := z17.ext y0
    replace xw := Ext.trans xw y0
    clear y0
    refine wpAnyH_all (rs := [4]) (by kernel_rfl) (by simp) ?_; intro j hj; obtain rfl := List.mem_singleton.1 hj; clear hj; refine wpOp_of rfl fun K' hK => ?_; go_simp
    refine (HMul.out _ _ _ _ _ _ _ _ (a.tdiv b) b _ z17 zb (BQ.fit (by omega)) (Bb.fit (by omega))).mono ?_
    rintro e w19 ⟨n19, a19, l19, c19, rfl, z19, x19⟩
    replace x19 : Ext _ w19 := x19
    have B19 : Bits (K + K) ((a.tdiv b) * b) := BQ.mul Bb
    replace b2 := b2.ext x19
    replace b3 := b3.ext x19
    replace b4 := b4.ext x19
    replace b5 := b5.ext x19
    replace b6 := b6.ext x19
    replace b7 := b7.ext x19
    replace za := za.ext x19
    replace zb := zb.ext x19
    replace z7r := z7r.ext x19
    replace z17 := z17.ext x19
    replace xw := Ext.trans xw x19
    refine hK _ _ ⟨⟨b6.c0, b6.c1, b2.c0, b2.c1, b3.c0, b3.c1⟩, ?_⟩; clear hK K' hHeld
    have hHeld := (show w19.cell? ⟨k6, 0, none⟩ = some (.bool n17) ∧ w19.cell? ⟨k6, 1, none⟩ = some (.slice a17 l17 c17) ∧ w19.cell? ⟨w.heap.size, 0, none⟩ = some (.bool na) ∧ w19.cell? ⟨w.heap.size, 1, none⟩ = some (.slice aa la ca) ∧ w19.cell? ⟨w.heap.size + 1, 0, none⟩ = some (.bool nb) ∧ w19.cell? ⟨w.heap.size + 1, 1, none⟩ = some (.slice ab lb cb) from ⟨b6.c0, b6.c1, b2.c0, b2.c1, b3.c0, b3.c1⟩)
    refine wpAnyH_all (rs := [5]) (by kernel_rfl) (by simp) ?_; intro j hj; obtain rfl := List.mem_singleton.1 hj; clear hj; refine wpOp_of rfl fun K' hK => ?_; go_simp
    refine (HSub.out _ _ _ _ _ _ _ _ a ((a.tdiv b) * b) _ za z19 (Ba.fit (by omega)) (B19.fit (by omega))).mono ?_
    rintro e w20 ⟨n20, a20, l20, c20, rfl, z20, x20⟩
    replace x20 : Ext _ w20 := x20
    have B20 : Bits ((K + (K + K)) + 1) (a - ((a.tdiv b) * b)) := (Ba.mono (by omega)).sub (B19.mono (by omega))
    replace b2 := b2.ext x20
    replace b3 := b3.ext x20
    replace b4 := b4.ext x20
    replace b5 := b5.ext x20
    replace b6 := b6.ext x20
    replace b7 := b7.ext x20
    replace za := za.ext x20
    replace zb := zb.ext x20
    replace z7r := z7r.ext x20
    replace z17 := z17.ext x20
    replace z19 := z19.ext x20
    replace xw := Ext.trans xw x20
    refine hK _ _ ⟨⟨b6.c0, b6.c1, b2.c0, b2.c1, b3.c0, b3.c1⟩, ?_⟩; clear hK K' hHeld
    have hHeld := (show w20.cell? ⟨k6, 0, none⟩ = some (.bool n17) ∧ w20.cell? ⟨k6, 1, none⟩ = some (.slice a17 l17 c17) ∧ w20.cell? ⟨w.heap.size, 0, none⟩ = some (.bool na) ∧ w20.cell? ⟨w.heap.size, 1, none⟩ = some (.slice aa la ca) ∧ w20.cell? ⟨w.heap.size + 1, 0, none⟩ = some (.bool nb) ∧ w20.cell? ⟨w.heap.size + 1, 1, none⟩ = some (.slice ab lb cb) from ⟨b6.c0, b6.c1, b2.c0, b2.c1, b3.c0, b3.c1⟩)
    have b4_c0 := b4.c0
    have b4_c1 := b4.c1
    have b4_f0 := b4.f0
    have b4_f1 := b4.f1
    refine wpAnyH_all (rs := [6]) (by kernel_rfl) (by simp) ?_; intro j hj; obtain rfl := List.mem_singleton.1 hj; clear hj; refine wpOp_of rfl fun K' hK => ?_; go_simp
    clear b4_c0 b4_c1 b4_f0 b4_f1
    have b2N := (b2).other2 (b := w.heap.size + 1 + 1) (by omega) (.bool n17) (.slice a17 l17 c17)
    have b3N := (b3).other2 (b := w.heap.size + 1 + 1) (by omega) (.bool n17) (.slice a17 l17 c17)
    have b4N := (b4).set (.bool n17) (.slice a17 l17 c17)
    have b5N := (b5).other2 (b := w.heap.size + 1 + 1) (by omega) (.bool n17) (.slice a17 l17 c17)
    have b6N := (b6).other2 (b := w.heap.size + 1 + 1) (by omega) (.bool n17) (.slice a17 l17 c17)
    have b7N := (b7).other2 (b := w.heap.size + 1 + 1) (by omega) (.bool n17) (.slice a17 l17 c17)
    have zaN := (za).set2 (b4).kind (by decide) (.bool n17) (.slice a17 l17 c17)
    have zbN := (zb).set2 (b4).kind (by decide) (.bool n17) (.slice a17 l17 c17)
    have z7rN := (z7r).set2 (b4).kind (by decide) (.bool n17) (.slice a17 l17 c17)
    have z17N := (z17).set2 (b4).kind (by decide) (.bool n17) (.slice a17 l17 c17)
    have z19N := (z19).set2 (b4).kind (by decide) (.bool n17) (.slice a17 l17 c17)
    have z20N := (z20).set2 (b4).kind (by decide) (.bool n17) (.slice a17 l17 c17)
    replace xw := Ext.set (Ext.set xw (k := w.heap.size + 1 + 1) (o := 0) (u := .bool n17) (by omega)) (k := w.heap.size + 1 + 1) (o := 1) (u := .slice a17 l17 c17) (by omega)
    replace b2 := b2N; clear b2N
    replace b3 := b3N; clear b3N
    replace b4 := b4N; clear b4N
    replace b5 := b5N; clear b5N
    replace b6 := b6N; clear b6N
    replace b7 := b7N; clear b7N
    replace za := zaN; clear zaN
    replace zb := zbN; clear zbN
    replace z7r := z7rN; clear z7rN
    replace z17 := z17N; clear z17N
    replace z19 := z19N; clear z19N
    replace z20 := z20N; clear z20N
    refine hK _ _ ⟨⟨b6.c0, b6.c1, b2.c0, b2.c1, b3.c0, b3.c1⟩, ?_⟩; clear hK K' hHeld
    have hHeld := (⟨b6.c0, b6.c1, b2.c0, b2.c1, b3.c0, b3.c1⟩ : _ ∧ _ ∧ _ ∧ _ ∧ _ ∧ _)
    have b5_c0 := b5.c0
    have b5_c1 := b5.c1
    have b5_f0 := b5.f0
    have b5_f1 := b5.f1
    refine wpAnyH_all (rs := [7]) (by kernel_rfl) (by simp) ?_; intro j hj; obtain rfl := List.mem_singleton.1 hj; clear hj; refine wpOp_of rfl fun K' hK => ?_; go_simp
    clear b5_c0 b5_c1 b5_f0 b5_f1
    have b2N := (b2).other2 (b := w.heap.size + 1 + 1 + 1) (by omega) (.bool n20) (.slice a20 l20 c20)
    have b3N := (b3).other2 (b := w.heap.size + 1 + 1 + 1) (by omega) (.bool n20) (.slice a20 l20 c20)
    have b4N := (b4).other2 (b := w.heap.size + 1 + 1 + 1) (by omega) (.bool n20) (.slice a20 l20 c20)
    have b5N := (b5).set (.bool n20) (.slice a20 l20 c20)
    have b6N := (b6).other2 (b := w.heap.size + 1 + 1 + 1) (by omega) (.bool n20) (.slice a20 l20 c20)
    have b7N := (b7).other2 (b := w.heap.size + 1 + 1 + 1) (by omega) (.bool n20) (.slice a20 l20 c20)
    have zaN := (za).set2 (b5).kind (by decide) (.bool n20) (.slice a20 l20 c20)
    have zbN := (zb).set2 (b5).kind (by decide) (.bool n20) (.slice a20 l20 c20)
    have z7rN := (z7r).set2 (b5).kind (by decide) (.bool n20) (.slice a20 l20 c20)
    have z17N := (z17).set2 (b5).kind (by decide) (.bool n20) (.slice a20 l20 c20)
    have z19N := (z19).set2 (b5).kind (by decide) (.bool n20) (.slice a20 l20 c20)
    have z20N := (z20).set2 (b5).kind (by decide) (.bool n20) (.slice a20 l20 c20)
    replace xw := Ext.set (Ext.set xw (k := w.heap.size + 1 + 1 + 1) (o := 0) (u := .bool n20) (by omega)) (k := w.heap.size + 1 + 1 + 1) (o := 1) (u := .slice a20 l20 c20) (by omega)
    replace b2 := b2N; clear b2N
    replace b3 := b3N; clear b3N
    replace b4 := b4N; clear b4N
    replace b5 := b5N; clear b5N
    replace b6 := b6N; clear b6N
    replace b7 := b7N; clear b7N
    replace za := zaN; clear zaN
    replace zb := zbN; clear zbN
    replace z7r := z7rN; clear z7rN
    replace z17 := z17N; clear z17N
    replace z19 := z19N; clear z19N
    replace z20 := z20N; clear z20N
    refine hK _ _ ⟨⟨b6.c0, b6.c1, b2.c0, b2.c1, b3.c0, b3.c1⟩, ?_⟩; clear hK K' hHeld
    have hHeld := (⟨b6.c0, b6.c1, b2.c0, b2.c1, b3.c0, b3.c1⟩ : _ ∧ _ ∧ _ ∧ _ ∧ _ ∧ _)
    refine ⟨by kernel_rfl, ?_⟩
    refine NoPanic.normal ?_
    clear hHeld
    have b4_c0 := b4.c0
    have b4_c1 := b4.c1
    have b4_f0 := b4.f0
    have b4_f1 := b4.f1
    have b5_c0 := b5.c0
    have b5_c1 := b5.c1
    have b5_f0 := b5.f0
    have b5_f1 := b5.f1
    have zr0 := z17
    have zr1 := z20
    have xr := xw
    go_wp2_with fail
    refine bodyPost_ret (v := .tuple #[.agg #[.bool n17, .slice a17 l17 c17], .agg #[.bool n20, .slice a20 l20 c20]]) (by simp [results, Try.results107, go_sem, b4_c0, b4_c1, b5_c0, b5_c1]) rfl ⟨_, _, _, _, _, _, _, _, rfl, zr0, by rw [← HM.out]; exact zr1, xr⟩
end Go.Proofs.Ytmkddcmfofabbaa
