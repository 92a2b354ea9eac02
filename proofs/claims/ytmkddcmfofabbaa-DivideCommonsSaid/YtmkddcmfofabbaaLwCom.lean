/-
  The law DivideCommons, walked.
-/
import Derived.Test.YtmkddcmfofabbaaZtr
import Derived.Test.YtmkddcmfofabbaaZlw
import Derived.Test.YtmkddcmfofabbaaLwBys
set_option linter.unusedSimpArgs false
set_option linter.unusedVariables false
namespace Go.Proofs.Ytmkddcmfofabbaa
open Go Go.RowKit

theorem commons_bits {a b : Int} (ha : W128 a) (hb : W128 b) : Bits 128 ((Nat.gcd a.natAbs b.natAbs : Nat) : Int) := by
  by_cases h : b = 0
  · subst h; simp only [Int.natAbs_zero, Nat.gcd_zero_right]; exact ha.bits.abs
  · exact gcd_bits hb.bits h
set_option maxRecDepth 100000 in
set_option maxHeartbeats 3200000 in
theorem law_commons (a b : Int) (w : World) (ha : W128 a) (hb : W128 b) :
    Calls Try.prog 11 #[.agg #[.int .i64 (hi a), .int .u64 (lo a)], .agg #[.int .i64 (hi b), .int .u64 (lo b)]] w (fun e w' => e = .returned (.bool true) ∧ Ext w w') := by
  have HOfw := Lib.hid ofw
  have HTold := Lib.hid told_any
  have HGcd := Lib.hid dGcd
  have HCom := Lib.hid common_any
  have HAl := Lib.hid alive3
  have HBc := Lib.hid (commons_bits ha hb)
  have HO := Lib.hid (overTo_all (M := 170141183460469231731687303715884105728) (Nat.le_refl _))
  have HM := Lib.hid (show a.natAbs ≤ 170141183460469231731687303715884105728 ∧ b.natAbs ≤ 170141183460469231731687303715884105728 by unfold W128 at ha hb; omega)
  obtain ⟨G, hG⟩ : ∃ G : Nat, G = Nat.gcd a.natAbs b.natAbs := ⟨_, rfl⟩
  rw [← hG] at HBc
  have HG := Lib.hid hG
  clear hG
  obtain ⟨A1, g1⟩ : ∃ x, thi (G : Int) = x := ⟨_, rfl⟩
  obtain ⟨A2, g2⟩ : ∃ x, tlo (G : Int) = x := ⟨_, rfl⟩
  obtain ⟨A5, g5⟩ : ∃ x, ter (G : Int) = x := ⟨_, rfl⟩
  have G1 := Lib.hid g1
  have G2 := Lib.hid g2
  have G5 := Lib.hid g5
  clear g1 g2 g5
  go_enter Try.func11, Try.ntmps11
  go_upto_region 1 with fail
  have xw := Ext.refl w
  refine wp_name ?_
  intro V1 hV
  replace xw : Ext w V1 := by rw [hV]; exact Ext.alloc (Ext.alloc (xw))
  have b2 : Box2 V1 w.heap.size (.int .i64 (hi a)) (.int .u64 (lo a)) 26 := by rw [hV]; exact (Box2.new rfl).alloc _
  have b3 : Box2 V1 (w.heap.size + 1) (.int .i64 (hi b)) (.int .u64 (lo b)) 26 := by rw [hV]; exact Box2.new (by simp)
  clear hV
  have b2_c0 := b2.c0
  have b2_c1 := b2.c1
  have b3_c0 := b3.c0
  have b3_c1 := b3.c1
  go_wp2_with fail
  refine (HGcd.out _ a b _ ha hb HM.out.1 HM.out.2 (by decide) HO.out).mono ?_
  rw [← HG.out]
  rintro e w2 ⟨rfl, x2⟩
  rw [G1.out, G2.out, G5.out]
  clear b2_c0 b2_c1 b3_c0 b3_c1
  replace b2 := b2.ext x2
  replace b3 := b3.ext x2
  replace xw := Ext.trans xw x2
  go_upto_region 2 with fail
  have o4 := b2.kind.lt
  have o5 := b3.kind.lt
  have o6 := xw.size
  refine wp_name ?_
  intro V3 hV
  have b2N : Box2 V3 w.heap.size (.int .i64 (hi a)) (.int .u64 (lo a)) 26 := by rw [hV]; exact (b2).alloc _
  have b3N : Box2 V3 (w.heap.size + 1) (.int .i64 (hi b)) (.int .u64 (lo b)) 26 := by rw [hV]; exact (b3).alloc _
  replace xw : Ext w V3 := by rw [hV]; exact Ext.alloc (xw)
  replace b2 := b2N; clear b2N
  replace b3 := b3N; clear b3N
  have b5 : Box2 V3 w2.heap.size (.int .i64 A1) (.int .u64 A2) 26 := by rw [hV]; exact Box2.new rfl
  clear hV
  refine wp_region_noPanic ?_
  refine wp_region_held_drew (S := fun w' => Ext V3 w') (by kernel_rfl) (Ext.refl V3).drew (fun hHeld => ?_)
  have b2_d0 := fun w' (h : Ext V3 w') => (b2.ext h).c0
  have b2_d1 := fun w' (h : Ext V3 w') => (b2.ext h).c1
  have b3_d0 := fun w' (h : Ext V3 w') => (b3.ext h).c0
  have b3_d1 := fun w' (h : Ext V3 w') => (b3.ext h).c1
  refine wpAnyH_take (i := 0) (v := .agg #[.int .i64 (hi a), .int .u64 (lo a)]) rfl (by kernel_rfl) (by kernel_rfl) (by kernel_rfl) (fun _ _ _ h => h) (Or.inl ⟨by kernel_rfl, fun w' h => (by go_simp)⟩) hHeld ?_
  refine wpAnyH_take (i := 2) (v := .agg #[.int .i64 (hi b), .int .u64 (lo b)]) rfl (by kernel_rfl) (by kernel_rfl) (by kernel_rfl) (fun _ _ _ h => h) (Or.inl ⟨by kernel_rfl, fun w' h => (by go_simp)⟩) hHeld ?_
  refine region1 (N := 12) (f0 := [0, 2]) (l := [(1, false), (3, false), (4, false), (5, false), (6, true), (7, true), (8, true)]) (T := [10, 11]) (iA := 9) (dA := 7) (oA := .cells #[.int .i64 0, .int .u64 0] 26) (fun _ _ _ _ _ h => h) (by kernel_rfl) (by kernel_rfl) rfl (by kernel_rfl) (by kernel_rfl)
    (fun K a w h => wpOp_of rfl fun K' hK => (by go_simp; exact hK _ _ h)) (by simp [Act.put]) (fun _ _ h x => h.trans x) hHeld ?_
  have y0 : Ext V3 V3.drew := (Ext.refl V3).drew
  intro a1 v7 h1 yv7
  obtain ⟨s17, rfl⟩ := away1 h1; refine wpOp_of rfl fun K' hK => ?_; go_simp
  replace y0 := Ext.trans y0 yv7
  refine (HOfw.out a _ ha).mono ?_
  rintro e w8 ⟨n8, a8, l8, c8, rfl, z8, x8⟩
  replace x8 : Ext _ w8 := x8
  have B8 : Bits 128 (a) := ha.bits
  refine hK _ _ ⟨⟨x8, rfl, slots1 rfl⟩, ?_⟩; clear hK K'
  replace y0 := Ext.trans y0 x8
  intro a1 v9 h1 yv9
  obtain ⟨s19, rfl⟩ := away1 h1; refine wpOp_of rfl fun K' hK => ?_; go_simp
  replace y0 := Ext.trans y0 yv9
  replace z8 := z8.ext yv9
  refine (HOfw.out b _ hb).mono ?_
  rintro e w10 ⟨n10, a10, l10, c10, rfl, z10, x10⟩
  replace x10 : Ext _ w10 := x10
  have B10 : Bits 128 (b) := hb.bits
  refine hK _ _ ⟨⟨x10, rfl, slots1 rfl⟩, ?_⟩; clear hK K'
  replace y0 := Ext.trans y0 x10
  replace z8 := z8.ext x10
  intro a1 v11 h1 yv11
  obtain ⟨s111, rfl⟩ := away1 h1; refine wpOp_of rfl fun K' hK => ?_; go_simp
  replace y0 := Ext.trans y0 yv11
  replace z8 := z8.ext yv11
  replace z10 := z10.ext yv11
  refine (HCom.out 128 (by omega) _ _ _ _ _ _ _ _ a b _ z8 z10 B8 B10).mono ?_
  rintro e w12 ⟨n12, a12, l12, c12, rfl, z12, x12⟩
  rw [← HG.out] at z12
  replace x12 : Ext _ w12 := x12
  have B12 : Bits 128 ((G : Int)) := HBc.out
  refine hK _ _ ⟨⟨x12, rfl, slots1 rfl⟩, ?_⟩; clear hK K'
  replace y0 := Ext.trans y0 x12
  replace z8 := z8.ext x12
  replace z10 := z10.ext x12
  intro a1 v13 h1 yv13
  obtain ⟨s113, rfl⟩ := away1 h1; refine wpOp_of rfl fun K' hK => ?_; go_simp
  replace y0 := Ext.trans y0 yv13
  replace z8 := z8.ext yv13
  replace z10 := z10.ext yv13
  replace z12 := z12.ext yv13
  refine (HTold.out _ _ _ _ (G : Int) _ z12 (B12.mono (by omega))).mono ?_
  rintro e w14 ⟨rfl, x14⟩
  rw [G1.out, G2.out, G5.out]
  refine hK _ _ ⟨⟨x14, rfl, slots1 rfl⟩, ?_⟩; clear hK K'
  replace y0 := Ext.trans y0 x14
  replace z8 := z8.ext x14
  replace z10 := z10.ext x14
  replace z12 := z12.ext x14
  refine ⟨_, .tuple #[.agg #[.int .i64 A1, .int .u64 A2], .int .i64 A5], rfl, Or.inl ⟨by rfl, fun w' h => (by go_simp)⟩, by simp, ?_⟩
  refine ⟨_, .agg #[.int .i64 A1, .int .u64 A2], rfl, Or.inl ⟨by rfl, fun w' h => (by go_simp)⟩, by simp, ?_⟩
  refine ⟨_, .int .i64 A5, rfl, Or.inl ⟨by rfl, fun w' h => (by go_simp)⟩, by simp, ?_⟩
  intro a' v15 h yv15
  obtain ⟨s115, rfl⟩ := away1 h
  rintro k7 ⟨k7a, k7b, k7c⟩ hS'
  replace y0 := Ext.trans y0 yv15
  replace z8 := z8.ext yv15
  replace z10 := z10.ext yv15
  replace z12 := z12.ext yv15
  simp [Act.put] at k7b; subst k7b; replace k7a : V3.heap.size ≤ k7 := k7a
  clear b2_d0 b2_d1 b3_d0 b3_d1
  have o16 := b5.kind.lt
  have o17 := xw.size
  replace b2 := b2.ext y0
  replace b3 := b3.ext y0
  replace b5 := b5.ext y0
  replace xw := Ext.trans xw y0
  have b7 : Box2 v15 k7 (.int .i64 0) (.int .u64 0) 26 := k7c
  clear k7c
  have hT : Ext V3 v15 := hS'
  have b7_c0 := b7.c0
  have b7_c1 := b7.c1
  have b7_f0 := b7.f0
  have b7_f1 := b7.f1
  refine wpOp_of rfl fun K' hK => ?_
  go_simp
  clear b7_c0 b7_c1 b7_f0 b7_f1
  replace hT := Ext.set (Ext.set hT (k := k7) (o := 0) (u := .int .i64 A1) k7a) (k := k7) (o := 1) (u := .int .u64 A2) k7a
  refine hK _ _ ⟨hT, ?_⟩
  clear hK K'
  have b2N := (b2).other2 (b := k7) (by omega) (.int .i64 A1) (.int .u64 A2)
  have b3N := (b3).other2 (b := k7) (by omega) (.int .i64 A1) (.int .u64 A2)
  have b5N := (b5).other2 (b := k7) (by omega) (.int .i64 A1) (.int .u64 A2)
  have b7N := (b7).set (.int .i64 A1) (.int .u64 A2)
  have z8N := (z8).set2 (b7).kind (by decide) (.int .i64 A1) (.int .u64 A2)
  have z10N := (z10).set2 (b7).kind (by decide) (.int .i64 A1) (.int .u64 A2)
  have z12N := (z12).set2 (b7).kind (by decide) (.int .i64 A1) (.int .u64 A2)
  replace xw := Ext.set (Ext.set xw (k := k7) (o := 0) (u := .int .i64 A1) (by omega)) (k := k7) (o := 1) (u := .int .u64 A2) (by omega)
  replace b2 := b2N; clear b2N
  replace b3 := b3N; clear b3N
  replace b5 := b5N; clear b5N
  replace b7 := b7N; clear b7N
  replace z8 := z8N; clear z8N
  replace z10 := z10N; clear z10N
  replace z12 := z12N; clear z12N
  refine wpOp_of rfl fun K' hK => ?_
  go_simp
  refine hK _ _ ⟨hT, ?_⟩
  clear hK K'
  refine NoPanic.normal ?_
  clear hT hS' y0 hHeld
  go_upto_region 3 with fail
  refine wp_name ?_
  intro V18 hV
  rw [← hV] at b2 b3 b5 b7 z8 z10 z12 xw
  clear hV
  clear z8 z10 z12
  go_wp2_with fail
  refine (HAl.out _).mono ?_
  rintro e w19 ⟨rfl, x19⟩
  replace b2 := b2.ext x19
  replace b3 := b3.ext x19
  replace b5 := b5.ext x19
  replace b7 := b7.ext x19
  replace xw := Ext.trans xw x19
  have b5_c0 := b5.c0
  have b5_c1 := b5.c1
  have b7_c0 := b7.c0
  have b7_c1 := b7.c1
  have xr := xw
  go_wp2_with fail
  refine bodyPost_ret (v := .bool true) (by simp [results, Try.results11, go_sem]) rfl ⟨rfl, xr⟩
end Go.Proofs.Ytmkddcmfofabbaa
