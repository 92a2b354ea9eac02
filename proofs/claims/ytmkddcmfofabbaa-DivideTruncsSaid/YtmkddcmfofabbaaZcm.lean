/-
  The reference's Common of layer 3.
-/
import Derived.Test.YtmkddcmfofabbaaNm
import Derived.Test.YtmkddcmfofabbaaLwBys
namespace Go.Proofs.Ytmkddcmfofabbaa
open Go Go.RowKit

theorem gcd_b {K : Nat} {a b : Int} (ha : Bits K a) (hb : Bits K b) : Bits K ((Nat.gcd b.natAbs (((a.natAbs : Int)).fmod (b.natAbs : Int)).natAbs : Nat) : Int) := by
  by_cases h0 : b = 0
  · subst h0; simp only [Int.natAbs_zero, Nat.gcd_zero_left]; exact ha.le (by simp)
  · exact hb.le (by simpa using Nat.gcd_le_left _ (by omega))
theorem cmp_no {b : Int} (h : ¬ b = 0) : (cmpI b 0 == 0) = false := by
  simp only [beq_eq_false_iff_ne, ne_eq]; unfold cmpI
  by_cases h1 : b < 0
  · simp [h1]
  · simp [h1, h]
theorem gcd_fmod {a b : Int} : Nat.gcd b.natAbs (((a.natAbs : Int)).fmod (b.natAbs : Int)).natAbs = Nat.gcd a.natAbs b.natAbs := by
  rw [Int.fmod_eq_emod_of_nonneg _ (by omega), show ((a.natAbs : Int) % (b.natAbs : Int)).natAbs = a.natAbs % b.natAbs by omega, ← gcd_step]
set_option maxRecDepth 100000 in
set_option maxHeartbeats 3200000 in
theorem zcommon (K : Nat) (hK : K ≤ 80000) (N : Nat) : ∀ (na nb : Bool) (aa ab : Option Addr) (la ca lb cb : Nat) (a b : Int) (w : World), b.natAbs < N → IsZ w na (.slice aa la ca) a → IsZ w nb (.slice ab lb cb) b → Bits K a → Bits K b →
    Calls Try.prog 62 #[.agg #[.bool na, .slice aa la ca], .agg #[.bool nb, .slice ab lb cb]] w (RetZ w ((Nat.gcd a.natAbs b.natAbs : Nat) : Int)) := by
  induction N with
  | zero => intro na nb aa ab la ca lb cb a b w h; omega
  | succ N ih =>
  intro na nb aa ab la ca lb cb a b w hN za zb Ba Bb
  have IH := Lib.hid ih
  clear ih
  have HSgn := Lib.hid sign_z
  have HAbs := Lib.hid abs_any
  have HDiv := Lib.hid div_z
  by_cases h0 : b = 0
  · have g0 : (cmpI b 0 == 0) = true := by rw [h0]; rfl
    have HG := Lib.hid (show ((a.natAbs : Nat) : Int) = ((Nat.gcd a.natAbs b.natAbs : Nat) : Int) by rw [h0]; simp)
    clear h0 hN
    go_enter Try.func62, Try.ntmps62
    go_upto_region 1 with fail
    have xw := Ext.refl w
    refine wp_name ?_
    intro V1 hV
    have zaN : IsZ V1 na (.slice aa la ca) a := by rw [hV]; exact (((za).alloc _).alloc _).alloc _
    have zbN : IsZ V1 nb (.slice ab lb cb) b := by rw [hV]; exact (((zb).alloc _).alloc _).alloc _
    replace xw : Ext w V1 := by rw [hV]; exact Ext.alloc (Ext.alloc (Ext.alloc (xw)))
    replace za := zaN; clear zaN
    replace zb := zbN; clear zbN
    have b2 : Box2 V1 w.heap.size (.bool na) (.slice aa la ca) 37 := by rw [hV]; exact ((Box2.new rfl).alloc _).alloc _
    have b3 : Box2 V1 (w.heap.size + 1) (.bool nb) (.slice ab lb cb) 37 := by rw [hV]; exact (Box2.new (by simp)).alloc _
    have b4 : Box2 V1 (w.heap.size + 1 + 1) (.bool false) (.slice none 0 0) 37 := by rw [hV]; exact Box2.new (by simp)
    clear hV
    have b3_c0 := b3.c0
    have b3_c1 := b3.c1
    go_wp2_with fail
    refine (HSgn.out _ _ _ _ b _ zb (Bb.fit (by omega))).mono ?_
    rintro e w2 ⟨rfl, x2⟩
    replace x2 : Ext _ w2 := x2
    clear b3_c0 b3_c1
    replace b2 := b2.ext x2
    replace b3 := b3.ext x2
    replace b4 := b4.ext x2
    replace za := za.ext x2
    replace zb := zb.ext x2
    replace xw := Ext.trans xw x2
    go_upto_region 2 with fail
    have b2_c0 := b2.c0
    have b2_c1 := b2.c1
    go_wp2_with fail
    refine (HAbs.out _ _ _ _ a _ za (Ba.fit (by omega))).mono ?_
    rintro e w3 ⟨n3, a3, l3, c3, rfl, z3, x3⟩
    replace x3 : Ext _ w3 := x3
    have B3 : Bits K ((a.natAbs : Int)) := Ba.abs
    clear b2_c0 b2_c1
    replace b2 := b2.ext x3
    replace b3 := b3.ext x3
    replace b4 := b4.ext x3
    replace za := za.ext x3
    replace zb := zb.ext x3
    replace xw := Ext.trans xw x3
    have b4_c0 := b4.c0
    have b4_c1 := b4.c1
    have b4_f0 := b4.f0
    have b4_f1 := b4.f1
    have zr0 := (z3).set2 (b4).kind (by decide) (.bool n3) (.slice a3 l3 c3)
    have xr := Ext.set (Ext.set (xw) (k := w.heap.size + 1 + 1) (o := 0) (u := .bool n3) (by omega)) (k := w.heap.size + 1 + 1) (o := 1) (u := .slice a3 l3 c3) (by omega)
    go_wp2_with fail
    refine bodyPost_ret (v := .agg #[.bool n3, .slice a3 l3 c3]) (by simp [results, Try.results62, go_sem, b4_c0, b4_c1]) rfl ⟨_, _, _, _, rfl, by rw [← HG.out]; exact zr0, xr⟩
  · have g0 : (cmpI b 0 == 0) = false := cmp_no h0
    have D0 : (b.natAbs : Int) ≠ 0 := by omega
    have HLT : (((a.natAbs : Int)).fmod (b.natAbs : Int)).natAbs < N := by have := fmod_lt (a := (a.natAbs : Int)) D0; omega
    have HG := Lib.hid (show ((Nat.gcd b.natAbs (((a.natAbs : Int)).fmod (b.natAbs : Int)).natAbs : Nat) : Int) = ((Nat.gcd a.natAbs b.natAbs : Nat) : Int) by rw [gcd_fmod])
    clear hN h0
    go_enter Try.func62, Try.ntmps62
    go_upto_region 1 with fail
    have xw := Ext.refl w
    refine wp_name ?_
    intro V4 hV
    have zaN : IsZ V4 na (.slice aa la ca) a := by rw [hV]; exact (((za).alloc _).alloc _).alloc _
    have zbN : IsZ V4 nb (.slice ab lb cb) b := by rw [hV]; exact (((zb).alloc _).alloc _).alloc _
    replace xw : Ext w V4 := by rw [hV]; exact Ext.alloc (Ext.alloc (Ext.alloc (xw)))
    replace za := zaN; clear zaN
    replace zb := zbN; clear zbN
    have b2 : Box2 V4 w.heap.size (.bool na) (.slice aa la ca) 37 := by rw [hV]; exact ((Box2.new rfl).alloc _).alloc _
    have b3 : Box2 V4 (w.heap.size + 1) (.bool nb) (.slice ab lb cb) 37 := by rw [hV]; exact (Box2.new (by simp)).alloc _
    have b4 : Box2 V4 (w.heap.size + 1 + 1) (.bool false) (.slice none 0 0) 37 := by rw [hV]; exact Box2.new (by simp)
    clear hV
    have b3_c0 := b3.c0
    have b3_c1 := b3.c1
    go_wp2_with fail
    refine (HSgn.out _ _ _ _ b _ zb (Bb.fit (by omega))).mono ?_
    rintro e w5 ⟨rfl, x5⟩
    replace x5 : Ext _ w5 := x5
    clear b3_c0 b3_c1
    replace b2 := b2.ext x5
    replace b3 := b3.ext x5
    replace b4 := b4.ext x5
    replace za := za.ext x5
    replace zb := zb.ext x5
    replace xw := Ext.trans xw x5
    go_upto_region 3 with fail
    refine wp_region_noPanic ?_
    refine wp_region_held_drew (S := fun w' => Ext w5 w') (by kernel_rfl) (Ext.refl w5).drew (fun hHeld => ?_)
    have b2_d0 := fun w' (h : Ext w5 w') => (b2.ext h).c0
    have b2_d1 := fun w' (h : Ext w5 w') => (b2.ext h).c1
    have b3_d0 := fun w' (h : Ext w5 w') => (b3.ext h).c0
    have b3_d1 := fun w' (h : Ext w5 w') => (b3.ext h).c1
    refine wpAnyH_take (i := 0) (v := .agg #[.bool na, .slice aa la ca]) rfl (by kernel_rfl) (by kernel_rfl) (by kernel_rfl) (fun _ _ _ h => h) (Or.inl ⟨by kernel_rfl, fun w' h => (by go_simp)⟩) hHeld ?_
    refine wpAnyH_take (i := 2) (v := .agg #[.bool nb, .slice ab lb cb]) rfl (by kernel_rfl) (by kernel_rfl) (by kernel_rfl) (fun _ _ _ h => h) (Or.inl ⟨by kernel_rfl, fun w' h => (by go_simp)⟩) hHeld ?_
    refine region2 (N := 12) (f0 := [0, 2]) (l := [(1, false), (3, false), (4, false), (5, true), (6, true), (7, true)]) (T := [10, 11]) (iA := 8) (dA := 5) (iB := 9) (dB := 6) (oA := .cells #[.bool false, .slice none 0 0] 37) (oB := .cells #[.bool false, .slice none 0 0] 37) (fun _ _ _ _ _ h => h) (by kernel_rfl) (by kernel_rfl) rfl (by kernel_rfl) (by kernel_rfl)
      (fun K a w h => wpOp_of rfl fun K' hK => (by go_simp; exact hK _ _ h)) (fun K a w h => wpOp_of rfl fun K' hK => (by go_simp; exact hK _ _ h)) (by decide) (by simp [Act.put]) (by simp [Act.put]) (fun _ _ h x => h.trans x) hHeld ?_
    have y0 : Ext w5 w5.drew := (Ext.refl w5).drew
    intro a1 v6 h1 yv6
    obtain ⟨s16, s26, rfl⟩ := away2 h1; refine wpOp_of rfl fun K' hK => ?_; go_simp
    replace y0 := Ext.trans y0 yv6
    have zaC := za.ext y0
    refine (HAbs.out _ _ _ _ a _ zaC (Ba.fit (by omega))).mono ?_
    rintro e w7 ⟨n7, a7, l7, c7, rfl, z7, x7⟩
    replace x7 : Ext _ w7 := x7
    have B7 : Bits K ((a.natAbs : Int)) := Ba.abs
    clear zaC
    refine hK _ _ ⟨⟨x7, rfl, slots2 rfl rfl⟩, ?_⟩; clear hK K'
    replace y0 := Ext.trans y0 x7
    intro a1 v8 h1 yv8
    obtain ⟨s18, s28, rfl⟩ := away2 h1; refine wpOp_of rfl fun K' hK => ?_; go_simp
    replace y0 := Ext.trans y0 yv8
    replace z7 := z7.ext yv8
    have zbC := zb.ext y0
    refine (HAbs.out _ _ _ _ b _ zbC (Bb.fit (by omega))).mono ?_
    rintro e w9 ⟨n9, a9, l9, c9, rfl, z9, x9⟩
    replace x9 : Ext _ w9 := x9
    have B9 : Bits K ((b.natAbs : Int)) := Bb.abs
    clear zbC
    refine hK _ _ ⟨⟨x9, rfl, slots2 rfl rfl⟩, ?_⟩; clear hK K'
    replace y0 := Ext.trans y0 x9
    replace z7 := z7.ext x9
    intro a1 v10 h1 yv10
    obtain ⟨s110, s210, rfl⟩ := away2 h1; refine wpOp_of rfl fun K' hK => ?_; go_simp
    replace y0 := Ext.trans y0 yv10
    replace z7 := z7.ext yv10
    replace z9 := z9.ext yv10
    refine (HDiv.out _ _ _ _ _ _ _ _ (a.natAbs : Int) (b.natAbs : Int) _ z7 z9 K (by omega) B7 B9 D0).mono ?_
    rintro e w11 ⟨n11q, a11q, l11q, c11q, n11r, a11r, l11r, c11r, rfl, z11q, z11r, x11⟩
    replace x11 : Ext _ w11 := x11
    have B11q : Bits (K + 1) ((a.natAbs : Int).fdiv (b.natAbs : Int)) := fdiv_b B7 D0
    have B11r : Bits K ((a.natAbs : Int).fmod (b.natAbs : Int)) := fmod_b B9 D0
    refine hK _ _ ⟨⟨x11, rfl, slots2 rfl rfl⟩, ?_⟩; clear hK K'
    replace y0 := Ext.trans y0 x11
    replace z7 := z7.ext x11
    replace z9 := z9.ext x11
    refine ⟨_, .tuple #[.agg #[.bool n11q, .slice a11q l11q c11q], .agg #[.bool n11r, .slice a11r l11r c11r]], rfl, Or.inl ⟨by rfl, fun w' h => (by go_simp)⟩, by simp, ?_⟩
    refine ⟨_, .agg #[.bool n11q, .slice a11q l11q c11q], rfl, Or.inl ⟨by rfl, fun w' h => (by go_simp)⟩, by simp, ?_⟩
    refine ⟨_, .agg #[.bool n11r, .slice a11r l11r c11r], rfl, Or.inl ⟨by rfl, fun w' h => (by go_simp)⟩, by simp, ?_⟩
    intro a' v12 h yv12
    obtain ⟨s112, s212, rfl⟩ := away2 h
    rintro k5 k6 ⟨k5a, k5b, k5c⟩ ⟨k6a, k6b, k6c⟩ k5ne hS'
    replace y0 := Ext.trans y0 yv12
    replace z7 := z7.ext yv12
    replace z9 := z9.ext yv12
    replace z11q := z11q.ext yv12
    replace z11r := z11r.ext yv12
    simp [Act.put] at k5b; subst k5b; replace k5a : w5.heap.size ≤ k5 := k5a
    simp [Act.put] at k6b; subst k6b; replace k6a : w5.heap.size ≤ k6 := k6a
    clear b2_d0 b2_d1 b3_d0 b3_d1
    have o13 := b2.kind.lt
    have o14 := b3.kind.lt
    have o15 := b4.kind.lt
    have o16 := xw.size
    replace b2 := b2.ext y0
    replace b3 := b3.ext y0
    replace b4 := b4.ext y0
    replace za := za.ext y0
    replace zb := zb.ext y0
    replace xw := Ext.trans xw y0
    have b5 : Box2 v12 k5 (.bool false) (.slice none 0 0) 37 := k5c
    clear k5c
    have b6 : Box2 v12 k6 (.bool false) (.slice none 0 0) 37 := k6c
    clear k6c
    have hT : Ext w5 v12 := hS'
    have b5_c0 := b5.c0
    have b5_c1 := b5.c1
    have b5_f0 := b5.f0
    have b5_f1 := b5.f1
    refine wpOp_of rfl fun K' hK => ?_
    go_simp
    clear b5_c0 b5_c1 b5_f0 b5_f1
    replace hT := Ext.set (Ext.set hT (k := k5) (o := 0) (u := .bool n11q) k5a) (k := k5) (o := 1) (u := .slice a11q l11q c11q) k5a
    refine hK _ _ ⟨hT, ?_⟩
    clear hK K'
    have b2N := (b2).other2 (b := k5) (by omega) (.bool n11q) (.slice a11q l11q c11q)
    have b3N := (b3).other2 (b := k5) (by omega) (.bool n11q) (.slice a11q l11q c11q)
    have b4N := (b4).other2 (b := k5) (by omega) (.bool n11q) (.slice a11q l11q c11q)
    have b5N := (b5).set (.bool n11q) (.slice a11q l11q c11q)
    have b6N := (b6).other2 (b := k5) (by omega) (.bool n11q) (.slice a11q l11q c11q)
    have zaN := (za).set2 (b5).kind (by decide) (.bool n11q) (.slice a11q l11q c11q)
    have zbN := (zb).set2 (b5).kind (by decide) (.bool n11q) (.slice a11q l11q c11q)
    have z7N := (z7).set2 (b5).kind (by decide) (.bool n11q) (.slice a11q l11q c11q)
    have z9N := (z9).set2 (b5).kind (by decide) (.bool n11q) (.slice a11q l11q c11q)
    have z11qN := (z11q).set2 (b5).kind (by decide) (.bool n11q) (.slice a11q l11q c11q)
    have z11rN := (z11r).set2 (b5).kind (by decide) (.bool n11q) (.slice a11q l11q c11q)
    replace xw := Ext.set (Ext.set xw (k := k5) (o := 0) (u := .bool n11q) (by omega)) (k := k5) (o := 1) (u := .slice a11q l11q c11q) (by omega)
    replace b2 := b2N; clear b2N
    replace b3 := b3N; clear b3N
    replace b4 := b4N; clear b4N
    replace b5 := b5N; clear b5N
    replace b6 := b6N; clear b6N
    replace za := zaN; clear zaN
    replace zb := zbN; clear zbN
    replace z7 := z7N; clear z7N
    replace z9 := z9N; clear z9N
    replace z11q := z11qN; clear z11qN
    replace z11r := z11rN; clear z11rN
    have b6_c0 := b6.c0
    have b6_c1 := b6.c1
    have b6_f0 := b6.f0
    have b6_f1 := b6.f1
    refine wpOp_of rfl fun K' hK => ?_
    go_simp
    clear b6_c0 b6_c1 b6_f0 b6_f1
    replace hT := Ext.set (Ext.set hT (k := k6) (o := 0) (u := .bool n11r) k6a) (k := k6) (o := 1) (u := .slice a11r l11r c11r) k6a
    refine hK _ _ ⟨hT, ?_⟩
    clear hK K'
    have b2N := (b2).other2 (b := k6) (by omega) (.bool n11r) (.slice a11r l11r c11r)
    have b3N := (b3).other2 (b := k6) (by omega) (.bool n11r) (.slice a11r l11r c11r)
    have b4N := (b4).other2 (b := k6) (by omega) (.bool n11r) (.slice a11r l11r c11r)
    have b5N := (b5).other2 (b := k6) (by omega) (.bool n11r) (.slice a11r l11r c11r)
    have b6N := (b6).set (.bool n11r) (.slice a11r l11r c11r)
    have zaN := (za).set2 (b6).kind (by decide) (.bool n11r) (.slice a11r l11r c11r)
    have zbN := (zb).set2 (b6).kind (by decide) (.bool n11r) (.slice a11r l11r c11r)
    have z7N := (z7).set2 (b6).kind (by decide) (.bool n11r) (.slice a11r l11r c11r)
    have z9N := (z9).set2 (b6).kind (by decide) (.bool n11r) (.slice a11r l11r c11r)
    have z11qN := (z11q).set2 (b6).kind (by decide) (.bool n11r) (.slice a11r l11r c11r)
    have z11rN := (z11r).set2 (b6).kind (by decide) (.bool n11r) (.slice a11r l11r c11r)
    replace xw := Ext.set (Ext.set xw (k := k6) (o := 0) (u := .bool n11r) (by omega)) (k := k6) (o := 1) (u := .slice a11r l11r c11r) (by omega)
    replace b2 := b2N; clear b2N
    replace b3 := b3N; clear b3N
    replace b4 := b4N; clear b4N
    replace b5 := b5N; clear b5N
    replace b6 := b6N; clear b6N
    replace za := zaN; clear zaN
    replace zb := zbN; clear zbN
    replace z7 := z7N; clear z7N
    replace z9 := z9N; clear z9N
    replace z11q := z11qN; clear z11qN
    replace z11r := z11rN; clear z11rN
    refine NoPanic.normal ?_
    clear hT hS' y0 hHeld
    go_upto_region 4 with fail
    refine wp_name ?_
    intro V17 hV
    rw [← hV] at b2 b3 b4 b5 b6 za zb z7 z9 z11q z11r xw
    clear hV
    clear z7 z9
    have b3_c0 := b3.c0
    have b3_c1 := b3.c1
    have b6_c0 := b6.c0
    have b6_c1 := b6.c1
    go_wp2_with fail
    refine (IH.out _ _ _ _ _ _ _ _ b ((a.natAbs : Int).fmod (b.natAbs : Int)) _ HLT zb z11r Bb B11r).mono ?_
    rintro e w18 ⟨n18, a18, l18, c18, rfl, z18, x18⟩
    replace x18 : Ext _ w18 := x18
    clear b3_c0 b3_c1 b6_c0 b6_c1
    replace b2 := b2.ext x18
    replace b3 := b3.ext x18
    replace b4 := b4.ext x18
    replace b5 := b5.ext x18
    replace b6 := b6.ext x18
    replace za := za.ext x18
    replace zb := zb.ext x18
    replace z11q := z11q.ext x18
    replace z11r := z11r.ext x18
    replace xw := Ext.trans xw x18
    have b4_c0 := b4.c0
    have b4_c1 := b4.c1
    have b4_f0 := b4.f0
    have b4_f1 := b4.f1
    have zr0 := (z18).set2 (b4).kind (by decide) (.bool n18) (.slice a18 l18 c18)
    have xr := Ext.set (Ext.set (xw) (k := w.heap.size + 1 + 1) (o := 0) (u := .bool n18) (by omega)) (k := w.heap.size + 1 + 1) (o := 1) (u := .slice a18 l18 c18) (by omega)
    go_wp2_with fail
    refine bodyPost_ret (v := .agg #[.bool n18, .slice a18 l18 c18]) (by simp [results, Try.results62, go_sem, b4_c0, b4_c1]) rfl ⟨_, _, _, _, rfl, by rw [← HG.out]; exact zr0, xr⟩
theorem common_any (K : Nat) (hK : K ≤ 80000) (na nb : Bool) (aa ab : Option Addr) (la ca lb cb : Nat) (a b : Int) (w : World) (za : IsZ w na (.slice aa la ca) a) (zb : IsZ w nb (.slice ab lb cb) b) (Ba : Bits K a) (Bb : Bits K b) :
    Calls Try.prog 62 #[.agg #[.bool na, .slice aa la ca], .agg #[.bool nb, .slice ab lb cb]] w (RetZ w ((Nat.gcd a.natAbs b.natAbs : Nat) : Int)) :=
  zcommon K hK (b.natAbs + 1) na nb aa ab la ca lb cb a b w (by omega) za zb Ba Bb
end Go.Proofs.Ytmkddcmfofabbaa
