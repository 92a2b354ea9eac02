/-
  The reference's Common of layer 3.
-/
import Derived.Test.YtmkddcmfofabbaaGg
import Derived.Test.YtmkddcmfofabbaaGf
set_option linter.unusedSimpArgs false
set_option linter.unusedVariables false
namespace Go.Proofs.Ytmkddcmfofabbaa
open Go Go.RowKit

theorem gcd_b {K : Nat} {a b : Int} (ha : Bits K a) (hb : Bits K b) : Bits K ((Nat.gcd b.natAbs (((a.natAbs : Int)).fmod (b.natAbs : Int)).natAbs : Nat) : Int) := by
  by_cases h0 : b = 0
  · subst h0; simp only [Int.natAbs_zero, Nat.gcd_zero_left]; exact ha.le (by simp)
  · exact hb.le (by simpa using Nat.gcd_le_left _ (by omega))
theorem cmp_no {b : Int} (h : ¬ b = 0) : (cmpI b 0 == 0) = false := by
  simp only [beq_eq_false_iff_ne, ne_eq]; unfold cmpI
  by_cases h1 : b < 0
  · simp [h1]
  · simp [h1, h]
theorem gcd_fmod {a b : Int} : Nat.gcd b.natAbs (((a.natAbs : Int)).fmod (b.natAbs : Int)).natAbs = Nat.gcd a.natAbs b.natAbs := by
  rw [Int.fmod_eq_emod_of_nonneg _ (by omega), show ((a.natAbs : Int) % (b.natAbs : Int)).natAbs = a.natAbs % b.natAbs by omega, ← gcd_step]
set_option maxRecDepth 100000 in
set_option maxHeartbeats 3200000 in
theorem zcommon (K : Nat) (hK : K ≤ 80000) (N : Nat) : ∀ (na nb : Bool) (aa ab : Option Addr) (la ca lb cb : Nat) (a b : Int) (w : World), b.natAbs < N → IsZ w na (.slice aa la ca) a → IsZ w nb (.slice ab lb cb) b → Bits K a → Bits K b →
    Calls Try.prog 62 #[.agg #[.bool na, .slice aa la ca], .agg #[.bool nb, .slice ab lb cb]] w (RetZ w ((Nat.gcd a.natAbs b.natAbs : Nat) : Int)) := by
  induction N with
  | zero => intro na nb aa ab la ca lb cb a b w h; omega
  | succ N ih =>
  intro na nb aa ab la ca lb cb a b w hN za zb Ba Bb
  have IH := Lib.hid ih
  clear ih
  have HSgn := Lib.hid sign_z
  have HAbs := Lib.hid abs_any
  have HDiv := Lib.hid div_z
  by_cases h0 : b = 0
  · have g0 : (cmpI b 0 == 0) = true := by rw [h0]; rfl
    have HG := Lib.hid (show ((a.natAbs : Nat) : Int) = ((Nat.gcd a.natAbs b.natAbs : Nat) : Int) by rw [h0]; simp)
    clear h0 hN
    go_enter Try.func62, Try.ntmps62
    go_upto_region 1 with fail
    have xw := Ext.refl w
    refine wp_name ?_
    intro V1 hV
    have zaN : IsZ V1 na (.slice aa la ca) a := by rw [hV]; exact (((za).alloc _).alloc _).alloc _
    have zbN : IsZ V1 nb (.slice ab lb cb) b := by rw [hV]; exact (((zb).alloc _).alloc _).alloc _
    replace xw : Ext w V1 := by rw [hV]; exact Ext.alloc (Ext.alloc (Ext.alloc (xw)))
    replace za := zaN; clear zaN
    replace zb := zbN; clear zbN
    have b2 : Box2 V1 w.heap.size (.bool na) (.slice aa la ca) 37 := by rw [hV]; exact ((Box2.new rfl).alloc _).alloc _
    have b3 : Box2 V1 (w.heap.size + 1) (.bool nb) (.slice ab lb cb) 37 := by rw [hV]; exact (Box2.new (by simp)).alloc _
    have b4 : Box2 V1 (w.heap.size + 1 + 1) (.bool false) (.slice none 0 0) 37 := by rw [hV]; exact Box2.new (by simp)
    clear hV
    have b3_c0 := b3.c0
    have b3_c1 := b3.c1
    go_wp2_with fail
    refine (HSgn.out _ _ _ _ b _ zb (Bb.fit (by omega))).mono ?_
    rintro e w2 ⟨rfl, x2⟩
    replace x2 : Ext _ w2 := x2
    clear b3_c0 b3_c1
    replace b2 := b2.ext x2
    replace b3 := b3.ext x2
    replace b4 := b4.ext x2
    replace za := za.ext x2
    replace zb := zb.ext x2
    replace xw := Ext.trans xw x2
    go_upto_region 2 with fail
    have b2_c0 := b2.c0
    have b2_c1 := b2.c1
    go_wp2_with fail
    refine (HAbs.out _ _ _ _ a _ za (Ba.fit (by omega))).mono ?_
    rintro e w3 ⟨n3, a3, l3, c3, rfl, z3, x3⟩
    replace x3 : Ext _ w3 := x3
    have B3 : Bits K ((a.natAbs : Int)) := Ba.abs
    clear b2_c0 b2_c1
    replace b2 := b2.ext x3
    replace b3 := b3.ext x3
    replace b4 := b4.ext x3
    replace za := za.ext x3
    replace zb := zb.ext x3
    replace xw := Ext.trans xw x3
    have b4_c0 := b4.c0
    have b4_c1 := b4.c1
    have b4_f0 := b4.f0
    have b4_f1 := b4.f1
    have zr0 := (z3).set2 (b4).kind (by decide) (.bool n3) (.slice a3 l3 c3)
    have xr := Ext.set (Ext.set (xw) (k := w.heap.size + 1 + 1) (o := 0) (u := .bool n3) (by omega)) (k := w.heap.size + 1 + 1) (o := 1) (u := .slice a3 l3 c3) (by omega)
    go_wp2_with fail
    refine bodyPost_ret (v := .agg #[.bool n3, .slice a3 l3 c3]) (by simp [results, Try.results62, go_sem, b4_c0, b4_c1]) rfl ⟨_, _, _, _, rfl, by rw [← HG.out]; exact zr0, xr⟩
  · have g0 : (cmpI b 0 == 0) = false := cmp_no h0
    have D0 : (b.natAbs : Int) ≠ 0 := by omega
    have HLT : (((a.natAbs : Int)).fmod (b.natAbs : Int)).natAbs < N := by have := fmod_lt (a := (a.natAbs : Int)) D0; omega
    have HG := Lib.hid (show ((Nat.gcd b.natAbs (((a.natAbs : Int)).fmod (b.natAbs : Int)).natAbs : Nat) : Int) = ((Nat.gcd a.natAbs b.natAbs : Nat) : Int) by rw [gcd_fmod])
    clear hN h0
    go_enter Try.func62, Try.ntmps62
    go_upto_region 1 with fail
    have xw := Ext.refl w
    refine wp_name ?_
    intro V4 hV
    have zaN : IsZ V4 na (.slice aa la ca) a := by rw [hV]; exact (((za).alloc _).alloc _).alloc _
    have zbN : IsZ V4 nb (.slice ab lb cb) b := by rw [hV]; exact (((zb).alloc _).alloc _).alloc _
    replace xw : Ext w V4 := by rw [hV]; exact Ext.alloc (Ext.alloc (Ext.alloc (xw)))
    replace za := zaN; clear zaN
    replace zb := zbN; clear zbN
    have b2 : Box2 V4 w.heap.size (.bool na) (.slice aa la ca) 37 := by rw [hV]; exact ((Box2.new rfl).alloc _).alloc _
    have b3 : Box2 V4 (w.heap.size + 1) (.bool nb) (.slice ab lb cb) 37 := by rw [hV]; exact (Box2.new (by simp)).alloc _
    have b4 : Box2 V4 (w.heap.size + 1 + 1) (.bool false) (.slice none 0 0) 37 := by rw [hV]; exact Box2.new (by simp)
    clear hV
    have b3_c0 := b3.c0
    have b3_c1 := b3.c1
    go_wp2_with fail
    refine (HSgn.out _ _ _ _ b _ zb (Bb.fit (by omega))).mono ?_
    rintro e w5 ⟨rfl, x5⟩
    replace x5 : Ext _ w5 := x5
    clear b3_c0 b3_c1
    replace b2 := b2.ext x5
    replace b3 := b3.ext x5
    replace b4 := b4.ext x5
    replace za := za.ext x5
    replace zb := zb.ext x5
    replace xw := Ext.trans xw x5
    go_upto_region 3 with fail
    refine wp_region_noPanic ?_
    refine wp_region_held_drew (S := fun w' => Ext w5 w') (by kernel_rfl) (Ext.refl w5).drew (fun hHeld => ?_)
    have b2_d0 := fun w' (h : Ext w5 w') => (b2.ext h).c0
    have b2_d1 := fun w' (h : Ext w5 w') => (b2.ext h).c1
    have b3_d0 := fun w' (h : Ext w5 w') => (b3.ext h).c0
    have b3_d1 := fun w' (h : Ext w5 w') => (b3.ext h).c1
    refine wpAnyH_take (i := 0) (v := .agg #[.bool na, .slice aa la ca]) rfl (by kernel_rfl) (by kernel_rfl) (by kernel_rfl) (fun _ _ _ h => h) (Or.inl ⟨by kernel_rfl, fun w' h => (by go_simp)⟩) hHeld ?_
    refine wpAnyH_take (i := 2) (v := .agg #[.bool nb, .slice ab lb cb]) rfl (by kernel_rfl) (by kernel_rfl) (by kernel_rfl) (fun _ _ _ h => h) (Or.inl ⟨by kernel_rfl, fun w' h => (by go_simp)⟩) hHeld ?_
    refine region2 (N := 12) (f0 := [0, 2]) (l := [(1, false), (3, false), (4, false), (5, true), (6, true), (7, true)]) (T := [10, 11]) (iA := 8) (dA := 5) (iB := 9) (dB := 6) (oA := .cells #[.bool false, .slice none 0 0] 37) (oB := .cells #[.bool false, .slice none 0 0] 37) (fun _ _ _ _ _ h => h) (by kernel_rfl) (by kernel_rfl) rfl (by kernel_rfl) (by kernel_rfl)
      (fun K a w h => wpOp_of rfl fun K' hK => (by go_simp; exact hK _ _ h)) (fun K a w h => wpOp_of rfl fun K' hK => (by go_simp; exact hK _ _ h)) (by decide) (by simp [Act.put]) (by simp [Act.put]) (fun _ _ h x => h.trans x) hHeld ?_
    have y0 : Ext w5 w5.drew := (Ext.refl w5).drew
    intro a1 v6 h1 yv6
    obtain ⟨s16, s26, rfl⟩ := away2 h1; refine wpOp_of rfl fun K' hK => ?_; go_simp
    replace y0 := Ext.trans y0 yv6
    have zaC := za.ext y0
    refine (HAbs.out _ _ _ _ a _ zaC (Ba.fit (by omega))).mono ?_
    rintro e w7 ⟨n7, a7, l7, c7, rfl, z7, x7⟩
    replace x7 : Ext _ w7 := x7
    have B7 : Bits K ((a.natAbs : Int)) := Ba.abs
    clear zaC
    refine hK _ _ ⟨⟨x7, rfl, slots2 rfl rfl⟩, ?_⟩; clear hK K'
    replace y0 := Ext.trans y0 x7
    intro a1 v8 h1 yv8
    obtain ⟨s18, s28, rfl⟩ := away2 h1; refine wpOp_of rfl fun K' hK => ?_; go_simp
    replace y0 := Ext.trans y0 yv8
    replace z7 := z7.ext yv8
    have zbC := zb.ext y0
    refine (HAbs.out _ _ _ _ b _ zbC (Bb.fit (by omega))).mono ?_
    rintro e w9 ⟨n9, a9, l9, c9, rfl, z9, x9⟩
    replace x9 : Ext _ w9 := x9
    have B9 : Bits K ((b.natAbs : Int)) := Bb.abs
    clear zbC
    refine hK _ _ ⟨⟨x9, rfl, slots2 rfl rfl⟩, ?_⟩; clear hK K'
    replace y0 := Ext.trans y0 x9
    replace z7 := z7.ext x9
    intro a1 v10 h1 yv10
    obtain ⟨s110, s210, rfl⟩ := away2 h1; refine wpOp_of rfl fun K' hK => ?_; go_simp
    replace y0 := Ext.trans y0 yv10
    replace z7 := z7.ext yv10
    replace z9 := z9.ext yv10
    refine (HDiv.out _ _ _ _ _ _ _ _ (a.natAbs : Int) (b.natAbs : Int) _ z7 z9 K (by omega) B7 B9 D0).mono ?_
    rintro e w11 ⟨n11q, a11q, l11q, c11q, n11r, a11r, l11r, c11r, rfl, z11q, z11r, x11⟩
    replace x11 : Ext _ w11 := x11
    have B11q : Bits (K + 1) ((a.natAbs : Int).fdiv (b.natAbs : Int)) := fdiv_b B7 D0
    have B11r : Bits K ((a.natAbs : Int).fmod (b.natAbs : Int)) := fmod_b B9 D0
    refine hK _ _ ⟨⟨x11, rfl, slots2 rfl rfl⟩, ?_⟩; clear hK K'
    replace y0 := Ext.trans y0 x11
    replace z7 := z7.ext x11
    replace z9 := z9.ext x11
    refine ⟨_, .tuple #[.agg #[.bool n11q, .slice a11q l11q c11q], .agg #[.bool n11r, .slice a11r l11r c11r]], rfl, Or.inl ⟨by rfl, fun w' h => (by go_simp)⟩, by simp, ?_⟩
    refine ⟨_, .agg #[.bool n11q, .slice a11q l11q c11q], rfl, Or.inl ⟨by rfl, fun w' h => (by go_simp)⟩, by simp, ?_⟩
    refine ⟨_, .agg #[.bool n11r, .slice a11r l11r c11r], rfl, Or.inl ⟨by rfl, fun w' h => (by go_simp)⟩, by simp, ?_⟩
    intro a' v12 h yv12
    obtain ⟨s112, s212, rfl⟩ := away2 h
    rintro k5 k6 ⟨k5a, k5b, k5c⟩ ⟨k6a, k6b, k6c⟩ k5ne hS'
    replace y0 := Ext.trans y0 yv12
    replace z7 := z7.ext yv12
    replace z9 := z9.ext yv12
    replace z11q := z11q.ext yv12
    replace z11r := z11r.ext yv12
    simp [Act.put] at k5b; subst k5b; replace k5a : w5.heap.size ≤ k5 := k5a
    simp [Act.put] at k6b; subst k6b; replace k6a : w5.heap.size ≤ k6 := k6a
    clear b2_d0 b2_d1 b3_d0 b3_d1
    have o13 := b2.kind.lt
    have o14 := b3.kind.lt
    have o15 := b4.kind.lt
    have o16 := xw.size
    replace b2 := b2.ext y0
    replace b3 := b3.ext y0
    replace b4 := b4.ext y0
    replace za := za.ext y0
    replace zb := zb.ext y0
    replace xw := Ext.trans xw y0
    have b5 : Box2 v12 k5 (.bool false) (.slice none 0 0) 37 := k5c
    clear k5c
    have b6 : Box2 v12 k6 (.bool false) (.slice none 0 0) 37 := k6c
    clear k6c
    have hT : Ext w5 v12 := hS'
    have b5_c0 := b5.c0
    have b5_c1 := b5.c1
    have b5_f0 := b5.f0
    have b5_f1 := b5.f1
    refine wpOp_of rfl fun K' hK => ?_
    go_simp
    clear b5_c0 b5_c1 b5_f0 b5_f1
    replace hT := Ext.set hT (k := k5) (o := 0) (u := .bool n11q) k5a
    replace hT := Ext.set hT (k := k5) (o := 1) (u := .slice a11q l11q c11q) k5a
    refine hK _ _ ⟨hT, ?_⟩
    clear hK K'
    have b2N := ((b2).other (b := k5) (by omega) 0 (.bool n11q)).other (b := k5) (by omega) 1 (.slice a11q l11q c11q)
    have b3N := ((b3).other (b := k5) (by omega) 0 (.bool n11q)).other (b := k5) (by omega) 1 (.slice a11q l11q c11q)
    have b4N := ((b4).other (b := k5) (by omega) 0 (.bool n11q)).other (b := k5) (by omega) 1 (.slice a11q l11q c11q)
    have b5N := (b5).set (.bool n11q) (.slice a11q l11q c11q)
    have b6N := ((b6).other (b := k5) (by omega) 0 (.bool n11q)).other (b := k5) (by omega) 1 (.slice a11q l11q c11q)
    have zaN := (za).set2 (b5).kind (by decide) (.bool n11q) (.slice a11q l11q c11q)
    have zbN := (zb).set2 (b5).kind (by decide) (.bool n11q) (.slice a11q l11q c11q)
    have z7N := (z7).set2 (b5).kind (by decide) (.bool n11q) (.slice a11q l11q c11q)
    have z9N := (z9).set2 (b5).kind (by decide) (.bool n11q) (.slice a11q l11q c11q)
    have z11qN := (z11q).set2 (b5).kind (by decide) (.bool n11q) (.slice a11q l11q c11q)
    have z11rN := (z11r).set2 (b5).kind (by decide) (.bool n11q) (.slice a11q l11q c11q)
    replace xw := Ext.set (Ext.set (xw) (k := k5) (o := 0) (u := .bool n11q) (by omega)) (k := k5) (o := 1) (u := .slice a11q l11q c11q) (by omega)
    replace b2 := b2N; clear b2N
    replace b3 := b3N; clear b3N
    replace b4 := b4N; clear b4N
    replace b5 := b5N; clear b5N
    replace b6 := b6N; clear b6N
    replace za := zaN; clear zaN
    replace zb := zbN; clear zbN
    replace z7 := z7N; clear z7N
    replace z9 := z9N; clear z9N
    replace z11q := z11qN; clear z11qN
    replace z11r := z11rN; clear z11rN
    have b6_c0 := b6.c0
    have b6_c1 := b6.c1
    have b6_f0 := b6.f0
    have b6_f1 := b6.f1
    refine wpOp_of rfl fun K' hK => ?_
    go_simp
    clear b6_c0 b6_c1 b6_f0 b6_f1
    replace hT := Ext.set hT (k := k6) (o := 0) (u := .bool n11r) k6a
    replace hT := Ext.set hT (k := k6) (o := 1) (u := .slice a11r l11r c11r) k6a
    refine hK _ _ ⟨hT, ?_⟩
    clear hK K'
    have b2N := ((b2).other (b := k6) (by omega) 0 (.bool n11r)).other (b := k6) (by omega) 1 (.slice a11r l11r c11r)
    have b3N := ((b3).other (b := k6) (by omega) 0 (.bool n11r)).other (b := k6) (by omega) 1 (.slice a11r l11r c11r)
    have b4N := ((b4).other (b := k6) (by omega) 0 (.bool n11r)).other (b := k6) (by omega) 1 (.slice a11r l11r c11r)
    have b5N := ((b5).other (b := k6) (by omega) 0 (.bool n11r)).other (b := k6) (by omega) 1 (.slice a11r l11r c11r)
    have b6N := (b6).set (.bool n11r) (.slice a11r l11r c11r)
    have zaN := (za).set2 (b6).kind (by decide) (.bool n11r) (.slice a11r l11r c11r)
    have zbN := (zb).set2 (b6).kind (by decide) (.bool n11r) (.slice a11r l11r c11r)
    have z7N := (z7).set2 (b6).kind (by decide) (.bool n11r) (.slice a11r l11r c11r)
    have z9N := (z9).set2 (b6).kind (by decide) (.bool n11r) (.slice a11r l11r c11r)
    have z11qN := (z11q).set2 (b6).kind (by decide) (.bool n11r) (.slice a11r l11r c11r)
    have z11rN := (z11r).set2 (b6).kind (by decide) (.bool n11r) (.slice a11r l11r c11r)
    replace xw := Ext.set (Ext.set (xw) (k := k6) (o := 0) (u := .bool n11r) (by omega)) (k := k6) (o := 1) (u := .slice a11r l11r c11r) (by omega)
    replace b2 := b2N; clear b2N
    replace b3 := b3N; clear b3N
    replace b4 := b4N; clear b4N
    replace b5 := b5N; clear b5N
    replace b6 := b6N; clear b6N
    replace za := zaN; clear zaN
    replace zb := zbN; clear zbN
    replace z7 := z7N; clear z7N
    replace z9 := z9N; clear z9N
    replace z11q := z11qN; clear z11qN
    replace z11r := z11rN; clear z11rN
    refine NoPanic.normal ?_
    clear hT hS' y0 hHeld
    go_upto_region 4 with fail
    refine wp_name ?_
    intro V17 hV
    rw [← hV] at b2 b3 b4 b5 b6 za zb z7 z9 z11q z11r xw
    clear hV
    clear z7 z9
    have b3_c0 := b3.c0
    have b3_c1 := b3.c1
    have b6_c0 := b6.c0
    have b6_c1 := b6.c1
    go_wp2_with fail
    refine (IH.out _ _ _ _ _ _ _ _ b ((a.natAbs : Int).fmod (b.natAbs : Int)) _ HLT zb z11r Bb B11r).mono ?_
    rintro e w18 ⟨n18, a18, l18, c18, rfl, z18, x18⟩
    replace x18 : Ext _ w18 := x18
    clear b3_c0 b3_c1 b6_c0 b6_c1
    replace b2 := b2.ext x18
    replace b3 := b3.ext x18
    replace b4 := b4.ext x18
    replace b5 := b5.ext x18
    replace b6 := b6.ext x18
    replace za := za.ext x18
    replace zb := zb.ext x18
    replace z11q := z11q.ext x18
    replace z11r := z11r.ext x18
    replace xw := Ext.trans xw x18
    have b4_c0 := b4.c0
    have b4_c1 := b4.c1
    have b4_f0 := b4.f0
    have b4_f1 := b4.f1
    have zr0 := (z18).set2 (b4).kind (by decide) (.bool n18) (.slice a18 l18 c18)
    have xr := Ext.set (Ext.set (xw) (k := w.heap.size + 1 + 1) (o := 0) (u := .bool n18) (by omega)) (k := w.heap.size + 1 + 1) (o := 1) (u := .slice a18 l18 c18) (by omega)
    go_wp2_with fail
    refine bodyPost_ret (v := .agg #[.bool n18, .slice a18 l18 c18]) (by simp [results, Try.results62, go_sem, b4_c0, b4_c1]) rfl ⟨_, _, _, _, rfl, by rw [← HG.out]; exact zr0, xr⟩
theorem common_any (K : Nat) (hK : K ≤ 80000) (na nb : Bool) (aa ab : Option Addr) (la ca lb cb : Nat) (a b : Int) (w : World) (za : IsZ w na (.slice aa la ca) a) (zb : IsZ w nb (.slice ab lb cb) b) (Ba : Bits K a) (Bb : Bits K b) :
    Calls Try.prog 62 #[.agg #[.bool na, .slice aa la ca], .agg #[.bool nb, .slice ab lb cb]] w (RetZ w ((Nat.gcd a.natAbs b.natAbs : Nat) : Int)) :=
  zcommon K hK (b.natAbs + 1) na nb aa ab la ca lb cb a b w (by omega) za zb Ba Bb
end Go.Proofs.Ytmkddcmfofabbaa

/-
  The reference's Cut of layer 3.
-/
set_option linter.unusedSimpArgs false
set_option linter.unusedVariables false
namespace Go.Proofs.Ytmkddcmfofabbaa
open Go Go.RowKit

theorem cut_same {a b : Int} (h : decide (a < 0) = decide (b < 0)) : Int.fdiv a.natAbs b.natAbs = a.tdiv b := by
  rw [Int.fdiv_eq_ediv_of_nonneg _ (by omega), ← tdiv_mag a b, h]
  simp only [beq_self_eq_true, Bool.not_true, wsg_f]
  rw [mag_abs, mag_abs]
theorem cut_other {a b : Int} (h : ¬ decide (a < 0) = decide (b < 0)) : -(Int.fdiv a.natAbs b.natAbs) = a.tdiv b := by
  rw [Int.fdiv_eq_ediv_of_nonneg _ (by omega), ← tdiv_mag a b, beq_false_of_ne h]
  simp only [Bool.not_false, wsg_t]
  rw [mag_abs, mag_abs]
set_option maxRecDepth 100000 in
set_option maxHeartbeats 3200000 in
theorem zcut (K : Nat) (hK : K ≤ 30000) (na nb : Bool) (aa ab : Option Addr) (la ca lb cb : Nat) (a b : Int) (w : World) (za : IsZ w na (.slice aa la ca) a) (zb : IsZ w nb (.slice ab lb cb) b) (Ba : Bits K a) (Bb : Bits K b) (h0 : b ≠ 0) :
    Calls Try.prog 107 #[.agg #[.bool na, .slice aa la ca], .agg #[.bool nb, .slice ab lb cb]] w (RetZZ w (a.tdiv b) (a.tmod b)) := by
  have HAbs := Lib.hid abs_any
  have HDiv := Lib.hid div_z
  have HNeg := Lib.hid neg_any
  have HMul := Lib.hid mul_z
  have HSub := Lib.hid sub_z
  have BQ : Bits K (a.tdiv b) := Ba.le (by rw [tdiv_nat]; exact Nat.div_le_self _ _)
  have D0 : ((b.natAbs : Nat) : Int) ≠ 0 := by omega
  have HM := Lib.hid (show a - (a.tdiv b) * b = a.tmod b by rw [Int.tmod_def, Int.mul_comm])
  clear h0
  go_enter Try.func107, Try.ntmps107
  go_upto_region 1 with fail
  have xw := Ext.refl w
  refine wp_name ?_
  intro V1 hV
  have zaN : IsZ V1 na (.slice aa la ca) a := by rw [hV]; exact ((((za).alloc _).alloc _).alloc _).alloc _
  have zbN : IsZ V1 nb (.slice ab lb cb) b := by rw [hV]; exact ((((zb).alloc _).alloc _).alloc _).alloc _
  replace xw : Ext w V1 := by rw [hV]; exact Ext.alloc (Ext.alloc (Ext.alloc (Ext.alloc (xw))))
  replace za := zaN; clear zaN
  replace zb := zbN; clear zbN
  have b2 : Box2 V1 w.heap.size (.bool na) (.slice aa la ca) 37 := by rw [hV]; exact (((Box2.new rfl).alloc _).alloc _).alloc _
  have b3 : Box2 V1 (w.heap.size + 1) (.bool nb) (.slice ab lb cb) 37 := by rw [hV]; exact ((Box2.new (by simp)).alloc _).alloc _
  have b4 : Box2 V1 (w.heap.size + 1 + 1) (.bool false) (.slice none 0 0) 37 := by rw [hV]; exact (Box2.new (by simp)).alloc _
  have b5 : Box2 V1 (w.heap.size + 1 + 1 + 1) (.bool false) (.slice none 0 0) 37 := by rw [hV]; exact Box2.new (by simp)
  clear hV
  refine wp_region_noPanic ?_
  refine wp_region_held_drew (S := fun w' => Ext V1 w') (by kernel_rfl) (Ext.refl V1).drew (fun hHeld => ?_)
  have b2_d0 := fun w' (h : Ext V1 w') => (b2.ext h).c0
  have b2_d1 := fun w' (h : Ext V1 w') => (b2.ext h).c1
  have b3_d0 := fun w' (h : Ext V1 w') => (b3.ext h).c0
  have b3_d1 := fun w' (h : Ext V1 w') => (b3.ext h).c1
  refine wpAnyH_take (i := 0) (v := .agg #[.bool na, .slice aa la ca]) rfl (by kernel_rfl) (by kernel_rfl) (by kernel_rfl) (fun _ _ _ h => h) (Or.inl ⟨by kernel_rfl, fun w' h => (by go_simp)⟩) hHeld ?_
  refine wpAnyH_take (i := 2) (v := .agg #[.bool nb, .slice ab lb cb]) rfl (by kernel_rfl) (by kernel_rfl) (by kernel_rfl) (fun _ _ _ h => h) (Or.inl ⟨by kernel_rfl, fun w' h => (by go_simp)⟩) hHeld ?_
  refine region2 (N := 12) (f0 := [0, 2]) (l := [(1, false), (3, false), (4, false), (5, true), (6, true), (7, true)]) (T := [10, 11]) (iA := 8) (dA := 6) (iB := 9) (dB := 7) (oA := .cells #[.bool false, .slice none 0 0] 37) (oB := .cells #[.bool false, .slice none 0 0] 37) (fun _ _ _ _ _ h => h) (by kernel_rfl) (by kernel_rfl) rfl (by kernel_rfl) (by kernel_rfl)
    (fun K a w h => wpOp_of rfl fun K' hK => (by go_simp; exact hK _ _ h)) (fun K a w h => wpOp_of rfl fun K' hK => (by go_simp; exact hK _ _ h)) (by decide) (by simp [Act.put]) (by simp [Act.put]) (fun _ _ h x => h.trans x) hHeld ?_
  have y0 : Ext V1 V1.drew := (Ext.refl V1).drew
  intro a1 v2 h1 yv2
  obtain ⟨s12, s22, rfl⟩ := away2 h1; refine wpOp_of rfl fun K' hK => ?_; go_simp
  replace y0 := Ext.trans y0 yv2
  have zaC := za.ext y0
  refine (HAbs.out _ _ _ _ a _ zaC (Ba.fit (by omega))).mono ?_
  rintro e w3 ⟨n3, a3, l3, c3, rfl, z3, x3⟩
  replace x3 : Ext _ w3 := x3
  have B3 : Bits K ((a.natAbs : Int)) := Ba.abs
  clear zaC
  refine hK _ _ ⟨⟨x3, rfl, slots2 rfl rfl⟩, ?_⟩; clear hK K'
  replace y0 := Ext.trans y0 x3
  intro a1 v4 h1 yv4
  obtain ⟨s14, s24, rfl⟩ := away2 h1; refine wpOp_of rfl fun K' hK => ?_; go_simp
  replace y0 := Ext.trans y0 yv4
  replace z3 := z3.ext yv4
  have zbC := zb.ext y0
  refine (HAbs.out _ _ _ _ b _ zbC (Bb.fit (by omega))).mono ?_
  rintro e w5 ⟨n5, a5, l5, c5, rfl, z5, x5⟩
  replace x5 : Ext _ w5 := x5
  have B5 : Bits K ((b.natAbs : Int)) := Bb.abs
  clear zbC
  refine hK _ _ ⟨⟨x5, rfl, slots2 rfl rfl⟩, ?_⟩; clear hK K'
  replace y0 := Ext.trans y0 x5
  replace z3 := z3.ext x5
  intro a1 v6 h1 yv6
  obtain ⟨s16, s26, rfl⟩ := away2 h1; refine wpOp_of rfl fun K' hK => ?_; go_simp
  replace y0 := Ext.trans y0 yv6
  replace z3 := z3.ext yv6
  replace z5 := z5.ext yv6
  refine (HDiv.out _ _ _ _ _ _ _ _ (a.natAbs : Int) (b.natAbs : Int) _ z3 z5 K (by omega) B3 B5 D0).mono ?_
  rintro e w7 ⟨n7q, a7q, l7q, c7q, n7r, a7r, l7r, c7r, rfl, z7q, z7r, x7⟩
  replace x7 : Ext _ w7 := x7
  have B7q : Bits (K + 1) ((a.natAbs : Int).fdiv (b.natAbs : Int)) := fdiv_b B3 D0
  have B7r : Bits K ((a.natAbs : Int).fmod (b.natAbs : Int)) := fmod_b B5 D0
  refine hK _ _ ⟨⟨x7, rfl, slots2 rfl rfl⟩, ?_⟩; clear hK K'
  replace y0 := Ext.trans y0 x7
  replace z3 := z3.ext x7
  replace z5 := z5.ext x7
  refine ⟨_, .tuple #[.agg #[.bool n7q, .slice a7q l7q c7q], .agg #[.bool n7r, .slice a7r l7r c7r]], rfl, Or.inl ⟨by rfl, fun w' h => (by go_simp)⟩, by simp, ?_⟩
  refine ⟨_, .agg #[.bool n7q, .slice a7q l7q c7q], rfl, Or.inl ⟨by rfl, fun w' h => (by go_simp)⟩, by simp, ?_⟩
  refine ⟨_, .agg #[.bool n7r, .slice a7r l7r c7r], rfl, Or.inl ⟨by rfl, fun w' h => (by go_simp)⟩, by simp, ?_⟩
  intro a' v8 h yv8
  obtain ⟨s18, s28, rfl⟩ := away2 h
  rintro k6 k7 ⟨k6a, k6b, k6c⟩ ⟨k7a, k7b, k7c⟩ k6ne hS'
  replace y0 := Ext.trans y0 yv8
  replace z3 := z3.ext yv8
  replace z5 := z5.ext yv8
  replace z7q := z7q.ext yv8
  replace z7r := z7r.ext yv8
  simp [Act.put] at k6b; subst k6b; replace k6a : V1.heap.size ≤ k6 := k6a
  simp [Act.put] at k7b; subst k7b; replace k7a : V1.heap.size ≤ k7 := k7a
  clear b2_d0 b2_d1 b3_d0 b3_d1
  have o9 := b2.kind.lt
  have o10 := b3.kind.lt
  have o11 := b4.kind.lt
  have o12 := b5.kind.lt
  have o13 := xw.size
  replace b2 := b2.ext y0
  replace b3 := b3.ext y0
  replace b4 := b4.ext y0
  replace b5 := b5.ext y0
  replace za := za.ext y0
  replace zb := zb.ext y0
  replace xw := Ext.trans xw y0
  have b6 : Box2 v8 k6 (.bool false) (.slice none 0 0) 37 := k6c
  clear k6c
  have b7 : Box2 v8 k7 (.bool false) (.slice none 0 0) 37 := k7c
  clear k7c
  have hT : Ext V1 v8 := hS'
  have b6_c0 := b6.c0
  have b6_c1 := b6.c1
  have b6_f0 := b6.f0
  have b6_f1 := b6.f1
  refine wpOp_of rfl fun K' hK => ?_
  go_simp
  clear b6_c0 b6_c1 b6_f0 b6_f1
  replace hT := Ext.set hT (k := k6) (o := 0) (u := .bool n7q) k6a
  replace hT := Ext.set hT (k := k6) (o := 1) (u := .slice a7q l7q c7q) k6a
  refine hK _ _ ⟨hT, ?_⟩
  clear hK K'
  have b2N := ((b2).other (b := k6) (by omega) 0 (.bool n7q)).other (b := k6) (by omega) 1 (.slice a7q l7q c7q)
  have b3N := ((b3).other (b := k6) (by omega) 0 (.bool n7q)).other (b := k6) (by omega) 1 (.slice a7q l7q c7q)
  have b4N := ((b4).other (b := k6) (by omega) 0 (.bool n7q)).other (b := k6) (by omega) 1 (.slice a7q l7q c7q)
  have b5N := ((b5).other (b := k6) (by omega) 0 (.bool n7q)).other (b := k6) (by omega) 1 (.slice a7q l7q c7q)
  have b6N := (b6).set (.bool n7q) (.slice a7q l7q c7q)
  have b7N := ((b7).other (b := k6) (by omega) 0 (.bool n7q)).other (b := k6) (by omega) 1 (.slice a7q l7q c7q)
  have zaN := (za).set2 (b6).kind (by decide) (.bool n7q) (.slice a7q l7q c7q)
  have zbN := (zb).set2 (b6).kind (by decide) (.bool n7q) (.slice a7q l7q c7q)
  have z3N := (z3).set2 (b6).kind (by decide) (.bool n7q) (.slice a7q l7q c7q)
  have z5N := (z5).set2 (b6).kind (by decide) (.bool n7q) (.slice a7q l7q c7q)
  have z7qN := (z7q).set2 (b6).kind (by decide) (.bool n7q) (.slice a7q l7q c7q)
  have z7rN := (z7r).set2 (b6).kind (by decide) (.bool n7q) (.slice a7q l7q c7q)
  replace xw := Ext.set (Ext.set (xw) (k := k6) (o := 0) (u := .bool n7q) (by omega)) (k := k6) (o := 1) (u := .slice a7q l7q c7q) (by omega)
  replace b2 := b2N; clear b2N
  replace b3 := b3N; clear b3N
  replace b4 := b4N; clear b4N
  replace b5 := b5N; clear b5N
  replace b6 := b6N; clear b6N
  replace b7 := b7N; clear b7N
  replace za := zaN; clear zaN
  replace zb := zbN; clear zbN
  replace z3 := z3N; clear z3N
  replace z5 := z5N; clear z5N
  replace z7q := z7qN; clear z7qN
  replace z7r := z7rN; clear z7rN
  have b7_c0 := b7.c0
  have b7_c1 := b7.c1
  have b7_f0 := b7.f0
  have b7_f1 := b7.f1
  refine wpOp_of rfl fun K' hK => ?_
  go_simp
  clear b7_c0 b7_c1 b7_f0 b7_f1
  replace hT := Ext.set hT (k := k7) (o := 0) (u := .bool n7r) k7a
  replace hT := Ext.set hT (k := k7) (o := 1) (u := .slice a7r l7r c7r) k7a
  refine hK _ _ ⟨hT, ?_⟩
  clear hK K'
  have b2N := ((b2).other (b := k7) (by omega) 0 (.bool n7r)).other (b := k7) (by omega) 1 (.slice a7r l7r c7r)
  have b3N := ((b3).other (b := k7) (by omega) 0 (.bool n7r)).other (b := k7) (by omega) 1 (.slice a7r l7r c7r)
  have b4N := ((b4).other (b := k7) (by omega) 0 (.bool n7r)).other (b := k7) (by omega) 1 (.slice a7r l7r c7r)
  have b5N := ((b5).other (b := k7) (by omega) 0 (.bool n7r)).other (b := k7) (by omega) 1 (.slice a7r l7r c7r)
  have b6N := ((b6).other (b := k7) (by omega) 0 (.bool n7r)).other (b := k7) (by omega) 1 (.slice a7r l7r c7r)
  have b7N := (b7).set (.bool n7r) (.slice a7r l7r c7r)
  have zaN := (za).set2 (b7).kind (by decide) (.bool n7r) (.slice a7r l7r c7r)
  have zbN := (zb).set2 (b7).kind (by decide) (.bool n7r) (.slice a7r l7r c7r)
  have z3N := (z3).set2 (b7).kind (by decide) (.bool n7r) (.slice a7r l7r c7r)
  have z5N := (z5).set2 (b7).kind (by decide) (.bool n7r) (.slice a7r l7r c7r)
  have z7qN := (z7q).set2 (b7).kind (by decide) (.bool n7r) (.slice a7r l7r c7r)
  have z7rN := (z7r).set2 (b7).kind (by decide) (.bool n7r) (.slice a7r l7r c7r)
  replace xw := Ext.set (Ext.set (xw) (k := k7) (o := 0) (u := .bool n7r) (by omega)) (k := k7) (o := 1) (u := .slice a7r l7r c7r) (by omega)
  replace b2 := b2N; clear b2N
  replace b3 := b3N; clear b3N
  replace b4 := b4N; clear b4N
  replace b5 := b5N; clear b5N
  replace b6 := b6N; clear b6N
  replace b7 := b7N; clear b7N
  replace za := zaN; clear zaN
  replace zb := zbN; clear zbN
  replace z3 := z3N; clear z3N
  replace z5 := z5N; clear z5N
  replace z7q := z7qN; clear z7qN
  replace z7r := z7rN; clear z7rN
  refine NoPanic.normal ?_
  clear hT hS' y0 hHeld
  go_upto_region 2 with fail
  refine wp_name ?_
  intro V14 hV
  rw [← hV] at b2 b3 b4 b5 b6 b7 za zb z3 z5 z7q z7r xw
  clear hV
  clear z3 z5
  have na' := (isZ_sign za).2
  have nb' := (isZ_sign zb).2
  by_cases hs : na = nb
  · have e : (a.natAbs : Int).fdiv (b.natAbs : Int) = a.tdiv b := cut_same (by rw [← na', ← nb']; exact hs)
    rw [e] at z7q
    clear na' nb' e
    subst hs
    have b2_c0 := b2.c0
    have b2_c1 := b2.c1
    have b3_c0 := b3.c0
    have b3_c1 := b3.c1
    go_upto_region 4 with fail
    clear b2_c0 b2_c1 b3_c0 b3_c1
    refine wp_region_noPanic ?_
    have b6D := b6.drew
    have b2D := b2.drew
    have b3D := b3.drew
    refine wp_region_held_drew (S := fun w' => w'.cell? ⟨k6, 0, none⟩ = some (.bool n7q) ∧ w'.cell? ⟨k6, 1, none⟩ = some (.slice a7q l7q c7q) ∧ w'.cell? ⟨w.heap.size, 0, none⟩ = some (.bool na) ∧ w'.cell? ⟨w.heap.size, 1, none⟩ = some (.slice aa la ca) ∧ w'.cell? ⟨w.heap.size + 1, 0, none⟩ = some (.bool na) ∧ w'.cell? ⟨w.heap.size + 1, 1, none⟩ = some (.slice ab lb cb)) (by kernel_rfl) ⟨b6.c0, b6.c1, b2.c0, b2.c1, b3.c0, b3.c1⟩ (fun hHeld => ?_)
    refine wpAnyH_take (i := 0) (v := .agg #[.bool n7q, .slice a7q l7q c7q]) rfl (by kernel_rfl) (by kernel_rfl) (by kernel_rfl) (fun _ _ _ h => h) (Or.inl ⟨by kernel_rfl, fun w' h => (by obtain ⟨h0, h1, h2, h3, h4, h5⟩ := h; go_simp)⟩) hHeld ?_
    refine wpAnyH_take (i := 1) (v := .agg #[.bool na, .slice aa la ca]) rfl (by kernel_rfl) (by kernel_rfl) (by kernel_rfl) (fun _ _ _ h => h) (Or.inl ⟨by kernel_rfl, fun w' h => (by obtain ⟨h0, h1, h2, h3, h4, h5⟩ := h; go_simp)⟩) hHeld ?_
    refine wpAnyH_take (i := 2) (v := .agg #[.bool n7q, .slice a7q l7q c7q]) rfl (by kernel_rfl) (by kernel_rfl) (by kernel_rfl) (fun _ _ _ h => h) (Or.inl ⟨by kernel_rfl, fun w' h => (by obtain ⟨h0, h1, h2, h3, h4, h5⟩ := h; go_simp)⟩) hHeld ?_
    refine wpAnyH_take (i := 3) (v := .agg #[.bool na, .slice ab lb cb]) rfl (by kernel_rfl) (by kernel_rfl) (by kernel_rfl) (fun _ _ _ h => h) (Or.inl ⟨by kernel_rfl, fun w' h => (by obtain ⟨h0, h1, h2, h3, h4, h5⟩ := h; go_simp)⟩) hHeld ?_
    clear b6D b2D b3D
    have y0 : Ext V14 V14.drew := (Ext.refl V14).drew
    replace b2 := b2.ext y0
    replace b3 := b3.ext y0
    replace b4 := b4.ext y0
    replace b5 := b5.ext y0
    replace b6 := b6.ext y0
    replace b7 := b7.ext y0
    replace za := za.ext y0
    replace zb := zb.ext y0
    replace z7q := z7q.ext y0
    replace z7r := z7r.ext y0
    replace xw := Ext.trans xw y0
    clear y0
    refine wpAnyH_all (rs := [4]) (by kernel_rfl) (by simp) ?_; intro j hj; obtain rfl := List.mem_singleton.1 hj; clear hj; refine wpOp_of rfl fun K' hK => ?_; go_simp
    refine (HMul.out _ _ _ _ _ _ _ _ (a.tdiv b) b _ z7q zb (BQ.fit (by omega)) (Bb.fit (by omega))).mono ?_
    rintro e w15 ⟨n15, a15, l15, c15, rfl, z15, x15⟩
    replace x15 : Ext _ w15 := x15
    have B15 : Bits (K + K) ((a.tdiv b) * b) := BQ.mul Bb
    replace b2 := b2.ext x15
    replace b3 := b3.ext x15
    replace b4 := b4.ext x15
    replace b5 := b5.ext x15
    replace b6 := b6.ext x15
    replace b7 := b7.ext x15
    replace za := za.ext x15
    replace zb := zb.ext x15
    replace z7q := z7q.ext x15
    replace z7r := z7r.ext x15
    replace xw := Ext.trans xw x15
    refine hK _ _ ⟨⟨b6.c0, b6.c1, b2.c0, b2.c1, b3.c0, b3.c1⟩, ?_⟩; clear hK K' hHeld
    have hHeld := (show w15.cell? ⟨k6, 0, none⟩ = some (.bool n7q) ∧ w15.cell? ⟨k6, 1, none⟩ = some (.slice a7q l7q c7q) ∧ w15.cell? ⟨w.heap.size, 0, none⟩ = some (.bool na) ∧ w15.cell? ⟨w.heap.size, 1, none⟩ = some (.slice aa la ca) ∧ w15.cell? ⟨w.heap.size + 1, 0, none⟩ = some (.bool na) ∧ w15.cell? ⟨w.heap.size + 1, 1, none⟩ = some (.slice ab lb cb) from ⟨b6.c0, b6.c1, b2.c0, b2.c1, b3.c0, b3.c1⟩)
    refine wpAnyH_all (rs := [5]) (by kernel_rfl) (by simp) ?_; intro j hj; obtain rfl := List.mem_singleton.1 hj; clear hj; refine wpOp_of rfl fun K' hK => ?_; go_simp
    refine (HSub.out _ _ _ _ _ _ _ _ a ((a.tdiv b) * b) _ za z15 (Ba.fit (by omega)) (B15.fit (by omega))).mono ?_
    rintro e w16 ⟨n16, a16, l16, c16, rfl, z16, x16⟩
    replace x16 : Ext _ w16 := x16
    have B16 : Bits ((K + (K + K)) + 1) (a - ((a.tdiv b) * b)) := (Ba.mono (by omega)).sub (B15.mono (by omega))
    replace b2 := b2.ext x16
    replace b3 := b3.ext x16
    replace b4 := b4.ext x16
    replace b5 := b5.ext x16
    replace b6 := b6.ext x16
    replace b7 := b7.ext x16
    replace za := za.ext x16
    replace zb := zb.ext x16
    replace z7q := z7q.ext x16
    replace z7r := z7r.ext x16
    replace z15 := z15.ext x16
    replace xw := Ext.trans xw x16
    refine hK _ _ ⟨⟨b6.c0, b6.c1, b2.c0, b2.c1, b3.c0, b3.c1⟩, ?_⟩; clear hK K' hHeld
    have hHeld := (show w16.cell? ⟨k6, 0, none⟩ = some (.bool n7q) ∧ w16.cell? ⟨k6, 1, none⟩ = some (.slice a7q l7q c7q) ∧ w16.cell? ⟨w.heap.size, 0, none⟩ = some (.bool na) ∧ w16.cell? ⟨w.heap.size, 1, none⟩ = some (.slice aa la ca) ∧ w16.cell? ⟨w.heap.size + 1, 0, none⟩ = some (.bool na) ∧ w16.cell? ⟨w.heap.size + 1, 1, none⟩ = some (.slice ab lb cb) from ⟨b6.c0, b6.c1, b2.c0, b2.c1, b3.c0, b3.c1⟩)
    have b4_c0 := b4.c0
    have b4_c1 := b4.c1
    have b4_f0 := b4.f0
    have b4_f1 := b4.f1
    refine wpAnyH_all (rs := [6]) (by kernel_rfl) (by simp) ?_; intro j hj; obtain rfl := List.mem_singleton.1 hj; clear hj; refine wpOp_of rfl fun K' hK => ?_; go_simp
    clear b4_c0 b4_c1 b4_f0 b4_f1
    have b2N := ((b2).other (b := w.heap.size + 1 + 1) (by omega) 0 (.bool n7q)).other (b := w.heap.size + 1 + 1) (by omega) 1 (.slice a7q l7q c7q)
    have b3N := ((b3).other (b := w.heap.size + 1 + 1) (by omega) 0 (.bool n7q)).other (b := w.heap.size + 1 + 1) (by omega) 1 (.slice a7q l7q c7q)
    have b4N := (b4).set (.bool n7q) (.slice a7q l7q c7q)
    have b5N := ((b5).other (b := w.heap.size + 1 + 1) (by omega) 0 (.bool n7q)).other (b := w.heap.size + 1 + 1) (by omega) 1 (.slice a7q l7q c7q)
    have b6N := ((b6).other (b := w.heap.size + 1 + 1) (by omega) 0 (.bool n7q)).other (b := w.heap.size + 1 + 1) (by omega) 1 (.slice a7q l7q c7q)
    have b7N := ((b7).other (b := w.heap.size + 1 + 1) (by omega) 0 (.bool n7q)).other (b := w.heap.size + 1 + 1) (by omega) 1 (.slice a7q l7q c7q)
    have zaN := (za).set2 (b4).kind (by decide) (.bool n7q) (.slice a7q l7q c7q)
    have zbN := (zb).set2 (b4).kind (by decide) (.bool n7q) (.slice a7q l7q c7q)
    have z7qN := (z7q).set2 (b4).kind (by decide) (.bool n7q) (.slice a7q l7q c7q)
    have z7rN := (z7r).set2 (b4).kind (by decide) (.bool n7q) (.slice a7q l7q c7q)
    have z15N := (z15).set2 (b4).kind (by decide) (.bool n7q) (.slice a7q l7q c7q)
    have z16N := (z16).set2 (b4).kind (by decide) (.bool n7q) (.slice a7q l7q c7q)
    replace xw := Ext.set (Ext.set (xw) (k := w.heap.size + 1 + 1) (o := 0) (u := .bool n7q) (by omega)) (k := w.heap.size + 1 + 1) (o := 1) (u := .slice a7q l7q c7q) (by omega)
    replace b2 := b2N; clear b2N
    replace b3 := b3N; clear b3N
    replace b4 := b4N; clear b4N
    replace b5 := b5N; clear b5N
    replace b6 := b6N; clear b6N
    replace b7 := b7N; clear b7N
    replace za := zaN; clear zaN
    replace zb := zbN; clear zbN
    replace z7q := z7qN; clear z7qN
    replace z7r := z7rN; clear z7rN
    replace z15 := z15N; clear z15N
    replace z16 := z16N; clear z16N
    refine hK _ _ ⟨⟨b6.c0, b6.c1, b2.c0, b2.c1, b3.c0, b3.c1⟩, ?_⟩; clear hK K' hHeld
    have hHeld := (⟨b6.c0, b6.c1, b2.c0, b2.c1, b3.c0, b3.c1⟩ : _ ∧ _ ∧ _ ∧ _ ∧ _ ∧ _)
    have b5_c0 := b5.c0
    have b5_c1 := b5.c1
    have b5_f0 := b5.f0
    have b5_f1 := b5.f1
    refine wpAnyH_all (rs := [7]) (by kernel_rfl) (by simp) ?_; intro j hj; obtain rfl := List.mem_singleton.1 hj; clear hj; refine wpOp_of rfl fun K' hK => ?_; go_simp
    clear b5_c0 b5_c1 b5_f0 b5_f1
    have b2N := ((b2).other (b := w.heap.size + 1 + 1 + 1) (by omega) 0 (.bool n16)).other (b := w.heap.size + 1 + 1 + 1) (by omega) 1 (.slice a16 l16 c16)
    have b3N := ((b3).other (b := w.heap.size + 1 + 1 + 1) (by omega) 0 (.bool n16)).other (b := w.heap.size + 1 + 1 + 1) (by omega) 1 (.slice a16 l16 c16)
    have b4N := ((b4).other (b := w.heap.size + 1 + 1 + 1) (by omega) 0 (.bool n16)).other (b := w.heap.size + 1 + 1 + 1) (by omega) 1 (.slice a16 l16 c16)
    have b5N := (b5).set (.bool n16) (.slice a16 l16 c16)
    have b6N := ((b6).other (b := w.heap.size + 1 + 1 + 1) (by omega) 0 (.bool n16)).other (b := w.heap.size + 1 + 1 + 1) (by omega) 1 (.slice a16 l16 c16)
    have b7N := ((b7).other (b := w.heap.size + 1 + 1 + 1) (by omega) 0 (.bool n16)).other (b := w.heap.size + 1 + 1 + 1) (by omega) 1 (.slice a16 l16 c16)
    have zaN := (za).set2 (b5).kind (by decide) (.bool n16) (.slice a16 l16 c16)
    have zbN := (zb).set2 (b5).kind (by decide) (.bool n16) (.slice a16 l16 c16)
    have z7qN := (z7q).set2 (b5).kind (by decide) (.bool n16) (.slice a16 l16 c16)
    have z7rN := (z7r).set2 (b5).kind (by decide) (.bool n16) (.slice a16 l16 c16)
    have z15N := (z15).set2 (b5).kind (by decide) (.bool n16) (.slice a16 l16 c16)
    have z16N := (z16).set2 (b5).kind (by decide) (.bool n16) (.slice a16 l16 c16)
    replace xw := Ext.set (Ext.set (xw) (k := w.heap.size + 1 + 1 + 1) (o := 0) (u := .bool n16) (by omega)) (k := w.heap.size + 1 + 1 + 1) (o := 1) (u := .slice a16 l16 c16) (by omega)
    replace b2 := b2N; clear b2N
    replace b3 := b3N; clear b3N
    replace b4 := b4N; clear b4N
    replace b5 := b5N; clear b5N
    replace b6 := b6N; clear b6N
    replace b7 := b7N; clear b7N
    replace za := zaN; clear zaN
    replace zb := zbN; clear zbN
    replace z7q := z7qN; clear z7qN
    replace z7r := z7rN; clear z7rN
    replace z15 := z15N; clear z15N
    replace z16 := z16N; clear z16N
    refine hK _ _ ⟨⟨b6.c0, b6.c1, b2.c0, b2.c1, b3.c0, b3.c1⟩, ?_⟩; clear hK K' hHeld
    have hHeld := (⟨b6.c0, b6.c1, b2.c0, b2.c1, b3.c0, b3.c1⟩ : _ ∧ _ ∧ _ ∧ _ ∧ _ ∧ _)
    refine ⟨by kernel_rfl, ?_⟩
    refine NoPanic.normal ?_
    clear hHeld
    have b4_c0 := b4.c0
    have b4_c1 := b4.c1
    have b4_f0 := b4.f0
    have b4_f1 := b4.f1
    have b5_c0 := b5.c0
    have b5_c1 := b5.c1
    have b5_f0 := b5.f0
    have b5_f1 := b5.f1
    have zr0 := z7q
    have zr1 := z16
    have xr := xw
    go_wp2_with fail
    refine bodyPost_ret (v := .tuple #[.agg #[.bool n7q, .slice a7q l7q c7q], .agg #[.bool n16, .slice a16 l16 c16]]) (by simp [results, Try.results107, go_sem, b4_c0, b4_c1, b5_c0, b5_c1]) rfl ⟨_, _, _, _, _, _, _, _, rfl, zr0, by rw [← HM.out]; exact zr1, xr⟩
  · have e : -((a.natAbs : Int).fdiv (b.natAbs : Int)) = a.tdiv b := cut_other (by rw [← na', ← nb']; exact hs)
    clear na' nb'
    have HE := Lib.hid e
    clear e
    have hs1 : (na == nb) = false := by simpa using hs
    have hs2 : (na != nb) = true := by simpa using hs
    have b2_c0 := b2.c0
    have b2_c1 := b2.c1
    have b3_c0 := b3.c0
    have b3_c1 := b3.c1
    go_upto_region 3 with fail
    clear b2_c0 b2_c1 b3_c0 b3_c1
    have b6_c0 := b6.c0
    have b6_c1 := b6.c1
    go_wp2_with fail
    refine (HNeg.out _ _ _ _ ((a.natAbs : Int).fdiv (b.natAbs : Int)) _ z7q (B7q.fit (by omega))).mono ?_
    rintro e w17 ⟨n17, a17, l17, c17, rfl, z17, x17⟩
    replace x17 : Ext _ w17 := x17
    have B17 : Bits (K + 1) (-((a.natAbs : Int).fdiv (b.natAbs : Int))) := B7q.neg
    clear b6_c0 b6_c1
    replace b2 := b2.ext x17
    replace b3 := b3.ext x17
    replace b4 := b4.ext x17
    replace b5 := b5.ext x17
    replace b6 := b6.ext x17
    replace b7 := b7.ext x17
    replace za := za.ext x17
    replace zb := zb.ext x17
    replace z7q := z7q.ext x17
    replace z7r := z7r.ext x17
    replace xw := Ext.trans xw x17
    have b6_c0 := b6.c0
    have b6_c1 := b6.c1
    have b6_f0 := b6.f0
    have b6_f1 := b6.f1
    go_upto_region 4 with fail
    clear b6_c0 b6_c1 b6_f0 b6_f1
    refine wp_name ?_
    intro V18 hV
    have b2N : Box2 V18 w.heap.size (.bool na) (.slice aa la ca) 37 := by rw [hV]; exact ((b2).other (b := k6) (by omega) 0 (.bool n17)).other (b := k6) (by omega) 1 (.slice a17 l17 c17)
    have b3N : Box2 V18 (w.heap.size + 1) (.bool nb) (.slice ab lb cb) 37 := by rw [hV]; exact ((b3).other (b := k6) (by omega) 0 (.bool n17)).other (b := k6) (by omega) 1 (.slice a17 l17 c17)
    have b4N : Box2 V18 (w.heap.size + 1 + 1) (.bool false) (.slice none 0 0) 37 := by rw [hV]; exact ((b4).other (b := k6) (by omega) 0 (.bool n17)).other (b := k6) (by omega) 1 (.slice a17 l17 c17)
    have b5N : Box2 V18 (w.heap.size + 1 + 1 + 1) (.bool false) (.slice none 0 0) 37 := by rw [hV]; exact ((b5).other (b := k6) (by omega) 0 (.bool n17)).other (b := k6) (by omega) 1 (.slice a17 l17 c17)
    have b6N : Box2 V18 k6 (.bool n17) (.slice a17 l17 c17) 37 := by rw [hV]; exact (b6).set (.bool n17) (.slice a17 l17 c17)
    have b7N : Box2 V18 k7 (.bool n7r) (.slice a7r l7r c7r) 37 := by rw [hV]; exact ((b7).other (b := k6) (by omega) 0 (.bool n17)).other (b := k6) (by omega) 1 (.slice a17 l17 c17)
    have zaN : IsZ V18 na (.slice aa la ca) a := by rw [hV]; exact (za).set2 (b6).kind (by decide) (.bool n17) (.slice a17 l17 c17)
    have zbN : IsZ V18 nb (.slice ab lb cb) b := by rw [hV]; exact (zb).set2 (b6).kind (by decide) (.bool n17) (.slice a17 l17 c17)
    have z7qN : IsZ V18 n7q (.slice a7q l7q c7q) ((a.natAbs : Int).fdiv (b.natAbs : Int)) := by rw [hV]; exact (z7q).set2 (b6).kind (by decide) (.bool n17) (.slice a17 l17 c17)
    have z7rN : IsZ V18 n7r (.slice a7r l7r c7r) ((a.natAbs : Int).fmod (b.natAbs : Int)) := by rw [hV]; exact (z7r).set2 (b6).kind (by decide) (.bool n17) (.slice a17 l17 c17)
    have z17N : IsZ V18 n17 (.slice a17 l17 c17) (-((a.natAbs : Int).fdiv (b.natAbs : Int))) := by rw [hV]; exact (z17).set2 (b6).kind (by decide) (.bool n17) (.slice a17 l17 c17)
    replace xw : Ext w V18 := by rw [hV]; exact Ext.set (Ext.set (xw) (k := k6) (o := 0) (u := .bool n17) (by omega)) (k := k6) (o := 1) (u := .slice a17 l17 c17) (by omega)
    replace b2 := b2N; clear b2N
    replace b3 := b3N; clear b3N
    replace b4 := b4N; clear b4N
    replace b5 := b5N; clear b5N
    replace b6 := b6N; clear b6N
    replace b7 := b7N; clear b7N
    replace za := zaN; clear zaN
    replace zb := zbN; clear zbN
    replace z7q := z7qN; clear z7qN
    replace z7r := z7rN; clear z7rN
    replace z17 := z17N; clear z17N
    clear hV
    clear z7q
    rw [HE.out] at z17
    refine wp_region_noPanic ?_
    have b6D := b6.drew
    have b2D := b2.drew
    have b3D := b3.drew
    refine wp_region_held_drew (S := fun w' => w'.cell? ⟨k6, 0, none⟩ = some (.bool n17) ∧ w'.cell? ⟨k6, 1, none⟩ = some (.slice a17 l17 c17) ∧ w'.cell? ⟨w.heap.size, 0, none⟩ = some (.bool na) ∧ w'.cell? ⟨w.heap.size, 1, none⟩ = some (.slice aa la ca) ∧ w'.cell? ⟨w.heap.size + 1, 0, none⟩ = some (.bool nb) ∧ w'.cell? ⟨w.heap.size + 1, 1, none⟩ = some (.slice ab lb cb)) (by kernel_rfl) ⟨b6.c0, b6.c1, b2.c0, b2.c1, b3.c0, b3.c1⟩ (fun hHeld => ?_)
    refine wpAnyH_take (i := 0) (v := .agg #[.bool n17, .slice a17 l17 c17]) rfl (by kernel_rfl) (by kernel_rfl) (by kernel_rfl) (fun _ _ _ h => h) (Or.inl ⟨by kernel_rfl, fun w' h => (by obtain ⟨h0, h1, h2, h3, h4, h5⟩ := h; go_simp)⟩) hHeld ?_
    refine wpAnyH_take (i := 1) (v := .agg #[.bool na, .slice aa la ca]) rfl (by kernel_rfl) (by kernel_rfl) (by kernel_rfl) (fun _ _ _ h => h) (Or.inl ⟨by kernel_rfl, fun w' h => (by obtain ⟨h0, h1, h2, h3, h4, h5⟩ := h; go_simp)⟩) hHeld ?_
    refine wpAnyH_take (i := 2) (v := .agg #[.bool n17, .slice a17 l17 c17]) rfl (by kernel_rfl) (by kernel_rfl) (by kernel_rfl) (fun _ _ _ h => h) (Or.inl ⟨by kernel_rfl, fun w' h => (by obtain ⟨h0, h1, h2, h3, h4, h5⟩ := h; go_simp)⟩) hHeld ?_
    refine wpAnyH_take (i := 3) (v := .agg #[.bool nb, .slice ab lb cb]) rfl (by kernel_rfl) (by kernel_rfl) (by kernel_rfl) (fun _ _ _ h => h) (Or.inl ⟨by kernel_rfl, fun w' h => (by obtain ⟨h0, h1, h2, h3, h4, h5⟩ := h; go_simp)⟩) hHeld ?_
    clear b6D b2D b3D
    have y0 : Ext V18 V18.drew := (Ext.refl V18).drew
    replace b2 := b2.ext y0
    replace b3 := b3.ext y0
    replace b4 := b4.ext y0
    replace b5 := b5.ext y0
    replace b6 := b6.ext y0
    replace b7 := b7.ext y0
    replace za := za.ext y0
    replace zb := zb.ext y0
    replace z7r := z7r.ext y0
    replace z17 := z17.ext y0
    replace xw := Ext.trans xw y0
    clear y0
    refine wpAnyH_all (rs := [4]) (by kernel_rfl) (by simp) ?_; intro j hj; obtain rfl := List.mem_singleton.1 hj; clear hj; refine wpOp_of rfl fun K' hK => ?_; go_simp
    refine (HMul.out _ _ _ _ _ _ _ _ (a.tdiv b) b _ z17 zb (BQ.fit (by omega)) (Bb.fit (by omega))).mono ?_
    rintro e w19 ⟨n19, a19, l19, c19, rfl, z19, x19⟩
    replace x19 : Ext _ w19 := x19
    have B19 : Bits (K + K) ((a.tdiv b) * b) := BQ.mul Bb
    replace b2 := b2.ext x19
    replace b3 := b3.ext x19
    replace b4 := b4.ext x19
    replace b5 := b5.ext x19
    replace b6 := b6.ext x19
    replace b7 := b7.ext x19
    replace za := za.ext x19
    replace zb := zb.ext x19
    replace z7r := z7r.ext x19
    replace z17 := z17.ext x19
    replace xw := Ext.trans xw x19
    refine hK _ _ ⟨⟨b6.c0, b6.c1, b2.c0, b2.c1, b3.c0, b3.c1⟩, ?_⟩; clear hK K' hHeld
    have hHeld := (show w19.cell? ⟨k6, 0, none⟩ = some (.bool n17) ∧ w19.cell? ⟨k6, 1, none⟩ = some (.slice a17 l17 c17) ∧ w19.cell? ⟨w.heap.size, 0, none⟩ = some (.bool na) ∧ w19.cell? ⟨w.heap.size, 1, none⟩ = some (.slice aa la ca) ∧ w19.cell? ⟨w.heap.size + 1, 0, none⟩ = some (.bool nb) ∧ w19.cell? ⟨w.heap.size + 1, 1, none⟩ = some (.slice ab lb cb) from ⟨b6.c0, b6.c1, b2.c0, b2.c1, b3.c0, b3.c1⟩)
    refine wpAnyH_all (rs := [5]) (by kernel_rfl) (by simp) ?_; intro j hj; obtain rfl := List.mem_singleton.1 hj; clear hj; refine wpOp_of rfl fun K' hK => ?_; go_simp
    refine (HSub.out _ _ _ _ _ _ _ _ a ((a.tdiv b) * b) _ za z19 (Ba.fit (by omega)) (B19.fit (by omega))).mono ?_
    rintro e w20 ⟨n20, a20, l20, c20, rfl, z20, x20⟩
    replace x20 : Ext _ w20 := x20
    have B20 : Bits ((K + (K + K)) + 1) (a - ((a.tdiv b) * b)) := (Ba.mono (by omega)).sub (B19.mono (by omega))
    replace b2 := b2.ext x20
    replace b3 := b3.ext x20
    replace b4 := b4.ext x20
    replace b5 := b5.ext x20
    replace b6 := b6.ext x20
    replace b7 := b7.ext x20
    replace za := za.ext x20
    replace zb := zb.ext x20
    replace z7r := z7r.ext x20
    replace z17 := z17.ext x20
    replace z19 := z19.ext x20
    replace xw := Ext.trans xw x20
    refine hK _ _ ⟨⟨b6.c0, b6.c1, b2.c0, b2.c1, b3.c0, b3.c1⟩, ?_⟩; clear hK K' hHeld
    have hHeld := (show w20.cell? ⟨k6, 0, none⟩ = some (.bool n17) ∧ w20.cell? ⟨k6, 1, none⟩ = some (.slice a17 l17 c17) ∧ w20.cell? ⟨w.heap.size, 0, none⟩ = some (.bool na) ∧ w20.cell? ⟨w.heap.size, 1, none⟩ = some (.slice aa la ca) ∧ w20.cell? ⟨w.heap.size + 1, 0, none⟩ = some (.bool nb) ∧ w20.cell? ⟨w.heap.size + 1, 1, none⟩ = some (.slice ab lb cb) from ⟨b6.c0, b6.c1, b2.c0, b2.c1, b3.c0, b3.c1⟩)
    have b4_c0 := b4.c0
    have b4_c1 := b4.c1
    have b4_f0 := b4.f0
    have b4_f1 := b4.f1
    refine wpAnyH_all (rs := [6]) (by kernel_rfl) (by simp) ?_; intro j hj; obtain rfl := List.mem_singleton.1 hj; clear hj; refine wpOp_of rfl fun K' hK => ?_; go_simp
    clear b4_c0 b4_c1 b4_f0 b4_f1
    have b2N := ((b2).other (b := w.heap.size + 1 + 1) (by omega) 0 (.bool n17)).other (b := w.heap.size + 1 + 1) (by omega) 1 (.slice a17 l17 c17)
    have b3N := ((b3).other (b := w.heap.size + 1 + 1) (by omega) 0 (.bool n17)).other (b := w.heap.size + 1 + 1) (by omega) 1 (.slice a17 l17 c17)
    have b4N := (b4).set (.bool n17) (.slice a17 l17 c17)
    have b5N := ((b5).other (b := w.heap.size + 1 + 1) (by omega) 0 (.bool n17)).other (b := w.heap.size + 1 + 1) (by omega) 1 (.slice a17 l17 c17)
    have b6N := ((b6).other (b := w.heap.size + 1 + 1) (by omega) 0 (.bool n17)).other (b := w.heap.size + 1 + 1) (by omega) 1 (.slice a17 l17 c17)
    have b7N := ((b7).other (b := w.heap.size + 1 + 1) (by omega) 0 (.bool n17)).other (b := w.heap.size + 1 + 1) (by omega) 1 (.slice a17 l17 c17)
    have zaN := (za).set2 (b4).kind (by decide) (.bool n17) (.slice a17 l17 c17)
    have zbN := (zb).set2 (b4).kind (by decide) (.bool n17) (.slice a17 l17 c17)
    have z7rN := (z7r).set2 (b4).kind (by decide) (.bool n17) (.slice a17 l17 c17)
    have z17N := (z17).set2 (b4).kind (by decide) (.bool n17) (.slice a17 l17 c17)
    have z19N := (z19).set2 (b4).kind (by decide) (.bool n17) (.slice a17 l17 c17)
    have z20N := (z20).set2 (b4).kind (by decide) (.bool n17) (.slice a17 l17 c17)
    replace xw := Ext.set (Ext.set (xw) (k := w.heap.size + 1 + 1) (o := 0) (u := .bool n17) (by omega)) (k := w.heap.size + 1 + 1) (o := 1) (u := .slice a17 l17 c17) (by omega)
    replace b2 := b2N; clear b2N
    replace b3 := b3N; clear b3N
    replace b4 := b4N; clear b4N
    replace b5 := b5N; clear b5N
    replace b6 := b6N; clear b6N
    replace b7 := b7N; clear b7N
    replace za := zaN; clear zaN
    replace zb := zbN; clear zbN
    replace z7r := z7rN; clear z7rN
    replace z17 := z17N; clear z17N
    replace z19 := z19N; clear z19N
    replace z20 := z20N; clear z20N
    refine hK _ _ ⟨⟨b6.c0, b6.c1, b2.c0, b2.c1, b3.c0, b3.c1⟩, ?_⟩; clear hK K' hHeld
    have hHeld := (⟨b6.c0, b6.c1, b2.c0, b2.c1, b3.c0, b3.c1⟩ : _ ∧ _ ∧ _ ∧ _ ∧ _ ∧ _)
    have b5_c0 := b5.c0
    have b5_c1 := b5.c1
    have b5_f0 := b5.f0
    have b5_f1 := b5.f1
    refine wpAnyH_all (rs := [7]) (by kernel_rfl) (by simp) ?_; intro j hj; obtain rfl := List.mem_singleton.1 hj; clear hj; refine wpOp_of rfl fun K' hK => ?_; go_simp
    clear b5_c0 b5_c1 b5_f0 b5_f1
    have b2N := ((b2).other (b := w.heap.size + 1 + 1 + 1) (by omega) 0 (.bool n20)).other (b := w.heap.size + 1 + 1 + 1) (by omega) 1 (.slice a20 l20 c20)
    have b3N := ((b3).other (b := w.heap.size + 1 + 1 + 1) (by omega) 0 (.bool n20)).other (b := w.heap.size + 1 + 1 + 1) (by omega) 1 (.slice a20 l20 c20)
    have b4N := ((b4).other (b := w.heap.size + 1 + 1 + 1) (by omega) 0 (.bool n20)).other (b := w.heap.size + 1 + 1 + 1) (by omega) 1 (.slice a20 l20 c20)
    have b5N := (b5).set (.bool n20) (.slice a20 l20 c20)
    have b6N := ((b6).other (b := w.heap.size + 1 + 1 + 1) (by omega) 0 (.bool n20)).other (b := w.heap.size + 1 + 1 + 1) (by omega) 1 (.slice a20 l20 c20)
    have b7N := ((b7).other (b := w.heap.size + 1 + 1 + 1) (by omega) 0 (.bool n20)).other (b := w.heap.size + 1 + 1 + 1) (by omega) 1 (.slice a20 l20 c20)
    have zaN := (za).set2 (b5).kind (by decide) (.bool n20) (.slice a20 l20 c20)
    have zbN := (zb).set2 (b5).kind (by decide) (.bool n20) (.slice a20 l20 c20)
    have z7rN := (z7r).set2 (b5).kind (by decide) (.bool n20) (.slice a20 l20 c20)
    have z17N := (z17).set2 (b5).kind (by decide) (.bool n20) (.slice a20 l20 c20)
    have z19N := (z19).set2 (b5).kind (by decide) (.bool n20) (.slice a20 l20 c20)
    have z20N := (z20).set2 (b5).kind (by decide) (.bool n20) (.slice a20 l20 c20)
    replace xw := Ext.set (Ext.set (xw) (k := w.heap.size + 1 + 1 + 1) (o := 0) (u := .bool n20) (by omega)) (k := w.heap.size + 1 + 1 + 1) (o := 1) (u := .slice a20 l20 c20) (by omega)
    replace b2 := b2N; clear b2N
    replace b3 := b3N; clear b3N
    replace b4 := b4N; clear b4N
    replace b5 := b5N; clear b5N
    replace b6 := b6N; clear b6N
    replace b7 := b7N; clear b7N
    replace za := zaN; clear zaN
    replace zb := zbN; clear zbN
    replace z7r := z7rN; clear z7rN
    replace z17 := z17N; clear z17N
    replace z19 := z19N; clear z19N
    replace z20 := z20N; clear z20N
    refine hK _ _ ⟨⟨b6.c0, b6.c1, b2.c0, b2.c1, b3.c0, b3.c1⟩, ?_⟩; clear hK K' hHeld
    have hHeld := (⟨b6.c0, b6.c1, b2.c0, b2.c1, b3.c0, b3.c1⟩ : _ ∧ _ ∧ _ ∧ _ ∧ _ ∧ _)
    refine ⟨by kernel_rfl, ?_⟩
    refine NoPanic.normal ?_
    clear hHeld
    have b4_c0 := b4.c0
    have b4_c1 := b4.c1
    have b4_f0 := b4.f0
    have b4_f1 := b4.f1
    have b5_c0 := b5.c0
    have b5_c1 := b5.c1
    have b5_f0 := b5.f0
    have b5_f1 := b5.f1
    have zr0 := z17
    have zr1 := z20
    have xr := xw
    go_wp2_with fail
    refine bodyPost_ret (v := .tuple #[.agg #[.bool n17, .slice a17 l17 c17], .agg #[.bool n20, .slice a20 l20 c20]]) (by simp [results, Try.results107, go_sem, b4_c0, b4_c1, b5_c0, b5_c1]) rfl ⟨_, _, _, _, _, _, _, _, rfl, zr0, by rw [← HM.out]; exact zr1, xr⟩
end Go.Proofs.Ytmkddcmfofabbaa

/-
  The reference's Trunc of layer 3.
-/
set_option linter.unusedSimpArgs false
set_option linter.unusedVariables false
namespace Go.Proofs.Ytmkddcmfofabbaa
open Go Go.RowKit

theorem tmod_b {K : Nat} {a b : Int} (h : Bits K b) (h0 : b ≠ 0) : Bits K (a.tmod b) := by
  obtain ⟨k1, k2, k3⟩ := tdm (a := a) h0
  exact h.le (by omega)
theorem tdiv_b {K : Nat} {a b : Int} (h : Bits K a) : Bits K (a.tdiv b) := h.le (by rw [tdiv_nat]; exact Nat.div_le_self _ _)
set_option maxRecDepth 100000 in
set_option maxHeartbeats 3200000 in
theorem ztrunc (a b : Int) (w : World) (ha : W128 a) (hb : W128 b) (h0 : b ≠ 0) :
    Calls Try.prog 60 #[.agg #[.int .i64 (hi a), .int .u64 (lo a)], .agg #[.int .i64 (hi b), .int .u64 (lo b)]] w (RetQ w (a.tdiv b) (a.tmod b)) := by
  have HOfw := Lib.hid ofw
  have HSgn := Lib.hid sign_z
  have HCut := Lib.hid zcut
  have HTq := Lib.hid ztold3
  have hrW := tmod_W (a := a) hb h0
  have D0 := Lib.hid h0
  have g0 : (cmpI b 0 == 0) = false := cmp_no h0
  clear h0
  go_enter Try.func60, Try.ntmps60
  go_upto_region 1 with fail
  have xw := Ext.refl w
  refine wp_name ?_
  intro V1 hV
  replace xw : Ext w V1 := by rw [hV]; exact Ext.alloc (Ext.alloc (Ext.alloc (Ext.alloc (xw))))
  have b2 : Box2 V1 w.heap.size (.int .i64 (hi a)) (.int .u64 (lo a)) 26 := by rw [hV]; exact (((Box2.new rfl).alloc _).alloc _).alloc _
  have b3 : Box2 V1 (w.heap.size + 1) (.int .i64 (hi b)) (.int .u64 (lo b)) 26 := by rw [hV]; exact ((Box2.new (by simp)).alloc _).alloc _
  have b4 : Box2 V1 (w.heap.size + 1 + 1) (.int .i64 0) (.int .u64 0) 26 := by rw [hV]; exact (Box2.new (by simp)).alloc _
  have b5 : Box2 V1 (w.heap.size + 1 + 1 + 1) (.int .i64 0) (.int .u64 0) 26 := by rw [hV]; exact Box2.new (by simp)
  clear hV
  refine wp_region_noPanic ?_
  refine wp_region_held_drew (S := fun w' => Ext V1 w') (by kernel_rfl) (Ext.refl V1).drew (fun hHeld => ?_)
  have b2_d0 := fun w' (h : Ext V1 w') => (b2.ext h).c0
  have b2_d1 := fun w' (h : Ext V1 w') => (b2.ext h).c1
  have b3_d0 := fun w' (h : Ext V1 w') => (b3.ext h).c0
  have b3_d1 := fun w' (h : Ext V1 w') => (b3.ext h).c1
  refine wpAnyH_take (i := 0) (v := .agg #[.int .i64 (hi a), .int .u64 (lo a)]) rfl (by kernel_rfl) (by kernel_rfl) (by kernel_rfl) (fun _ _ _ h => h) (Or.inl ⟨by kernel_rfl, fun w' h => (by go_simp)⟩) hHeld ?_
  refine wpAnyH_take (i := 2) (v := .agg #[.int .i64 (hi b), .int .u64 (lo b)]) rfl (by kernel_rfl) (by kernel_rfl) (by kernel_rfl) (fun _ _ _ h => h) (Or.inl ⟨by kernel_rfl, fun w' h => (by go_simp)⟩) hHeld ?_
  refine region2 (N := 8) (f0 := [0, 2]) (l := [(1, false), (3, false)]) (T := [6, 7]) (iA := 4) (dA := 7) (iB := 5) (dB := 8) (oA := .cells #[.bool false, .slice none 0 0] 37) (oB := .cells #[.bool false, .slice none 0 0] 37) (fun _ _ _ _ _ h => h) (by kernel_rfl) (by kernel_rfl) rfl (by kernel_rfl) (by kernel_rfl)
    (fun K a w h => wpOp_of rfl fun K' hK => (by go_simp; exact hK _ _ h)) (fun K a w h => wpOp_of rfl fun K' hK => (by go_simp; exact hK _ _ h)) (by decide) (by simp [Act.put]) (by simp [Act.put]) (fun _ _ h x => h.trans x) hHeld ?_
  have y0 : Ext V1 V1.drew := (Ext.refl V1).drew
  intro a1 v2 h1 yv2
  obtain ⟨s12, s22, rfl⟩ := away2 h1; refine wpOp_of rfl fun K' hK => ?_; go_simp
  replace y0 := Ext.trans y0 yv2
  refine (HOfw.out a _ ha).mono ?_
  rintro e w3 ⟨n3, a3, l3, c3, rfl, z3, x3⟩
  replace x3 : Ext _ w3 := x3
  have B3 : Bits 128 (a) := ha.bits
  refine hK _ _ ⟨⟨x3, rfl, slots2 rfl rfl⟩, ?_⟩; clear hK K'
  replace y0 := Ext.trans y0 x3
  intro a1 v4 h1 yv4
  obtain ⟨s14, s24, rfl⟩ := away2 h1; refine wpOp_of rfl fun K' hK => ?_; go_simp
  replace y0 := Ext.trans y0 yv4
  replace z3 := z3.ext yv4
  refine (HOfw.out b _ hb).mono ?_
  rintro e w5 ⟨n5, a5, l5, c5, rfl, z5, x5⟩
  replace x5 : Ext _ w5 := x5
  have B5 : Bits 128 (b) := hb.bits
  refine hK _ _ ⟨⟨x5, rfl, slots2 rfl rfl⟩, ?_⟩; clear hK K'
  replace y0 := Ext.trans y0 x5
  replace z3 := z3.ext x5
  intro a' v6 h yv6
  obtain ⟨s16, s26, rfl⟩ := away2 h
  rintro k7 k8 ⟨k7a, k7b, k7c⟩ ⟨k8a, k8b, k8c⟩ k7ne hS'
  replace y0 := Ext.trans y0 yv6
  replace z3 := z3.ext yv6
  replace z5 := z5.ext yv6
  simp [Act.put] at k7b; subst k7b; replace k7a : V1.heap.size ≤ k7 := k7a
  simp [Act.put] at k8b; subst k8b; replace k8a : V1.heap.size ≤ k8 := k8a
  clear b2_d0 b2_d1 b3_d0 b3_d1
  have o7 := b2.kind.lt
  have o8 := b3.kind.lt
  have o9 := b4.kind.lt
  have o10 := b5.kind.lt
  have o11 := xw.size
  replace b2 := b2.ext y0
  replace b3 := b3.ext y0
  replace b4 := b4.ext y0
  replace b5 := b5.ext y0
  replace xw := Ext.trans xw y0
  have b7 : Box2 v6 k7 (.bool false) (.slice none 0 0) 37 := k7c
  clear k7c
  have b8 : Box2 v6 k8 (.bool false) (.slice none 0 0) 37 := k8c
  clear k8c
  have hT : Ext V1 v6 := hS'
  have b7_c0 := b7.c0
  have b7_c1 := b7.c1
  have b7_f0 := b7.f0
  have b7_f1 := b7.f1
  refine wpOp_of rfl fun K' hK => ?_
  go_simp
  clear b7_c0 b7_c1 b7_f0 b7_f1
  replace hT := Ext.set hT (k := k7) (o := 0) (u := .bool n3) k7a
  replace hT := Ext.set hT (k := k7) (o := 1) (u := .slice a3 l3 c3) k7a
  refine hK _ _ ⟨hT, ?_⟩
  clear hK K'
  have b2N := ((b2).other (b := k7) (by omega) 0 (.bool n3)).other (b := k7) (by omega) 1 (.slice a3 l3 c3)
  have b3N := ((b3).other (b := k7) (by omega) 0 (.bool n3)).other (b := k7) (by omega) 1 (.slice a3 l3 c3)
  have b4N := ((b4).other (b := k7) (by omega) 0 (.bool n3)).other (b := k7) (by omega) 1 (.slice a3 l3 c3)
  have b5N := ((b5).other (b := k7) (by omega) 0 (.bool n3)).other (b := k7) (by omega) 1 (.slice a3 l3 c3)
  have b7N := (b7).set (.bool n3) (.slice a3 l3 c3)
  have b8N := ((b8).other (b := k7) (by omega) 0 (.bool n3)).other (b := k7) (by omega) 1 (.slice a3 l3 c3)
  have z3N := (z3).set2 (b7).kind (by decide) (.bool n3) (.slice a3 l3 c3)
  have z5N := (z5).set2 (b7).kind (by decide) (.bool n3) (.slice a3 l3 c3)
  replace xw := Ext.set (Ext.set (xw) (k := k7) (o := 0) (u := .bool n3) (by omega)) (k := k7) (o := 1) (u := .slice a3 l3 c3) (by omega)
  replace b2 := b2N; clear b2N
  replace b3 := b3N; clear b3N
  replace b4 := b4N; clear b4N
  replace b5 := b5N; clear b5N
  replace b7 := b7N; clear b7N
  replace b8 := b8N; clear b8N
  replace z3 := z3N; clear z3N
  replace z5 := z5N; clear z5N
  have b8_c0 := b8.c0
  have b8_c1 := b8.c1
  have b8_f0 := b8.f0
  have b8_f1 := b8.f1
  refine wpOp_of rfl fun K' hK => ?_
  go_simp
  clear b8_c0 b8_c1 b8_f0 b8_f1
  replace hT := Ext.set hT (k := k8) (o := 0) (u := .bool n5) k8a
  replace hT := Ext.set hT (k := k8) (o := 1) (u := .slice a5 l5 c5) k8a
  refine hK _ _ ⟨hT, ?_⟩
  clear hK K'
  have b2N := ((b2).other (b := k8) (by omega) 0 (.bool n5)).other (b := k8) (by omega) 1 (.slice a5 l5 c5)
  have b3N := ((b3).other (b := k8) (by omega) 0 (.bool n5)).other (b := k8) (by omega) 1 (.slice a5 l5 c5)
  have b4N := ((b4).other (b := k8) (by omega) 0 (.bool n5)).other (b := k8) (by omega) 1 (.slice a5 l5 c5)
  have b5N := ((b5).other (b := k8) (by omega) 0 (.bool n5)).other (b := k8) (by omega) 1 (.slice a5 l5 c5)
  have b7N := ((b7).other (b := k8) (by omega) 0 (.bool n5)).other (b := k8) (by omega) 1 (.slice a5 l5 c5)
  have b8N := (b8).set (.bool n5) (.slice a5 l5 c5)
  have z3N := (z3).set2 (b8).kind (by decide) (.bool n5) (.slice a5 l5 c5)
  have z5N := (z5).set2 (b8).kind (by decide) (.bool n5) (.slice a5 l5 c5)
  replace xw := Ext.set (Ext.set (xw) (k := k8) (o := 0) (u := .bool n5) (by omega)) (k := k8) (o := 1) (u := .slice a5 l5 c5) (by omega)
  replace b2 := b2N; clear b2N
  replace b3 := b3N; clear b3N
  replace b4 := b4N; clear b4N
  replace b5 := b5N; clear b5N
  replace b7 := b7N; clear b7N
  replace b8 := b8N; clear b8N
  replace z3 := z3N; clear z3N
  replace z5 := z5N; clear z5N
  refine NoPanic.normal ?_
  clear hT hS' y0 hHeld
  go_upto_region 2 with fail
  refine wp_name ?_
  intro V12 hV
  rw [← hV] at b2 b3 b4 b5 b7 b8 z3 z5 xw
  clear hV
  have b8_c0 := b8.c0
  have b8_c1 := b8.c1
  go_wp2_with fail
  refine (HSgn.out _ _ _ _ b _ z5 (B5.fit (by omega))).mono ?_
  rintro e w13 ⟨rfl, x13⟩
  replace x13 : Ext _ w13 := x13
  clear b8_c0 b8_c1
  replace b2 := b2.ext x13
  replace b3 := b3.ext x13
  replace b4 := b4.ext x13
  replace b5 := b5.ext x13
  replace b7 := b7.ext x13
  replace b8 := b8.ext x13
  replace z3 := z3.ext x13
  replace z5 := z5.ext x13
  replace xw := Ext.trans xw x13
  go_upto_region 4 with fail
  have b7_c0 := b7.c0
  have b7_c1 := b7.c1
  have b8_c0 := b8.c0
  have b8_c1 := b8.c1
  go_wp2_with fail
  refine (HCut.out 128 (by omega) _ _ _ _ _ _ _ _ a b _ z3 z5 B3 B5 D0.out).mono ?_
  rintro e w14 ⟨n14q, a14q, l14q, c14q, n14r, a14r, l14r, c14r, rfl, z14q, z14r, x14⟩
  replace x14 : Ext _ w14 := x14
  have B14q : Bits 128 (a.tdiv b) := tdiv_b B3
  have B14r : Bits 128 (a.tmod b) := tmod_b B5 D0.out
  clear b7_c0 b7_c1 b8_c0 b8_c1
  replace b2 := b2.ext x14
  replace b3 := b3.ext x14
  replace b4 := b4.ext x14
  replace b5 := b5.ext x14
  replace b7 := b7.ext x14
  replace b8 := b8.ext x14
  replace z3 := z3.ext x14
  replace z5 := z5.ext x14
  replace xw := Ext.trans xw x14
  go_upto_region 5 with fail
  have o16 := b7.kind.lt
  have o17 := b8.kind.lt
  have o18 := xw.size
  refine wp_name ?_
  intro V15 hV
  have b2N : Box2 V15 w.heap.size (.int .i64 (hi a)) (.int .u64 (lo a)) 26 := by rw [hV]; exact ((b2).alloc _).alloc _
  have b3N : Box2 V15 (w.heap.size + 1) (.int .i64 (hi b)) (.int .u64 (lo b)) 26 := by rw [hV]; exact ((b3).alloc _).alloc _
  have b4N : Box2 V15 (w.heap.size + 1 + 1) (.int .i64 0) (.int .u64 0) 26 := by rw [hV]; exact ((b4).alloc _).alloc _
  have b5N : Box2 V15 (w.heap.size + 1 + 1 + 1) (.int .i64 0) (.int .u64 0) 26 := by rw [hV]; exact ((b5).alloc _).alloc _
  have b7N : Box2 V15 k7 (.bool n3) (.slice a3 l3 c3) 37 := by rw [hV]; exact ((b7).alloc _).alloc _
  have b8N : Box2 V15 k8 (.bool n5) (.slice a5 l5 c5) 37 := by rw [hV]; exact ((b8).alloc _).alloc _
  have z3N : IsZ V15 n3 (.slice a3 l3 c3) a := by rw [hV]; exact ((z3).alloc _).alloc _
  have z5N : IsZ V15 n5 (.slice a5 l5 c5) b := by rw [hV]; exact ((z5).alloc _).alloc _
  have z14qN : IsZ V15 n14q (.slice a14q l14q c14q) (a.tdiv b) := by rw [hV]; exact ((z14q).alloc _).alloc _
  have z14rN : IsZ V15 n14r (.slice a14r l14r c14r) (a.tmod b) := by rw [hV]; exact ((z14r).alloc _).alloc _
  replace xw : Ext w V15 := by rw [hV]; exact Ext.alloc (Ext.alloc (xw))
  replace b2 := b2N; clear b2N
  replace b3 := b3N; clear b3N
  replace b4 := b4N; clear b4N
  replace b5 := b5N; clear b5N
  replace b7 := b7N; clear b7N
  replace b8 := b8N; clear b8N
  replace z3 := z3N; clear z3N
  replace z5 := z5N; clear z5N
  replace z14q := z14qN; clear z14qN
  replace z14r := z14rN; clear z14rN
  have b9 : Box2 V15 w14.heap.size (.bool n14q) (.slice a14q l14q c14q) 37 := by rw [hV]; exact (Box2.new rfl).alloc _
  have b10 : Box2 V15 (w14.heap.size + 1) (.bool n14r) (.slice a14r l14r c14r) 37 := by rw [hV]; exact Box2.new (by simp)
  clear hV
  have b9_c0 := b9.c0
  have b9_c1 := b9.c1
  have b10_c0 := b10.c0
  have b10_c1 := b10.c1
  go_wp2_with fail
  refine (HTq.out _ _ _ _ _ _ _ _ (a.tdiv b) (a.tmod b) _ z14q z14r (B14q.mono (by omega)) (B14r.mono (by omega)) hrW).mono ?_
  rintro e w19 ⟨rfl, x19⟩
  clear b9_c0 b9_c1 b10_c0 b10_c1
  replace b2 := b2.ext x19
  replace b3 := b3.ext x19
  replace b4 := b4.ext x19
  replace b5 := b5.ext x19
  replace b7 := b7.ext x19
  replace b8 := b8.ext x19
  replace b9 := b9.ext x19
  replace b10 := b10.ext x19
  replace z3 := z3.ext x19
  replace z5 := z5.ext x19
  replace z14q := z14q.ext x19
  replace z14r := z14r.ext x19
  replace xw := Ext.trans xw x19
  have b4_c0 := b4.c0
  have b4_c1 := b4.c1
  have b4_f0 := b4.f0
  have b4_f1 := b4.f1
  have b5_c0 := b5.c0
  have b5_c1 := b5.c1
  have b5_f0 := b5.f0
  have b5_f1 := b5.f1
  have xr := Ext.set (Ext.set (Ext.set (Ext.set (xw) (k := w.heap.size + 1 + 1) (o := 0) (u := .int .i64 (thi (a.tdiv b))) (by omega)) (k := w.heap.size + 1 + 1) (o := 1) (u := .int .u64 (tlo (a.tdiv b))) (by omega)) (k := w.heap.size + 1 + 1 + 1) (o := 0) (u := .int .i64 (qh (a.tdiv b) (a.tmod b))) (by omega)) (k := w.heap.size + 1 + 1 + 1) (o := 1) (u := .int .u64 (ql (a.tdiv b) (a.tmod b))) (by omega)
  go_wp2_with fail
  refine bodyPost_ret (v := .tuple #[.agg #[.int .i64 (thi (a.tdiv b)), .int .u64 (tlo (a.tdiv b))], .agg #[.int .i64 (qh (a.tdiv b) (a.tmod b)), .int .u64 (ql (a.tdiv b) (a.tmod b))], .int .i64 (ter (a.tdiv b))]) (by simp [results, Try.results60, go_sem, b4_c0, b4_c1, b5_c0, b5_c1]) rfl ⟨rfl, xr⟩
theorem ztrunc_any (a b : Int) (w : World) (ha : W128 a) (hb : W128 b) :
    Calls Try.prog 60 #[.agg #[.int .i64 (hi a), .int .u64 (lo a)], .agg #[.int .i64 (hi b), .int .u64 (lo b)]] w (RetF w b (a.tdiv b) (a.tmod b)) := by
  by_cases h0 : b = 0
  · subst h0; exact ztrunc0 a 0 w ha hb rfl _ _
  · exact (ztrunc a b w ha hb h0).mono fun e w' h => retF_q h0 h
end Go.Proofs.Ytmkddcmfofabbaa

/-
  The reference's Lowest of layer 3: a fraction in its lowest terms.
-/
set_option linter.unusedSimpArgs false
set_option linter.unusedVariables false
namespace Go.Proofs.Ytmkddcmfofabbaa
open Go Go.RowKit

/-- A fraction in its lowest terms: above, below. -/
def frP (n d : Int) : Int := wsg (!(decide (n < 0) == decide (d < 0))) ((n.natAbs / Nat.gcd n.natAbs d.natAbs : Nat) : Int)
def frQ (n d : Int) : Int := ((d.natAbs / Nat.gcd n.natAbs d.natAbs : Nat) : Int)
theorem gcd_pos {a b : Int} (h : b ≠ 0) : 0 < Nat.gcd a.natAbs b.natAbs := Nat.gcd_pos_of_pos_right _ (by omega)
theorem gcd_bits {K : Nat} {a b : Int} (hb : Bits K b) (h : b ≠ 0) : Bits K ((Nat.gcd a.natAbs b.natAbs : Nat) : Int) := hb.le (by simpa using Nat.gcd_le_right _ (show 0 < b.natAbs by omega))
theorem fr_a (a b : Int) : ∃ X : Nat, a.natAbs = X * Nat.gcd a.natAbs b.natAbs := (Nat.gcd_dvd_left a.natAbs b.natAbs).elim fun X h => ⟨X, by rw [Nat.mul_comm]; exact h⟩
theorem fr_b (a b : Int) : ∃ X : Nat, b.natAbs = X * Nat.gcd a.natAbs b.natAbs := (Nat.gcd_dvd_right a.natAbs b.natAbs).elim fun X h => ⟨X, by rw [Nat.mul_comm]; exact h⟩
theorem fdiv_exact {m g X : Int} (hg : g ≠ 0) (h : m = X * g) : m.fdiv g = X := by rw [h]; exact Int.mul_fdiv_cancel _ hg
theorem frP_false {a b : Int} (h : b ≠ 0) (hs : 0 ≤ b) : a.fdiv ((Nat.gcd a.natAbs b.natAbs : Nat) : Int) = frP a b := by
  have g := gcd_pos (a := a) h
  obtain ⟨X, hX⟩ := fr_a a b
  unfold frP
  generalize Nat.gcd a.natAbs b.natAbs = G at *
  have e : a.natAbs / G = X := by rw [hX]; exact Nat.mul_div_cancel _ g
  rw [e, decide_eq_false (show ¬ b < 0 by omega)]
  refine fdiv_exact (by omega) ?_
  have hc : (a.natAbs : Int) = (X : Int) * (G : Int) := by rw [hX]; exact Int.natCast_mul X G
  by_cases ha : a < 0
  · rw [decide_eq_true ha]
    show a = -(X : Int) * G
    rw [Int.neg_mul]; omega
  · rw [decide_eq_false ha]
    show a = (X : Int) * G
    omega
theorem frP_true {a b : Int} (h : b ≠ 0) (hs : b < 0) : a.fdiv (-((Nat.gcd a.natAbs b.natAbs : Nat) : Int)) = frP a b := by
  have g := gcd_pos (a := a) h
  obtain ⟨X, hX⟩ := fr_a a b
  unfold frP
  generalize Nat.gcd a.natAbs b.natAbs = G at *
  have e : a.natAbs / G = X := by rw [hX]; exact Nat.mul_div_cancel _ g
  rw [e, decide_eq_true hs]
  refine fdiv_exact (by omega) ?_
  have hc : (a.natAbs : Int) = (X : Int) * (G : Int) := by rw [hX]; exact Int.natCast_mul X G
  by_cases ha : a < 0
  · rw [decide_eq_true ha]
    show a = (X : Int) * -(G : Int)
    rw [Int.mul_neg]; omega
  · rw [decide_eq_false ha]
    show a = -(X : Int) * -(G : Int)
    rw [Int.neg_mul_neg]; omega
theorem frQ_false {a b : Int} (h : b ≠ 0) (hs : 0 ≤ b) : b.fdiv ((Nat.gcd a.natAbs b.natAbs : Nat) : Int) = frQ a b := by
  have g := gcd_pos (a := a) h
  obtain ⟨X, hX⟩ := fr_b a b
  unfold frQ
  generalize Nat.gcd a.natAbs b.natAbs = G at *
  have e : b.natAbs / G = X := by rw [hX]; exact Nat.mul_div_cancel _ g
  rw [e]
  refine fdiv_exact (by omega) ?_
  have hc : (b.natAbs : Int) = (X : Int) * (G : Int) := by rw [hX]; exact Int.natCast_mul X G
  omega
theorem frQ_true {a b : Int} (h : b ≠ 0) (hs : b < 0) : b.fdiv (-((Nat.gcd a.natAbs b.natAbs : Nat) : Int)) = frQ a b := by
  have g := gcd_pos (a := a) h
  obtain ⟨X, hX⟩ := fr_b a b
  unfold frQ
  generalize Nat.gcd a.natAbs b.natAbs = G at *
  have e : b.natAbs / G = X := by rw [hX]; exact Nat.mul_div_cancel _ g
  rw [e]
  refine fdiv_exact (by omega) ?_
  have hc : (b.natAbs : Int) = (X : Int) * (G : Int) := by rw [hX]; exact Int.natCast_mul X G
  rw [Int.mul_neg]; omega
set_option maxRecDepth 100000 in
set_option maxHeartbeats 3200000 in
theorem zlowest (K : Nat) (hK : K ≤ 30000) (na nb : Bool) (aa ab : Option Addr) (la ca lb cb : Nat) (a b : Int) (w : World) (za : IsZ w na (.slice aa la ca) a) (zb : IsZ w nb (.slice ab lb cb) b) (Ba : Bits K a) (Bb : Bits K b) (h0 : b ≠ 0) :
    Calls Try.prog 109 #[.agg #[.bool na, .slice aa la ca], .agg #[.bool nb, .slice ab lb cb]] w (RetZZ w (frP a b) (frQ a b)) := by
  have HNeg := Lib.hid neg_any
  have HDiv := Lib.hid div_z
  have HCom := Lib.hid common_any
  have HB := Lib.hid (show Bits K ((Nat.gcd a.natAbs b.natAbs : Nat) : Int) from gcd_bits (a := a) Bb h0)
  have hnb := (isZ_sign zb).2
  cases nb
  · have hs : 0 ≤ b := by simpa using hnb
    have D0 : ((Nat.gcd a.natAbs b.natAbs : Nat) : Int) ≠ 0 := by have := gcd_pos (a := a) h0; omega
    have HP := Lib.hid (show a.fdiv ((Nat.gcd a.natAbs b.natAbs : Nat) : Int) = frP a b from frP_false h0 hs)
    have HQ := Lib.hid (show b.fdiv ((Nat.gcd a.natAbs b.natAbs : Nat) : Int) = frQ a b from frQ_false h0 hs)
    clear hs hnb h0
    go_enter Try.func109, Try.ntmps109
    go_upto_region 1 with fail
    have xw := Ext.refl w
    refine wp_name ?_
    intro V1 hV
    have zaN : IsZ V1 na (.slice aa la ca) a := by rw [hV]; exact ((((za).alloc _).alloc _).alloc _).alloc _
    have zbN : IsZ V1 false (.slice ab lb cb) b := by rw [hV]; exact ((((zb).alloc _).alloc _).alloc _).alloc _
    replace xw : Ext w V1 := by rw [hV]; exact Ext.alloc (Ext.alloc (Ext.alloc (Ext.alloc (xw))))
    replace za := zaN; clear zaN
    replace zb := zbN; clear zbN
    have b2 : Box2 V1 w.heap.size (.bool na) (.slice aa la ca) 37 := by rw [hV]; exact (((Box2.new rfl).alloc _).alloc _).alloc _
    have b3 : Box2 V1 (w.heap.size + 1) (.bool false) (.slice ab lb cb) 37 := by rw [hV]; exact ((Box2.new (by simp)).alloc _).alloc _
    have b4 : Box2 V1 (w.heap.size + 1 + 1) (.bool false) (.slice none 0 0) 37 := by rw [hV]; exact (Box2.new (by simp)).alloc _
    have b5 : Box2 V1 (w.heap.size + 1 + 1 + 1) (.bool false) (.slice none 0 0) 37 := by rw [hV]; exact Box2.new (by simp)
    clear hV
    have b2_c0 := b2.c0
    have b2_c1 := b2.c1
    have b3_c0 := b3.c0
    have b3_c1 := b3.c1
    go_wp2_with fail
    refine (HCom.out K (by omega) _ _ _ _ _ _ _ _ a b _ za zb Ba Bb).mono ?_
    rintro e w2 ⟨n2, a2, l2, c2, rfl, z2, x2⟩
    replace x2 : Ext _ w2 := x2
    have B2 : Bits K (((Nat.gcd a.natAbs b.natAbs : Nat) : Int)) := HB.out
    clear b2_c0 b2_c1 b3_c0 b3_c1
    replace b2 := b2.ext x2
    replace b3 := b3.ext x2
    replace b4 := b4.ext x2
    replace b5 := b5.ext x2
    replace za := za.ext x2
    replace zb := zb.ext x2
    replace xw := Ext.trans xw x2
    go_upto_region 2 with fail
    have o4 := b2.kind.lt
    have o5 := b3.kind.lt
    have o6 := b4.kind.lt
    have o7 := b5.kind.lt
    have o8 := xw.size
    refine wp_name ?_
    intro V3 hV
    have b2N : Box2 V3 w.heap.size (.bool na) (.slice aa la ca) 37 := by rw [hV]; exact (b2).alloc _
    have b3N : Box2 V3 (w.heap.size + 1) (.bool false) (.slice ab lb cb) 37 := by rw [hV]; exact (b3).alloc _
    have b4N : Box2 V3 (w.heap.size + 1 + 1) (.bool false) (.slice none 0 0) 37 := by rw [hV]; exact (b4).alloc _
    have b5N : Box2 V3 (w.heap.size + 1 + 1 + 1) (.bool false) (.slice none 0 0) 37 := by rw [hV]; exact (b5).alloc _
    have zaN : IsZ V3 na (.slice aa la ca) a := by rw [hV]; exact (za).alloc _
    have zbN : IsZ V3 false (.slice ab lb cb) b := by rw [hV]; exact (zb).alloc _
    have z2N : IsZ V3 n2 (.slice a2 l2 c2) ((Nat.gcd a.natAbs b.natAbs : Nat) : Int) := by rw [hV]; exact (z2).alloc _
    replace xw : Ext w V3 := by rw [hV]; exact Ext.alloc (xw)
    replace b2 := b2N; clear b2N
    replace b3 := b3N; clear b3N
    replace b4 := b4N; clear b4N
    replace b5 := b5N; clear b5N
    replace za := zaN; clear zaN
    replace zb := zbN; clear zbN
    replace z2 := z2N; clear z2N
    have b6 : Box2 V3 w2.heap.size (.bool n2) (.slice a2 l2 c2) 37 := by rw [hV]; exact Box2.new rfl
    clear hV
    have b3_c0 := b3.c0
    have b3_c1 := b3.c1
    go_upto_region 4 with fail
    clear b3_c0 b3_c1
    have b2_c0 := b2.c0
    have b2_c1 := b2.c1
    have b6_c0 := b6.c0
    have b6_c1 := b6.c1
    go_wp2_with fail
    refine (HDiv.out _ _ _ _ _ _ _ _ a ((Nat.gcd a.natAbs b.natAbs : Nat) : Int) _ za z2 K (by omega) Ba B2 D0).mono ?_
    rintro e w9 ⟨n9q, a9q, l9q, c9q, n9r, a9r, l9r, c9r, rfl, z9q, z9r, x9⟩
    replace x9 : Ext _ w9 := x9
    have B9q : Bits (K + 1) (a.fdiv ((Nat.gcd a.natAbs b.natAbs : Nat) : Int)) := fdiv_b Ba D0
    have B9r : Bits K (a.fmod ((Nat.gcd a.natAbs b.natAbs : Nat) : Int)) := fmod_b B2 D0
    clear b2_c0 b2_c1 b6_c0 b6_c1
    replace b2 := b2.ext x9
    replace b3 := b3.ext x9
    replace b4 := b4.ext x9
    replace b5 := b5.ext x9
    replace b6 := b6.ext x9
    replace za := za.ext x9
    replace zb := zb.ext x9
    replace z2 := z2.ext x9
    replace xw := Ext.trans xw x9
    go_upto_region 5 with fail
    have o11 := b6.kind.lt
    have o12 := xw.size
    refine wp_name ?_
    intro V10 hV
    have b2N : Box2 V10 w.heap.size (.bool na) (.slice aa la ca) 37 := by rw [hV]; exact ((b2).alloc _).alloc _
    have b3N : Box2 V10 (w.heap.size + 1) (.bool false) (.slice ab lb cb) 37 := by rw [hV]; exact ((b3).alloc _).alloc _
    have b4N : Box2 V10 (w.heap.size + 1 + 1) (.bool false) (.slice none 0 0) 37 := by rw [hV]; exact ((b4).alloc _).alloc _
    have b5N : Box2 V10 (w.heap.size + 1 + 1 + 1) (.bool false) (.slice none 0 0) 37 := by rw [hV]; exact ((b5).alloc _).alloc _
    have b6N : Box2 V10 w2.heap.size (.bool n2) (.slice a2 l2 c2) 37 := by rw [hV]; exact ((b6).alloc _).alloc _
    have zaN : IsZ V10 na (.slice aa la ca) a := by rw [hV]; exact ((za).alloc _).alloc _
    have zbN : IsZ V10 false (.slice ab lb cb) b := by rw [hV]; exact ((zb).alloc _).alloc _
    have z2N : IsZ V10 n2 (.slice a2 l2 c2) ((Nat.gcd a.natAbs b.natAbs : Nat) : Int) := by rw [hV]; exact ((z2).alloc _).alloc _
    have z9qN : IsZ V10 n9q (.slice a9q l9q c9q) (a.fdiv ((Nat.gcd a.natAbs b.natAbs : Nat) : Int)) := by rw [hV]; exact ((z9q).alloc _).alloc _
    have z9rN : IsZ V10 n9r (.slice a9r l9r c9r) (a.fmod ((Nat.gcd a.natAbs b.natAbs : Nat) : Int)) := by rw [hV]; exact ((z9r).alloc _).alloc _
    replace xw : Ext w V10 := by rw [hV]; exact Ext.alloc (Ext.alloc (xw))
    replace b2 := b2N; clear b2N
    replace b3 := b3N; clear b3N
    replace b4 := b4N; clear b4N
    replace b5 := b5N; clear b5N
    replace b6 := b6N; clear b6N
    replace za := zaN; clear zaN
    replace zb := zbN; clear zbN
    replace z2 := z2N; clear z2N
    replace z9q := z9qN; clear z9qN
    replace z9r := z9rN; clear z9rN
    have b7 : Box2 V10 w9.heap.size (.bool n9q) (.slice a9q l9q c9q) 37 := by rw [hV]; exact (Box2.new rfl).alloc _
    have b8 : Box2 V10 (w9.heap.size + 1) (.bool n9r) (.slice a9r l9r c9r) 37 := by rw [hV]; exact Box2.new (by simp)
    clear hV
    have b3_c0 := b3.c0
    have b3_c1 := b3.c1
    have b6_c0 := b6.c0
    have b6_c1 := b6.c1
    go_wp2_with fail
    refine (HDiv.out _ _ _ _ _ _ _ _ b ((Nat.gcd a.natAbs b.natAbs : Nat) : Int) _ zb z2 K (by omega) Bb B2 D0).mono ?_
    rintro e w13 ⟨n13q, a13q, l13q, c13q, n13r, a13r, l13r, c13r, rfl, z13q, z13r, x13⟩
    replace x13 : Ext _ w13 := x13
    have B13q : Bits (K + 1) (b.fdiv ((Nat.gcd a.natAbs b.natAbs : Nat) : Int)) := fdiv_b Bb D0
    have B13r : Bits K (b.fmod ((Nat.gcd a.natAbs b.natAbs : Nat) : Int)) := fmod_b B2 D0
    clear b3_c0 b3_c1 b6_c0 b6_c1
    replace b2 := b2.ext x13
    replace b3 := b3.ext x13
    replace b4 := b4.ext x13
    replace b5 := b5.ext x13
    replace b6 := b6.ext x13
    replace b7 := b7.ext x13
    replace b8 := b8.ext x13
    replace za := za.ext x13
    replace zb := zb.ext x13
    replace z2 := z2.ext x13
    replace z9q := z9q.ext x13
    replace z9r := z9r.ext x13
    replace xw := Ext.trans xw x13
    go_upto_region 6 with fail
    have o15 := b7.kind.lt
    have o16 := b8.kind.lt
    have o17 := xw.size
    refine wp_name ?_
    intro V14 hV
    have b2N : Box2 V14 w.heap.size (.bool na) (.slice aa la ca) 37 := by rw [hV]; exact ((b2).alloc _).alloc _
    have b3N : Box2 V14 (w.heap.size + 1) (.bool false) (.slice ab lb cb) 37 := by rw [hV]; exact ((b3).alloc _).alloc _
    have b4N : Box2 V14 (w.heap.size + 1 + 1) (.bool false) (.slice none 0 0) 37 := by rw [hV]; exact ((b4).alloc _).alloc _
    have b5N : Box2 V14 (w.heap.size + 1 + 1 + 1) (.bool false) (.slice none 0 0) 37 := by rw [hV]; exact ((b5).alloc _).alloc _
    have b6N : Box2 V14 w2.heap.size (.bool n2) (.slice a2 l2 c2) 37 := by rw [hV]; exact ((b6).alloc _).alloc _
    have b7N : Box2 V14 w9.heap.size (.bool n9q) (.slice a9q l9q c9q) 37 := by rw [hV]; exact ((b7).alloc _).alloc _
    have b8N : Box2 V14 (w9.heap.size + 1) (.bool n9r) (.slice a9r l9r c9r) 37 := by rw [hV]; exact ((b8).alloc _).alloc _
    have zaN : IsZ V14 na (.slice aa la ca) a := by rw [hV]; exact ((za).alloc _).alloc _
    have zbN : IsZ V14 false (.slice ab lb cb) b := by rw [hV]; exact ((zb).alloc _).alloc _
    have z2N : IsZ V14 n2 (.slice a2 l2 c2) ((Nat.gcd a.natAbs b.natAbs : Nat) : Int) := by rw [hV]; exact ((z2).alloc _).alloc _
    have z9qN : IsZ V14 n9q (.slice a9q l9q c9q) (a.fdiv ((Nat.gcd a.natAbs b.natAbs : Nat) : Int)) := by rw [hV]; exact ((z9q).alloc _).alloc _
    have z9rN : IsZ V14 n9r (.slice a9r l9r c9r) (a.fmod ((Nat.gcd a.natAbs b.natAbs : Nat) : Int)) := by rw [hV]; exact ((z9r).alloc _).alloc _
    have z13qN : IsZ V14 n13q (.slice a13q l13q c13q) (b.fdiv ((Nat.gcd a.natAbs b.natAbs : Nat) : Int)) := by rw [hV]; exact ((z13q).alloc _).alloc _
    have z13rN : IsZ V14 n13r (.slice a13r l13r c13r) (b.fmod ((Nat.gcd a.natAbs b.natAbs : Nat) : Int)) := by rw [hV]; exact ((z13r).alloc _).alloc _
    replace xw : Ext w V14 := by rw [hV]; exact Ext.alloc (Ext.alloc (xw))
    replace b2 := b2N; clear b2N
    replace b3 := b3N; clear b3N
    replace b4 := b4N; clear b4N
    replace b5 := b5N; clear b5N
    replace b6 := b6N; clear b6N
    replace b7 := b7N; clear b7N
    replace b8 := b8N; clear b8N
    replace za := zaN; clear zaN
    replace zb := zbN; clear zbN
    replace z2 := z2N; clear z2N
    replace z9q := z9qN; clear z9qN
    replace z9r := z9rN; clear z9rN
    replace z13q := z13qN; clear z13qN
    replace z13r := z13rN; clear z13rN
    have b9 : Box2 V14 w13.heap.size (.bool n13q) (.slice a13q l13q c13q) 37 := by rw [hV]; exact (Box2.new rfl).alloc _
    have b10 : Box2 V14 (w13.heap.size + 1) (.bool n13r) (.slice a13r l13r c13r) 37 := by rw [hV]; exact Box2.new (by simp)
    clear hV
    have b7_c0 := b7.c0
    have b7_c1 := b7.c1
    have b9_c0 := b9.c0
    have b9_c1 := b9.c1
    have b4_c0 := b4.c0
    have b4_c1 := b4.c1
    have b4_f0 := b4.f0
    have b4_f1 := b4.f1
    have b5_c0 := b5.c0
    have b5_c1 := b5.c1
    have b5_f0 := b5.f0
    have b5_f1 := b5.f1
    have ne4_5 : ¬ w.heap.size + 1 + 1 = w.heap.size + 1 + 1 + 1 := by omega
    have ne5_4 : ¬ w.heap.size + 1 + 1 + 1 = w.heap.size + 1 + 1 := by omega
    have ne4_7 : ¬ w.heap.size + 1 + 1 = w9.heap.size := by omega
    have ne7_4 : ¬ w9.heap.size = w.heap.size + 1 + 1 := by omega
    have ne4_9 : ¬ w.heap.size + 1 + 1 = w13.heap.size := by omega
    have ne9_4 : ¬ w13.heap.size = w.heap.size + 1 + 1 := by omega
    have ne5_7 : ¬ w.heap.size + 1 + 1 + 1 = w9.heap.size := by omega
    have ne7_5 : ¬ w9.heap.size = w.heap.size + 1 + 1 + 1 := by omega
    have ne5_9 : ¬ w.heap.size + 1 + 1 + 1 = w13.heap.size := by omega
    have ne9_5 : ¬ w13.heap.size = w.heap.size + 1 + 1 + 1 := by omega
    go_region
    clear ne4_5 ne5_4 ne4_7 ne7_4 ne4_9 ne9_4 ne5_7 ne7_5 ne5_9 ne9_5
    have zr0 := (((z9q).set2 (b4).kind (by decide) (.bool n9q) (.slice a9q l9q c9q)).set2 (((b5).other (b := w.heap.size + 1 + 1) (by omega) 0 (.bool n9q)).other (b := w.heap.size + 1 + 1) (by omega) 1 (.slice a9q l9q c9q)).kind (by decide) (.bool n13q) (.slice a13q l13q c13q)).drew
    have zr1 := (((z13q).set2 (b4).kind (by decide) (.bool n9q) (.slice a9q l9q c9q)).set2 (((b5).other (b := w.heap.size + 1 + 1) (by omega) 0 (.bool n9q)).other (b := w.heap.size + 1 + 1) (by omega) 1 (.slice a9q l9q c9q)).kind (by decide) (.bool n13q) (.slice a13q l13q c13q)).drew
    have xr := Ext.drew (Ext.set (Ext.set (Ext.set (Ext.set (xw) (k := w.heap.size + 1 + 1) (o := 0) (u := .bool n9q) (by omega)) (k := w.heap.size + 1 + 1) (o := 1) (u := .slice a9q l9q c9q) (by omega)) (k := w.heap.size + 1 + 1 + 1) (o := 0) (u := .bool n13q) (by omega)) (k := w.heap.size + 1 + 1 + 1) (o := 1) (u := .slice a13q l13q c13q) (by omega))
    go_wp2_with fail
    refine bodyPost_ret (v := .tuple #[.agg #[.bool n9q, .slice a9q l9q c9q], .agg #[.bool n13q, .slice a13q l13q c13q]]) (by simp [results, Try.results109, go_sem, b4_c0, b4_c1, b5_c0, b5_c1]) rfl ⟨_, _, _, _, _, _, _, _, rfl, by rw [← HP.out]; exact zr0, by rw [← HQ.out]; exact zr1, xr⟩
  · have hs : b < 0 := by simpa using hnb
    have D0 : (-((Nat.gcd a.natAbs b.natAbs : Nat) : Int)) ≠ 0 := by have := gcd_pos (a := a) h0; omega
    have HP := Lib.hid (show a.fdiv (-((Nat.gcd a.natAbs b.natAbs : Nat) : Int)) = frP a b from frP_true h0 hs)
    have HQ := Lib.hid (show b.fdiv (-((Nat.gcd a.natAbs b.natAbs : Nat) : Int)) = frQ a b from frQ_true h0 hs)
    clear hs hnb h0
    go_enter Try.func109, Try.ntmps109
    go_upto_region 1 with fail
    have xw := Ext.refl w
    refine wp_name ?_
    intro V18 hV
    have zaN : IsZ V18 na (.slice aa la ca) a := by rw [hV]; exact ((((za).alloc _).alloc _).alloc _).alloc _
    have zbN : IsZ V18 true (.slice ab lb cb) b := by rw [hV]; exact ((((zb).alloc _).alloc _).alloc _).alloc _
    replace xw : Ext w V18 := by rw [hV]; exact Ext.alloc (Ext.alloc (Ext.alloc (Ext.alloc (xw))))
    replace za := zaN; clear zaN
    replace zb := zbN; clear zbN
    have b2 : Box2 V18 w.heap.size (.bool na) (.slice aa la ca) 37 := by rw [hV]; exact (((Box2.new rfl).alloc _).alloc _).alloc _
    have b3 : Box2 V18 (w.heap.size + 1) (.bool true) (.slice ab lb cb) 37 := by rw [hV]; exact ((Box2.new (by simp)).alloc _).alloc _
    have b4 : Box2 V18 (w.heap.size + 1 + 1) (.bool false) (.slice none 0 0) 37 := by rw [hV]; exact (Box2.new (by simp)).alloc _
    have b5 : Box2 V18 (w.heap.size + 1 + 1 + 1) (.bool false) (.slice none 0 0) 37 := by rw [hV]; exact Box2.new (by simp)
    clear hV
    have b2_c0 := b2.c0
    have b2_c1 := b2.c1
    have b3_c0 := b3.c0
    have b3_c1 := b3.c1
    go_wp2_with fail
    refine (HCom.out K (by omega) _ _ _ _ _ _ _ _ a b _ za zb Ba Bb).mono ?_
    rintro e w19 ⟨n19, a19, l19, c19, rfl, z19, x19⟩
    replace x19 : Ext _ w19 := x19
    have B19 : Bits K (((Nat.gcd a.natAbs b.natAbs : Nat) : Int)) := HB.out
    clear b2_c0 b2_c1 b3_c0 b3_c1
    replace b2 := b2.ext x19
    replace b3 := b3.ext x19
    replace b4 := b4.ext x19
    replace b5 := b5.ext x19
    replace za := za.ext x19
    replace zb := zb.ext x19
    replace xw := Ext.trans xw x19
    go_upto_region 2 with fail
    have o21 := b2.kind.lt
    have o22 := b3.kind.lt
    have o23 := b4.kind.lt
    have o24 := b5.kind.lt
    have o25 := xw.size
    refine wp_name ?_
    intro V20 hV
    have b2N : Box2 V20 w.heap.size (.bool na) (.slice aa la ca) 37 := by rw [hV]; exact (b2).alloc _
    have b3N : Box2 V20 (w.heap.size + 1) (.bool true) (.slice ab lb cb) 37 := by rw [hV]; exact (b3).alloc _
    have b4N : Box2 V20 (w.heap.size + 1 + 1) (.bool false) (.slice none 0 0) 37 := by rw [hV]; exact (b4).alloc _
    have b5N : Box2 V20 (w.heap.size + 1 + 1 + 1) (.bool false) (.slice none 0 0) 37 := by rw [hV]; exact (b5).alloc _
    have zaN : IsZ V20 na (.slice aa la ca) a := by rw [hV]; exact (za).alloc _
    have zbN : IsZ V20 true (.slice ab lb cb) b := by rw [hV]; exact (zb).alloc _
    have z19N : IsZ V20 n19 (.slice a19 l19 c19) ((Nat.gcd a.natAbs b.natAbs : Nat) : Int) := by rw [hV]; exact (z19).alloc _
    replace xw : Ext w V20 := by rw [hV]; exact Ext.alloc (xw)
    replace b2 := b2N; clear b2N
    replace b3 := b3N; clear b3N
    replace b4 := b4N; clear b4N
    replace b5 := b5N; clear b5N
    replace za := zaN; clear zaN
    replace zb := zbN; clear zbN
    replace z19 := z19N; clear z19N
    have b6 : Box2 V20 w19.heap.size (.bool n19) (.slice a19 l19 c19) 37 := by rw [hV]; exact Box2.new rfl
    clear hV
    have b3_c0 := b3.c0
    have b3_c1 := b3.c1
    go_upto_region 3 with fail
    clear b3_c0 b3_c1
    have b6_c0 := b6.c0
    have b6_c1 := b6.c1
    go_wp2_with fail
    refine (HNeg.out _ _ _ _ ((Nat.gcd a.natAbs b.natAbs : Nat) : Int) _ z19 (B19.fit (by omega))).mono ?_
    rintro e w26 ⟨n26, a26, l26, c26, rfl, z26, x26⟩
    replace x26 : Ext _ w26 := x26
    have B26 : Bits K (-((Nat.gcd a.natAbs b.natAbs : Nat) : Int)) := B19.neg
    clear b6_c0 b6_c1
    replace b2 := b2.ext x26
    replace b3 := b3.ext x26
    replace b4 := b4.ext x26
    replace b5 := b5.ext x26
    replace b6 := b6.ext x26
    replace za := za.ext x26
    replace zb := zb.ext x26
    replace z19 := z19.ext x26
    replace xw := Ext.trans xw x26
    have b6_c0 := b6.c0
    have b6_c1 := b6.c1
    have b6_f0 := b6.f0
    have b6_f1 := b6.f1
    go_upto_region 4 with fail
    clear b6_c0 b6_c1 b6_f0 b6_f1
    refine wp_name ?_
    intro V27 hV
    have b2N : Box2 V27 w.heap.size (.bool na) (.slice aa la ca) 37 := by rw [hV]; exact ((b2).other (b := w19.heap.size) (by omega) 0 (.bool n26)).other (b := w19.heap.size) (by omega) 1 (.slice a26 l26 c26)
    have b3N : Box2 V27 (w.heap.size + 1) (.bool true) (.slice ab lb cb) 37 := by rw [hV]; exact ((b3).other (b := w19.heap.size) (by omega) 0 (.bool n26)).other (b := w19.heap.size) (by omega) 1 (.slice a26 l26 c26)
    have b4N : Box2 V27 (w.heap.size + 1 + 1) (.bool false) (.slice none 0 0) 37 := by rw [hV]; exact ((b4).other (b := w19.heap.size) (by omega) 0 (.bool n26)).other (b := w19.heap.size) (by omega) 1 (.slice a26 l26 c26)
    have b5N : Box2 V27 (w.heap.size + 1 + 1 + 1) (.bool false) (.slice none 0 0) 37 := by rw [hV]; exact ((b5).other (b := w19.heap.size) (by omega) 0 (.bool n26)).other (b := w19.heap.size) (by omega) 1 (.slice a26 l26 c26)
    have b6N : Box2 V27 w19.heap.size (.bool n26) (.slice a26 l26 c26) 37 := by rw [hV]; exact (b6).set (.bool n26) (.slice a26 l26 c26)
    have zaN : IsZ V27 na (.slice aa la ca) a := by rw [hV]; exact (za).set2 (b6).kind (by decide) (.bool n26) (.slice a26 l26 c26)
    have zbN : IsZ V27 true (.slice ab lb cb) b := by rw [hV]; exact (zb).set2 (b6).kind (by decide) (.bool n26) (.slice a26 l26 c26)
    have z19N : IsZ V27 n19 (.slice a19 l19 c19) ((Nat.gcd a.natAbs b.natAbs : Nat) : Int) := by rw [hV]; exact (z19).set2 (b6).kind (by decide) (.bool n26) (.slice a26 l26 c26)
    have z26N : IsZ V27 n26 (.slice a26 l26 c26) (-((Nat.gcd a.natAbs b.natAbs : Nat) : Int)) := by rw [hV]; exact (z26).set2 (b6).kind (by decide) (.bool n26) (.slice a26 l26 c26)
    replace xw : Ext w V27 := by rw [hV]; exact Ext.set (Ext.set (xw) (k := w19.heap.size) (o := 0) (u := .bool n26) (by omega)) (k := w19.heap.size) (o := 1) (u := .slice a26 l26 c26) (by omega)
    replace b2 := b2N; clear b2N
    replace b3 := b3N; clear b3N
    replace b4 := b4N; clear b4N
    replace b5 := b5N; clear b5N
    replace b6 := b6N; clear b6N
    replace za := zaN; clear zaN
    replace zb := zbN; clear zbN
    replace z19 := z19N; clear z19N
    replace z26 := z26N; clear z26N
    clear hV
    clear z19
    have b2_c0 := b2.c0
    have b2_c1 := b2.c1
    have b6_c0 := b6.c0
    have b6_c1 := b6.c1
    go_wp2_with fail
    refine (HDiv.out _ _ _ _ _ _ _ _ a (-((Nat.gcd a.natAbs b.natAbs : Nat) : Int)) _ za z26 K (by omega) Ba B26 D0).mono ?_
    rintro e w28 ⟨n28q, a28q, l28q, c28q, n28r, a28r, l28r, c28r, rfl, z28q, z28r, x28⟩
    replace x28 : Ext _ w28 := x28
    have B28q : Bits (K + 1) (a.fdiv (-((Nat.gcd a.natAbs b.natAbs : Nat) : Int))) := fdiv_b Ba D0
    have B28r : Bits K (a.fmod (-((Nat.gcd a.natAbs b.natAbs : Nat) : Int))) := fmod_b B26 D0
    clear b2_c0 b2_c1 b6_c0 b6_c1
    replace b2 := b2.ext x28
    replace b3 := b3.ext x28
    replace b4 := b4.ext x28
    replace b5 := b5.ext x28
    replace b6 := b6.ext x28
    replace za := za.ext x28
    replace zb := zb.ext x28
    replace z26 := z26.ext x28
    replace xw := Ext.trans xw x28
    go_upto_region 5 with fail
    have o30 := b6.kind.lt
    have o31 := xw.size
    refine wp_name ?_
    intro V29 hV
    have b2N : Box2 V29 w.heap.size (.bool na) (.slice aa la ca) 37 := by rw [hV]; exact ((b2).alloc _).alloc _
    have b3N : Box2 V29 (w.heap.size + 1) (.bool true) (.slice ab lb cb) 37 := by rw [hV]; exact ((b3).alloc _).alloc _
    have b4N : Box2 V29 (w.heap.size + 1 + 1) (.bool false) (.slice none 0 0) 37 := by rw [hV]; exact ((b4).alloc _).alloc _
    have b5N : Box2 V29 (w.heap.size + 1 + 1 + 1) (.bool false) (.slice none 0 0) 37 := by rw [hV]; exact ((b5).alloc _).alloc _
    have b6N : Box2 V29 w19.heap.size (.bool n26) (.slice a26 l26 c26) 37 := by rw [hV]; exact ((b6).alloc _).alloc _
    have zaN : IsZ V29 na (.slice aa la ca) a := by rw [hV]; exact ((za).alloc _).alloc _
    have zbN : IsZ V29 true (.slice ab lb cb) b := by rw [hV]; exact ((zb).alloc _).alloc _
    have z26N : IsZ V29 n26 (.slice a26 l26 c26) (-((Nat.gcd a.natAbs b.natAbs : Nat) : Int)) := by rw [hV]; exact ((z26).alloc _).alloc _
    have z28qN : IsZ V29 n28q (.slice a28q l28q c28q) (a.fdiv (-((Nat.gcd a.natAbs b.natAbs : Nat) : Int))) := by rw [hV]; exact ((z28q).alloc _).alloc _
    have z28rN : IsZ V29 n28r (.slice a28r l28r c28r) (a.fmod (-((Nat.gcd a.natAbs b.natAbs : Nat) : Int))) := by rw [hV]; exact ((z28r).alloc _).alloc _
    replace xw : Ext w V29 := by rw [hV]; exact Ext.alloc (Ext.alloc (xw))
    replace b2 := b2N; clear b2N
    replace b3 := b3N; clear b3N
    replace b4 := b4N; clear b4N
    replace b5 := b5N; clear b5N
    replace b6 := b6N; clear b6N
    replace za := zaN; clear zaN
    replace zb := zbN; clear zbN
    replace z26 := z26N; clear z26N
    replace z28q := z28qN; clear z28qN
    replace z28r := z28rN; clear z28rN
    have b7 : Box2 V29 w28.heap.size (.bool n28q) (.slice a28q l28q c28q) 37 := by rw [hV]; exact (Box2.new rfl).alloc _
    have b8 : Box2 V29 (w28.heap.size + 1) (.bool n28r) (.slice a28r l28r c28r) 37 := by rw [hV]; exact Box2.new (by simp)
    clear hV
    have b3_c0 := b3.c0
    have b3_c1 := b3.c1
    have b6_c0 := b6.c0
    have b6_c1 := b6.c1
    go_wp2_with fail
    refine (HDiv.out _ _ _ _ _ _ _ _ b (-((Nat.gcd a.natAbs b.natAbs : Nat) : Int)) _ zb z26 K (by omega) Bb B26 D0).mono ?_
    rintro e w32 ⟨n32q, a32q, l32q, c32q, n32r, a32r, l32r, c32r, rfl, z32q, z32r, x32⟩
    replace x32 : Ext _ w32 := x32
    have B32q : Bits (K + 1) (b.fdiv (-((Nat.gcd a.natAbs b.natAbs : Nat) : Int))) := fdiv_b Bb D0
    have B32r : Bits K (b.fmod (-((Nat.gcd a.natAbs b.natAbs : Nat) : Int))) := fmod_b B26 D0
    clear b3_c0 b3_c1 b6_c0 b6_c1
    replace b2 := b2.ext x32
    replace b3 := b3.ext x32
    replace b4 := b4.ext x32
    replace b5 := b5.ext x32
    replace b6 := b6.ext x32
    replace b7 := b7.ext x32
    replace b8 := b8.ext x32
    replace za := za.ext x32
    replace zb := zb.ext x32
    replace z26 := z26.ext x32
    replace z28q := z28q.ext x32
    replace z28r := z28r.ext x32
    replace xw := Ext.trans xw x32
    go_upto_region 6 with fail
    have o34 := b7.kind.lt
    have o35 := b8.kind.lt
    have o36 := xw.size
    refine wp_name ?_
    intro V33 hV
    have b2N : Box2 V33 w.heap.size (.bool na) (.slice aa la ca) 37 := by rw [hV]; exact ((b2).alloc _).alloc _
    have b3N : Box2 V33 (w.heap.size + 1) (.bool true) (.slice ab lb cb) 37 := by rw [hV]; exact ((b3).alloc _).alloc _
    have b4N : Box2 V33 (w.heap.size + 1 + 1) (.bool false) (.slice none 0 0) 37 := by rw [hV]; exact ((b4).alloc _).alloc _
    have b5N : Box2 V33 (w.heap.size + 1 + 1 + 1) (.bool false) (.slice none 0 0) 37 := by rw [hV]; exact ((b5).alloc _).alloc _
    have b6N : Box2 V33 w19.heap.size (.bool n26) (.slice a26 l26 c26) 37 := by rw [hV]; exact ((b6).alloc _).alloc _
    have b7N : Box2 V33 w28.heap.size (.bool n28q) (.slice a28q l28q c28q) 37 := by rw [hV]; exact ((b7).alloc _).alloc _
    have b8N : Box2 V33 (w28.heap.size + 1) (.bool n28r) (.slice a28r l28r c28r) 37 := by rw [hV]; exact ((b8).alloc _).alloc _
    have zaN : IsZ V33 na (.slice aa la ca) a := by rw [hV]; exact ((za).alloc _).alloc _
    have zbN : IsZ V33 true (.slice ab lb cb) b := by rw [hV]; exact ((zb).alloc _).alloc _
    have z26N : IsZ V33 n26 (.slice a26 l26 c26) (-((Nat.gcd a.natAbs b.natAbs : Nat) : Int)) := by rw [hV]; exact ((z26).alloc _).alloc _
    have z28qN : IsZ V33 n28q (.slice a28q l28q c28q) (a.fdiv (-((Nat.gcd a.natAbs b.natAbs : Nat) : Int))) := by rw [hV]; exact ((z28q).alloc _).alloc _
    have z28rN : IsZ V33 n28r (.slice a28r l28r c28r) (a.fmod (-((Nat.gcd a.natAbs b.natAbs : Nat) : Int))) := by rw [hV]; exact ((z28r).alloc _).alloc _
    have z32qN : IsZ V33 n32q (.slice a32q l32q c32q) (b.fdiv (-((Nat.gcd a.natAbs b.natAbs : Nat) : Int))) := by rw [hV]; exact ((z32q).alloc _).alloc _
    have z32rN : IsZ V33 n32r (.slice a32r l32r c32r) (b.fmod (-((Nat.gcd a.natAbs b.natAbs : Nat) : Int))) := by rw [hV]; exact ((z32r).alloc _).alloc _
    replace xw : Ext w V33 := by rw [hV]; exact Ext.alloc (Ext.alloc (xw))
    replace b2 := b2N; clear b2N
    replace b3 := b3N; clear b3N
    replace b4 := b4N; clear b4N
    replace b5 := b5N; clear b5N
    replace b6 := b6N; clear b6N
    replace b7 := b7N; clear b7N
    replace b8 := b8N; clear b8N
    replace za := zaN; clear zaN
    replace zb := zbN; clear zbN
    replace z26 := z26N; clear z26N
    replace z28q := z28qN; clear z28qN
    replace z28r := z28rN; clear z28rN
    replace z32q := z32qN; clear z32qN
    replace z32r := z32rN; clear z32rN
    have b9 : Box2 V33 w32.heap.size (.bool n32q) (.slice a32q l32q c32q) 37 := by rw [hV]; exact (Box2.new rfl).alloc _
    have b10 : Box2 V33 (w32.heap.size + 1) (.bool n32r) (.slice a32r l32r c32r) 37 := by rw [hV]; exact Box2.new (by simp)
    clear hV
    have b7_c0 := b7.c0
    have b7_c1 := b7.c1
    have b9_c0 := b9.c0
    have b9_c1 := b9.c1
    have b4_c0 := b4.c0
    have b4_c1 := b4.c1
    have b4_f0 := b4.f0
    have b4_f1 := b4.f1
    have b5_c0 := b5.c0
    have b5_c1 := b5.c1
    have b5_f0 := b5.f0
    have b5_f1 := b5.f1
    have ne4_5 : ¬ w.heap.size + 1 + 1 = w.heap.size + 1 + 1 + 1 := by omega
    have ne5_4 : ¬ w.heap.size + 1 + 1 + 1 = w.heap.size + 1 + 1 := by omega
    have ne4_7 : ¬ w.heap.size + 1 + 1 = w28.heap.size := by omega
    have ne7_4 : ¬ w28.heap.size = w.heap.size + 1 + 1 := by omega
    have ne4_9 : ¬ w.heap.size + 1 + 1 = w32.heap.size := by omega
    have ne9_4 : ¬ w32.heap.size = w.heap.size + 1 + 1 := by omega
    have ne5_7 : ¬ w.heap.size + 1 + 1 + 1 = w28.heap.size := by omega
    have ne7_5 : ¬ w28.heap.size = w.heap.size + 1 + 1 + 1 := by omega
    have ne5_9 : ¬ w.heap.size + 1 + 1 + 1 = w32.heap.size := by omega
    have ne9_5 : ¬ w32.heap.size = w.heap.size + 1 + 1 + 1 := by omega
    go_region
    clear ne4_5 ne5_4 ne4_7 ne7_4 ne4_9 ne9_4 ne5_7 ne7_5 ne5_9 ne9_5
    have zr0 := (((z28q).set2 (b4).kind (by decide) (.bool n28q) (.slice a28q l28q c28q)).set2 (((b5).other (b := w.heap.size + 1 + 1) (by omega) 0 (.bool n28q)).other (b := w.heap.size + 1 + 1) (by omega) 1 (.slice a28q l28q c28q)).kind (by decide) (.bool n32q) (.slice a32q l32q c32q)).drew
    have zr1 := (((z32q).set2 (b4).kind (by decide) (.bool n28q) (.slice a28q l28q c28q)).set2 (((b5).other (b := w.heap.size + 1 + 1) (by omega) 0 (.bool n28q)).other (b := w.heap.size + 1 + 1) (by omega) 1 (.slice a28q l28q c28q)).kind (by decide) (.bool n32q) (.slice a32q l32q c32q)).drew
    have xr := Ext.drew (Ext.set (Ext.set (Ext.set (Ext.set (xw) (k := w.heap.size + 1 + 1) (o := 0) (u := .bool n28q) (by omega)) (k := w.heap.size + 1 + 1) (o := 1) (u := .slice a28q l28q c28q) (by omega)) (k := w.heap.size + 1 + 1 + 1) (o := 0) (u := .bool n32q) (by omega)) (k := w.heap.size + 1 + 1 + 1) (o := 1) (u := .slice a32q l32q c32q) (by omega))
    go_wp2_with fail
    refine bodyPost_ret (v := .tuple #[.agg #[.bool n28q, .slice a28q l28q c28q], .agg #[.bool n32q, .slice a32q l32q c32q]]) (by simp [results, Try.results109, go_sem, b4_c0, b4_c1, b5_c0, b5_c1]) rfl ⟨_, _, _, _, _, _, _, _, rfl, by rw [← HP.out]; exact zr0, by rw [← HQ.out]; exact zr1, xr⟩
end Go.Proofs.Ytmkddcmfofabbaa
