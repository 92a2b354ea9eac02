/-
  The law DivideLowest, walked.
-/
import Derived.Test.YtmkddcmfofabbaaDfr
import Derived.Test.YtmkddcmfofabbaaGf
set_option linter.unusedSimpArgs false
set_option linter.unusedVariables false
namespace Go.Proofs.Ytmkddcmfofabbaa
open Go Go.RowKit

theorem fr_eq {a b : Int} (h : b ≠ 0) : ∃ g : Int, a = frP a b * g ∧ b = frQ a b * g ∧ 0 < frQ a b := by
  have hg := gcd_pos (a := a) h
  have d1 : ((Nat.gcd a.natAbs b.natAbs : Nat) : Int) ∣ a := Int.gcd_dvd_left ..
  have d2 : ((Nat.gcd a.natAbs b.natAbs : Nat) : Int) ∣ b := Int.gcd_dvd_right ..
  have hq : 0 < frQ a b := by
    unfold frQ
    have := Nat.div_pos (Nat.gcd_le_right a.natAbs (show 0 < b.natAbs by omega)) hg
    omega
  by_cases hs : 0 ≤ b
  · exact ⟨_, by rw [← frP_false h hs]; exact (Int.fdiv_mul_cancel d1).symm, by rw [← frQ_false h hs]; exact (Int.fdiv_mul_cancel d2).symm, hq⟩
  · exact ⟨_, by rw [← frP_true h (by omega)]; exact (Int.fdiv_mul_cancel (Int.neg_dvd.2 d1)).symm, by rw [← frQ_true h (by omega)]; exact (Int.fdiv_mul_cancel (Int.neg_dvd.2 d2)).symm, hq⟩
theorem fr_cross {a b : Int} (h : b ≠ 0) : frP a b * b = a * frQ a b := by
  obtain ⟨g, h1, h2, -⟩ := fr_eq (a := a) h
  generalize frP a b = P at *
  generalize frQ a b = Q at *
  rw [h1, h2, Int.mul_assoc, Int.mul_comm g Q]
theorem fr_gcd {a b : Int} (h : b ≠ 0) : Nat.gcd (frP a b).natAbs (frQ a b).natAbs = 1 := by
  have hg := gcd_pos (a := a) h
  have e1 : (frP a b).natAbs = a.natAbs / Nat.gcd a.natAbs b.natAbs := by
    unfold frP wsg
    generalize a.natAbs / Nat.gcd a.natAbs b.natAbs = X
    split <;> omega
  have e2 : (frQ a b).natAbs = b.natAbs / Nat.gcd a.natAbs b.natAbs := by
    unfold frQ
    generalize b.natAbs / Nat.gcd a.natAbs b.natAbs = X
    omega
  obtain ⟨X, hX⟩ := fr_a a b
  obtain ⟨Y, hY⟩ := fr_b a b
  rw [e1, e2]
  generalize hG : Nat.gcd a.natAbs b.natAbs = G at *
  rw [hX, hY, Nat.mul_div_cancel _ hg, Nat.mul_div_cancel _ hg]
  rw [hX, hY, Nat.gcd_mul_right] at hG
  have : Nat.gcd X Y * G = 1 * G := by omega
  exact Nat.eq_of_mul_eq_mul_right hg this
set_option maxRecDepth 100000 in
set_option maxHeartbeats 3200000 in
theorem law_low0 (a : Int) (w : World) (ha : W128 a) :
    Calls Try.prog 16 #[.agg #[.int .i64 (hi a), .int .u64 (lo a)], .agg #[.int .i64 0, .int .u64 0]] w (fun e w' => e = .returned (.bool true) ∧ Ext w w') := by
  have HAl := Lib.hid alive3
  have HF := Lib.hid (show ∀ w : World, Calls Try.prog 65 #[.agg #[.int .i64 (hi a), .int .u64 (lo a)], .agg #[.int .i64 0, .int .u64 0]] w (fun e w' => e = .returned (.tuple #[.agg #[.int .i64 0, .int .u64 0], .agg #[.int .i64 0, .int .u64 0], .int .i64 3]) ∧ Ext w w') from fun w => (dfrac0 a w).mono fun e w' h => by unfold RetFr at h; have hn : ¬ fOk a 0 := fun h => h.1 rfl; rw [fv_no hn, fv_no hn, fv_no hn, fv_no hn, fe_zero] at h; exact h)
  go_enter Try.func16, Try.ntmps16
  go_upto_region 1 with fail
  have xw := Ext.refl w
  refine wp_name ?_
  intro V1 hV
  replace xw : Ext w V1 := by rw [hV]; exact Ext.alloc (Ext.alloc (xw))
  have b2 : Box2 V1 w.heap.size (.int .i64 (hi a)) (.int .u64 (lo a)) 26 := by rw [hV]; exact (Box2.new rfl).alloc _
  have b3 : Box2 V1 (w.heap.size + 1) (.int .i64 0) (.int .u64 0) 26 := by rw [hV]; exact Box2.new (by simp)
  clear hV
  have b2_c0 := b2.c0
  have b2_c1 := b2.c1
  have b3_c0 := b3.c0
  have b3_c1 := b3.c1
  go_wp2_with fail
  refine (HF.out _).mono ?_
  rintro e w2 ⟨rfl, x2⟩
  clear b2_c0 b2_c1 b3_c0 b3_c1
  replace b2 := b2.ext x2
  replace b3 := b3.ext x2
  replace xw := Ext.trans xw x2
  go_upto_region 2 with fail
  have o4 := b2.kind.lt
  have o5 := b3.kind.lt
  have o6 := xw.size
  refine wp_name ?_
  intro V3 hV
  have b2N : Box2 V3 w.heap.size (.int .i64 (hi a)) (.int .u64 (lo a)) 26 := by rw [hV]; exact ((b2).alloc _).alloc _
  have b3N : Box2 V3 (w.heap.size + 1) (.int .i64 0) (.int .u64 0) 26 := by rw [hV]; exact ((b3).alloc _).alloc _
  replace xw : Ext w V3 := by rw [hV]; exact Ext.alloc (Ext.alloc (xw))
  replace b2 := b2N; clear b2N
  replace b3 := b3N; clear b3N
  have b5 : Box2 V3 w2.heap.size (.int .i64 0) (.int .u64 0) 26 := by rw [hV]; exact (Box2.new rfl).alloc _
  have b6 : Box2 V3 (w2.heap.size + 1) (.int .i64 0) (.int .u64 0) 26 := by rw [hV]; exact Box2.new (by simp)
  clear hV
  go_upto_region 3 with fail
  go_wp2_with fail
  refine (HAl.out _).mono ?_
  rintro e w7 ⟨rfl, x7⟩
  replace b2 := b2.ext x7
  replace b3 := b3.ext x7
  replace b5 := b5.ext x7
  replace b6 := b6.ext x7
  replace xw := Ext.trans xw x7
  have b5_c0 := b5.c0
  have b5_c1 := b5.c1
  have b6_c0 := b6.c0
  have b6_c1 := b6.c1
  have b3_c0 := b3.c0
  have b3_c1 := b3.c1
  have xr := xw
  go_wp2_with fail
  refine bodyPost_ret (v := .bool true) (by simp [results, Try.results16, go_sem]) rfl ⟨rfl, xr⟩
set_option maxRecDepth 100000 in
set_option maxHeartbeats 3200000 in
theorem law_lowno (a b : Int) (w : World) (ha : W128 a) (hb : W128 b) (h0 : b ≠ 0) (hk : ¬ fOk a b) :
    Calls Try.prog 16 #[.agg #[.int .i64 (hi a), .int .u64 (lo a)], .agg #[.int .i64 (hi b), .int .u64 (lo b)]] w (fun e w' => e = .returned (.bool true) ∧ Ext w w') := by
  have HAl := Lib.hid alive3
  have HF := Lib.hid (show ∀ w : World, Calls Try.prog 65 #[.agg #[.int .i64 (hi a), .int .u64 (lo a)], .agg #[.int .i64 (hi b), .int .u64 (lo b)]] w (fun e w' => e = .returned (.tuple #[.agg #[.int .i64 0, .int .u64 0], .agg #[.int .i64 0, .int .u64 0], .int .i64 2]) ∧ Ext w w') from fun w => (dfrac_any a b w ha hb).mono fun e w' h => by unfold RetFr at h; rw [fv_no hk, fv_no hk, fv_no hk, fv_no hk, fe_no h0 hk] at h; exact h)
  have hz : ¬ (hi b = 0 ∧ lo b = 0) := by rintro ⟨g1, g2⟩; have := hi_lo b; omega
  clear h0 hk
  by_cases hz1 : hi b = 0
  · have g1 : (hi b == 0) = true := by simpa using hz1
    have g2 : (lo b == 0) = false := by simpa using fun h => hz ⟨hz1, h⟩
    clear hz hz1
    go_enter Try.func16, Try.ntmps16
    go_upto_region 1 with fail
    have xw := Ext.refl w
    refine wp_name ?_
    intro V1 hV
    replace xw : Ext w V1 := by rw [hV]; exact Ext.alloc (Ext.alloc (xw))
    have b2 : Box2 V1 w.heap.size (.int .i64 (hi a)) (.int .u64 (lo a)) 26 := by rw [hV]; exact (Box2.new rfl).alloc _
    have b3 : Box2 V1 (w.heap.size + 1) (.int .i64 (hi b)) (.int .u64 (lo b)) 26 := by rw [hV]; exact Box2.new (by simp)
    clear hV
    have b2_c0 := b2.c0
    have b2_c1 := b2.c1
    have b3_c0 := b3.c0
    have b3_c1 := b3.c1
    go_wp2_with fail
    refine (HF.out _).mono ?_
    rintro e w2 ⟨rfl, x2⟩
    clear b2_c0 b2_c1 b3_c0 b3_c1
    replace b2 := b2.ext x2
    replace b3 := b3.ext x2
    replace xw := Ext.trans xw x2
    go_upto_region 2 with fail
    have o4 := b2.kind.lt
    have o5 := b3.kind.lt
    have o6 := xw.size
    refine wp_name ?_
    intro V3 hV
    have b2N : Box2 V3 w.heap.size (.int .i64 (hi a)) (.int .u64 (lo a)) 26 := by rw [hV]; exact ((b2).alloc _).alloc _
    have b3N : Box2 V3 (w.heap.size + 1) (.int .i64 (hi b)) (.int .u64 (lo b)) 26 := by rw [hV]; exact ((b3).alloc _).alloc _
    replace xw : Ext w V3 := by rw [hV]; exact Ext.alloc (Ext.alloc (xw))
    replace b2 := b2N; clear b2N
    replace b3 := b3N; clear b3N
    have b5 : Box2 V3 w2.heap.size (.int .i64 0) (.int .u64 0) 26 := by rw [hV]; exact (Box2.new rfl).alloc _
    have b6 : Box2 V3 (w2.heap.size + 1) (.int .i64 0) (.int .u64 0) 26 := by rw [hV]; exact Box2.new (by simp)
    clear hV
    go_upto_region 3 with fail
    go_wp2_with fail
    refine (HAl.out _).mono ?_
    rintro e w7 ⟨rfl, x7⟩
    replace b2 := b2.ext x7
    replace b3 := b3.ext x7
    replace b5 := b5.ext x7
    replace b6 := b6.ext x7
    replace xw := Ext.trans xw x7
    have b5_c0 := b5.c0
    have b5_c1 := b5.c1
    have b6_c0 := b6.c0
    have b6_c1 := b6.c1
    have b3_c0 := b3.c0
    have b3_c1 := b3.c1
    have xr := xw
    go_wp2_with fail
    refine bodyPost_ret (v := .bool true) (by simp [results, Try.results16, go_sem]) rfl ⟨rfl, xr⟩
  · have g1 : (hi b == 0) = false := by simpa using hz1
    clear hz hz1
    go_enter Try.func16, Try.ntmps16
    go_upto_region 1 with fail
    have xw := Ext.refl w
    refine wp_name ?_
    intro V8 hV
    replace xw : Ext w V8 := by rw [hV]; exact Ext.alloc (Ext.alloc (xw))
    have b2 : Box2 V8 w.heap.size (.int .i64 (hi a)) (.int .u64 (lo a)) 26 := by rw [hV]; exact (Box2.new rfl).alloc _
    have b3 : Box2 V8 (w.heap.size + 1) (.int .i64 (hi b)) (.int .u64 (lo b)) 26 := by rw [hV]; exact Box2.new (by simp)
    clear hV
    have b2_c0 := b2.c0
    have b2_c1 := b2.c1
    have b3_c0 := b3.c0
    have b3_c1 := b3.c1
    go_wp2_with fail
    refine (HF.out _).mono ?_
    rintro e w9 ⟨rfl, x9⟩
    clear b2_c0 b2_c1 b3_c0 b3_c1
    replace b2 := b2.ext x9
    replace b3 := b3.ext x9
    replace xw := Ext.trans xw x9
    go_upto_region 2 with fail
    have o11 := b2.kind.lt
    have o12 := b3.kind.lt
    have o13 := xw.size
    refine wp_name ?_
    intro V10 hV
    have b2N : Box2 V10 w.heap.size (.int .i64 (hi a)) (.int .u64 (lo a)) 26 := by rw [hV]; exact ((b2).alloc _).alloc _
    have b3N : Box2 V10 (w.heap.size + 1) (.int .i64 (hi b)) (.int .u64 (lo b)) 26 := by rw [hV]; exact ((b3).alloc _).alloc _
    replace xw : Ext w V10 := by rw [hV]; exact Ext.alloc (Ext.alloc (xw))
    replace b2 := b2N; clear b2N
    replace b3 := b3N; clear b3N
    have b5 : Box2 V10 w9.heap.size (.int .i64 0) (.int .u64 0) 26 := by rw [hV]; exact (Box2.new rfl).alloc _
    have b6 : Box2 V10 (w9.heap.size + 1) (.int .i64 0) (.int .u64 0) 26 := by rw [hV]; exact Box2.new (by simp)
    clear hV
    go_upto_region 3 with fail
    go_wp2_with fail
    refine (HAl.out _).mono ?_
    rintro e w14 ⟨rfl, x14⟩
    replace b2 := b2.ext x14
    replace b3 := b3.ext x14
    replace b5 := b5.ext x14
    replace b6 := b6.ext x14
    replace xw := Ext.trans xw x14
    have b5_c0 := b5.c0
    have b5_c1 := b5.c1
    have b6_c0 := b6.c0
    have b6_c1 := b6.c1
    have b3_c0 := b3.c0
    have b3_c1 := b3.c1
    have xr := xw
    go_wp2_with fail
    refine bodyPost_ret (v := .bool true) (by simp [results, Try.results16, go_sem]) rfl ⟨rfl, xr⟩
set_option maxRecDepth 100000 in
set_option maxHeartbeats 3200000 in
theorem law_lowyes (a b : Int) (w : World) (ha : W128 a) (hb : W128 b) (hk : fOk a b) :
    Calls Try.prog 16 #[.agg #[.int .i64 (hi a), .int .u64 (lo a)], .agg #[.int .i64 (hi b), .int .u64 (lo b)]] w (fun e w' => e = .returned (.bool true) ∧ Ext w w') := by
  have HAl := Lib.hid alive3
  have HOfw := Lib.hid ofw
  have HMul := Lib.hid mul_z
  have HCmp := Lib.hid cmp_z
  have HSg := Lib.hid wsign
  have HO := Lib.hid liv_of
  have HGcd := Lib.hid dGcd
  have HOT := Lib.hid (overTo_all (M := 170141183460469231731687303715884105728) (Nat.le_refl _))
  have HF := Lib.hid (show ∀ w : World, Calls Try.prog 65 #[.agg #[.int .i64 (hi a), .int .u64 (lo a)], .agg #[.int .i64 (hi b), .int .u64 (lo b)]] w (fun e w' => e = .returned (.tuple #[.agg #[.int .i64 (hi (frP a b)), .int .u64 (lo (frP a b))], .agg #[.int .i64 (hi (frQ a b)), .int .u64 (lo (frQ a b))], .int .i64 0]) ∧ Ext w w') from fun w => (dfrac_any a b w ha hb).mono fun e w' h => by unfold RetFr at h; rw [fv_yes hk, fv_yes hk, fv_yes hk, fv_yes hk, fe_yes hk] at h; exact h)
  have HG := Lib.hid (fr_gcd (a := a) hk.1)
  have HCr := Lib.hid (show cmpI (frP a b * b) (a * frQ a b) = 0 by rw [fr_cross hk.1]; simp [cmpI])
  have HS1 := Lib.hid (show cmpI (frQ a b) 0 = 1 from cmpI_gt (fr_eq (a := a) hk.1).choose_spec.2.2)
  have hP := hk.2.1
  have hQ := hk.2.2
  have HM := Lib.hid (show (frP a b).natAbs ≤ 170141183460469231731687303715884105728 ∧ (frQ a b).natAbs ≤ 170141183460469231731687303715884105728 by unfold W128 at hP hQ; omega)
  clear hk
  go_enter Try.func16, Try.ntmps16
  go_upto_region 1 with fail
  have xw := Ext.refl w
  refine wp_name ?_
  intro V1 hV
  replace xw : Ext w V1 := by rw [hV]; exact Ext.alloc (Ext.alloc (xw))
  have b2 : Box2 V1 w.heap.size (.int .i64 (hi a)) (.int .u64 (lo a)) 26 := by rw [hV]; exact (Box2.new rfl).alloc _
  have b3 : Box2 V1 (w.heap.size + 1) (.int .i64 (hi b)) (.int .u64 (lo b)) 26 := by rw [hV]; exact Box2.new (by simp)
  clear hV
  have b2_c0 := b2.c0
  have b2_c1 := b2.c1
  have b3_c0 := b3.c0
  have b3_c1 := b3.c1
  go_wp2_with fail
  refine (HF.out _).mono ?_
  rintro e w2 ⟨rfl, x2⟩
  clear b2_c0 b2_c1 b3_c0 b3_c1
  replace b2 := b2.ext x2
  replace b3 := b3.ext x2
  replace xw := Ext.trans xw x2
  go_upto_region 2 with fail
  have o4 := b2.kind.lt
  have o5 := b3.kind.lt
  have o6 := xw.size
  refine wp_name ?_
  intro V3 hV
  have b2N : Box2 V3 w.heap.size (.int .i64 (hi a)) (.int .u64 (lo a)) 26 := by rw [hV]; exact ((b2).alloc _).alloc _
  have b3N : Box2 V3 (w.heap.size + 1) (.int .i64 (hi b)) (.int .u64 (lo b)) 26 := by rw [hV]; exact ((b3).alloc _).alloc _
  replace xw : Ext w V3 := by rw [hV]; exact Ext.alloc (Ext.alloc (xw))
  replace b2 := b2N; clear b2N
  replace b3 := b3N; clear b3N
  have b5 : Box2 V3 w2.heap.size (.int .i64 (hi (frP a b))) (.int .u64 (lo (frP a b))) 26 := by rw [hV]; exact (Box2.new rfl).alloc _
  have b6 : Box2 V3 (w2.heap.size + 1) (.int .i64 (hi (frQ a b))) (.int .u64 (lo (frQ a b))) 26 := by rw [hV]; exact Box2.new (by simp)
  clear hV
  go_upto_region 4 with fail
  have b5_c0 := b5.c0
  have b5_c1 := b5.c1
  have b6_c0 := b6.c0
  have b6_c1 := b6.c1
  go_wp2_with fail
  refine (HGcd.out _ (frP a b) (frQ a b) _ hP hQ HM.out.1 HM.out.2 (by decide) HOT.out).mono ?_
  rw [HG.out]
  rintro e w7 ⟨rfl, x7⟩
  rw [show thi ((1 : Nat) : Int) = 0 from rfl, show tlo ((1 : Nat) : Int) = 1 from rfl, show ter ((1 : Nat) : Int) = 0 from rfl]
  clear b5_c0 b5_c1 b6_c0 b6_c1
  replace b2 := b2.ext x7
  replace b3 := b3.ext x7
  replace b5 := b5.ext x7
  replace b6 := b6.ext x7
  replace xw := Ext.trans xw x7
  go_upto_region 5 with fail
  have o9 := b5.kind.lt
  have o10 := b6.kind.lt
  have o11 := xw.size
  refine wp_name ?_
  intro V8 hV
  have b2N : Box2 V8 w.heap.size (.int .i64 (hi a)) (.int .u64 (lo a)) 26 := by rw [hV]; exact (b2).alloc _
  have b3N : Box2 V8 (w.heap.size + 1) (.int .i64 (hi b)) (.int .u64 (lo b)) 26 := by rw [hV]; exact (b3).alloc _
  have b5N : Box2 V8 w2.heap.size (.int .i64 (hi (frP a b))) (.int .u64 (lo (frP a b))) 26 := by rw [hV]; exact (b5).alloc _
  have b6N : Box2 V8 (w2.heap.size + 1) (.int .i64 (hi (frQ a b))) (.int .u64 (lo (frQ a b))) 26 := by rw [hV]; exact (b6).alloc _
  replace xw : Ext w V8 := by rw [hV]; exact Ext.alloc (xw)
  replace b2 := b2N; clear b2N
  replace b3 := b3N; clear b3N
  replace b5 := b5N; clear b5N
  replace b6 := b6N; clear b6N
  have b8 : Box2 V8 w7.heap.size (.int .i64 0) (.int .u64 1) 26 := by rw [hV]; exact Box2.new rfl
  clear hV
  refine wp_region_noPanic ?_
  refine wp_region_held_drew (S := fun w' => Ext V8 w') (by kernel_rfl) (Ext.refl V8).drew (fun hHeld => ?_)
  have b5_d0 := fun w' (h : Ext V8 w') => (b5.ext h).c0
  have b5_d1 := fun w' (h : Ext V8 w') => (b5.ext h).c1
  have b3_d0 := fun w' (h : Ext V8 w') => (b3.ext h).c0
  have b3_d1 := fun w' (h : Ext V8 w') => (b3.ext h).c1
  refine wpAnyH_take (i := 0) (v := .agg #[.int .i64 (hi (frP a b)), .int .u64 (lo (frP a b))]) rfl (by kernel_rfl) (by kernel_rfl) (by kernel_rfl) (fun _ _ _ h => h) (Or.inl ⟨by kernel_rfl, fun w' h => (by go_simp)⟩) hHeld ?_
  refine wpAnyH_take (i := 2) (v := .agg #[.int .i64 (hi b), .int .u64 (lo b)]) rfl (by kernel_rfl) (by kernel_rfl) (by kernel_rfl) (fun _ _ _ h => h) (Or.inl ⟨by kernel_rfl, fun w' h => (by go_simp)⟩) hHeld ?_
  refine region1 (N := 7) (f0 := [0, 2]) (l := [(1, false), (3, false), (4, false)]) (T := [6]) (iA := 5) (dA := 10) (oA := .cells #[.bool false, .slice none 0 0] 37) (fun _ _ _ _ _ h => h) (by kernel_rfl) (by kernel_rfl) rfl (by kernel_rfl) (by kernel_rfl)
    (fun K a w h => wpOp_of rfl fun K' hK => (by go_simp; exact hK _ _ h)) (by simp [Act.put]) (fun _ _ h x => h.trans x) hHeld ?_
  have y0 : Ext V8 V8.drew := (Ext.refl V8).drew
  intro a1 v12 h1 yv12
  obtain ⟨s112, rfl⟩ := away1 h1; refine wpOp_of rfl fun K' hK => ?_; go_simp
  replace y0 := Ext.trans y0 yv12
  refine (HOfw.out (frP a b) _ hP).mono ?_
  rintro e w13 ⟨n13, a13, l13, c13, rfl, z13, x13⟩
  replace x13 : Ext _ w13 := x13
  have B13 : Bits 128 ((frP a b)) := hP.bits
  refine hK _ _ ⟨⟨x13, rfl, slots1 rfl⟩, ?_⟩; clear hK K'
  replace y0 := Ext.trans y0 x13
  intro a1 v14 h1 yv14
  obtain ⟨s114, rfl⟩ := away1 h1; refine wpOp_of rfl fun K' hK => ?_; go_simp
  replace y0 := Ext.trans y0 yv14
  replace z13 := z13.ext yv14
  refine (HOfw.out b _ hb).mono ?_
  rintro e w15 ⟨n15, a15, l15, c15, rfl, z15, x15⟩
  replace x15 : Ext _ w15 := x15
  have B15 : Bits 128 (b) := hb.bits
  refine hK _ _ ⟨⟨x15, rfl, slots1 rfl⟩, ?_⟩; clear hK K'
  replace y0 := Ext.trans y0 x15
  replace z13 := z13.ext x15
  intro a1 v16 h1 yv16
  obtain ⟨s116, rfl⟩ := away1 h1; refine wpOp_of rfl fun K' hK => ?_; go_simp
  replace y0 := Ext.trans y0 yv16
  replace z13 := z13.ext yv16
  replace z15 := z15.ext yv16
  refine (HMul.out _ _ _ _ _ _ _ _ (frP a b) b _ z13 z15 (B13.fit (by omega)) (B15.fit (by omega))).mono ?_
  rintro e w17 ⟨n17, a17, l17, c17, rfl, z17, x17⟩
  replace x17 : Ext _ w17 := x17
  have B17 : Bits 256 ((frP a b) * b) := B13.mul B15
  refine hK _ _ ⟨⟨x17, rfl, slots1 rfl⟩, ?_⟩; clear hK K'
  replace y0 := Ext.trans y0 x17
  replace z13 := z13.ext x17
  replace z15 := z15.ext x17
  intro a' v18 h yv18
  obtain ⟨s118, rfl⟩ := away1 h
  rintro k10 ⟨k10a, k10b, k10c⟩ hS'
  replace y0 := Ext.trans y0 yv18
  replace z13 := z13.ext yv18
  replace z15 := z15.ext yv18
  replace z17 := z17.ext yv18
  simp [Act.put] at k10b; subst k10b; replace k10a : V8.heap.size ≤ k10 := k10a
  clear b5_d0 b5_d1 b3_d0 b3_d1
  have o19 := b8.kind.lt
  have o20 := xw.size
  replace b2 := b2.ext y0
  replace b3 := b3.ext y0
  replace b5 := b5.ext y0
  replace b6 := b6.ext y0
  replace b8 := b8.ext y0
  replace xw := Ext.trans xw y0
  have b10 : Box2 v18 k10 (.bool false) (.slice none 0 0) 37 := k10c
  clear k10c
  have hT : Ext V8 v18 := hS'
  have b10_c0 := b10.c0
  have b10_c1 := b10.c1
  have b10_f0 := b10.f0
  have b10_f1 := b10.f1
  refine wpOp_of rfl fun K' hK => ?_
  go_simp
  clear b10_c0 b10_c1 b10_f0 b10_f1
  replace hT := Ext.set hT (k := k10) (o := 0) (u := .bool n17) k10a
  replace hT := Ext.set hT (k := k10) (o := 1) (u := .slice a17 l17 c17) k10a
  refine hK _ _ ⟨hT, ?_⟩
  clear hK K'
  have b2N := ((b2).other (b := k10) (by omega) 0 (.bool n17)).other (b := k10) (by omega) 1 (.slice a17 l17 c17)
  have b3N := ((b3).other (b := k10) (by omega) 0 (.bool n17)).other (b := k10) (by omega) 1 (.slice a17 l17 c17)
  have b5N := ((b5).other (b := k10) (by omega) 0 (.bool n17)).other (b := k10) (by omega) 1 (.slice a17 l17 c17)
  have b6N := ((b6).other (b := k10) (by omega) 0 (.bool n17)).other (b := k10) (by omega) 1 (.slice a17 l17 c17)
  have b8N := ((b8).other (b := k10) (by omega) 0 (.bool n17)).other (b := k10) (by omega) 1 (.slice a17 l17 c17)
  have b10N := (b10).set (.bool n17) (.slice a17 l17 c17)
  have z13N := (z13).set2 (b10).kind (by decide) (.bool n17) (.slice a17 l17 c17)
  have z15N := (z15).set2 (b10).kind (by decide) (.bool n17) (.slice a17 l17 c17)
  have z17N := (z17).set2 (b10).kind (by decide) (.bool n17) (.slice a17 l17 c17)
  replace xw := Ext.set (Ext.set (xw) (k := k10) (o := 0) (u := .bool n17) (by omega)) (k := k10) (o := 1) (u := .slice a17 l17 c17) (by omega)
  replace b2 := b2N; clear b2N
  replace b3 := b3N; clear b3N
  replace b5 := b5N; clear b5N
  replace b6 := b6N; clear b6N
  replace b8 := b8N; clear b8N
  replace b10 := b10N; clear b10N
  replace z13 := z13N; clear z13N
  replace z15 := z15N; clear z15N
  replace z17 := z17N; clear z17N
  refine NoPanic.normal ?_
  clear hT hS' y0 hHeld
  go_upto_region 6 with fail
  refine wp_name ?_
  intro V21 hV
  rw [← hV] at b2 b3 b5 b6 b8 b10 z13 z15 z17 xw
  clear hV
  clear z13 z15
  refine wp_region_noPanic ?_
  refine wp_region_held_drew (S := fun w' => Ext V21 w') (by kernel_rfl) (Ext.refl V21).drew (fun hHeld => ?_)
  have b2_d0 := fun w' (h : Ext V21 w') => (b2.ext h).c0
  have b2_d1 := fun w' (h : Ext V21 w') => (b2.ext h).c1
  have b6_d0 := fun w' (h : Ext V21 w') => (b6.ext h).c0
  have b6_d1 := fun w' (h : Ext V21 w') => (b6.ext h).c1
  refine wpAnyH_take (i := 0) (v := .agg #[.int .i64 (hi a), .int .u64 (lo a)]) rfl (by kernel_rfl) (by kernel_rfl) (by kernel_rfl) (fun _ _ _ h => h) (Or.inl ⟨by kernel_rfl, fun w' h => (by go_simp)⟩) hHeld ?_
  refine wpAnyH_take (i := 2) (v := .agg #[.int .i64 (hi (frQ a b)), .int .u64 (lo (frQ a b))]) rfl (by kernel_rfl) (by kernel_rfl) (by kernel_rfl) (fun _ _ _ h => h) (Or.inl ⟨by kernel_rfl, fun w' h => (by go_simp)⟩) hHeld ?_
  refine region1 (N := 7) (f0 := [0, 2]) (l := [(1, false), (3, false), (4, false)]) (T := [6]) (iA := 5) (dA := 11) (oA := .cells #[.bool false, .slice none 0 0] 37) (fun _ _ _ _ _ h => h) (by kernel_rfl) (by kernel_rfl) rfl (by kernel_rfl) (by kernel_rfl)
    (fun K a w h => wpOp_of rfl fun K' hK => (by go_simp; exact hK _ _ h)) (by simp [Act.put]) (fun _ _ h x => h.trans x) hHeld ?_
  have y0 : Ext V21 V21.drew := (Ext.refl V21).drew
  intro a1 v22 h1 yv22
  obtain ⟨s122, rfl⟩ := away1 h1; refine wpOp_of rfl fun K' hK => ?_; go_simp
  replace y0 := Ext.trans y0 yv22
  refine (HOfw.out a _ ha).mono ?_
  rintro e w23 ⟨n23, a23, l23, c23, rfl, z23, x23⟩
  replace x23 : Ext _ w23 := x23
  have B23 : Bits 128 (a) := ha.bits
  refine hK _ _ ⟨⟨x23, rfl, slots1 rfl⟩, ?_⟩; clear hK K'
  replace y0 := Ext.trans y0 x23
  intro a1 v24 h1 yv24
  obtain ⟨s124, rfl⟩ := away1 h1; refine wpOp_of rfl fun K' hK => ?_; go_simp
  replace y0 := Ext.trans y0 yv24
  replace z23 := z23.ext yv24
  refine (HOfw.out (frQ a b) _ hQ).mono ?_
  rintro e w25 ⟨n25, a25, l25, c25, rfl, z25, x25⟩
  replace x25 : Ext _ w25 := x25
  have B25 : Bits 128 ((frQ a b)) := hQ.bits
  refine hK _ _ ⟨⟨x25, rfl, slots1 rfl⟩, ?_⟩; clear hK K'
  replace y0 := Ext.trans y0 x25
  replace z23 := z23.ext x25
  intro a1 v26 h1 yv26
  obtain ⟨s126, rfl⟩ := away1 h1; refine wpOp_of rfl fun K' hK => ?_; go_simp
  replace y0 := Ext.trans y0 yv26
  replace z23 := z23.ext yv26
  replace z25 := z25.ext yv26
  refine (HMul.out _ _ _ _ _ _ _ _ a (frQ a b) _ z23 z25 (B23.fit (by omega)) (B25.fit (by omega))).mono ?_
  rintro e w27 ⟨n27, a27, l27, c27, rfl, z27, x27⟩
  replace x27 : Ext _ w27 := x27
  have B27 : Bits 256 (a * (frQ a b)) := B23.mul B25
  refine hK _ _ ⟨⟨x27, rfl, slots1 rfl⟩, ?_⟩; clear hK K'
  replace y0 := Ext.trans y0 x27
  replace z23 := z23.ext x27
  replace z25 := z25.ext x27
  intro a' v28 h yv28
  obtain ⟨s128, rfl⟩ := away1 h
  rintro k11 ⟨k11a, k11b, k11c⟩ hS'
  replace y0 := Ext.trans y0 yv28
  replace z23 := z23.ext yv28
  replace z25 := z25.ext yv28
  replace z27 := z27.ext yv28
  simp [Act.put] at k11b; subst k11b; replace k11a : V21.heap.size ≤ k11 := k11a
  clear b2_d0 b2_d1 b6_d0 b6_d1
  have o29 := b10.kind.lt
  have o30 := xw.size
  replace b2 := b2.ext y0
  replace b3 := b3.ext y0
  replace b5 := b5.ext y0
  replace b6 := b6.ext y0
  replace b8 := b8.ext y0
  replace b10 := b10.ext y0
  replace z17 := z17.ext y0
  replace xw := Ext.trans xw y0
  have b11 : Box2 v28 k11 (.bool false) (.slice none 0 0) 37 := k11c
  clear k11c
  have hT : Ext V21 v28 := hS'
  have b11_c0 := b11.c0
  have b11_c1 := b11.c1
  have b11_f0 := b11.f0
  have b11_f1 := b11.f1
  refine wpOp_of rfl fun K' hK => ?_
  go_simp
  clear b11_c0 b11_c1 b11_f0 b11_f1
  replace hT := Ext.set hT (k := k11) (o := 0) (u := .bool n27) k11a
  replace hT := Ext.set hT (k := k11) (o := 1) (u := .slice a27 l27 c27) k11a
  refine hK _ _ ⟨hT, ?_⟩
  clear hK K'
  have b2N := ((b2).other (b := k11) (by omega) 0 (.bool n27)).other (b := k11) (by omega) 1 (.slice a27 l27 c27)
  have b3N := ((b3).other (b := k11) (by omega) 0 (.bool n27)).other (b := k11) (by omega) 1 (.slice a27 l27 c27)
  have b5N := ((b5).other (b := k11) (by omega) 0 (.bool n27)).other (b := k11) (by omega) 1 (.slice a27 l27 c27)
  have b6N := ((b6).other (b := k11) (by omega) 0 (.bool n27)).other (b := k11) (by omega) 1 (.slice a27 l27 c27)
  have b8N := ((b8).other (b := k11) (by omega) 0 (.bool n27)).other (b := k11) (by omega) 1 (.slice a27 l27 c27)
  have b10N := ((b10).other (b := k11) (by omega) 0 (.bool n27)).other (b := k11) (by omega) 1 (.slice a27 l27 c27)
  have b11N := (b11).set (.bool n27) (.slice a27 l27 c27)
  have z17N := (z17).set2 (b11).kind (by decide) (.bool n27) (.slice a27 l27 c27)
  have z23N := (z23).set2 (b11).kind (by decide) (.bool n27) (.slice a27 l27 c27)
  have z25N := (z25).set2 (b11).kind (by decide) (.bool n27) (.slice a27 l27 c27)
  have z27N := (z27).set2 (b11).kind (by decide) (.bool n27) (.slice a27 l27 c27)
  replace xw := Ext.set (Ext.set (xw) (k := k11) (o := 0) (u := .bool n27) (by omega)) (k := k11) (o := 1) (u := .slice a27 l27 c27) (by omega)
  replace b2 := b2N; clear b2N
  replace b3 := b3N; clear b3N
  replace b5 := b5N; clear b5N
  replace b6 := b6N; clear b6N
  replace b8 := b8N; clear b8N
  replace b10 := b10N; clear b10N
  replace b11 := b11N; clear b11N
  replace z17 := z17N; clear z17N
  replace z23 := z23N; clear z23N
  replace z25 := z25N; clear z25N
  replace z27 := z27N; clear z27N
  refine NoPanic.normal ?_
  clear hT hS' y0 hHeld
  go_upto_region 7 with fail
  refine wp_name ?_
  intro V31 hV
  rw [← hV] at b2 b3 b5 b6 b8 b10 b11 z17 z23 z25 z27 xw
  clear hV
  clear z23 z25
  refine wp_region_noPanic ?_
  have b8D := b8.drew
  have b6D := b6.drew
  have b10D := b10.drew
  have b11D := b11.drew
  refine wp_region_held_drew (S := fun w' => w'.cell? ⟨w7.heap.size, 0, none⟩ = some (.int .i64 0) ∧ w'.cell? ⟨w7.heap.size, 1, none⟩ = some (.int .u64 1) ∧ w'.cell? ⟨w2.heap.size + 1, 0, none⟩ = some (.int .i64 (hi (frQ a b))) ∧ w'.cell? ⟨w2.heap.size + 1, 1, none⟩ = some (.int .u64 (lo (frQ a b))) ∧ w'.cell? ⟨k10, 0, none⟩ = some (.bool n17) ∧ w'.cell? ⟨k10, 1, none⟩ = some (.slice a17 l17 c17) ∧ w'.cell? ⟨k11, 0, none⟩ = some (.bool n27) ∧ w'.cell? ⟨k11, 1, none⟩ = some (.slice a27 l27 c27)) (by kernel_rfl) ⟨b8.c0, b8.c1, b6.c0, b6.c1, b10.c0, b10.c1, b11.c0, b11.c1⟩ (fun hHeld => ?_)
  clear b8D b6D b10D b11D
  have y0 : Ext V31 V31.drew := (Ext.refl V31).drew
  replace b2 := b2.ext y0
  replace b3 := b3.ext y0
  replace b5 := b5.ext y0
  replace b6 := b6.ext y0
  replace b8 := b8.ext y0
  replace b10 := b10.ext y0
  replace b11 := b11.ext y0
  replace z17 := z17.ext y0
  replace z27 := z27.ext y0
  replace xw := Ext.trans xw y0
  clear y0
  refine wpAnyH_all (rs := [0]) (by kernel_rfl) (by simp) ?_; intro j hj; obtain rfl := List.mem_singleton.1 hj; clear hj; refine wpOp_of rfl fun K' hK => ?_; go_simp
  refine (HAl.out _).mono ?_
  rintro e w32 ⟨rfl, x32⟩
  replace b2 := b2.ext x32
  replace b3 := b3.ext x32
  replace b5 := b5.ext x32
  replace b6 := b6.ext x32
  replace b8 := b8.ext x32
  replace b10 := b10.ext x32
  replace b11 := b11.ext x32
  replace z17 := z17.ext x32
  replace z27 := z27.ext x32
  replace xw := Ext.trans xw x32
  refine hK _ _ ⟨⟨b8.c0, b8.c1, b6.c0, b6.c1, b10.c0, b10.c1, b11.c0, b11.c1⟩, ?_⟩; clear hK K' hHeld
  have hHeld := (show w32.cell? ⟨w7.heap.size, 0, none⟩ = some (.int .i64 0) ∧ w32.cell? ⟨w7.heap.size, 1, none⟩ = some (.int .u64 1) ∧ w32.cell? ⟨w2.heap.size + 1, 0, none⟩ = some (.int .i64 (hi (frQ a b))) ∧ w32.cell? ⟨w2.heap.size + 1, 1, none⟩ = some (.int .u64 (lo (frQ a b))) ∧ w32.cell? ⟨k10, 0, none⟩ = some (.bool n17) ∧ w32.cell? ⟨k10, 1, none⟩ = some (.slice a17 l17 c17) ∧ w32.cell? ⟨k11, 0, none⟩ = some (.bool n27) ∧ w32.cell? ⟨k11, 1, none⟩ = some (.slice a27 l27 c27) from ⟨b8.c0, b8.c1, b6.c0, b6.c1, b10.c0, b10.c1, b11.c0, b11.c1⟩)
  refine wpAnyH_take (i := 1) (v := .bool true) rfl (by kernel_rfl) (by kernel_rfl) (by kernel_rfl) (fun _ _ _ h => h) (Or.inl ⟨by kernel_rfl, fun w' h => (by obtain ⟨h0, h1, h2, h3, h4, h5, h6, h7⟩ := h; go_simp)⟩) hHeld ?_
  refine wpAnyH_take (i := 2) (v := .int .i64 0) rfl (by kernel_rfl) (by kernel_rfl) (by kernel_rfl) (fun _ _ _ h => h) (Or.inl ⟨by kernel_rfl, fun w' h => (by obtain ⟨h0, h1, h2, h3, h4, h5, h6, h7⟩ := h; go_simp)⟩) hHeld ?_
  refine wpAnyH_take (i := 3) (v := .bool true) rfl (by kernel_rfl) (by kernel_rfl) (by kernel_rfl) (fun _ _ _ h => h) (Or.inl ⟨by kernel_rfl, fun w' h => (by obtain ⟨h0, h1, h2, h3, h4, h5, h6, h7⟩ := h; go_simp)⟩) hHeld ?_
  refine wpAnyH_take (i := 4) (v := .bool true) rfl (by kernel_rfl) (by kernel_rfl) (by kernel_rfl) (fun _ _ _ h => h) (Or.inl ⟨by kernel_rfl, fun w' h => (by obtain ⟨h0, h1, h2, h3, h4, h5, h6, h7⟩ := h; go_simp)⟩) hHeld ?_
  refine wpAnyH_take (i := 5) (v := .bool true) rfl (by kernel_rfl) (by kernel_rfl) (by kernel_rfl) (fun _ _ _ h => h) (Or.inl ⟨by kernel_rfl, fun w' h => (by obtain ⟨h0, h1, h2, h3, h4, h5, h6, h7⟩ := h; go_simp)⟩) hHeld ?_
  refine wpAnyH_take (i := 6) (v := .agg #[.int .i64 0, .int .u64 1]) rfl (by kernel_rfl) (by kernel_rfl) (by kernel_rfl) (fun _ _ _ h => h) (Or.inl ⟨by kernel_rfl, fun w' h => (by obtain ⟨h0, h1, h2, h3, h4, h5, h6, h7⟩ := h; go_simp)⟩) hHeld ?_
  refine wpAnyH_all (rs := [7]) (by kernel_rfl) (by simp) ?_; intro j hj; obtain rfl := List.mem_singleton.1 hj; clear hj; refine wpOp_of rfl fun K' hK => ?_; go_simp
  refine (HO.out 1 _ (by unfold I64; omega)).mono ?_
  rintro e w33 ⟨rfl, x33⟩
  rw [show hi 1 = 0 from rfl, show lo 1 = 1 from rfl]
  replace b2 := b2.ext x33
  replace b3 := b3.ext x33
  replace b5 := b5.ext x33
  replace b6 := b6.ext x33
  replace b8 := b8.ext x33
  replace b10 := b10.ext x33
  replace b11 := b11.ext x33
  replace z17 := z17.ext x33
  replace z27 := z27.ext x33
  replace xw := Ext.trans xw x33
  refine hK _ _ ⟨⟨b8.c0, b8.c1, b6.c0, b6.c1, b10.c0, b10.c1, b11.c0, b11.c1⟩, ?_⟩; clear hK K' hHeld
  have hHeld := (show w33.cell? ⟨w7.heap.size, 0, none⟩ = some (.int .i64 0) ∧ w33.cell? ⟨w7.heap.size, 1, none⟩ = some (.int .u64 1) ∧ w33.cell? ⟨w2.heap.size + 1, 0, none⟩ = some (.int .i64 (hi (frQ a b))) ∧ w33.cell? ⟨w2.heap.size + 1, 1, none⟩ = some (.int .u64 (lo (frQ a b))) ∧ w33.cell? ⟨k10, 0, none⟩ = some (.bool n17) ∧ w33.cell? ⟨k10, 1, none⟩ = some (.slice a17 l17 c17) ∧ w33.cell? ⟨k11, 0, none⟩ = some (.bool n27) ∧ w33.cell? ⟨k11, 1, none⟩ = some (.slice a27 l27 c27) from ⟨b8.c0, b8.c1, b6.c0, b6.c1, b10.c0, b10.c1, b11.c0, b11.c1⟩)
  refine wpAnyH_take (i := 8) (v := .bool true) rfl (by kernel_rfl) (by kernel_rfl) (by kernel_rfl) (fun _ _ _ h => h) (Or.inl ⟨by kernel_rfl, fun w' h => (by obtain ⟨h0, h1, h2, h3, h4, h5, h6, h7⟩ := h; go_simp)⟩) hHeld ?_
  refine wpAnyH_take (i := 9) (v := .bool true) rfl (by kernel_rfl) (by kernel_rfl) (by kernel_rfl) (fun _ _ _ h => h) (Or.inl ⟨by kernel_rfl, fun w' h => (by obtain ⟨h0, h1, h2, h3, h4, h5, h6, h7⟩ := h; go_simp)⟩) hHeld ?_
  refine wpAnyH_take (i := 10) (v := .bool true) rfl (by kernel_rfl) (by kernel_rfl) (by kernel_rfl) (fun _ _ _ h => h) (Or.inl ⟨by kernel_rfl, fun w' h => (by obtain ⟨h0, h1, h2, h3, h4, h5, h6, h7⟩ := h; go_simp)⟩) hHeld ?_
  refine wpAnyH_take (i := 11) (v := .agg #[.int .i64 (hi (frQ a b)), .int .u64 (lo (frQ a b))]) rfl (by kernel_rfl) (by kernel_rfl) (by kernel_rfl) (fun _ _ _ h => h) (Or.inl ⟨by kernel_rfl, fun w' h => (by obtain ⟨h0, h1, h2, h3, h4, h5, h6, h7⟩ := h; go_simp)⟩) hHeld ?_
  refine wpAnyH_all (rs := [12]) (by kernel_rfl) (by simp) ?_; intro j hj; obtain rfl := List.mem_singleton.1 hj; clear hj; refine wpOp_of rfl fun K' hK => ?_; go_simp
  refine (HSg.out (frQ a b) _).mono ?_
  rw [HS1.out]
  rintro e w34 ⟨rfl, x34⟩
  replace b2 := b2.ext x34
  replace b3 := b3.ext x34
  replace b5 := b5.ext x34
  replace b6 := b6.ext x34
  replace b8 := b8.ext x34
  replace b10 := b10.ext x34
  replace b11 := b11.ext x34
  replace z17 := z17.ext x34
  replace z27 := z27.ext x34
  replace xw := Ext.trans xw x34
  refine hK _ _ ⟨⟨b8.c0, b8.c1, b6.c0, b6.c1, b10.c0, b10.c1, b11.c0, b11.c1⟩, ?_⟩; clear hK K' hHeld
  have hHeld := (show w34.cell? ⟨w7.heap.size, 0, none⟩ = some (.int .i64 0) ∧ w34.cell? ⟨w7.heap.size, 1, none⟩ = some (.int .u64 1) ∧ w34.cell? ⟨w2.heap.size + 1, 0, none⟩ = some (.int .i64 (hi (frQ a b))) ∧ w34.cell? ⟨w2.heap.size + 1, 1, none⟩ = some (.int .u64 (lo (frQ a b))) ∧ w34.cell? ⟨k10, 0, none⟩ = some (.bool n17) ∧ w34.cell? ⟨k10, 1, none⟩ = some (.slice a17 l17 c17) ∧ w34.cell? ⟨k11, 0, none⟩ = some (.bool n27) ∧ w34.cell? ⟨k11, 1, none⟩ = some (.slice a27 l27 c27) from ⟨b8.c0, b8.c1, b6.c0, b6.c1, b10.c0, b10.c1, b11.c0, b11.c1⟩)
  refine wpAnyH_take (i := 13) (v := .bool true) rfl (by kernel_rfl) (by kernel_rfl) (by kernel_rfl) (fun _ _ _ h => h) (Or.inl ⟨by kernel_rfl, fun w' h => (by obtain ⟨h0, h1, h2, h3, h4, h5, h6, h7⟩ := h; go_simp)⟩) hHeld ?_
  refine wpAnyH_take (i := 14) (v := .bool true) rfl (by kernel_rfl) (by kernel_rfl) (by kernel_rfl) (fun _ _ _ h => h) (Or.inl ⟨by kernel_rfl, fun w' h => (by obtain ⟨h0, h1, h2, h3, h4, h5, h6, h7⟩ := h; go_simp)⟩) hHeld ?_
  refine wpAnyH_take (i := 15) (v := .bool true) rfl (by kernel_rfl) (by kernel_rfl) (by kernel_rfl) (fun _ _ _ h => h) (Or.inl ⟨by kernel_rfl, fun w' h => (by obtain ⟨h0, h1, h2, h3, h4, h5, h6, h7⟩ := h; go_simp)⟩) hHeld ?_
  refine wpAnyH_take (i := 16) (v := .agg #[.bool n17, .slice a17 l17 c17]) rfl (by kernel_rfl) (by kernel_rfl) (by kernel_rfl) (fun _ _ _ h => h) (Or.inl ⟨by kernel_rfl, fun w' h => (by obtain ⟨h0, h1, h2, h3, h4, h5, h6, h7⟩ := h; go_simp)⟩) hHeld ?_
  refine wpAnyH_take (i := 17) (v := .agg #[.bool n27, .slice a27 l27 c27]) rfl (by kernel_rfl) (by kernel_rfl) (by kernel_rfl) (fun _ _ _ h => h) (Or.inl ⟨by kernel_rfl, fun w' h => (by obtain ⟨h0, h1, h2, h3, h4, h5, h6, h7⟩ := h; go_simp)⟩) hHeld ?_
  refine wpAnyH_all (rs := [18]) (by kernel_rfl) (by simp) ?_; intro j hj; obtain rfl := List.mem_singleton.1 hj; clear hj; refine wpOp_of rfl fun K' hK => ?_; go_simp
  refine (HCmp.out _ _ _ _ _ _ _ _ ((frP a b) * b) (a * (frQ a b)) _ z17 z27 (B17.fit (by omega)) (B27.fit (by omega))).mono ?_
  rw [HCr.out]
  rintro e w35 ⟨rfl, x35⟩
  replace x35 : Ext _ w35 := x35
  replace b2 := b2.ext x35
  replace b3 := b3.ext x35
  replace b5 := b5.ext x35
  replace b6 := b6.ext x35
  replace b8 := b8.ext x35
  replace b10 := b10.ext x35
  replace b11 := b11.ext x35
  replace z17 := z17.ext x35
  replace z27 := z27.ext x35
  replace xw := Ext.trans xw x35
  refine hK _ _ ⟨⟨b8.c0, b8.c1, b6.c0, b6.c1, b10.c0, b10.c1, b11.c0, b11.c1⟩, ?_⟩; clear hK K' hHeld
  have hHeld := (show w35.cell? ⟨w7.heap.size, 0, none⟩ = some (.int .i64 0) ∧ w35.cell? ⟨w7.heap.size, 1, none⟩ = some (.int .u64 1) ∧ w35.cell? ⟨w2.heap.size + 1, 0, none⟩ = some (.int .i64 (hi (frQ a b))) ∧ w35.cell? ⟨w2.heap.size + 1, 1, none⟩ = some (.int .u64 (lo (frQ a b))) ∧ w35.cell? ⟨k10, 0, none⟩ = some (.bool n17) ∧ w35.cell? ⟨k10, 1, none⟩ = some (.slice a17 l17 c17) ∧ w35.cell? ⟨k11, 0, none⟩ = some (.bool n27) ∧ w35.cell? ⟨k11, 1, none⟩ = some (.slice a27 l27 c27) from ⟨b8.c0, b8.c1, b6.c0, b6.c1, b10.c0, b10.c1, b11.c0, b11.c1⟩)
  refine wpAnyH_take (i := 19) (v := .bool true) rfl (by kernel_rfl) (by kernel_rfl) (by kernel_rfl) (fun _ _ _ h => h) (Or.inl ⟨by kernel_rfl, fun w' h => (by obtain ⟨h0, h1, h2, h3, h4, h5, h6, h7⟩ := h; go_simp)⟩) hHeld ?_
  refine wpAnyH_take (i := 20) (v := .bool true) rfl (by kernel_rfl) (by kernel_rfl) (by kernel_rfl) (fun _ _ _ h => h) (Or.inl ⟨by kernel_rfl, fun w' h => (by obtain ⟨h0, h1, h2, h3, h4, h5, h6, h7⟩ := h; go_simp)⟩) hHeld ?_
  refine wpAnyH_take (i := 21) (v := .bool true) rfl (by kernel_rfl) (by kernel_rfl) (by kernel_rfl) (fun _ _ _ h => h) (Or.inl ⟨by kernel_rfl, fun w' h => (by obtain ⟨h0, h1, h2, h3, h4, h5, h6, h7⟩ := h; go_simp)⟩) hHeld ?_
  refine ⟨by kernel_rfl, ?_⟩
  refine NoPanic.normal ?_
  clear hHeld
  have xr := xw
  go_wp2_with fail
  refine bodyPost_ret (v := .bool true) (by simp [results, Try.results16, go_sem]) rfl ⟨rfl, xr⟩
theorem law_lowest (a b : Int) (w : World) (ha : W128 a) (hb : W128 b) :
    Calls Try.prog 16 #[.agg #[.int .i64 (hi a), .int .u64 (lo a)], .agg #[.int .i64 (hi b), .int .u64 (lo b)]] w (fun e w' => e = .returned (.bool true) ∧ Ext w w') := by
  by_cases h0 : b = 0
  · subst h0; exact law_low0 a w ha
  by_cases hk : fOk a b
  · exact law_lowyes a b w ha hb hk
  · exact law_lowno a b w ha hb h0 hk
end Go.Proofs.Ytmkddcmfofabbaa
