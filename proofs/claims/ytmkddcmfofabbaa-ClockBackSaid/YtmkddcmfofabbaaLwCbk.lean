/-
  The law ClockBack, walked.
-/
import Derived.Test.YtmkddcmfofabbaaLwAdd
set_option linter.unusedSimpArgs false
set_option linter.unusedVariables false
namespace Go.Proofs.Ytmkddcmfofabbaa
open Go Go.RowKit

theorem back_one {a : Int} (a0 : 0 ≤ a) (a1 : a < 86400000000000) : addQ a 86400000000000 = 1 ∧ addR a 86400000000000 = a := by
  unfold addQ addR
  rw [Int.fmod_eq_emod_of_nonneg _ (by omega), Int.fdiv_eq_ediv_of_nonneg _ (by omega)]; omega
theorem back_neg {a x : Int} (a0 : 0 ≤ a) (a1 : a < 86400000000000) : addQ (addR a x) (-x) = -(addQ a x) ∧ addR (addR a x) (-x) = a := by
  unfold addQ addR
  rw [Int.fmod_eq_emod_of_nonneg _ (by omega), Int.fmod_eq_emod_of_nonneg _ (by omega), Int.fdiv_eq_ediv_of_nonneg _ (by omega), Int.fdiv_eq_ediv_of_nonneg _ (by omega)]; omega
theorem back_small {a x : Int} (a0 : 0 ≤ a) (a1 : a < 86400000000000) (hx : I64 x) : -1000000000 ≤ addQ a x ∧ addQ a x ≤ 1000000000 := by
  unfold addQ I64 at *
  rw [Int.fdiv_eq_ediv_of_nonneg _ (by omega)]; omega
set_option maxRecDepth 100000 in
set_option maxHeartbeats 3200000 in
theorem back_no (h m s n x : Int) (w : World) (hx : I64 x) (k : ¬ tOk h m s n) :
    Calls Try.prog 19 #[.agg #[.int .i64 h, .int .i64 m, .int .i64 s, .int .i64 n], .int .i64 x] w (fun e w' => e = .returned (.bool true) ∧ Ext w w') := by
  have HAl := Lib.hid alive6
  have HO := Lib.hid liv_of
  have HA := Lib.hid cadd_no
  have HCR := Lib.hid cright
  have HK := Lib.hid (tOkB_no k)
  have Hk := Lib.hid k
  clear k
  go_enter Try.func19, Try.ntmps19
  go_upto_region 1 with fail
  have xw := Ext.refl w
  refine wp_name ?_
  intro V1 hV
  replace xw : Ext w V1 := by rw [hV]; exact Ext.alloc (xw)
  have b2 : Bx V1 w.heap.size #[.int .i64 h, .int .i64 m, .int .i64 s, .int .i64 n] 74 := by rw [hV]; exact Bx.new rfl
  clear hV
  refine wp_region_noPanic ?_
  refine wp_region_held_drew (S := fun w' => Ext V1 w') (by kernel_rfl) (Ext.refl V1).drew (fun hHeld => ?_)
  have b2_d0 := fun w' (hh : Ext V1 w') => (b2.ext hh).c 0 (v := .int .i64 h) rfl
  have b2_d1 := fun w' (hh : Ext V1 w') => (b2.ext hh).c 1 (v := .int .i64 m) rfl
  have b2_d2 := fun w' (hh : Ext V1 w') => (b2.ext hh).c 2 (v := .int .i64 s) rfl
  have b2_d3 := fun w' (hh : Ext V1 w') => (b2.ext hh).c 3 (v := .int .i64 n) rfl
  refine wpAnyH_take (i := 0) (v := .agg #[.int .i64 h, .int .i64 m, .int .i64 s, .int .i64 n]) rfl (by kernel_rfl) (by kernel_rfl) (by kernel_rfl) (fun _ _ _ h => h) (Or.inl ⟨by kernel_rfl, fun w' h => (by go_simp)⟩) hHeld ?_
  refine region1 (N := 11) (f0 := [0]) (l := [(1, false), (2, false), (3, true), (4, true), (5, true), (6, true)]) (T := [8, 9, 10]) (iA := 7) (dA := 5) (oA := .cells #[.int .i64 0, .int .i64 0, .int .i64 0, .int .i64 0] 74) (fun _ _ _ _ _ h => h) (by kernel_rfl) (by kernel_rfl) rfl (by kernel_rfl) (by kernel_rfl)
    (fun K a w h => wpOp_of rfl fun K' hK => (by go_simp; exact hK _ _ h)) (by simp [Act.put]) (fun _ _ h x => h.trans x) hHeld ?_
  have y0 : Ext V1 V1.drew := (Ext.refl V1).drew
  intro a1 v2 haw yv2
  obtain ⟨s12, rfl⟩ := away1 haw; refine wpOp_of rfl fun K' hK => ?_; go_simp
  replace y0 := Ext.trans y0 yv2
  refine (HO.out 86400000000000 _ (by unfold I64; omega)).mono ?_
  rintro e w3 ⟨rfl, x3⟩
  refine hK _ _ ⟨⟨x3, rfl, slots1 rfl⟩, ?_⟩; clear hK K'
  replace y0 := Ext.trans y0 x3
  intro a1 v4 haw yv4
  obtain ⟨s14, rfl⟩ := away1 haw; refine wpOp_of rfl fun K' hK => ?_; go_simp
  replace y0 := Ext.trans y0 yv4
  refine (HA.out h m s n 86400000000000 _ Hk.out).mono ?_
  rintro e w5 ⟨rfl, x5⟩
  refine hK _ _ ⟨⟨x5, rfl, slots1 rfl⟩, ?_⟩; clear hK K'
  replace y0 := Ext.trans y0 x5
  refine ⟨_, .tuple #[.agg #[.int .i64 0, .int .i64 0, .int .i64 0, .int .i64 0], .int .i64 0, .int .i64 1], rfl, Or.inl ⟨by rfl, fun w' h => (by go_simp)⟩, by simp, ?_⟩
  refine ⟨_, .agg #[.int .i64 0, .int .i64 0, .int .i64 0, .int .i64 0], rfl, Or.inl ⟨by rfl, fun w' h => (by go_simp)⟩, by simp, ?_⟩
  refine ⟨_, .int .i64 0, rfl, Or.inl ⟨by rfl, fun w' h => (by go_simp)⟩, by simp, ?_⟩
  refine ⟨_, .int .i64 1, rfl, Or.inl ⟨by rfl, fun w' h => (by go_simp)⟩, by simp, ?_⟩
  intro a' v6 haw yv6
  obtain ⟨s16, rfl⟩ := away1 haw
  rintro k5 ⟨k5a, k5b, k5c⟩ hS'
  replace y0 := Ext.trans y0 yv6
  simp [Act.put] at k5b; subst k5b; replace k5a : V1.heap.size ≤ k5 := k5a
  clear b2_d0 b2_d1 b2_d2 b2_d3
  have o7 := b2.kind.lt
  have o8 := xw.size
  replace b2 := b2.ext y0
  replace xw := Ext.trans xw y0
  have b5 : Bx v6 k5 #[.int .i64 0, .int .i64 0, .int .i64 0, .int .i64 0] 74 := k5c
  clear k5c
  have hT : Ext V1 v6 := hS'
  have b5_c0 := b5.c 0 (v := .int .i64 0) rfl
  have b5_c1 := b5.c 1 (v := .int .i64 0) rfl
  have b5_c2 := b5.c 2 (v := .int .i64 0) rfl
  have b5_c3 := b5.c 3 (v := .int .i64 0) rfl
  have b5_f0 := b5.f 0
  have b5_f1 := b5.f 1
  have b5_f2 := b5.f 2
  have b5_f3 := b5.f 3
  refine wpOp_of rfl fun K' hK => ?_
  go_simp
  clear b5_c0 b5_c1 b5_c2 b5_c3 b5_f0 b5_f1 b5_f2 b5_f3
  replace hT := Ext.set hT (k := k5) (o := 0) (u := .int .i64 0) k5a
  replace hT := Ext.set hT (k := k5) (o := 1) (u := .int .i64 0) k5a
  replace hT := Ext.set hT (k := k5) (o := 2) (u := .int .i64 0) k5a
  replace hT := Ext.set hT (k := k5) (o := 3) (u := .int .i64 0) k5a
  refine hK _ _ ⟨hT, ?_⟩
  clear hK K'
  have b2N := ((((b2).other (b := k5) (by omega) 0 (.int .i64 0)).other (b := k5) (by omega) 1 (.int .i64 0)).other (b := k5) (by omega) 2 (.int .i64 0)).other (b := k5) (by omega) 3 (.int .i64 0)
  have b5N := ((((b5).setc 0 (.int .i64 0) (cs' := #[.int .i64 0, .int .i64 0, .int .i64 0, .int .i64 0]) rfl).setc 1 (.int .i64 0) (cs' := #[.int .i64 0, .int .i64 0, .int .i64 0, .int .i64 0]) rfl).setc 2 (.int .i64 0) (cs' := #[.int .i64 0, .int .i64 0, .int .i64 0, .int .i64 0]) rfl).setc 3 (.int .i64 0) (cs' := #[.int .i64 0, .int .i64 0, .int .i64 0, .int .i64 0]) rfl
  replace xw := Ext.set (Ext.set (Ext.set (Ext.set (xw) (k := k5) (o := 0) (u := .int .i64 0) (by omega)) (k := k5) (o := 1) (u := .int .i64 0) (by omega)) (k := k5) (o := 2) (u := .int .i64 0) (by omega)) (k := k5) (o := 3) (u := .int .i64 0) (by omega)
  replace b2 := b2N; clear b2N
  replace b5 := b5N; clear b5N
  refine wpOp_of rfl fun K' hK => ?_
  go_simp
  refine hK _ _ ⟨hT, ?_⟩
  clear hK K'
  refine wpOp_of rfl fun K' hK => ?_
  go_simp
  refine hK _ _ ⟨hT, ?_⟩
  clear hK K'
  refine NoPanic.normal ?_
  clear hT hS' y0 hHeld
  go_upto_region 2 with fail
  refine wp_name ?_
  intro V9 hV
  rw [← hV] at b2 b5 xw
  clear hV
  refine wp_region_noPanic ?_
  refine wp_region_held_drew (S := fun w' => Ext V9 w') (by kernel_rfl) (Ext.refl V9).drew (fun hHeld => ?_)
  have b2_d0 := fun w' (hh : Ext V9 w') => (b2.ext hh).c 0 (v := .int .i64 h) rfl
  have b2_d1 := fun w' (hh : Ext V9 w') => (b2.ext hh).c 1 (v := .int .i64 m) rfl
  have b2_d2 := fun w' (hh : Ext V9 w') => (b2.ext hh).c 2 (v := .int .i64 s) rfl
  have b2_d3 := fun w' (hh : Ext V9 w') => (b2.ext hh).c 3 (v := .int .i64 n) rfl
  refine wpAnyH_take (i := 0) (v := .agg #[.int .i64 h, .int .i64 m, .int .i64 s, .int .i64 n]) rfl (by kernel_rfl) (by kernel_rfl) (by kernel_rfl) (fun _ _ _ h => h) (Or.inl ⟨by kernel_rfl, fun w' h => (by go_simp)⟩) hHeld ?_
  refine region1 (N := 12) (f0 := [0]) (l := [(1, true), (2, false), (3, false), (4, true), (5, true), (6, true), (7, true)]) (T := [9, 10, 11]) (iA := 8) (dA := 8) (oA := .cells #[.int .i64 0, .int .i64 0, .int .i64 0, .int .i64 0] 74) (fun _ _ _ _ _ h => h) (by kernel_rfl) (by kernel_rfl) rfl (by kernel_rfl) (by kernel_rfl)
    (fun K a w h => wpOp_of rfl fun K' hK => (by go_simp; exact hK _ _ h)) (by simp [Act.put]) (fun _ _ h x => h.trans x) hHeld ?_
  have y0 : Ext V9 V9.drew := (Ext.refl V9).drew
  refine ⟨_, .int .i64 x, rfl, Or.inl ⟨by rfl, fun w' h => (by go_simp)⟩, by simp, ?_⟩
  intro a1 v10 haw yv10
  obtain ⟨s110, rfl⟩ := away1 haw; refine wpOp_of rfl fun K' hK => ?_; go_simp
  replace y0 := Ext.trans y0 yv10
  refine (HO.out x _ hx).mono ?_
  rintro e w11 ⟨rfl, x11⟩
  refine hK _ _ ⟨⟨x11, rfl, slots1 rfl⟩, ?_⟩; clear hK K'
  replace y0 := Ext.trans y0 x11
  intro a1 v12 haw yv12
  obtain ⟨s112, rfl⟩ := away1 haw; refine wpOp_of rfl fun K' hK => ?_; go_simp
  replace y0 := Ext.trans y0 yv12
  refine (HA.out h m s n x _ Hk.out).mono ?_
  rintro e w13 ⟨rfl, x13⟩
  refine hK _ _ ⟨⟨x13, rfl, slots1 rfl⟩, ?_⟩; clear hK K'
  replace y0 := Ext.trans y0 x13
  refine ⟨_, .tuple #[.agg #[.int .i64 0, .int .i64 0, .int .i64 0, .int .i64 0], .int .i64 0, .int .i64 1], rfl, Or.inl ⟨by rfl, fun w' h => (by go_simp)⟩, by simp, ?_⟩
  refine ⟨_, .agg #[.int .i64 0, .int .i64 0, .int .i64 0, .int .i64 0], rfl, Or.inl ⟨by rfl, fun w' h => (by go_simp)⟩, by simp, ?_⟩
  refine ⟨_, .int .i64 0, rfl, Or.inl ⟨by rfl, fun w' h => (by go_simp)⟩, by simp, ?_⟩
  refine ⟨_, .int .i64 1, rfl, Or.inl ⟨by rfl, fun w' h => (by go_simp)⟩, by simp, ?_⟩
  intro a' v14 haw yv14
  obtain ⟨s114, rfl⟩ := away1 haw
  rintro k8 ⟨k8a, k8b, k8c⟩ hS'
  replace y0 := Ext.trans y0 yv14
  simp [Act.put] at k8b; subst k8b; replace k8a : V9.heap.size ≤ k8 := k8a
  clear b2_d0 b2_d1 b2_d2 b2_d3
  have o15 := b5.kind.lt
  have o16 := xw.size
  replace b2 := b2.ext y0
  replace b5 := b5.ext y0
  replace xw := Ext.trans xw y0
  have b8 : Bx v14 k8 #[.int .i64 0, .int .i64 0, .int .i64 0, .int .i64 0] 74 := k8c
  clear k8c
  have hT : Ext V9 v14 := hS'
  have b8_c0 := b8.c 0 (v := .int .i64 0) rfl
  have b8_c1 := b8.c 1 (v := .int .i64 0) rfl
  have b8_c2 := b8.c 2 (v := .int .i64 0) rfl
  have b8_c3 := b8.c 3 (v := .int .i64 0) rfl
  have b8_f0 := b8.f 0
  have b8_f1 := b8.f 1
  have b8_f2 := b8.f 2
  have b8_f3 := b8.f 3
  refine wpOp_of rfl fun K' hK => ?_
  go_simp
  clear b8_c0 b8_c1 b8_c2 b8_c3 b8_f0 b8_f1 b8_f2 b8_f3
  replace hT := Ext.set hT (k := k8) (o := 0) (u := .int .i64 0) k8a
  replace hT := Ext.set hT (k := k8) (o := 1) (u := .int .i64 0) k8a
  replace hT := Ext.set hT (k := k8) (o := 2) (u := .int .i64 0) k8a
  replace hT := Ext.set hT (k := k8) (o := 3) (u := .int .i64 0) k8a
  refine hK _ _ ⟨hT, ?_⟩
  clear hK K'
  have b2N := ((((b2).other (b := k8) (by omega) 0 (.int .i64 0)).other (b := k8) (by omega) 1 (.int .i64 0)).other (b := k8) (by omega) 2 (.int .i64 0)).other (b := k8) (by omega) 3 (.int .i64 0)
  have b5N := ((((b5).other (b := k8) (by omega) 0 (.int .i64 0)).other (b := k8) (by omega) 1 (.int .i64 0)).other (b := k8) (by omega) 2 (.int .i64 0)).other (b := k8) (by omega) 3 (.int .i64 0)
  have b8N := ((((b8).setc 0 (.int .i64 0) (cs' := #[.int .i64 0, .int .i64 0, .int .i64 0, .int .i64 0]) rfl).setc 1 (.int .i64 0) (cs' := #[.int .i64 0, .int .i64 0, .int .i64 0, .int .i64 0]) rfl).setc 2 (.int .i64 0) (cs' := #[.int .i64 0, .int .i64 0, .int .i64 0, .int .i64 0]) rfl).setc 3 (.int .i64 0) (cs' := #[.int .i64 0, .int .i64 0, .int .i64 0, .int .i64 0]) rfl
  replace xw := Ext.set (Ext.set (Ext.set (Ext.set (xw) (k := k8) (o := 0) (u := .int .i64 0) (by omega)) (k := k8) (o := 1) (u := .int .i64 0) (by omega)) (k := k8) (o := 2) (u := .int .i64 0) (by omega)) (k := k8) (o := 3) (u := .int .i64 0) (by omega)
  replace b2 := b2N; clear b2N
  replace b5 := b5N; clear b5N
  replace b8 := b8N; clear b8N
  refine wpOp_of rfl fun K' hK => ?_
  go_simp
  refine hK _ _ ⟨hT, ?_⟩
  clear hK K'
  refine wpOp_of rfl fun K' hK => ?_
  go_simp
  refine hK _ _ ⟨hT, ?_⟩
  clear hK K'
  refine NoPanic.normal ?_
  clear hT hS' y0 hHeld
  go_upto_region 3 with fail
  refine wp_name ?_
  intro V17 hV
  rw [← hV] at b2 b5 b8 xw
  clear hV
  have b2_c0 := b2.c 0 (v := .int .i64 h) rfl
  have b2_c1 := b2.c 1 (v := .int .i64 m) rfl
  have b2_c2 := b2.c 2 (v := .int .i64 s) rfl
  have b2_c3 := b2.c 3 (v := .int .i64 n) rfl
  go_wp2_with fail
  refine (HCR.out h m s n _).mono ?_
  rw [HK.out]
  rintro e w18 ⟨rfl, x18⟩
  clear b2_c0 b2_c1 b2_c2 b2_c3
  replace b2 := b2.ext x18
  replace b5 := b5.ext x18
  replace b8 := b8.ext x18
  replace xw := Ext.trans xw x18
  go_upto_region 4 with fail
  go_wp2_with fail
  refine (HAl.out _).mono ?_
  rintro e w19 ⟨rfl, x19⟩
  replace b2 := b2.ext x19
  replace b5 := b5.ext x19
  replace b8 := b8.ext x19
  replace xw := Ext.trans xw x19
  have xr := xw
  go_wp2_with fail
  refine bodyPost_ret (v := .bool true) (by simp [results, Try.results19, go_sem]) rfl ⟨rfl, xr⟩
set_option maxRecDepth 100000 in
set_option maxHeartbeats 3200000 in
theorem back_yes (h m s n x : Int) (w : World) (hx : I64 x) (k : tOk h m s n) :
    Calls Try.prog 19 #[.agg #[.int .i64 h, .int .i64 m, .int .i64 s, .int .i64 n], .int .i64 x] w (fun e w' => e = .returned (.bool true) ∧ Ext w w') := by
  have HAl := Lib.hid alive6
  have HO := Lib.hid liv_of
  have HNg := Lib.hid wneg
  have HCR := Lib.hid cright
  have HK := Lib.hid (tOkB_yes k)
  obtain ⟨a0, a1⟩ := tnan_bd k
  obtain ⟨c1, c2⟩ := back_one a0 a1
  obtain ⟨d1, d2⟩ := back_neg (x := x) a0 a1
  obtain ⟨s0, s1⟩ := back_small a0 a1 hx
  obtain ⟨f0, f1, -, -⟩ := add_split (x := x) a0 a1
  have ht := t_tnan k
  obtain ⟨Q, eQ⟩ : ∃ y, addQ (tnan h m s n) x = y := ⟨_, rfl⟩
  obtain ⟨R, eR⟩ : ∃ y, addR (tnan h m s n) x = y := ⟨_, rfl⟩
  rw [eQ] at d1 s0 s1
  rw [eR] at d1 d2 f0 f1
  have kR := t_ok f0 f1
  have HKR := Lib.hid (tOkB_yes kR)
  have eN : tnan (tH R) (tM R) (tS R) (tN R) = R := tnan_t f0
  obtain ⟨B0, b0⟩ : ∃ y, tH R = y := ⟨_, rfl⟩
  obtain ⟨B1, b1⟩ : ∃ y, tM R = y := ⟨_, rfl⟩
  obtain ⟨B2, b2⟩ : ∃ y, tS R = y := ⟨_, rfl⟩
  obtain ⟨B3, b3⟩ : ∃ y, tN R = y := ⟨_, rfl⟩
  rw [b0, b1, b2, b3] at kR eN HKR
  have H1 := Lib.hid (show ∀ w : World, Calls Try.prog 74 #[.agg #[.int .i64 h, .int .i64 m, .int .i64 s, .int .i64 n], .agg #[.int .i64 (hi 86400000000000), .int .u64 (lo 86400000000000)]] w (fun e w' => e = .returned (.tuple #[.agg #[.int .i64 h, .int .i64 m, .int .i64 s, .int .i64 n], .int .i64 1, .int .i64 0]) ∧ Ext w w') from fun w => (cadd h m s n 86400000000000 w k (by unfold W128; omega)).mono fun e w' q => ⟨by rw [q.1 (by rw [c1]; unfold I64; omega), c1, c2, ht.1, ht.2.1, ht.2.2.1, ht.2.2.2], q.2.2⟩)
  have H2 := Lib.hid (show ∀ w : World, Calls Try.prog 74 #[.agg #[.int .i64 h, .int .i64 m, .int .i64 s, .int .i64 n], .agg #[.int .i64 (hi x), .int .u64 (lo x)]] w (fun e w' => e = .returned (.tuple #[.agg #[.int .i64 B0, .int .i64 B1, .int .i64 B2, .int .i64 B3], .int .i64 Q, .int .i64 0]) ∧ Ext w w') from fun w => (cadd h m s n x w k hx.w).mono fun e w' q => ⟨by rw [q.1 (by rw [eQ]; unfold I64; omega), eQ, eR, b0, b1, b2, b3], q.2.2⟩)
  have hnx : W128 (-x) := by unfold I64 at hx; unfold W128; omega
  have H3 := Lib.hid (show ∀ w : World, Calls Try.prog 74 #[.agg #[.int .i64 B0, .int .i64 B1, .int .i64 B2, .int .i64 B3], .agg #[.int .i64 (hi (-x)), .int .u64 (lo (-x))]] w (fun e w' => e = .returned (.tuple #[.agg #[.int .i64 h, .int .i64 m, .int .i64 s, .int .i64 n], .int .i64 (-Q), .int .i64 0]) ∧ Ext w w') from fun w => (cadd B0 B1 B2 B3 (-x) w kR hnx).mono fun e w' q => ⟨by rw [q.1 (by rw [eN, d1]; unfold I64; omega), eN, d1, d2, ht.1, ht.2.1, ht.2.2.1, ht.2.2.2], q.2.2⟩)
  have hW := Lib.hid hx.w
  clear c1 c2 d1 d2 ht eQ eR kR eN b0 b1 b2 b3 k a0 a1 f0 f1
  go_enter Try.func19, Try.ntmps19
  go_upto_region 1 with fail
  have xw := Ext.refl w
  refine wp_name ?_
  intro V1 hV
  replace xw : Ext w V1 := by rw [hV]; exact Ext.alloc (xw)
  have b2 : Bx V1 w.heap.size #[.int .i64 h, .int .i64 m, .int .i64 s, .int .i64 n] 74 := by rw [hV]; exact Bx.new rfl
  clear hV
  refine wp_region_noPanic ?_
  refine wp_region_held_drew (S := fun w' => Ext V1 w') (by kernel_rfl) (Ext.refl V1).drew (fun hHeld => ?_)
  have b2_d0 := fun w' (hh : Ext V1 w') => (b2.ext hh).c 0 (v := .int .i64 h) rfl
  have b2_d1 := fun w' (hh : Ext V1 w') => (b2.ext hh).c 1 (v := .int .i64 m) rfl
  have b2_d2 := fun w' (hh : Ext V1 w') => (b2.ext hh).c 2 (v := .int .i64 s) rfl
  have b2_d3 := fun w' (hh : Ext V1 w') => (b2.ext hh).c 3 (v := .int .i64 n) rfl
  refine wpAnyH_take (i := 0) (v := .agg #[.int .i64 h, .int .i64 m, .int .i64 s, .int .i64 n]) rfl (by kernel_rfl) (by kernel_rfl) (by kernel_rfl) (fun _ _ _ h => h) (Or.inl ⟨by kernel_rfl, fun w' h => (by go_simp)⟩) hHeld ?_
  refine region1 (N := 11) (f0 := [0]) (l := [(1, false), (2, false), (3, true), (4, true), (5, true), (6, true)]) (T := [8, 9, 10]) (iA := 7) (dA := 5) (oA := .cells #[.int .i64 0, .int .i64 0, .int .i64 0, .int .i64 0] 74) (fun _ _ _ _ _ h => h) (by kernel_rfl) (by kernel_rfl) rfl (by kernel_rfl) (by kernel_rfl)
    (fun K a w h => wpOp_of rfl fun K' hK => (by go_simp; exact hK _ _ h)) (by simp [Act.put]) (fun _ _ h x => h.trans x) hHeld ?_
  have y0 : Ext V1 V1.drew := (Ext.refl V1).drew
  intro a1 v2 haw yv2
  obtain ⟨s12, rfl⟩ := away1 haw; refine wpOp_of rfl fun K' hK => ?_; go_simp
  replace y0 := Ext.trans y0 yv2
  refine (HO.out 86400000000000 _ (by unfold I64; omega)).mono ?_
  rintro e w3 ⟨rfl, x3⟩
  refine hK _ _ ⟨⟨x3, rfl, slots1 rfl⟩, ?_⟩; clear hK K'
  replace y0 := Ext.trans y0 x3
  intro a1 v4 haw yv4
  obtain ⟨s14, rfl⟩ := away1 haw; refine wpOp_of rfl fun K' hK => ?_; go_simp
  replace y0 := Ext.trans y0 yv4
  refine (H1.out _).mono ?_
  rintro e w5 ⟨rfl, x5⟩
  refine hK _ _ ⟨⟨x5, rfl, slots1 rfl⟩, ?_⟩; clear hK K'
  replace y0 := Ext.trans y0 x5
  refine ⟨_, .tuple #[.agg #[.int .i64 h, .int .i64 m, .int .i64 s, .int .i64 n], .int .i64 1, .int .i64 0], rfl, Or.inl ⟨by rfl, fun w' h => (by go_simp)⟩, by simp, ?_⟩
  refine ⟨_, .agg #[.int .i64 h, .int .i64 m, .int .i64 s, .int .i64 n], rfl, Or.inl ⟨by rfl, fun w' h => (by go_simp)⟩, by simp, ?_⟩
  refine ⟨_, .int .i64 1, rfl, Or.inl ⟨by rfl, fun w' h => (by go_simp)⟩, by simp, ?_⟩
  refine ⟨_, .int .i64 0, rfl, Or.inl ⟨by rfl, fun w' h => (by go_simp)⟩, by simp, ?_⟩
  intro a' v6 haw yv6
  obtain ⟨s16, rfl⟩ := away1 haw
  rintro k5 ⟨k5a, k5b, k5c⟩ hS'
  replace y0 := Ext.trans y0 yv6
  simp [Act.put] at k5b; subst k5b; replace k5a : V1.heap.size ≤ k5 := k5a
  clear b2_d0 b2_d1 b2_d2 b2_d3
  have o7 := b2.kind.lt
  have o8 := xw.size
  replace b2 := b2.ext y0
  replace xw := Ext.trans xw y0
  have b5 : Bx v6 k5 #[.int .i64 0, .int .i64 0, .int .i64 0, .int .i64 0] 74 := k5c
  clear k5c
  have hT : Ext V1 v6 := hS'
  have b5_c0 := b5.c 0 (v := .int .i64 0) rfl
  have b5_c1 := b5.c 1 (v := .int .i64 0) rfl
  have b5_c2 := b5.c 2 (v := .int .i64 0) rfl
  have b5_c3 := b5.c 3 (v := .int .i64 0) rfl
  have b5_f0 := b5.f 0
  have b5_f1 := b5.f 1
  have b5_f2 := b5.f 2
  have b5_f3 := b5.f 3
  refine wpOp_of rfl fun K' hK => ?_
  go_simp
  clear b5_c0 b5_c1 b5_c2 b5_c3 b5_f0 b5_f1 b5_f2 b5_f3
  replace hT := Ext.set hT (k := k5) (o := 0) (u := .int .i64 h) k5a
  replace hT := Ext.set hT (k := k5) (o := 1) (u := .int .i64 m) k5a
  replace hT := Ext.set hT (k := k5) (o := 2) (u := .int .i64 s) k5a
  replace hT := Ext.set hT (k := k5) (o := 3) (u := .int .i64 n) k5a
  refine hK _ _ ⟨hT, ?_⟩
  clear hK K'
  have b2N := ((((b2).other (b := k5) (by omega) 0 (.int .i64 h)).other (b := k5) (by omega) 1 (.int .i64 m)).other (b := k5) (by omega) 2 (.int .i64 s)).other (b := k5) (by omega) 3 (.int .i64 n)
  have b5N := ((((b5).setc 0 (.int .i64 h) (cs' := #[.int .i64 h, .int .i64 0, .int .i64 0, .int .i64 0]) rfl).setc 1 (.int .i64 m) (cs' := #[.int .i64 h, .int .i64 m, .int .i64 0, .int .i64 0]) rfl).setc 2 (.int .i64 s) (cs' := #[.int .i64 h, .int .i64 m, .int .i64 s, .int .i64 0]) rfl).setc 3 (.int .i64 n) (cs' := #[.int .i64 h, .int .i64 m, .int .i64 s, .int .i64 n]) rfl
  replace xw := Ext.set (Ext.set (Ext.set (Ext.set (xw) (k := k5) (o := 0) (u := .int .i64 h) (by omega)) (k := k5) (o := 1) (u := .int .i64 m) (by omega)) (k := k5) (o := 2) (u := .int .i64 s) (by omega)) (k := k5) (o := 3) (u := .int .i64 n) (by omega)
  replace b2 := b2N; clear b2N
  replace b5 := b5N; clear b5N
  refine wpOp_of rfl fun K' hK => ?_
  go_simp
  refine hK _ _ ⟨hT, ?_⟩
  clear hK K'
  refine wpOp_of rfl fun K' hK => ?_
  go_simp
  refine hK _ _ ⟨hT, ?_⟩
  clear hK K'
  refine NoPanic.normal ?_
  clear hT hS' y0 hHeld
  go_upto_region 2 with fail
  refine wp_name ?_
  intro V9 hV
  rw [← hV] at b2 b5 xw
  clear hV
  refine wp_region_noPanic ?_
  refine wp_region_held_drew (S := fun w' => Ext V9 w') (by kernel_rfl) (Ext.refl V9).drew (fun hHeld => ?_)
  have b2_d0 := fun w' (hh : Ext V9 w') => (b2.ext hh).c 0 (v := .int .i64 h) rfl
  have b2_d1 := fun w' (hh : Ext V9 w') => (b2.ext hh).c 1 (v := .int .i64 m) rfl
  have b2_d2 := fun w' (hh : Ext V9 w') => (b2.ext hh).c 2 (v := .int .i64 s) rfl
  have b2_d3 := fun w' (hh : Ext V9 w') => (b2.ext hh).c 3 (v := .int .i64 n) rfl
  refine wpAnyH_take (i := 0) (v := .agg #[.int .i64 h, .int .i64 m, .int .i64 s, .int .i64 n]) rfl (by kernel_rfl) (by kernel_rfl) (by kernel_rfl) (fun _ _ _ h => h) (Or.inl ⟨by kernel_rfl, fun w' h => (by go_simp)⟩) hHeld ?_
  refine region1 (N := 12) (f0 := [0]) (l := [(1, true), (2, false), (3, false), (4, true), (5, true), (6, true), (7, true)]) (T := [9, 10, 11]) (iA := 8) (dA := 8) (oA := .cells #[.int .i64 0, .int .i64 0, .int .i64 0, .int .i64 0] 74) (fun _ _ _ _ _ h => h) (by kernel_rfl) (by kernel_rfl) rfl (by kernel_rfl) (by kernel_rfl)
    (fun K a w h => wpOp_of rfl fun K' hK => (by go_simp; exact hK _ _ h)) (by simp [Act.put]) (fun _ _ h x => h.trans x) hHeld ?_
  have y0 : Ext V9 V9.drew := (Ext.refl V9).drew
  refine ⟨_, .int .i64 x, rfl, Or.inl ⟨by rfl, fun w' h => (by go_simp)⟩, by simp, ?_⟩
  intro a1 v10 haw yv10
  obtain ⟨s110, rfl⟩ := away1 haw; refine wpOp_of rfl fun K' hK => ?_; go_simp
  replace y0 := Ext.trans y0 yv10
  refine (HO.out x _ hx).mono ?_
  rintro e w11 ⟨rfl, x11⟩
  refine hK _ _ ⟨⟨x11, rfl, slots1 rfl⟩, ?_⟩; clear hK K'
  replace y0 := Ext.trans y0 x11
  intro a1 v12 haw yv12
  obtain ⟨s112, rfl⟩ := away1 haw; refine wpOp_of rfl fun K' hK => ?_; go_simp
  replace y0 := Ext.trans y0 yv12
  refine (H2.out _).mono ?_
  rintro e w13 ⟨rfl, x13⟩
  refine hK _ _ ⟨⟨x13, rfl, slots1 rfl⟩, ?_⟩; clear hK K'
  replace y0 := Ext.trans y0 x13
  refine ⟨_, .tuple #[.agg #[.int .i64 B0, .int .i64 B1, .int .i64 B2, .int .i64 B3], .int .i64 Q, .int .i64 0], rfl, Or.inl ⟨by rfl, fun w' h => (by go_simp)⟩, by simp, ?_⟩
  refine ⟨_, .agg #[.int .i64 B0, .int .i64 B1, .int .i64 B2, .int .i64 B3], rfl, Or.inl ⟨by rfl, fun w' h => (by go_simp)⟩, by simp, ?_⟩
  refine ⟨_, .int .i64 Q, rfl, Or.inl ⟨by rfl, fun w' h => (by go_simp)⟩, by simp, ?_⟩
  refine ⟨_, .int .i64 0, rfl, Or.inl ⟨by rfl, fun w' h => (by go_simp)⟩, by simp, ?_⟩
  intro a' v14 haw yv14
  obtain ⟨s114, rfl⟩ := away1 haw
  rintro k8 ⟨k8a, k8b, k8c⟩ hS'
  replace y0 := Ext.trans y0 yv14
  simp [Act.put] at k8b; subst k8b; replace k8a : V9.heap.size ≤ k8 := k8a
  clear b2_d0 b2_d1 b2_d2 b2_d3
  have o15 := b5.kind.lt
  have o16 := xw.size
  replace b2 := b2.ext y0
  replace b5 := b5.ext y0
  replace xw := Ext.trans xw y0
  have b8 : Bx v14 k8 #[.int .i64 0, .int .i64 0, .int .i64 0, .int .i64 0] 74 := k8c
  clear k8c
  have hT : Ext V9 v14 := hS'
  have b8_c0 := b8.c 0 (v := .int .i64 0) rfl
  have b8_c1 := b8.c 1 (v := .int .i64 0) rfl
  have b8_c2 := b8.c 2 (v := .int .i64 0) rfl
  have b8_c3 := b8.c 3 (v := .int .i64 0) rfl
  have b8_f0 := b8.f 0
  have b8_f1 := b8.f 1
  have b8_f2 := b8.f 2
  have b8_f3 := b8.f 3
  refine wpOp_of rfl fun K' hK => ?_
  go_simp
  clear b8_c0 b8_c1 b8_c2 b8_c3 b8_f0 b8_f1 b8_f2 b8_f3
  replace hT := Ext.set hT (k := k8) (o := 0) (u := .int .i64 B0) k8a
  replace hT := Ext.set hT (k := k8) (o := 1) (u := .int .i64 B1) k8a
  replace hT := Ext.set hT (k := k8) (o := 2) (u := .int .i64 B2) k8a
  replace hT := Ext.set hT (k := k8) (o := 3) (u := .int .i64 B3) k8a
  refine hK _ _ ⟨hT, ?_⟩
  clear hK K'
  have b2N := ((((b2).other (b := k8) (by omega) 0 (.int .i64 B0)).other (b := k8) (by omega) 1 (.int .i64 B1)).other (b := k8) (by omega) 2 (.int .i64 B2)).other (b := k8) (by omega) 3 (.int .i64 B3)
  have b5N := ((((b5).other (b := k8) (by omega) 0 (.int .i64 B0)).other (b := k8) (by omega) 1 (.int .i64 B1)).other (b := k8) (by omega) 2 (.int .i64 B2)).other (b := k8) (by omega) 3 (.int .i64 B3)
  have b8N := ((((b8).setc 0 (.int .i64 B0) (cs' := #[.int .i64 B0, .int .i64 0, .int .i64 0, .int .i64 0]) rfl).setc 1 (.int .i64 B1) (cs' := #[.int .i64 B0, .int .i64 B1, .int .i64 0, .int .i64 0]) rfl).setc 2 (.int .i64 B2) (cs' := #[.int .i64 B0, .int .i64 B1, .int .i64 B2, .int .i64 0]) rfl).setc 3 (.int .i64 B3) (cs' := #[.int .i64 B0, .int .i64 B1, .int .i64 B2, .int .i64 B3]) rfl
  replace xw := Ext.set (Ext.set (Ext.set (Ext.set (xw) (k := k8) (o := 0) (u := .int .i64 B0) (by omega)) (k := k8) (o := 1) (u := .int .i64 B1) (by omega)) (k := k8) (o := 2) (u := .int .i64 B2) (by omega)) (k := k8) (o := 3) (u := .int .i64 B3) (by omega)
  replace b2 := b2N; clear b2N
  replace b5 := b5N; clear b5N
  replace b8 := b8N; clear b8N
  refine wpOp_of rfl fun K' hK => ?_
  go_simp
  refine hK _ _ ⟨hT, ?_⟩
  clear hK K'
  refine wpOp_of rfl fun K' hK => ?_
  go_simp
  refine hK _ _ ⟨hT, ?_⟩
  clear hK K'
  refine NoPanic.normal ?_
  clear hT hS' y0 hHeld
  go_upto_region 3 with fail
  refine wp_name ?_
  intro V17 hV
  rw [← hV] at b2 b5 b8 xw
  clear hV
  have b2_c0 := b2.c 0 (v := .int .i64 h) rfl
  have b2_c1 := b2.c 1 (v := .int .i64 m) rfl
  have b2_c2 := b2.c 2 (v := .int .i64 s) rfl
  have b2_c3 := b2.c 3 (v := .int .i64 n) rfl
  go_wp2_with fail
  refine (HCR.out h m s n _).mono ?_
  rw [HK.out]
  rintro e w18 ⟨rfl, x18⟩
  clear b2_c0 b2_c1 b2_c2 b2_c3
  replace b2 := b2.ext x18
  replace b5 := b5.ext x18
  replace b8 := b8.ext x18
  replace xw := Ext.trans xw x18
  go_upto_region 5 with fail
  have b5_c0 := b5.c 0 (v := .int .i64 h) rfl
  have b5_c1 := b5.c 1 (v := .int .i64 m) rfl
  have b5_c2 := b5.c 2 (v := .int .i64 s) rfl
  have b5_c3 := b5.c 3 (v := .int .i64 n) rfl
  have b2_c0 := b2.c 0 (v := .int .i64 h) rfl
  have b2_c1 := b2.c 1 (v := .int .i64 m) rfl
  have b2_c2 := b2.c 2 (v := .int .i64 s) rfl
  have b2_c3 := b2.c 3 (v := .int .i64 n) rfl
  go_upto_region 7 with fail
  clear b5_c0 b5_c1 b5_c2 b5_c3 b2_c0 b2_c1 b2_c2 b2_c3
  go_wp2_with fail
  refine (HO.out x _ hx).mono ?_
  rintro e w19 ⟨rfl, x19⟩
  replace b2 := b2.ext x19
  replace b5 := b5.ext x19
  replace b8 := b8.ext x19
  replace xw := Ext.trans xw x19
  go_wp2_with fail
  refine (HNg.out x _ hW.out).mono ?_
  rintro e w20 ⟨rfl, x20⟩
  rw [thi_yes hnx, tlo_yes hnx, ter_yes hnx]
  replace b2 := b2.ext x20
  replace b5 := b5.ext x20
  replace b8 := b8.ext x20
  replace xw := Ext.trans xw x20
  go_upto_region 8 with fail
  have o22 := b8.kind.lt
  have o23 := xw.size
  refine wp_name ?_
  intro V21 hV
  have b2N : Bx V21 w.heap.size #[.int .i64 h, .int .i64 m, .int .i64 s, .int .i64 n] 74 := by rw [hV]; exact (b2).alloc _
  have b5N : Bx V21 k5 #[.int .i64 h, .int .i64 m, .int .i64 s, .int .i64 n] 74 := by rw [hV]; exact (b5).alloc _
  have b8N : Bx V21 k8 #[.int .i64 B0, .int .i64 B1, .int .i64 B2, .int .i64 B3] 74 := by rw [hV]; exact (b8).alloc _
  replace xw : Ext w V21 := by rw [hV]; exact Ext.alloc (xw)
  replace b2 := b2N; clear b2N
  replace b5 := b5N; clear b5N
  replace b8 := b8N; clear b8N
  have b11 : Box2 V21 w20.heap.size (.int .i64 (hi (-x))) (.int .u64 (lo (-x))) 26 := by rw [hV]; exact Box2.new rfl
  clear hV
  have b8_c0 := b8.c 0 (v := .int .i64 B0) rfl
  have b8_c1 := b8.c 1 (v := .int .i64 B1) rfl
  have b8_c2 := b8.c 2 (v := .int .i64 B2) rfl
  have b8_c3 := b8.c 3 (v := .int .i64 B3) rfl
  have b11_c0 := b11.c0
  have b11_c1 := b11.c1
  go_wp2_with fail
  refine (H3.out _).mono ?_
  rintro e w24 ⟨rfl, x24⟩
  clear b8_c0 b8_c1 b8_c2 b8_c3 b11_c0 b11_c1
  replace b2 := b2.ext x24
  replace b5 := b5.ext x24
  replace b8 := b8.ext x24
  replace b11 := b11.ext x24
  replace xw := Ext.trans xw x24
  go_upto_region 9 with fail
  have o26 := b11.kind.lt
  have o27 := xw.size
  refine wp_name ?_
  intro V25 hV
  have b2N : Bx V25 w.heap.size #[.int .i64 h, .int .i64 m, .int .i64 s, .int .i64 n] 74 := by rw [hV]; exact (b2).alloc _
  have b5N : Bx V25 k5 #[.int .i64 h, .int .i64 m, .int .i64 s, .int .i64 n] 74 := by rw [hV]; exact (b5).alloc _
  have b8N : Bx V25 k8 #[.int .i64 B0, .int .i64 B1, .int .i64 B2, .int .i64 B3] 74 := by rw [hV]; exact (b8).alloc _
  have b11N : Box2 V25 w20.heap.size (.int .i64 (hi (-x))) (.int .u64 (lo (-x))) 26 := by rw [hV]; exact (b11).alloc _
  replace xw : Ext w V25 := by rw [hV]; exact Ext.alloc (xw)
  replace b2 := b2N; clear b2N
  replace b5 := b5N; clear b5N
  replace b8 := b8N; clear b8N
  replace b11 := b11N; clear b11N
  have b13 : Bx V25 w24.heap.size #[.int .i64 h, .int .i64 m, .int .i64 s, .int .i64 n] 74 := by rw [hV]; exact Bx.new rfl
  clear hV
  go_wp2_with fail
  refine (HAl.out _).mono ?_
  rintro e w28 ⟨rfl, x28⟩
  replace b2 := b2.ext x28
  replace b5 := b5.ext x28
  replace b8 := b8.ext x28
  replace b11 := b11.ext x28
  replace b13 := b13.ext x28
  replace xw := Ext.trans xw x28
  have b13_c0 := b13.c 0 (v := .int .i64 h) rfl
  have b13_c1 := b13.c 1 (v := .int .i64 m) rfl
  have b13_c2 := b13.c 2 (v := .int .i64 s) rfl
  have b13_c3 := b13.c 3 (v := .int .i64 n) rfl
  have b2_c0 := b2.c 0 (v := .int .i64 h) rfl
  have b2_c1 := b2.c 1 (v := .int .i64 m) rfl
  have b2_c2 := b2.c 2 (v := .int .i64 s) rfl
  have b2_c3 := b2.c 3 (v := .int .i64 n) rfl
  have b8_c0 := b8.c 0 (v := .int .i64 B0) rfl
  have b8_c1 := b8.c 1 (v := .int .i64 B1) rfl
  have b8_c2 := b8.c 2 (v := .int .i64 B2) rfl
  have b8_c3 := b8.c 3 (v := .int .i64 B3) rfl
  go_wp2_with fail
  refine (HCR.out B0 B1 B2 B3 _).mono ?_
  rw [HKR.out]
  rintro e w29 ⟨rfl, x29⟩
  clear b13_c0 b13_c1 b13_c2 b13_c3 b2_c0 b2_c1 b2_c2 b2_c3 b8_c0 b8_c1 b8_c2 b8_c3
  replace b2 := b2.ext x29
  replace b5 := b5.ext x29
  replace b8 := b8.ext x29
  replace b11 := b11.ext x29
  replace b13 := b13.ext x29
  replace xw := Ext.trans xw x29
  have xr := xw
  go_wp2_with fail
  refine bodyPost_ret (v := .bool true) (by simp [results, Try.results19, go_sem]) rfl ⟨rfl, xr⟩
theorem law_cback (h m s n x : Int) (w : World) (hx : I64 x) :
    Calls Try.prog 19 #[.agg #[.int .i64 h, .int .i64 m, .int .i64 s, .int .i64 n], .int .i64 x] w (fun e w' => e = .returned (.bool true) ∧ Ext w w') := by
  by_cases k : tOk h m s n
  · exact back_yes h m s n x w hx k
  · exact back_no h m s n x w hx k
end Go.Proofs.Ytmkddcmfofabbaa
