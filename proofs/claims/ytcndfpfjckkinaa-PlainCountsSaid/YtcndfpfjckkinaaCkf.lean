/-
  clock.Cmp.
-/
import Derived.Test.YtcndfpfjckkinaaCkb
set_option linter.unusedSimpArgs false
set_option linter.unusedVariables false
namespace Go.Proofs.Ytcndfpfjckkinaa
open Go Go.RowKit

set_option maxRecDepth 100000 in
set_option maxHeartbeats 3200000 in
theorem isnan (x : Int) (w : World) : Calls Try.prog 183 #[.int .i64 x] w (fun e w' => e = .returned (.bool false) ∧ w' = w) := by
  go_enter Try.func183, Try.ntmps183
  go_wp2
  go_ret
  exact ⟨rfl, rfl⟩
set_option maxRecDepth 100000 in
set_option maxHeartbeats 3200000 in
theorem ccompare (a b : Int) (w : World) : Calls Try.prog 116 #[.int .i64 a, .int .i64 b] w (fun e w' => e = .returned (.int .i64 (cmpI a b)) ∧ w' = w) := by
  unfold cmpI
  by_cases h : a < b
  · rw [if_pos h]
    go_enter Try.func116, Try.ntmps116
    go_wp2_with (go_at_call 183; refine (isnan _ _).mono ?_; rintro e w' ⟨rfl, rfl⟩)
    go_ret
    exact ⟨rfl, rfl⟩
  · rw [if_neg h]
    by_cases h1 : a = b
    · subst h1
      rw [if_pos rfl]
      go_enter Try.func116, Try.ntmps116
      go_wp2_with (go_at_call 183; refine (isnan _ _).mono ?_; rintro e w' ⟨rfl, rfl⟩)
      go_ret
      exact ⟨rfl, rfl⟩
    · rw [if_neg h1]
      have h2 : b < a := by omega
      clear h1
      go_enter Try.func116, Try.ntmps116
      go_wp2_with (go_at_call 183; refine (isnan _ _).mono ?_; rintro e w' ⟨rfl, rfl⟩)
      go_ret
      exact ⟨rfl, rfl⟩
def cmp4 (h m s n h' m' s' n' : Int) : Int := if h = h' then (if m = m' then (if s = s' then cmpI n n' else cmpI s s') else cmpI m m') else cmpI h h'
def pre4e (k : Nat) (h m s n h' m' s' n' : Int) : Prop := (0 < k → h = h') ∧ (1 < k → m = m') ∧ (2 < k → s = s') ∧ (3 < k → n = n')
theorem cmpI_no {a b : Int} (h : ¬ a = b) : (cmpI a b == 0) = false := by
  simp only [beq_eq_false_iff_ne, ne_eq]; unfold cmpI
  by_cases h1 : a < b
  · simp [h1]
  · simp [h1, h]
theorem cmpI_same (a : Int) : (cmpI a a == 0) = true := by simp [cmpI]
theorem cmp4_at0 {h m s n h' m' s' n' : Int} (e : ¬ h = h') : cmpI h h' = cmp4 h m s n h' m' s' n' := by unfold cmp4; rw [if_neg e]
theorem cmp4_at1 {h m s n h' m' s' n' : Int} (p : pre4e 1 h m s n h' m' s' n') (e : ¬ m = m') : cmpI m m' = cmp4 h m s n h' m' s' n' := by unfold cmp4; rw [if_pos (p.1 (by omega)), if_neg e]
theorem cmp4_at2 {h m s n h' m' s' n' : Int} (p : pre4e 2 h m s n h' m' s' n') (e : ¬ s = s') : cmpI s s' = cmp4 h m s n h' m' s' n' := by unfold cmp4; rw [if_pos (p.1 (by omega)), if_pos (p.2.1 (by omega)), if_neg e]
theorem cmp4_at3 {h m s n h' m' s' n' : Int} (p : pre4e 3 h m s n h' m' s' n') : cmpI n n' = cmp4 h m s n h' m' s' n' := by unfold cmp4; rw [if_pos (p.1 (by omega)), if_pos (p.2.1 (by omega)), if_pos (p.2.2.1 (by omega))]
theorem cmp4_at4 {h m s n h' m' s' n' : Int} (p : pre4e 4 h m s n h' m' s' n') : 0 = cmp4 h m s n h' m' s' n' := by unfold cmp4; rw [if_pos (p.1 (by omega)), if_pos (p.2.1 (by omega)), if_pos (p.2.2.1 (by omega)), p.2.2.2 (by omega)]; simp [cmpI]
theorem cmpI_eq0 {a b : Int} (h : a = b) : cmpI a b = 0 := by subst h; simp [cmpI]
theorem cmpI_congr {a b c d : Int} (h1 : a < b ↔ c < d) (h2 : a = b ↔ c = d) : cmpI a b = cmpI c d := by unfold cmpI; simp only [h1, h2]
theorem cmp4_nan {h m s n h' m' s' n' : Int} (k : tOk h m s n) (k' : tOk h' m' s' n') : cmp4 h m s n h' m' s' n' = cmpI (tnan h m s n) (tnan h' m' s' n') := by
  unfold tOk at k k'
  unfold cmp4 tnan
  by_cases e1 : h = h'
  · rw [if_pos e1]
    by_cases e2 : m = m'
    · rw [if_pos e2]
      by_cases e3 : s = s'
      · rw [if_pos e3]; exact cmpI_congr (by omega) (by omega)
      · rw [if_neg e3]; exact cmpI_congr (by omega) (by omega)
    · rw [if_neg e2]; exact cmpI_congr (by omega) (by omega)
  · rw [if_neg e1]; exact cmpI_congr (by omega) (by omega)
set_option maxRecDepth 100000 in
set_option maxHeartbeats 3200000 in
theorem cCmp (h m s n h' m' s' n' : Int) (w : World) :
    Calls Try.prog 29 #[.agg #[.int .i64 h, .int .i64 m, .int .i64 s, .int .i64 n], .agg #[.int .i64 h', .int .i64 m', .int .i64 s', .int .i64 n']] w (fun e w' => e = .returned (.int .i64 (cmp4 h m s n h' m' s' n')) ∧ Ext w w') := by
  have HF := Lib.hid cfields
  go_enter Try.func29, Try.ntmps29
  go_upto_region 1 with fail
  have xw := Ext.refl w
  refine wp_name ?_
  intro V1 hV
  replace xw : Ext w V1 := by rw [hV]; exact Ext.alloc (Ext.alloc (xw))
  have b2 : Bx V1 w.heap.size #[.int .i64 h, .int .i64 m, .int .i64 s, .int .i64 n] 23 := by rw [hV]; exact (Bx.new rfl).alloc _
  have b3 : Bx V1 (w.heap.size + 1) #[.int .i64 h', .int .i64 m', .int .i64 s', .int .i64 n'] 23 := by rw [hV]; exact Bx.new (by simp)
  clear hV
  refine wp_region_noPanic ?_
  refine wp_region_held_drew (S := fun w' => Ext V1 w') (by kernel_rfl) (Ext.refl V1).drew (fun hHeld => ?_)
  have b2_d0 := fun w' (hh : Ext V1 w') => (b2.ext hh).c 0 (v := .int .i64 h) rfl
  have b2_d1 := fun w' (hh : Ext V1 w') => (b2.ext hh).c 1 (v := .int .i64 m) rfl
  have b2_d2 := fun w' (hh : Ext V1 w') => (b2.ext hh).c 2 (v := .int .i64 s) rfl
  have b2_d3 := fun w' (hh : Ext V1 w') => (b2.ext hh).c 3 (v := .int .i64 n) rfl
  have b3_d0 := fun w' (hh : Ext V1 w') => (b3.ext hh).c 0 (v := .int .i64 h') rfl
  have b3_d1 := fun w' (hh : Ext V1 w') => (b3.ext hh).c 1 (v := .int .i64 m') rfl
  have b3_d2 := fun w' (hh : Ext V1 w') => (b3.ext hh).c 2 (v := .int .i64 s') rfl
  have b3_d3 := fun w' (hh : Ext V1 w') => (b3.ext hh).c 3 (v := .int .i64 n') rfl
  refine wpAnyH_take (i := 0) (v := .agg #[.int .i64 h, .int .i64 m, .int .i64 s, .int .i64 n]) rfl (by kernel_rfl) (by kernel_rfl) (by kernel_rfl) (fun _ _ _ h => h) (Or.inl ⟨by kernel_rfl, fun w' h => (by go_simp)⟩) hHeld ?_
  refine wpAnyH_take (i := 2) (v := .agg #[.int .i64 h', .int .i64 m', .int .i64 s', .int .i64 n']) rfl (by kernel_rfl) (by kernel_rfl) (by kernel_rfl) (fun _ _ _ h => h) (Or.inl ⟨by kernel_rfl, fun w' h => (by go_simp)⟩) hHeld ?_
  refine region2 (N := 8) (f0 := [0, 2]) (l := [(1, false), (3, false)]) (T := [6, 7]) (iA := 4) (dA := 5) (iB := 5) (dB := 6) (oA := .cells #[.int .i64 0, .int .i64 0, .int .i64 0, .int .i64 0] 144) (oB := .cells #[.int .i64 0, .int .i64 0, .int .i64 0, .int .i64 0] 144) (fun _ _ _ _ _ h => h) (by kernel_rfl) (by kernel_rfl) rfl (by kernel_rfl) (by kernel_rfl)
    (fun K a w h => wpOp_of rfl fun K' hK => (by go_simp; exact hK _ _ h)) (fun K a w h => wpOp_of rfl fun K' hK => (by go_simp; exact hK _ _ h)) (by decide) (by simp [Act.put]) (by simp [Act.put]) (fun _ _ h x => h.trans x) hHeld ?_
  have y0 : Ext V1 V1.drew := (Ext.refl V1).drew
  intro a1 v2 haw yv2
  obtain ⟨s12, s22, rfl⟩ := away2 haw; refine wpOp_of rfl fun K' hK => ?_; go_simp
  replace y0 := Ext.trans y0 yv2
  refine (HF.out h m s n _).mono ?_
  rintro e w3 ⟨rfl, x3⟩
  refine hK _ _ ⟨⟨x3, rfl, slots2 rfl rfl⟩, ?_⟩; clear hK K'
  replace y0 := Ext.trans y0 x3
  intro a1 v4 haw yv4
  obtain ⟨s14, s24, rfl⟩ := away2 haw; refine wpOp_of rfl fun K' hK => ?_; go_simp
  replace y0 := Ext.trans y0 yv4
  refine (HF.out h' m' s' n' _).mono ?_
  rintro e w5 ⟨rfl, x5⟩
  refine hK _ _ ⟨⟨x5, rfl, slots2 rfl rfl⟩, ?_⟩; clear hK K'
  replace y0 := Ext.trans y0 x5
  intro a' v6 haw yv6
  obtain ⟨s16, s26, rfl⟩ := away2 haw
  rintro k5 k6 ⟨k5a, k5b, k5c⟩ ⟨k6a, k6b, k6c⟩ k5ne hS'
  replace y0 := Ext.trans y0 yv6
  simp [Act.put] at k5b; subst k5b; replace k5a : V1.heap.size ≤ k5 := k5a
  simp [Act.put] at k6b; subst k6b; replace k6a : V1.heap.size ≤ k6 := k6a
  clear b2_d0 b2_d1 b2_d2 b2_d3 b3_d0 b3_d1 b3_d2 b3_d3
  have o7 := b2.kind.lt
  have o8 := b3.kind.lt
  have o9 := xw.size
  replace b2 := b2.ext y0
  replace b3 := b3.ext y0
  replace xw := Ext.trans xw y0
  have b5 : Bx v6 k5 #[.int .i64 0, .int .i64 0, .int .i64 0, .int .i64 0] 144 := k5c
  clear k5c
  have b6 : Bx v6 k6 #[.int .i64 0, .int .i64 0, .int .i64 0, .int .i64 0] 144 := k6c
  clear k6c
  have hT : Ext V1 v6 := hS'
  have b5_c0 := b5.c 0 (v := .int .i64 0) rfl
  have b5_c1 := b5.c 1 (v := .int .i64 0) rfl
  have b5_c2 := b5.c 2 (v := .int .i64 0) rfl
  have b5_c3 := b5.c 3 (v := .int .i64 0) rfl
  have b5_f0 := b5.f 0
  have b5_f1 := b5.f 1
  have b5_f2 := b5.f 2
  have b5_f3 := b5.f 3
  refine wpOp_of rfl fun K' hK => ?_
  go_simp
  clear b5_c0 b5_c1 b5_c2 b5_c3 b5_f0 b5_f1 b5_f2 b5_f3
  replace hT := Ext.set hT (k := k5) (o := 0) (u := .int .i64 h) k5a
  replace hT := Ext.set hT (k := k5) (o := 1) (u := .int .i64 m) k5a
  replace hT := Ext.set hT (k := k5) (o := 2) (u := .int .i64 s) k5a
  replace hT := Ext.set hT (k := k5) (o := 3) (u := .int .i64 n) k5a
  refine hK _ _ ⟨hT, ?_⟩
  clear hK K'
  have b2N := ((((b2).other (b := k5) (by omega) 0 (.int .i64 h)).other (b := k5) (by omega) 1 (.int .i64 m)).other (b := k5) (by omega) 2 (.int .i64 s)).other (b := k5) (by omega) 3 (.int .i64 n)
  have b3N := ((((b3).other (b := k5) (by omega) 0 (.int .i64 h)).other (b := k5) (by omega) 1 (.int .i64 m)).other (b := k5) (by omega) 2 (.int .i64 s)).other (b := k5) (by omega) 3 (.int .i64 n)
  have b5N := ((((b5).setc 0 (.int .i64 h) (cs' := #[.int .i64 h, .int .i64 0, .int .i64 0, .int .i64 0]) rfl).setc 1 (.int .i64 m) (cs' := #[.int .i64 h, .int .i64 m, .int .i64 0, .int .i64 0]) rfl).setc 2 (.int .i64 s) (cs' := #[.int .i64 h, .int .i64 m, .int .i64 s, .int .i64 0]) rfl).setc 3 (.int .i64 n) (cs' := #[.int .i64 h, .int .i64 m, .int .i64 s, .int .i64 n]) rfl
  have b6N := ((((b6).other (b := k5) (by omega) 0 (.int .i64 h)).other (b := k5) (by omega) 1 (.int .i64 m)).other (b := k5) (by omega) 2 (.int .i64 s)).other (b := k5) (by omega) 3 (.int .i64 n)
  replace xw := Ext.set (Ext.set (Ext.set (Ext.set (xw) (k := k5) (o := 0) (u := .int .i64 h) (by omega)) (k := k5) (o := 1) (u := .int .i64 m) (by omega)) (k := k5) (o := 2) (u := .int .i64 s) (by omega)) (k := k5) (o := 3) (u := .int .i64 n) (by omega)
  replace b2 := b2N; clear b2N
  replace b3 := b3N; clear b3N
  replace b5 := b5N; clear b5N
  replace b6 := b6N; clear b6N
  have b6_c0 := b6.c 0 (v := .int .i64 0) rfl
  have b6_c1 := b6.c 1 (v := .int .i64 0) rfl
  have b6_c2 := b6.c 2 (v := .int .i64 0) rfl
  have b6_c3 := b6.c 3 (v := .int .i64 0) rfl
  have b6_f0 := b6.f 0
  have b6_f1 := b6.f 1
  have b6_f2 := b6.f 2
  have b6_f3 := b6.f 3
  refine wpOp_of rfl fun K' hK => ?_
  go_simp
  clear b6_c0 b6_c1 b6_c2 b6_c3 b6_f0 b6_f1 b6_f2 b6_f3
  replace hT := Ext.set hT (k := k6) (o := 0) (u := .int .i64 h') k6a
  replace hT := Ext.set hT (k := k6) (o := 1) (u := .int .i64 m') k6a
  replace hT := Ext.set hT (k := k6) (o := 2) (u := .int .i64 s') k6a
  replace hT := Ext.set hT (k := k6) (o := 3) (u := .int .i64 n') k6a
  refine hK _ _ ⟨hT, ?_⟩
  clear hK K'
  have b2N := ((((b2).other (b := k6) (by omega) 0 (.int .i64 h')).other (b := k6) (by omega) 1 (.int .i64 m')).other (b := k6) (by omega) 2 (.int .i64 s')).other (b := k6) (by omega) 3 (.int .i64 n')
  have b3N := ((((b3).other (b := k6) (by omega) 0 (.int .i64 h')).other (b := k6) (by omega) 1 (.int .i64 m')).other (b := k6) (by omega) 2 (.int .i64 s')).other (b := k6) (by omega) 3 (.int .i64 n')
  have b5N := ((((b5).other (b := k6) (by omega) 0 (.int .i64 h')).other (b := k6) (by omega) 1 (.int .i64 m')).other (b := k6) (by omega) 2 (.int .i64 s')).other (b := k6) (by omega) 3 (.int .i64 n')
  have b6N := ((((b6).setc 0 (.int .i64 h') (cs' := #[.int .i64 h', .int .i64 0, .int .i64 0, .int .i64 0]) rfl).setc 1 (.int .i64 m') (cs' := #[.int .i64 h', .int .i64 m', .int .i64 0, .int .i64 0]) rfl).setc 2 (.int .i64 s') (cs' := #[.int .i64 h', .int .i64 m', .int .i64 s', .int .i64 0]) rfl).setc 3 (.int .i64 n') (cs' := #[.int .i64 h', .int .i64 m', .int .i64 s', .int .i64 n']) rfl
  replace xw := Ext.set (Ext.set (Ext.set (Ext.set (xw) (k := k6) (o := 0) (u := .int .i64 h') (by omega)) (k := k6) (o := 1) (u := .int .i64 m') (by omega)) (k := k6) (o := 2) (u := .int .i64 s') (by omega)) (k := k6) (o := 3) (u := .int .i64 n') (by omega)
  replace b2 := b2N; clear b2N
  replace b3 := b3N; clear b3N
  replace b5 := b5N; clear b5N
  replace b6 := b6N; clear b6N
  refine NoPanic.normal ?_
  clear hT hS' y0 hHeld
  go_upto_region 2 with fail
  refine wp_name ?_
  intro V10 hV
  rw [← hV] at b2 b3 b5 b6 xw
  clear hV
  go_wp2_with fail
  clear b2 b3
  go_loopw [13] (fun s13 wr => ∃ (k : Nat), k ≤ 4 ∧ s13 = .int .i64 k ∧ pre4e k h m s n h' m' s' n' ∧ Bx wr k5 #[.int .i64 h, .int .i64 m, .int .i64 s, .int .i64 n] 144 ∧ Bx wr k6 #[.int .i64 h', .int .i64 m', .int .i64 s', .int .i64 n'] 144 ∧ Ext w wr) (fun s13 _ => 4 - (intOf s13).toNat)
  case atStart => exact ⟨0, by omega, rfl, ⟨by omega, by omega, by omega, by omega⟩, b5, b6, xw⟩
  case round =>
    clear b5 b6 xw
    obtain ⟨k, hk, rfl, hp, b5, b6, xw⟩ := hrel
    refine wp_name ?_
    intro Wr11 hV
    subst hV
    have hk3 : k = 0 ∨ k = 1 ∨ k = 2 ∨ k = 3 ∨ k = 4 := by omega
    clear hk
    rcases hk3 with rfl | rfl | rfl | rfl | rfl
    · by_cases he : h = h'
      · have g1 : (cmpI h h' == 0) = true := by rw [he]; exact cmpI_same _
        have hp2 := Lib.hid (show pre4e 1 h m s n h' m' s' n' by unfold pre4e at *; omega)
        clear he hp
        go_upto_region 5 with fail
        have b5_c0 := b5.c 0 (v := .int .i64 h) rfl
        have b5_c1 := b5.c 1 (v := .int .i64 m) rfl
        have b5_c2 := b5.c 2 (v := .int .i64 s) rfl
        have b5_c3 := b5.c 3 (v := .int .i64 n) rfl
        have b6_c0 := b6.c 0 (v := .int .i64 h') rfl
        have b6_c1 := b6.c 1 (v := .int .i64 m') rfl
        have b6_c2 := b6.c 2 (v := .int .i64 s') rfl
        have b6_c3 := b6.c 3 (v := .int .i64 n') rfl
        go_quiet ((go_at_call 116; exact Calls.quiet_of_same (ccompare _ _ _)))
        clear b5_c0 b5_c1 b5_c2 b5_c3 b6_c0 b6_c1 b6_c2 b6_c3
        go_upto_region 6 with fail
        refine wp_name ?_
        intro V12 hV
        have b5N : Bx V12 k5 #[.int .i64 h, .int .i64 m, .int .i64 s, .int .i64 n] 144 := by rw [hV]; exact (b5).drewN _
        have b6N : Bx V12 k6 #[.int .i64 h', .int .i64 m', .int .i64 s', .int .i64 n'] 144 := by rw [hV]; exact (b6).drewN _
        replace xw : Ext w V12 := by rw [hV]; exact Ext.drewN (xw)
        replace b5 := b5N; clear b5N
        replace b6 := b6N; clear b6N
        clear hV
        go_wp2_with fail
        go_roundw
        case rel => exact ⟨1, by omega, by go_num, hp2.out, b5, b6, xw⟩
        case measure => simp [intOf] <;> omega
      · have g1 : (cmpI h h' == 0) = false := cmpI_no he
        have HD := Lib.hid (cmp4_at0 (m := m) (s := s) (n := n) (m' := m') (s' := s') (n' := n') he)
        clear he hp
        go_upto_region 5 with fail
        have b5_c0 := b5.c 0 (v := .int .i64 h) rfl
        have b5_c1 := b5.c 1 (v := .int .i64 m) rfl
        have b5_c2 := b5.c 2 (v := .int .i64 s) rfl
        have b5_c3 := b5.c 3 (v := .int .i64 n) rfl
        have b6_c0 := b6.c 0 (v := .int .i64 h') rfl
        have b6_c1 := b6.c 1 (v := .int .i64 m') rfl
        have b6_c2 := b6.c 2 (v := .int .i64 s') rfl
        have b6_c3 := b6.c 3 (v := .int .i64 n') rfl
        go_quiet ((go_at_call 116; exact Calls.quiet_of_same (ccompare _ _ _)))
        clear b5_c0 b5_c1 b5_c2 b5_c3 b6_c0 b6_c1 b6_c2 b6_c3
        go_upto_region 6 with fail
        refine wp_name ?_
        intro V13 hV
        have b5N : Bx V13 k5 #[.int .i64 h, .int .i64 m, .int .i64 s, .int .i64 n] 144 := by rw [hV]; exact (b5).drewN _
        have b6N : Bx V13 k6 #[.int .i64 h', .int .i64 m', .int .i64 s', .int .i64 n'] 144 := by rw [hV]; exact (b6).drewN _
        replace xw : Ext w V13 := by rw [hV]; exact Ext.drewN (xw)
        replace b5 := b5N; clear b5N
        replace b6 := b6N; clear b6N
        clear hV
        go_upto_region 7 with fail
        have xr := xw
        go_wp2_with fail
        refine bodyPost_ret (v := .int .i64 (cmpI h h')) (by simp [results, Try.results29, go_sem]) rfl ⟨by rw [HD.out], xr⟩
    · by_cases he : m = m'
      · have g1 : (cmpI m m' == 0) = true := by rw [he]; exact cmpI_same _
        have hp2 := Lib.hid (show pre4e 2 h m s n h' m' s' n' by unfold pre4e at *; omega)
        clear he hp
        go_upto_region 5 with fail
        have b5_c0 := b5.c 0 (v := .int .i64 h) rfl
        have b5_c1 := b5.c 1 (v := .int .i64 m) rfl
        have b5_c2 := b5.c 2 (v := .int .i64 s) rfl
        have b5_c3 := b5.c 3 (v := .int .i64 n) rfl
        have b6_c0 := b6.c 0 (v := .int .i64 h') rfl
        have b6_c1 := b6.c 1 (v := .int .i64 m') rfl
        have b6_c2 := b6.c 2 (v := .int .i64 s') rfl
        have b6_c3 := b6.c 3 (v := .int .i64 n') rfl
        go_quiet ((go_at_call 116; exact Calls.quiet_of_same (ccompare _ _ _)))
        clear b5_c0 b5_c1 b5_c2 b5_c3 b6_c0 b6_c1 b6_c2 b6_c3
        go_upto_region 6 with fail
        refine wp_name ?_
        intro V14 hV
        have b5N : Bx V14 k5 #[.int .i64 h, .int .i64 m, .int .i64 s, .int .i64 n] 144 := by rw [hV]; exact (b5).drewN _
        have b6N : Bx V14 k6 #[.int .i64 h', .int .i64 m', .int .i64 s', .int .i64 n'] 144 := by rw [hV]; exact (b6).drewN _
        replace xw : Ext w V14 := by rw [hV]; exact Ext.drewN (xw)
        replace b5 := b5N; clear b5N
        replace b6 := b6N; clear b6N
        clear hV
        go_wp2_with fail
        go_roundw
        case rel => exact ⟨2, by omega, by go_num, hp2.out, b5, b6, xw⟩
        case measure => simp [intOf] <;> omega
      · have g1 : (cmpI m m' == 0) = false := cmpI_no he
        have HD := Lib.hid (cmp4_at1 hp he)
        clear he hp
        go_upto_region 5 with fail
        have b5_c0 := b5.c 0 (v := .int .i64 h) rfl
        have b5_c1 := b5.c 1 (v := .int .i64 m) rfl
        have b5_c2 := b5.c 2 (v := .int .i64 s) rfl
        have b5_c3 := b5.c 3 (v := .int .i64 n) rfl
        have b6_c0 := b6.c 0 (v := .int .i64 h') rfl
        have b6_c1 := b6.c 1 (v := .int .i64 m') rfl
        have b6_c2 := b6.c 2 (v := .int .i64 s') rfl
        have b6_c3 := b6.c 3 (v := .int .i64 n') rfl
        go_quiet ((go_at_call 116; exact Calls.quiet_of_same (ccompare _ _ _)))
        clear b5_c0 b5_c1 b5_c2 b5_c3 b6_c0 b6_c1 b6_c2 b6_c3
        go_upto_region 6 with fail
        refine wp_name ?_
        intro V15 hV
        have b5N : Bx V15 k5 #[.int .i64 h, .int .i64 m, .int .i64 s, .int .i64 n] 144 := by rw [hV]; exact (b5).drewN _
        have b6N : Bx V15 k6 #[.int .i64 h', .int .i64 m', .int .i64 s', .int .i64 n'] 144 := by rw [hV]; exact (b6).drewN _
        replace xw : Ext w V15 := by rw [hV]; exact Ext.drewN (xw)
        replace b5 := b5N; clear b5N
        replace b6 := b6N; clear b6N
        clear hV
        go_upto_region 7 with fail
        have xr := xw
        go_wp2_with fail
        refine bodyPost_ret (v := .int .i64 (cmpI m m')) (by simp [results, Try.results29, go_sem]) rfl ⟨by rw [HD.out], xr⟩
    · by_cases he : s = s'
      · have g1 : (cmpI s s' == 0) = true := by rw [he]; exact cmpI_same _
        have hp2 := Lib.hid (show pre4e 3 h m s n h' m' s' n' by unfold pre4e at *; omega)
        clear he hp
        go_upto_region 5 with fail
        have b5_c0 := b5.c 0 (v := .int .i64 h) rfl
        have b5_c1 := b5.c 1 (v := .int .i64 m) rfl
        have b5_c2 := b5.c 2 (v := .int .i64 s) rfl
        have b5_c3 := b5.c 3 (v := .int .i64 n) rfl
        have b6_c0 := b6.c 0 (v := .int .i64 h') rfl
        have b6_c1 := b6.c 1 (v := .int .i64 m') rfl
        have b6_c2 := b6.c 2 (v := .int .i64 s') rfl
        have b6_c3 := b6.c 3 (v := .int .i64 n') rfl
        go_quiet ((go_at_call 116; exact Calls.quiet_of_same (ccompare _ _ _)))
        clear b5_c0 b5_c1 b5_c2 b5_c3 b6_c0 b6_c1 b6_c2 b6_c3
        go_upto_region 6 with fail
        refine wp_name ?_
        intro V16 hV
        have b5N : Bx V16 k5 #[.int .i64 h, .int .i64 m, .int .i64 s, .int .i64 n] 144 := by rw [hV]; exact (b5).drewN _
        have b6N : Bx V16 k6 #[.int .i64 h', .int .i64 m', .int .i64 s', .int .i64 n'] 144 := by rw [hV]; exact (b6).drewN _
        replace xw : Ext w V16 := by rw [hV]; exact Ext.drewN (xw)
        replace b5 := b5N; clear b5N
        replace b6 := b6N; clear b6N
        clear hV
        go_wp2_with fail
        go_roundw
        case rel => exact ⟨3, by omega, by go_num, hp2.out, b5, b6, xw⟩
        case measure => simp [intOf] <;> omega
      · have g1 : (cmpI s s' == 0) = false := cmpI_no he
        have HD := Lib.hid (cmp4_at2 hp he)
        clear he hp
        go_upto_region 5 with fail
        have b5_c0 := b5.c 0 (v := .int .i64 h) rfl
        have b5_c1 := b5.c 1 (v := .int .i64 m) rfl
        have b5_c2 := b5.c 2 (v := .int .i64 s) rfl
        have b5_c3 := b5.c 3 (v := .int .i64 n) rfl
        have b6_c0 := b6.c 0 (v := .int .i64 h') rfl
        have b6_c1 := b6.c 1 (v := .int .i64 m') rfl
        have b6_c2 := b6.c 2 (v := .int .i64 s') rfl
        have b6_c3 := b6.c 3 (v := .int .i64 n') rfl
        go_quiet ((go_at_call 116; exact Calls.quiet_of_same (ccompare _ _ _)))
        clear b5_c0 b5_c1 b5_c2 b5_c3 b6_c0 b6_c1 b6_c2 b6_c3
        go_upto_region 6 with fail
        refine wp_name ?_
        intro V17 hV
        have b5N : Bx V17 k5 #[.int .i64 h, .int .i64 m, .int .i64 s, .int .i64 n] 144 := by rw [hV]; exact (b5).drewN _
        have b6N : Bx V17 k6 #[.int .i64 h', .int .i64 m', .int .i64 s', .int .i64 n'] 144 := by rw [hV]; exact (b6).drewN _
        replace xw : Ext w V17 := by rw [hV]; exact Ext.drewN (xw)
        replace b5 := b5N; clear b5N
        replace b6 := b6N; clear b6N
        clear hV
        go_upto_region 7 with fail
        have xr := xw
        go_wp2_with fail
        refine bodyPost_ret (v := .int .i64 (cmpI s s')) (by simp [results, Try.results29, go_sem]) rfl ⟨by rw [HD.out], xr⟩
    · by_cases he : n = n'
      · have g1 : (cmpI n n' == 0) = true := by rw [he]; exact cmpI_same _
        have hp2 := Lib.hid (show pre4e 4 h m s n h' m' s' n' by unfold pre4e at *; omega)
        clear he hp
        go_upto_region 5 with fail
        have b5_c0 := b5.c 0 (v := .int .i64 h) rfl
        have b5_c1 := b5.c 1 (v := .int .i64 m) rfl
        have b5_c2 := b5.c 2 (v := .int .i64 s) rfl
        have b5_c3 := b5.c 3 (v := .int .i64 n) rfl
        have b6_c0 := b6.c 0 (v := .int .i64 h') rfl
        have b6_c1 := b6.c 1 (v := .int .i64 m') rfl
        have b6_c2 := b6.c 2 (v := .int .i64 s') rfl
        have b6_c3 := b6.c 3 (v := .int .i64 n') rfl
        go_quiet ((go_at_call 116; exact Calls.quiet_of_same (ccompare _ _ _)))
        clear b5_c0 b5_c1 b5_c2 b5_c3 b6_c0 b6_c1 b6_c2 b6_c3
        go_upto_region 6 with fail
        refine wp_name ?_
        intro V18 hV
        have b5N : Bx V18 k5 #[.int .i64 h, .int .i64 m, .int .i64 s, .int .i64 n] 144 := by rw [hV]; exact (b5).drewN _
        have b6N : Bx V18 k6 #[.int .i64 h', .int .i64 m', .int .i64 s', .int .i64 n'] 144 := by rw [hV]; exact (b6).drewN _
        replace xw : Ext w V18 := by rw [hV]; exact Ext.drewN (xw)
        replace b5 := b5N; clear b5N
        replace b6 := b6N; clear b6N
        clear hV
        go_wp2_with fail
        go_roundw
        case rel => exact ⟨4, by omega, by go_num, hp2.out, b5, b6, xw⟩
        case measure => simp [intOf] <;> omega
      · have g1 : (cmpI n n' == 0) = false := cmpI_no he
        have HD := Lib.hid (cmp4_at3 hp)
        clear he hp
        go_upto_region 5 with fail
        have b5_c0 := b5.c 0 (v := .int .i64 h) rfl
        have b5_c1 := b5.c 1 (v := .int .i64 m) rfl
        have b5_c2 := b5.c 2 (v := .int .i64 s) rfl
        have b5_c3 := b5.c 3 (v := .int .i64 n) rfl
        have b6_c0 := b6.c 0 (v := .int .i64 h') rfl
        have b6_c1 := b6.c 1 (v := .int .i64 m') rfl
        have b6_c2 := b6.c 2 (v := .int .i64 s') rfl
        have b6_c3 := b6.c 3 (v := .int .i64 n') rfl
        go_quiet ((go_at_call 116; exact Calls.quiet_of_same (ccompare _ _ _)))
        clear b5_c0 b5_c1 b5_c2 b5_c3 b6_c0 b6_c1 b6_c2 b6_c3
        go_upto_region 6 with fail
        refine wp_name ?_
        intro V19 hV
        have b5N : Bx V19 k5 #[.int .i64 h, .int .i64 m, .int .i64 s, .int .i64 n] 144 := by rw [hV]; exact (b5).drewN _
        have b6N : Bx V19 k6 #[.int .i64 h', .int .i64 m', .int .i64 s', .int .i64 n'] 144 := by rw [hV]; exact (b6).drewN _
        replace xw : Ext w V19 := by rw [hV]; exact Ext.drewN (xw)
        replace b5 := b5N; clear b5N
        replace b6 := b6N; clear b6N
        clear hV
        go_upto_region 7 with fail
        have xr := xw
        go_wp2_with fail
        refine bodyPost_ret (v := .int .i64 (cmpI n n')) (by simp [results, Try.results29, go_sem]) rfl ⟨by rw [HD.out], xr⟩
    · have HD := Lib.hid (cmp4_at4 hp)
      clear hp
      go_upto_region 9 with fail
      have xr := xw
      go_wp2_with fail
      refine bodyPost_ret (v := .int .i64 0) (by simp [results, Try.results29, go_sem]) rfl ⟨by rw [← HD.out], xr⟩
end Go.Proofs.Ytcndfpfjckkinaa
