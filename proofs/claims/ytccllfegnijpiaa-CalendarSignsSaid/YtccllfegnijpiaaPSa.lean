/-
  Texts joined: Ew, Ent, Bx, Ckf, Pla, Dur, Crd, Plc, Dud, Duz, Csp, Csg, Csg2, Csl. Each says at its head what it shows.
-/
import Derived.IntWalk
import Derived.Test.YtccllfegnijpiaaProg
import Derived.Test.YtccllfegnijpiaaPCe
section
/-
  The reckoner of walks, for this program: contracts, and the steps of a walk over facts on the reference's numbers.
-/
set_option linter.unusedVariables false
namespace Go.Proofs.Ytccllfegnijpiaa
open Go Go.RowKit Go.Ev

section
variable {f0 : FuncId} {E : List TypeId} {w0 : World} {R : Ending → World → Prop} {L : ZL} {G : World → Prop} {c : Cf}
/-! loops -/
/-! rows of the call's own -/
theorem st_rowB {f : FuncId} {args vs : List Value} {T : TypeId} {n : Nat} (he : Enters Try.prog f) (h : FnB f args vs T n) (hc : callAt (adv Try.prog E 9999 400 c) = some (f, args.map .val))
    (hk : Ru ⟨Try.prog, f0, E, w0, R⟩ (ZAll L) (resumeB (adv Try.prog E 9999 400 c) ⟨vs.map .val, T⟩ n)) : Ru ⟨Try.prog, f0, E, w0, R⟩ (ZAll L) c := by
  refine ⟨run_adv mixed (run_callB hc he ⟨vs.map .val, T⟩ n (fun r N w us ha hbl hG => ?_) hk.h)⟩
  rw [args_vals ha]
  refine (h w).mono fun e w' ⟨k, h1, h2, h3, h4⟩ => ⟨k, _, h1, h2, h3, ?_, h4⟩
  have := cellsOk_vals (r := r) (N := N) vs.toArray
  simpa using this
end
end Go.Proofs.Ytccllfegnijpiaa
end
section
/-
  Every function of the program is entered when it is called.
-/
namespace Go.Proofs.Ytccllfegnijpiaa
open Go Go.Ev
theorem ent96 : Enters Try.prog 96 := enters_of Try.func96 (by kernel_rfl) rfl
theorem ent33 : Enters Try.prog 33 := enters_of Try.func33 (by kernel_rfl) rfl
theorem ent34 : Enters Try.prog 34 := enters_of Try.func34 (by kernel_rfl) rfl
theorem ent35 : Enters Try.prog 35 := enters_of Try.func35 (by kernel_rfl) rfl
end Go.Proofs.Ytccllfegnijpiaa
end
section
/-
  A block known whole, of however many cells: what it holds, over calls, makings and stores.
-/
namespace Go.Proofs.Ytccllfegnijpiaa
open Go Go.RowKit

theorem Bx.setc {w : World} {k : Nat} {cs : Array Value} {t : TypeId} (h : Bx w k cs t) (i : Nat) (u : Value) {cs' : Array Value} (e : cs.setIfInBounds i u = cs') : Bx (w.setCell ⟨k, i, none⟩ u) k cs' t := by
  have h1 := Joins.block_setCell (i := i) h u
  rw [← e]; exact h1
end Go.Proofs.Ytccllfegnijpiaa
end
section
/-
  clock.Cmp.
-/
set_option linter.unusedSimpArgs false
set_option linter.unusedVariables false
namespace Go.Proofs.Ytccllfegnijpiaa
open Go Go.RowKit

def cmp4 (h m s n h' m' s' n' : Int) : Int := if h = h' then (if m = m' then (if s = s' then cmpI n n' else cmpI s s') else cmpI m m') else cmpI h h'
def pre4e (k : Nat) (h m s n h' m' s' n' : Int) : Prop := (0 < k → h = h') ∧ (1 < k → m = m') ∧ (2 < k → s = s') ∧ (3 < k → n = n')
theorem cmpI_no {a b : Int} (h : ¬ a = b) : (cmpI a b == 0) = false := by
  simp only [beq_eq_false_iff_ne, ne_eq]; unfold cmpI
  by_cases h1 : a < b
  · simp [h1]
  · simp [h1, h]
theorem cmpI_same (a : Int) : (cmpI a a == 0) = true := by simp [cmpI]
theorem cmp4_at0 {h m s n h' m' s' n' : Int} (e : ¬ h = h') : cmpI h h' = cmp4 h m s n h' m' s' n' := by unfold cmp4; rw [if_neg e]
theorem cmp4_at1 {h m s n h' m' s' n' : Int} (p : pre4e 1 h m s n h' m' s' n') (e : ¬ m = m') : cmpI m m' = cmp4 h m s n h' m' s' n' := by unfold cmp4; rw [if_pos (p.1 (by omega)), if_neg e]
theorem cmp4_at2 {h m s n h' m' s' n' : Int} (p : pre4e 2 h m s n h' m' s' n') (e : ¬ s = s') : cmpI s s' = cmp4 h m s n h' m' s' n' := by unfold cmp4; rw [if_pos (p.1 (by omega)), if_pos (p.2.1 (by omega)), if_neg e]
theorem cmp4_at3 {h m s n h' m' s' n' : Int} (p : pre4e 3 h m s n h' m' s' n') : cmpI n n' = cmp4 h m s n h' m' s' n' := by unfold cmp4; rw [if_pos (p.1 (by omega)), if_pos (p.2.1 (by omega)), if_pos (p.2.2.1 (by omega))]
theorem cmp4_at4 {h m s n h' m' s' n' : Int} (p : pre4e 4 h m s n h' m' s' n') : 0 = cmp4 h m s n h' m' s' n' := by unfold cmp4; rw [if_pos (p.1 (by omega)), if_pos (p.2.1 (by omega)), if_pos (p.2.2.1 (by omega)), p.2.2.2 (by omega)]; simp [cmpI]
theorem cmp4_nan {h m s n h' m' s' n' : Int} (k : tOk h m s n) (k' : tOk h' m' s' n') : cmp4 h m s n h' m' s' n' = cmpI (tnan h m s n) (tnan h' m' s' n') := by
  unfold tOk at k k'
  unfold cmp4 tnan
  by_cases e1 : h = h'
  · rw [if_pos e1]
    by_cases e2 : m = m'
    · rw [if_pos e2]
      by_cases e3 : s = s'
      · rw [if_pos e3]; exact cmpI_congr (by omega) (by omega)
      · rw [if_neg e3]; exact cmpI_congr (by omega) (by omega)
    · rw [if_neg e2]; exact cmpI_congr (by omega) (by omega)
  · rw [if_neg e1]; exact cmpI_congr (by omega) (by omega)
set_option maxRecDepth 100000 in
set_option maxHeartbeats 3200000 in
theorem cCmp (h m s n h' m' s' n' : Int) (w : World) :
    Calls Try.prog 96 #[.agg #[.int .i64 h, .int .i64 m, .int .i64 s, .int .i64 n], .agg #[.int .i64 h', .int .i64 m', .int .i64 s', .int .i64 n']] w (fun e w' => e = .returned (.int .i64 (cmp4 h m s n h' m' s' n')) ∧ Ext w w') := by
  have HF := Lib.hid cfields
  go_enter Try.func96, Try.ntmps96
  go_upto_region 1 with fail
  have xw := Ext.refl w
  refine wp_name ?_
  intro V1 hV
  replace xw : Ext w V1 := by rw [hV]; exact Ext.alloc (Ext.alloc (xw))
  have b2 : Bx V1 w.heap.size #[.int .i64 h, .int .i64 m, .int .i64 s, .int .i64 n] 52 := by rw [hV]; exact (Bx.new rfl).alloc _
  have b3 : Bx V1 (w.heap.size + 1) #[.int .i64 h', .int .i64 m', .int .i64 s', .int .i64 n'] 52 := by rw [hV]; exact Bx.new (by simp)
  clear hV
  refine wp_region_noPanic ?_
  refine wp_region_held_drew (S := fun w' => Ext V1 w') (by kernel_rfl) (Ext.refl V1).drew (fun hHeld => ?_)
  have b2_d0 := fun w' (hh : Ext V1 w') => (b2.ext hh).c 0 (v := .int .i64 h) rfl
  have b2_d1 := fun w' (hh : Ext V1 w') => (b2.ext hh).c 1 (v := .int .i64 m) rfl
  have b2_d2 := fun w' (hh : Ext V1 w') => (b2.ext hh).c 2 (v := .int .i64 s) rfl
  have b2_d3 := fun w' (hh : Ext V1 w') => (b2.ext hh).c 3 (v := .int .i64 n) rfl
  have b3_d0 := fun w' (hh : Ext V1 w') => (b3.ext hh).c 0 (v := .int .i64 h') rfl
  have b3_d1 := fun w' (hh : Ext V1 w') => (b3.ext hh).c 1 (v := .int .i64 m') rfl
  have b3_d2 := fun w' (hh : Ext V1 w') => (b3.ext hh).c 2 (v := .int .i64 s') rfl
  have b3_d3 := fun w' (hh : Ext V1 w') => (b3.ext hh).c 3 (v := .int .i64 n') rfl
  refine wpAnyH_take (i := 0) (v := .agg #[.int .i64 h, .int .i64 m, .int .i64 s, .int .i64 n]) rfl (by kernel_rfl) (by kernel_rfl) (by kernel_rfl) (fun _ _ _ h => h) (Or.inl ⟨by kernel_rfl, fun w' h => (by go_simp)⟩) hHeld ?_
  refine wpAnyH_take (i := 2) (v := .agg #[.int .i64 h', .int .i64 m', .int .i64 s', .int .i64 n']) rfl (by kernel_rfl) (by kernel_rfl) (by kernel_rfl) (fun _ _ _ h => h) (Or.inl ⟨by kernel_rfl, fun w' h => (by go_simp)⟩) hHeld ?_
  refine region2 (N := 8) (f0 := [0, 2]) (l := [(1, false), (3, false)]) (T := [6, 7]) (iA := 4) (dA := 5) (iB := 5) (dB := 6) (oA := .cells #[.int .i64 0, .int .i64 0, .int .i64 0, .int .i64 0] 178) (oB := .cells #[.int .i64 0, .int .i64 0, .int .i64 0, .int .i64 0] 178) (fun _ _ _ _ _ h => h) (by kernel_rfl) (by kernel_rfl) rfl (by kernel_rfl) (by kernel_rfl)
    (fun K a w h => wpOp_of rfl fun K' hK => (by go_simp; exact hK _ _ h)) (fun K a w h => wpOp_of rfl fun K' hK => (by go_simp; exact hK _ _ h)) (by decide) (by simp [Act.put]) (by simp [Act.put]) (fun _ _ h x => h.trans x) hHeld ?_
  have y0 : Ext V1 V1.drew := (Ext.refl V1).drew
  intro a1 v2 haw yv2
  obtain ⟨s12, s22, rfl⟩ := away2 haw; refine wpOp_of rfl fun K' hK => ?_; go_simp
  replace y0 := Ext.trans y0 yv2
  refine (HF.out h m s n _).mono ?_
  rintro e w3 ⟨rfl, x3⟩
  refine hK _ _ ⟨⟨x3, rfl, slots2 rfl rfl⟩, ?_⟩; clear hK K'
  replace y0 := Ext.trans y0 x3
  intro a1 v4 haw yv4
  obtain ⟨s14, s24, rfl⟩ := away2 haw; refine wpOp_of rfl fun K' hK => ?_; go_simp
  replace y0 := Ext.trans y0 yv4
  refine (HF.out h' m' s' n' _).mono ?_
  rintro e w5 ⟨rfl, x5⟩
  refine hK _ _ ⟨⟨x5, rfl, slots2 rfl rfl⟩, ?_⟩; clear hK K'
  replace y0 := Ext.trans y0 x5
  intro a' v6 haw yv6
  obtain ⟨s16, s26, rfl⟩ := away2 haw
  rintro k5 k6 ⟨k5a, k5b, k5c⟩ ⟨k6a, k6b, k6c⟩ k5ne hS'
  replace y0 := Ext.trans y0 yv6
  simp [Act.put] at k5b; subst k5b; replace k5a : V1.heap.size ≤ k5 := k5a
  simp [Act.put] at k6b; subst k6b; replace k6a : V1.heap.size ≤ k6 := k6a
  clear b2_d0 b2_d1 b2_d2 b2_d3 b3_d0 b3_d1 b3_d2 b3_d3
  have o7 := b2.kind.lt
  have o8 := b3.kind.lt
  have o9 := xw.size
  replace b2 := b2.ext y0
  replace b3 := b3.ext y0
  replace xw := Ext.trans xw y0
  have b5 : Bx v6 k5 #[.int .i64 0, .int .i64 0, .int .i64 0, .int .i64 0] 178 := k5c
  clear k5c
  have b6 : Bx v6 k6 #[.int .i64 0, .int .i64 0, .int .i64 0, .int .i64 0] 178 := k6c
  clear k6c
  have hT : Ext V1 v6 := hS'
  have b5_c0 := b5.c 0 (v := .int .i64 0) rfl
  have b5_c1 := b5.c 1 (v := .int .i64 0) rfl
  have b5_c2 := b5.c 2 (v := .int .i64 0) rfl
  have b5_c3 := b5.c 3 (v := .int .i64 0) rfl
  have b5_f0 := b5.f 0
  have b5_f1 := b5.f 1
  have b5_f2 := b5.f 2
  have b5_f3 := b5.f 3
  refine wpOp_of rfl fun K' hK => ?_
  go_simp
  clear b5_c0 b5_c1 b5_c2 b5_c3 b5_f0 b5_f1 b5_f2 b5_f3
  replace hT := Ext.set hT (k := k5) (o := 0) (u := .int .i64 h) k5a
  replace hT := Ext.set hT (k := k5) (o := 1) (u := .int .i64 m) k5a
  replace hT := Ext.set hT (k := k5) (o := 2) (u := .int .i64 s) k5a
  replace hT := Ext.set hT (k := k5) (o := 3) (u := .int .i64 n) k5a
  refine hK _ _ ⟨hT, ?_⟩
  clear hK K'
  have b2N := ((((b2).other (b := k5) (by omega) 0 (.int .i64 h)).other (b := k5) (by omega) 1 (.int .i64 m)).other (b := k5) (by omega) 2 (.int .i64 s)).other (b := k5) (by omega) 3 (.int .i64 n)
  have b3N := ((((b3).other (b := k5) (by omega) 0 (.int .i64 h)).other (b := k5) (by omega) 1 (.int .i64 m)).other (b := k5) (by omega) 2 (.int .i64 s)).other (b := k5) (by omega) 3 (.int .i64 n)
  have b5N := ((((b5).setc 0 (.int .i64 h) (cs' := #[.int .i64 h, .int .i64 0, .int .i64 0, .int .i64 0]) rfl).setc 1 (.int .i64 m) (cs' := #[.int .i64 h, .int .i64 m, .int .i64 0, .int .i64 0]) rfl).setc 2 (.int .i64 s) (cs' := #[.int .i64 h, .int .i64 m, .int .i64 s, .int .i64 0]) rfl).setc 3 (.int .i64 n) (cs' := #[.int .i64 h, .int .i64 m, .int .i64 s, .int .i64 n]) rfl
  have b6N := ((((b6).other (b := k5) (by omega) 0 (.int .i64 h)).other (b := k5) (by omega) 1 (.int .i64 m)).other (b := k5) (by omega) 2 (.int .i64 s)).other (b := k5) (by omega) 3 (.int .i64 n)
  replace xw := Ext.set (Ext.set (Ext.set (Ext.set (xw) (k := k5) (o := 0) (u := .int .i64 h) (by omega)) (k := k5) (o := 1) (u := .int .i64 m) (by omega)) (k := k5) (o := 2) (u := .int .i64 s) (by omega)) (k := k5) (o := 3) (u := .int .i64 n) (by omega)
  replace b2 := b2N; clear b2N
  replace b3 := b3N; clear b3N
  replace b5 := b5N; clear b5N
  replace b6 := b6N; clear b6N
  have b6_c0 := b6.c 0 (v := .int .i64 0) rfl
  have b6_c1 := b6.c 1 (v := .int .i64 0) rfl
  have b6_c2 := b6.c 2 (v := .int .i64 0) rfl
  have b6_c3 := b6.c 3 (v := .int .i64 0) rfl
  have b6_f0 := b6.f 0
  have b6_f1 := b6.f 1
  have b6_f2 := b6.f 2
  have b6_f3 := b6.f 3
  refine wpOp_of rfl fun K' hK => ?_
  go_simp
  clear b6_c0 b6_c1 b6_c2 b6_c3 b6_f0 b6_f1 b6_f2 b6_f3
  replace hT := Ext.set hT (k := k6) (o := 0) (u := .int .i64 h') k6a
  replace hT := Ext.set hT (k := k6) (o := 1) (u := .int .i64 m') k6a
  replace hT := Ext.set hT (k := k6) (o := 2) (u := .int .i64 s') k6a
  replace hT := Ext.set hT (k := k6) (o := 3) (u := .int .i64 n') k6a
  refine hK _ _ ⟨hT, ?_⟩
  clear hK K'
  have b2N := ((((b2).other (b := k6) (by omega) 0 (.int .i64 h')).other (b := k6) (by omega) 1 (.int .i64 m')).other (b := k6) (by omega) 2 (.int .i64 s')).other (b := k6) (by omega) 3 (.int .i64 n')
  have b3N := ((((b3).other (b := k6) (by omega) 0 (.int .i64 h')).other (b := k6) (by omega) 1 (.int .i64 m')).other (b := k6) (by omega) 2 (.int .i64 s')).other (b := k6) (by omega) 3 (.int .i64 n')
  have b5N := ((((b5).other (b := k6) (by omega) 0 (.int .i64 h')).other (b := k6) (by omega) 1 (.int .i64 m')).other (b := k6) (by omega) 2 (.int .i64 s')).other (b := k6) (by omega) 3 (.int .i64 n')
  have b6N := ((((b6).setc 0 (.int .i64 h') (cs' := #[.int .i64 h', .int .i64 0, .int .i64 0, .int .i64 0]) rfl).setc 1 (.int .i64 m') (cs' := #[.int .i64 h', .int .i64 m', .int .i64 0, .int .i64 0]) rfl).setc 2 (.int .i64 s') (cs' := #[.int .i64 h', .int .i64 m', .int .i64 s', .int .i64 0]) rfl).setc 3 (.int .i64 n') (cs' := #[.int .i64 h', .int .i64 m', .int .i64 s', .int .i64 n']) rfl
  replace xw := Ext.set (Ext.set (Ext.set (Ext.set (xw) (k := k6) (o := 0) (u := .int .i64 h') (by omega)) (k := k6) (o := 1) (u := .int .i64 m') (by omega)) (k := k6) (o := 2) (u := .int .i64 s') (by omega)) (k := k6) (o := 3) (u := .int .i64 n') (by omega)
  replace b2 := b2N; clear b2N
  replace b3 := b3N; clear b3N
  replace b5 := b5N; clear b5N
  replace b6 := b6N; clear b6N
  refine NoPanic.normal ?_
  clear hT hS' y0 hHeld
  go_upto_region 2 with fail
  refine wp_name ?_
  intro V10 hV
  rw [← hV] at b2 b3 b5 b6 xw
  clear hV
  go_wp2_with fail
  clear b2 b3
  go_loopw [13] (fun s13 wr => ∃ (k : Nat), k ≤ 4 ∧ s13 = .int .i64 k ∧ pre4e k h m s n h' m' s' n' ∧ Bx wr k5 #[.int .i64 h, .int .i64 m, .int .i64 s, .int .i64 n] 178 ∧ Bx wr k6 #[.int .i64 h', .int .i64 m', .int .i64 s', .int .i64 n'] 178 ∧ Ext w wr) (fun s13 _ => 4 - (intOf s13).toNat)
  case atStart => exact ⟨0, by omega, rfl, ⟨by omega, by omega, by omega, by omega⟩, b5, b6, xw⟩
  case round =>
    clear b5 b6 xw
    obtain ⟨k, hk, rfl, hp, b5, b6, xw⟩ := hrel
    refine wp_name ?_
    intro Wr11 hV
    subst hV
    have hk3 : k = 0 ∨ k = 1 ∨ k = 2 ∨ k = 3 ∨ k = 4 := by omega
    clear hk
    rcases hk3 with rfl | rfl | rfl | rfl | rfl
    · by_cases he : h = h'
      · have g1 : (cmpI h h' == 0) = true := by rw [he]; exact cmpI_same _
        have hp2 := Lib.hid (show pre4e 1 h m s n h' m' s' n' by unfold pre4e at *; omega)
        clear he hp
        go_upto_region 5 with fail
        have b5_c0 := b5.c 0 (v := .int .i64 h) rfl
        have b5_c1 := b5.c 1 (v := .int .i64 m) rfl
        have b5_c2 := b5.c 2 (v := .int .i64 s) rfl
        have b5_c3 := b5.c 3 (v := .int .i64 n) rfl
        have b6_c0 := b6.c 0 (v := .int .i64 h') rfl
        have b6_c1 := b6.c 1 (v := .int .i64 m') rfl
        have b6_c2 := b6.c 2 (v := .int .i64 s') rfl
        have b6_c3 := b6.c 3 (v := .int .i64 n') rfl
        go_quiet ((go_at_call 98; exact Calls.quiet_of_same (ccompare _ _ _)))
        clear b5_c0 b5_c1 b5_c2 b5_c3 b6_c0 b6_c1 b6_c2 b6_c3
        go_upto_region 6 with fail
        refine wp_name ?_
        intro V12 hV
        have b5N : Bx V12 k5 #[.int .i64 h, .int .i64 m, .int .i64 s, .int .i64 n] 178 := by rw [hV]; exact (b5).drewN _
        have b6N : Bx V12 k6 #[.int .i64 h', .int .i64 m', .int .i64 s', .int .i64 n'] 178 := by rw [hV]; exact (b6).drewN _
        replace xw : Ext w V12 := by rw [hV]; exact Ext.drewN (xw)
        replace b5 := b5N; clear b5N
        replace b6 := b6N; clear b6N
        clear hV
        go_wp2_with fail
        go_roundw
        case rel => exact ⟨1, by omega, by go_num, hp2.out, b5, b6, xw⟩
        case measure => simp [intOf] <;> omega
      · have g1 : (cmpI h h' == 0) = false := cmpI_no he
        have HD := Lib.hid (cmp4_at0 (m := m) (s := s) (n := n) (m' := m') (s' := s') (n' := n') he)
        clear he hp
        go_upto_region 5 with fail
        have b5_c0 := b5.c 0 (v := .int .i64 h) rfl
        have b5_c1 := b5.c 1 (v := .int .i64 m) rfl
        have b5_c2 := b5.c 2 (v := .int .i64 s) rfl
        have b5_c3 := b5.c 3 (v := .int .i64 n) rfl
        have b6_c0 := b6.c 0 (v := .int .i64 h') rfl
        have b6_c1 := b6.c 1 (v := .int .i64 m') rfl
        have b6_c2 := b6.c 2 (v := .int .i64 s') rfl
        have b6_c3 := b6.c 3 (v := .int .i64 n') rfl
        go_quiet ((go_at_call 98; exact Calls.quiet_of_same (ccompare _ _ _)))
        clear b5_c0 b5_c1 b5_c2 b5_c3 b6_c0 b6_c1 b6_c2 b6_c3
        go_upto_region 6 with fail
        refine wp_name ?_
        intro V13 hV
        have b5N : Bx V13 k5 #[.int .i64 h, .int .i64 m, .int .i64 s, .int .i64 n] 178 := by rw [hV]; exact (b5).drewN _
        have b6N : Bx V13 k6 #[.int .i64 h', .int .i64 m', .int .i64 s', .int .i64 n'] 178 := by rw [hV]; exact (b6).drewN _
        replace xw : Ext w V13 := by rw [hV]; exact Ext.drewN (xw)
        replace b5 := b5N; clear b5N
        replace b6 := b6N; clear b6N
        clear hV
        go_upto_region 7 with fail
        have xr := xw
        go_wp2_with fail
        refine bodyPost_ret (v := .int .i64 (cmpI h h')) (by simp [results, Try.results96, go_sem]) rfl ⟨by rw [HD.out], xr⟩
    · by_cases he : m = m'
      · have g1 : (cmpI m m' == 0) = true := by rw [he]; exact cmpI_same _
        have hp2 := Lib.hid (show pre4e 2 h m s n h' m' s' n' by unfold pre4e at *; omega)
        clear he hp
        go_upto_region 5 with fail
        have b5_c0 := b5.c 0 (v := .int .i64 h) rfl
        have b5_c1 := b5.c 1 (v := .int .i64 m) rfl
        have b5_c2 := b5.c 2 (v := .int .i64 s) rfl
        have b5_c3 := b5.c 3 (v := .int .i64 n) rfl
        have b6_c0 := b6.c 0 (v := .int .i64 h') rfl
        have b6_c1 := b6.c 1 (v := .int .i64 m') rfl
        have b6_c2 := b6.c 2 (v := .int .i64 s') rfl
        have b6_c3 := b6.c 3 (v := .int .i64 n') rfl
        go_quiet ((go_at_call 98; exact Calls.quiet_of_same (ccompare _ _ _)))
        clear b5_c0 b5_c1 b5_c2 b5_c3 b6_c0 b6_c1 b6_c2 b6_c3
        go_upto_region 6 with fail
        refine wp_name ?_
        intro V14 hV
        have b5N : Bx V14 k5 #[.int .i64 h, .int .i64 m, .int .i64 s, .int .i64 n] 178 := by rw [hV]; exact (b5).drewN _
        have b6N : Bx V14 k6 #[.int .i64 h', .int .i64 m', .int .i64 s', .int .i64 n'] 178 := by rw [hV]; exact (b6).drewN _
        replace xw : Ext w V14 := by rw [hV]; exact Ext.drewN (xw)
        replace b5 := b5N; clear b5N
        replace b6 := b6N; clear b6N
        clear hV
        go_wp2_with fail
        go_roundw
        case rel => exact ⟨2, by omega, by go_num, hp2.out, b5, b6, xw⟩
        case measure => simp [intOf] <;> omega
      · have g1 : (cmpI m m' == 0) = false := cmpI_no he
        have HD := Lib.hid (cmp4_at1 hp he)
        clear he hp
        go_upto_region 5 with fail
        have b5_c0 := b5.c 0 (v := .int .i64 h) rfl
        have b5_c1 := b5.c 1 (v := .int .i64 m) rfl
        have b5_c2 := b5.c 2 (v := .int .i64 s) rfl
        have b5_c3 := b5.c 3 (v := .int .i64 n) rfl
        have b6_c0 := b6.c 0 (v := .int .i64 h') rfl
        have b6_c1 := b6.c 1 (v := .int .i64 m') rfl
        have b6_c2 := b6.c 2 (v := .int .i64 s') rfl
        have b6_c3 := b6.c 3 (v := .int .i64 n') rfl
        go_quiet ((go_at_call 98; exact Calls.quiet_of_same (ccompare _ _ _)))
        clear b5_c0 b5_c1 b5_c2 b5_c3 b6_c0 b6_c1 b6_c2 b6_c3
        go_upto_region 6 with fail
        refine wp_name ?_
        intro V15 hV
        have b5N : Bx V15 k5 #[.int .i64 h, .int .i64 m, .int .i64 s, .int .i64 n] 178 := by rw [hV]; exact (b5).drewN _
        have b6N : Bx V15 k6 #[.int .i64 h', .int .i64 m', .int .i64 s', .int .i64 n'] 178 := by rw [hV]; exact (b6).drewN _
        replace xw : Ext w V15 := by rw [hV]; exact Ext.drewN (xw)
        replace b5 := b5N; clear b5N
        replace b6 := b6N; clear b6N
        clear hV
        go_upto_region 7 with fail
        have xr := xw
        go_wp2_with fail
        refine bodyPost_ret (v := .int .i64 (cmpI m m')) (by simp [results, Try.results96, go_sem]) rfl ⟨by rw [HD.out], xr⟩
    · by_cases he : s = s'
      · have g1 : (cmpI s s' == 0) = true := by rw [he]; exact cmpI_same _
        have hp2 := Lib.hid (show pre4e 3 h m s n h' m' s' n' by unfold pre4e at *; omega)
        clear he hp
        go_upto_region 5 with fail
        have b5_c0 := b5.c 0 (v := .int .i64 h) rfl
        have b5_c1 := b5.c 1 (v := .int .i64 m) rfl
        have b5_c2 := b5.c 2 (v := .int .i64 s) rfl
        have b5_c3 := b5.c 3 (v := .int .i64 n) rfl
        have b6_c0 := b6.c 0 (v := .int .i64 h') rfl
        have b6_c1 := b6.c 1 (v := .int .i64 m') rfl
        have b6_c2 := b6.c 2 (v := .int .i64 s') rfl
        have b6_c3 := b6.c 3 (v := .int .i64 n') rfl
        go_quiet ((go_at_call 98; exact Calls.quiet_of_same (ccompare _ _ _)))
        clear b5_c0 b5_c1 b5_c2 b5_c3 b6_c0 b6_c1 b6_c2 b6_c3
        go_upto_region 6 with fail
        refine wp_name ?_
        intro V16 hV
        have b5N : Bx V16 k5 #[.int .i64 h, .int .i64 m, .int .i64 s, .int .i64 n] 178 := by rw [hV]; exact (b5).drewN _
        have b6N : Bx V16 k6 #[.int .i64 h', .int .i64 m', .int .i64 s', .int .i64 n'] 178 := by rw [hV]; exact (b6).drewN _
        replace xw : Ext w V16 := by rw [hV]; exact Ext.drewN (xw)
        replace b5 := b5N; clear b5N
        replace b6 := b6N; clear b6N
        clear hV
        go_wp2_with fail
        go_roundw
        case rel => exact ⟨3, by omega, by go_num, hp2.out, b5, b6, xw⟩
        case measure => simp [intOf] <;> omega
      · have g1 : (cmpI s s' == 0) = false := cmpI_no he
        have HD := Lib.hid (cmp4_at2 hp he)
        clear he hp
        go_upto_region 5 with fail
        have b5_c0 := b5.c 0 (v := .int .i64 h) rfl
        have b5_c1 := b5.c 1 (v := .int .i64 m) rfl
        have b5_c2 := b5.c 2 (v := .int .i64 s) rfl
        have b5_c3 := b5.c 3 (v := .int .i64 n) rfl
        have b6_c0 := b6.c 0 (v := .int .i64 h') rfl
        have b6_c1 := b6.c 1 (v := .int .i64 m') rfl
        have b6_c2 := b6.c 2 (v := .int .i64 s') rfl
        have b6_c3 := b6.c 3 (v := .int .i64 n') rfl
        go_quiet ((go_at_call 98; exact Calls.quiet_of_same (ccompare _ _ _)))
        clear b5_c0 b5_c1 b5_c2 b5_c3 b6_c0 b6_c1 b6_c2 b6_c3
        go_upto_region 6 with fail
        refine wp_name ?_
        intro V17 hV
        have b5N : Bx V17 k5 #[.int .i64 h, .int .i64 m, .int .i64 s, .int .i64 n] 178 := by rw [hV]; exact (b5).drewN _
        have b6N : Bx V17 k6 #[.int .i64 h', .int .i64 m', .int .i64 s', .int .i64 n'] 178 := by rw [hV]; exact (b6).drewN _
        replace xw : Ext w V17 := by rw [hV]; exact Ext.drewN (xw)
        replace b5 := b5N; clear b5N
        replace b6 := b6N; clear b6N
        clear hV
        go_upto_region 7 with fail
        have xr := xw
        go_wp2_with fail
        refine bodyPost_ret (v := .int .i64 (cmpI s s')) (by simp [results, Try.results96, go_sem]) rfl ⟨by rw [HD.out], xr⟩
    · by_cases he : n = n'
      · have g1 : (cmpI n n' == 0) = true := by rw [he]; exact cmpI_same _
        have hp2 := Lib.hid (show pre4e 4 h m s n h' m' s' n' by unfold pre4e at *; omega)
        clear he hp
        go_upto_region 5 with fail
        have b5_c0 := b5.c 0 (v := .int .i64 h) rfl
        have b5_c1 := b5.c 1 (v := .int .i64 m) rfl
        have b5_c2 := b5.c 2 (v := .int .i64 s) rfl
        have b5_c3 := b5.c 3 (v := .int .i64 n) rfl
        have b6_c0 := b6.c 0 (v := .int .i64 h') rfl
        have b6_c1 := b6.c 1 (v := .int .i64 m') rfl
        have b6_c2 := b6.c 2 (v := .int .i64 s') rfl
        have b6_c3 := b6.c 3 (v := .int .i64 n') rfl
        go_quiet ((go_at_call 98; exact Calls.quiet_of_same (ccompare _ _ _)))
        clear b5_c0 b5_c1 b5_c2 b5_c3 b6_c0 b6_c1 b6_c2 b6_c3
        go_upto_region 6 with fail
        refine wp_name ?_
        intro V18 hV
        have b5N : Bx V18 k5 #[.int .i64 h, .int .i64 m, .int .i64 s, .int .i64 n] 178 := by rw [hV]; exact (b5).drewN _
        have b6N : Bx V18 k6 #[.int .i64 h', .int .i64 m', .int .i64 s', .int .i64 n'] 178 := by rw [hV]; exact (b6).drewN _
        replace xw : Ext w V18 := by rw [hV]; exact Ext.drewN (xw)
        replace b5 := b5N; clear b5N
        replace b6 := b6N; clear b6N
        clear hV
        go_wp2_with fail
        go_roundw
        case rel => exact ⟨4, by omega, by go_num, hp2.out, b5, b6, xw⟩
        case measure => simp [intOf] <;> omega
      · have g1 : (cmpI n n' == 0) = false := cmpI_no he
        have HD := Lib.hid (cmp4_at3 hp)
        clear he hp
        go_upto_region 5 with fail
        have b5_c0 := b5.c 0 (v := .int .i64 h) rfl
        have b5_c1 := b5.c 1 (v := .int .i64 m) rfl
        have b5_c2 := b5.c 2 (v := .int .i64 s) rfl
        have b5_c3 := b5.c 3 (v := .int .i64 n) rfl
        have b6_c0 := b6.c 0 (v := .int .i64 h') rfl
        have b6_c1 := b6.c 1 (v := .int .i64 m') rfl
        have b6_c2 := b6.c 2 (v := .int .i64 s') rfl
        have b6_c3 := b6.c 3 (v := .int .i64 n') rfl
        go_quiet ((go_at_call 98; exact Calls.quiet_of_same (ccompare _ _ _)))
        clear b5_c0 b5_c1 b5_c2 b5_c3 b6_c0 b6_c1 b6_c2 b6_c3
        go_upto_region 6 with fail
        refine wp_name ?_
        intro V19 hV
        have b5N : Bx V19 k5 #[.int .i64 h, .int .i64 m, .int .i64 s, .int .i64 n] 178 := by rw [hV]; exact (b5).drewN _
        have b6N : Bx V19 k6 #[.int .i64 h', .int .i64 m', .int .i64 s', .int .i64 n'] 178 := by rw [hV]; exact (b6).drewN _
        replace xw : Ext w V19 := by rw [hV]; exact Ext.drewN (xw)
        replace b5 := b5N; clear b5N
        replace b6 := b6N; clear b6N
        clear hV
        go_upto_region 7 with fail
        have xr := xw
        go_wp2_with fail
        refine bodyPost_ret (v := .int .i64 (cmpI n n')) (by simp [results, Try.results96, go_sem]) rfl ⟨by rw [HD.out], xr⟩
    · have HD := Lib.hid (cmp4_at4 hp)
      clear hp
      go_upto_region 9 with fail
      have xr := xw
      go_wp2_with fail
      refine bodyPost_ret (v := .int .i64 0) (by simp [results, Try.results96, go_sem]) rfl ⟨by rw [← HD.out], xr⟩
end Go.Proofs.Ytccllfegnijpiaa
end
section
/-
  Date-times and their numbers; no program in sight.
-/
set_option linter.unusedVariables false
namespace Go.Proofs.Ytccllfegnijpiaa
open Go

/-- How two date-times stand to each other. -/
def cmp7 (y mo d h m s n y' mo' d' h' m' s' n' : Int) : Int := if cmp3 y mo d y' mo' d' = 0 then cmp4 h m s n h' m' s' n' else cmp3 y mo d y' mo' d'
theorem cmp7_num {y mo d h m s n y' mo' d' h' m' s' n' : Int} (k : pOk y mo d h m s n) (k' : pOk y' mo' d' h' m' s' n') : cmp7 y mo d h m s n y' mo' d' h' m' s' n' = cmpI (pnum y mo d h m s n) (pnum y' mo' d' h' m' s' n') := by
  have e := cmp3_num k.1.1 k'.1.1
  have t := cmp4_nan k.2.1 k'.2.1
  have b := tnan_bd k.2.1
  have b' := tnan_bd k'.2.1
  unfold cmp7
  rw [e, t]
  by_cases q : dnum y mo d = dnum y' mo' d'
  · rw [if_pos (cmpI_0.2 q)]
    exact cmpI_congr (by unfold pnum; omega) (by unfold pnum; omega)
  · rw [if_neg (fun z => q (cmpI_0.1 z))]
    exact cmpI_congr (by unfold pnum; omega) (by unfold pnum; omega)
end Go.Proofs.Ytccllfegnijpiaa
end
section
/-
  Durations: totals, signs, what may be, and how a total is laid out; no program in sight.
-/
set_option linter.unusedVariables false
namespace Go.Proofs.Ytccllfegnijpiaa

/-- The greatest unit that isn't 0. -/
def lg8 (a b c d h mi s n : Int) : Int := if a ≠ 0 then 1 else if b ≠ 0 then 2 else if c ≠ 0 then 3 else if d ≠ 0 then 4 else if h ≠ 0 then 5 else if mi ≠ 0 then 6 else if s ≠ 0 then 7 else 8
theorem sg8_neg (a b c d h mi s n : Int) : sg8 (-a) (-b) (-c) (-d) (-h) (-mi) (-s) (-n) = -sg8 a b c d h mi s n := by
  have q : ∀ x : Int, cmpI (-x) 0 = -cmpI x 0 := fun x => by unfold cmpI; split <;> split <;> (try split) <;> (try split) <;> omega
  have z : ∀ x : Int, (-x ≠ 0) = (x ≠ 0) := fun x => by apply propext; omega
  unfold sg8
  simp only [z, q]
  split <;> (try split) <;> (try split) <;> (try split) <;> (try split) <;> (try split) <;> (try split) <;> rfl
/-- An exact one's sign is its total's. -/
theorem sg8_ex {d h mi s n : Int} (k : pos8 0 0 0 d h mi s n ∨ neg8 0 0 0 d h mi s n) : sg8 0 0 0 d h mi s n = cmpI (dtot d h mi s n) 0 := by
  unfold sg8 pos8 neg8 dtot at *
  rw [if_neg (by omega), if_neg (by omega), if_neg (by omega)]
  split
  · exact cmpI_congr (by omega) (by omega)
  · split
    · exact cmpI_congr (by omega) (by omega)
    · split
      · exact cmpI_congr (by omega) (by omega)
      · split
        · exact cmpI_congr (by omega) (by omega)
        · exact cmpI_congr (by omega) (by omega)
end Go.Proofs.Ytccllfegnijpiaa
end
section
/-
  Times held against each other, by the reference (for the law ClockRounds).
-/
set_option linter.unusedVariables false
set_option maxRecDepth 100000
namespace Go.Proofs.Ytccllfegnijpiaa
open Go Go.RowKit Go.Ev

theorem fccmp (h m s n h' m' s' n' : Int) : Fn 96 [] [tv h m s n, tv h' m' s' n'] (.int .i64 (cmp4 h m s n h' m' s' n')) := fn1 fun w => cCmp h m s n h' m' s' n' w
end Go.Proofs.Ytccllfegnijpiaa
end
section
/-
  Date-times: what the program and the reference answer of layer 7.
-/
set_option linter.unusedVariables false
set_option maxRecDepth 100000
namespace Go.Proofs.Ytccllfegnijpiaa
open Go Go.RowKit Go.Ev

section
variable (y mo d h m s n y' mo' d' h' m' s' n' : Int)
theorem pcmp_eq (k : cmp3 y mo d y' mo' d' = 0) : Fn 33 [] [ptv y mo d h m s n, ptv y' mo' d' h' m' s' n'] (.int .i64 (cmp4 h m s n h' m' s' n')) := by
  refine fn_of Try.func33 rfl fun ww => ?_
  refine st_fn ent36 (ccmp5 (y) (mo) (d) (y') (mo') (d')) sub0 (by kernel_rfl) ?_
  refine st_b 12 (show (cmp3 y mo d y' mo' d' != 0) = false by exact bne_eq_false_iff_eq.2 (by omega)) (by kernel_rfl) ?_
  refine st_fn ent96 (fccmp (h) (m) (s) (n) (h') (m') (s') (n')) sub0 (by kernel_rfl) ?_
  exact st_ret Try.func33 (by kernel_rfl)
theorem pcmp_ne (k : cmp3 y mo d y' mo' d' ≠ 0) : Fn 33 [] [ptv y mo d h m s n, ptv y' mo' d' h' m' s' n'] (.int .i64 (cmp3 y mo d y' mo' d')) := by
  refine fn_of Try.func33 rfl fun ww => ?_
  refine st_fn ent36 (ccmp5 (y) (mo) (d) (y') (mo') (d')) sub0 (by kernel_rfl) ?_
  refine st_b 12 (show (cmp3 y mo d y' mo' d' != 0) = true by exact bne_iff_ne.2 (by omega)) (by kernel_rfl) ?_
  exact st_ret Try.func33 (by kernel_rfl)
theorem pcmp : Fn 33 [] [ptv y mo d h m s n, ptv y' mo' d' h' m' s' n'] (.int .i64 (cmp7 y mo d h m s n y' mo' d' h' m' s' n')) := by
  by_cases k : cmp3 y mo d y' mo' d' = 0
  · have := pcmp_eq y mo d h m s n y' mo' d' h' m' s' n' k
    unfold cmp7; rw [if_pos k]; exact this
  · have := pcmp_ne y mo d h m s n y' mo' d' h' m' s' n' k
    unfold cmp7; rw [if_neg k]; exact this
end
end Go.Proofs.Ytccllfegnijpiaa
end
section
/-
  Durations: signs, units, what may be, as the program and the reference reckon them.
-/
set_option linter.unusedVariables false
set_option maxRecDepth 100000
namespace Go.Proofs.Ytccllfegnijpiaa
open Go Go.RowKit Go.Ev

section
variable (a b c d h mi s n : Int)
theorem ularg : Fn 34 [] [duv a b c d h mi s n] (.int .i64 (lg8 a b c d h mi s n)) := by
  refine fn_of Try.func34 rfl fun ww => ?_
  refine ufields_row 0 0 (by kernel_rfl) ?_
  refine st_round (by kernel_rfl) ?_
  refine st_i 21 .i64 (x' := 0 + 1) (Go.IntWalk.i64_in _ (by omega)) (by kernel_rfl) ?_
  refine st_round (by kernel_rfl) ?_
  by_cases k18 : a ≠ 0
  · refine st_b 18 (bne_iff_ne.2 k18) (by kernel_rfl) ?_
    exact st_retv Try.func34 (show Value.int IntKind.i64 (0 + 1) = _ by (refine i_eq ?_; unfold lg8; simp_all)) (by kernel_rfl)
  · refine st_b 18 (bne_eq_false_iff_eq.2 (Classical.not_not.1 k18)) (by kernel_rfl) ?_
    refine st_i 21 .i64 (x' := 0 + 1 + 1) (Go.IntWalk.i64_in _ (by omega)) (by kernel_rfl) ?_
    refine st_round (by kernel_rfl) ?_
    by_cases k18 : b ≠ 0
    · refine st_b 18 (bne_iff_ne.2 k18) (by kernel_rfl) ?_
      exact st_retv Try.func34 (show Value.int IntKind.i64 (0 + 1 + 1) = _ by (refine i_eq ?_; unfold lg8; simp_all)) (by kernel_rfl)
    · refine st_b 18 (bne_eq_false_iff_eq.2 (Classical.not_not.1 k18)) (by kernel_rfl) ?_
      refine st_i 21 .i64 (x' := 0 + 1 + 1 + 1) (Go.IntWalk.i64_in _ (by omega)) (by kernel_rfl) ?_
      refine st_round (by kernel_rfl) ?_
      by_cases k18 : c ≠ 0
      · refine st_b 18 (bne_iff_ne.2 k18) (by kernel_rfl) ?_
        exact st_retv Try.func34 (show Value.int IntKind.i64 (0 + 1 + 1 + 1) = _ by (refine i_eq ?_; unfold lg8; simp_all)) (by kernel_rfl)
      · refine st_b 18 (bne_eq_false_iff_eq.2 (Classical.not_not.1 k18)) (by kernel_rfl) ?_
        refine st_i 21 .i64 (x' := 0 + 1 + 1 + 1 + 1) (Go.IntWalk.i64_in _ (by omega)) (by kernel_rfl) ?_
        refine st_round (by kernel_rfl) ?_
        by_cases k18 : d ≠ 0
        · refine st_b 18 (bne_iff_ne.2 k18) (by kernel_rfl) ?_
          exact st_retv Try.func34 (show Value.int IntKind.i64 (0 + 1 + 1 + 1 + 1) = _ by (refine i_eq ?_; unfold lg8; simp_all)) (by kernel_rfl)
        · refine st_b 18 (bne_eq_false_iff_eq.2 (Classical.not_not.1 k18)) (by kernel_rfl) ?_
          refine st_i 21 .i64 (x' := 0 + 1 + 1 + 1 + 1 + 1) (Go.IntWalk.i64_in _ (by omega)) (by kernel_rfl) ?_
          refine st_round (by kernel_rfl) ?_
          by_cases k18 : h ≠ 0
          · refine st_b 18 (bne_iff_ne.2 k18) (by kernel_rfl) ?_
            exact st_retv Try.func34 (show Value.int IntKind.i64 (0 + 1 + 1 + 1 + 1 + 1) = _ by (refine i_eq ?_; unfold lg8; simp_all)) (by kernel_rfl)
          · refine st_b 18 (bne_eq_false_iff_eq.2 (Classical.not_not.1 k18)) (by kernel_rfl) ?_
            refine st_i 21 .i64 (x' := 0 + 1 + 1 + 1 + 1 + 1 + 1) (Go.IntWalk.i64_in _ (by omega)) (by kernel_rfl) ?_
            refine st_round (by kernel_rfl) ?_
            by_cases k18 : mi ≠ 0
            · refine st_b 18 (bne_iff_ne.2 k18) (by kernel_rfl) ?_
              exact st_retv Try.func34 (show Value.int IntKind.i64 (0 + 1 + 1 + 1 + 1 + 1 + 1) = _ by (refine i_eq ?_; unfold lg8; simp_all)) (by kernel_rfl)
            · refine st_b 18 (bne_eq_false_iff_eq.2 (Classical.not_not.1 k18)) (by kernel_rfl) ?_
              refine st_i 21 .i64 (x' := 0 + 1 + 1 + 1 + 1 + 1 + 1 + 1) (Go.IntWalk.i64_in _ (by omega)) (by kernel_rfl) ?_
              refine st_round (by kernel_rfl) ?_
              by_cases k18 : s ≠ 0
              · refine st_b 18 (bne_iff_ne.2 k18) (by kernel_rfl) ?_
                exact st_retv Try.func34 (show Value.int IntKind.i64 (0 + 1 + 1 + 1 + 1 + 1 + 1 + 1) = _ by (refine i_eq ?_; unfold lg8; simp_all)) (by kernel_rfl)
              · refine st_b 18 (bne_eq_false_iff_eq.2 (Classical.not_not.1 k18)) (by kernel_rfl) ?_
                refine st_i 21 .i64 (x' := 0 + 1 + 1 + 1 + 1 + 1 + 1 + 1 + 1) (Go.IntWalk.i64_in _ (by omega)) (by kernel_rfl) ?_
                refine st_round (by kernel_rfl) ?_
                by_cases k18 : n ≠ 0
                · refine st_b 18 (bne_iff_ne.2 k18) (by kernel_rfl) ?_
                  exact st_retv Try.func34 (show Value.int IntKind.i64 (0 + 1 + 1 + 1 + 1 + 1 + 1 + 1 + 1) = _ by (refine i_eq ?_; unfold lg8; simp_all)) (by kernel_rfl)
                · refine st_b 18 (bne_eq_false_iff_eq.2 (Classical.not_not.1 k18)) (by kernel_rfl) ?_
                  refine st_i 21 .i64 (x' := 0 + 1 + 1 + 1 + 1 + 1 + 1 + 1 + 1 + 1) (Go.IntWalk.i64_in _ (by omega)) (by kernel_rfl) ?_
                  refine st_round (by kernel_rfl) ?_
                  exact st_retv Try.func34 (show Value.int IntKind.i64 8 = _ by (refine i_eq ?_; unfold lg8; simp_all)) (by kernel_rfl)
end
end Go.Proofs.Ytccllfegnijpiaa
end
section
/-
  Durations: what may be, as the reference reckons it.
-/
set_option linter.unusedVariables false
set_option maxRecDepth 100000
namespace Go.Proofs.Ytccllfegnijpiaa
open Go Go.RowKit Go.Ev

section
variable (a b c d h mi s n : Int)
theorem zufields : FnB 35 [duv a b c d h mi s n] [.int .i64 a, .int .i64 b, .int .i64 c, .int .i64 d, .int .i64 h, .int .i64 mi, .int .i64 s, .int .i64 n] 2 8 := by
  refine fnB_of Try.func35 rfl fun ww => ?_
  exact st_retB Try.func35 (by kernel_rfl)
end
end Go.Proofs.Ytccllfegnijpiaa
end
section
/-
  All that lies between has one sign, and nothing greater than the unit: the law CalendarSigns.
-/
set_option linter.unusedVariables false
set_option linter.unusedSimpArgs false
set_option maxRecDepth 100000
namespace Go.Proofs.Ytccllfegnijpiaa
open Go Go.RowKit Go.Ev

section
variable {a b c d h mi s n L : Int}
theorem sg8_p1 (k : pos8 a b c d h mi s n) (z : ¬ (a = 0 ∧ b = 0 ∧ c = 0 ∧ d = 0 ∧ h = 0 ∧ mi = 0 ∧ s = 0 ∧ n = 0)) : sg8 a b c d h mi s n = 1 := by
  unfold pos8 at k
  unfold sg8
  split
  · exact cmpI_gt (by omega)
  · split
    · exact cmpI_gt (by omega)
    · split
      · exact cmpI_gt (by omega)
      · split
        · exact cmpI_gt (by omega)
        · split
          · exact cmpI_gt (by omega)
          · split
            · exact cmpI_gt (by omega)
            · split
              · exact cmpI_gt (by omega)
              · exact cmpI_gt (by omega)
theorem sg8_n1 (k : neg8 a b c d h mi s n) (z : ¬ (a = 0 ∧ b = 0 ∧ c = 0 ∧ d = 0 ∧ h = 0 ∧ mi = 0 ∧ s = 0 ∧ n = 0)) : sg8 a b c d h mi s n = -1 := by
  have e := sg8_neg a b c d h mi s n
  have p := sg8_p1 (a := -a) (b := -b) (c := -c) (d := -d) (h := -h) (mi := -mi) (s := -s) (n := -n) (by unfold neg8 at k; unfold pos8; omega) (by omega)
  omega
theorem lg8_in : 1 ≤ lg8 a b c d h mi s n ∧ (a = 0 → 2 ≤ lg8 a b c d h mi s n) ∧ (a = 0 → b = 0 → 3 ≤ lg8 a b c d h mi s n) ∧ (a = 0 → b = 0 → c = 0 → 4 ≤ lg8 a b c d h mi s n) := by
  unfold lg8
  split
  · refine ⟨by omega, fun q => by omega, fun q => by omega, fun q => by omega⟩
  · split
    · refine ⟨by omega, fun q => by omega, fun q q' => by omega, fun q q' => by omega⟩
    · split
      · refine ⟨by omega, fun q => by omega, fun q q' => by omega, fun q q' q'' => by omega⟩
      · refine ⟨?_, fun _ => ?_, fun _ _ => ?_, fun _ _ _ => ?_⟩ <;> (split <;> (try split) <;> (try split) <;> (try split) <;> omega)
theorem lg8_t (ha : a = 0) (hb : b = 0) (hc : c = 0) (hd : d = 0) : 5 ≤ lg8 a b c d h mi s n ∧ (h = 0 → 6 ≤ lg8 a b c d h mi s n) ∧ (h = 0 → mi = 0 → 7 ≤ lg8 a b c d h mi s n) ∧ (h = 0 → mi = 0 → s = 0 → 8 ≤ lg8 a b c d h mi s n) := by
  unfold lg8
  rw [if_neg (by omega), if_neg (by omega), if_neg (by omega), if_neg (by omega)]
  split
  · refine ⟨by omega, fun q => by omega, fun q => by omega, fun q => by omega⟩
  · split
    · refine ⟨by omega, fun q => by omega, fun q q' => by omega, fun q q' => by omega⟩
    · split
      · refine ⟨by omega, fun q => by omega, fun q q' => by omega, fun q q' q'' => by omega⟩
      · refine ⟨by omega, fun q => by omega, fun q q' => by omega, fun q q' q'' => by omega⟩
end
section
variable (y m d y' m' d' L H M S N : Int)
theorem uv_lg (l1 : 1 ≤ L) (l2 : L ≤ 4) : L ≤ lg8 (uY L y m d y' m' d') (uMo L y m d y' m' d') (uW L y m d y' m' d') (uD L y m d y' m' d') H M S N := by
  obtain ⟨g1, g2, g3, g4⟩ := lg8_in (a := uY L y m d y' m' d') (b := uMo L y m d y' m' d') (c := uW L y m d y' m' d') (d := uD L y m d y' m' d') (h := H) (mi := M) (s := S) (n := N)
  have l : L = 1 ∨ L = 2 ∨ L = 3 ∨ L = 4 := by omega
  rcases l with rfl | rfl | rfl | rfl
  · exact g1
  · exact g2 rfl
  · exact g3 rfl rfl
  · exact g4 rfl rfl rfl
/-- Where all is 0, it is the same day. -/
theorem uv_zero {y m d y' m' d' L : Int} (h : dOk y m d) (h' : dOk y' m' d') (hL : 1 ≤ L) (hL' : L ≤ 4) (z : uY L y m d y' m' d' = 0 ∧ uMo L y m d y' m' d' = 0 ∧ uW L y m d y' m' d' = 0 ∧ uD L y m d y' m' d' = 0) : dnum y m d = dnum y' m' d' := by
  have u := (until_back h h' hL hL').2
  obtain ⟨z1, z2, z3, z4⟩ := z
  rw [z1, z2, z3, z4, show ymi y m + (12 * 0 + 0) = ymi y m by omega, (l_ymi h.1.1 h.1.2.1).1, (l_ymi h.1.1 h.1.2.1).2, cD_same h.1] at u
  omega
theorem uv_sg {y m d y' m' d' L : Int} (h : dOk y m d) (h' : dOk y' m' d') (hL : 1 ≤ L) (hL' : L ≤ 4) : sg8 (uY L y m d y' m' d') (uMo L y m d y' m' d') (uW L y m d y' m' d') (uD L y m d y' m' d') 0 0 0 0 = uS y m d y' m' d' := by
  obtain ⟨-, -, -, -, b5, -⟩ := uv_bd h h' hL hL'
  have zz := fun z => uv_zero h h' hL hL' z
  have tr := uS_tri (y := y) (m := m) (d := d) (y' := y') (m' := m') (d' := d')
  rcases b5 with ⟨q, q1, q2, q3, q4⟩ | ⟨q, q1, q2, q3, q4⟩ | ⟨q, q1, q2, q3, q4⟩
  · rw [q]
    refine sg8_p1 ⟨q1, q2, q3, q4, by omega, by omega, by omega, by omega⟩ fun z => ?_
    have := zz ⟨z.1, z.2.1, z.2.2.1, z.2.2.2.1⟩
    rcases tr with ⟨t, u⟩ | ⟨t, -⟩ | ⟨t, u⟩ | t
    · omega
    · omega
    · omega
    · exact t ⟨h.1, h'.1⟩
  · rw [q]
    refine sg8_n1 ⟨q1, q2, q3, q4, by omega, by omega, by omega, by omega⟩ fun z => ?_
    have := zz ⟨z.1, z.2.1, z.2.2.1, z.2.2.2.1⟩
    rcases tr with ⟨t, u⟩ | ⟨t, -⟩ | ⟨t, u⟩ | t
    · omega
    · omega
    · omega
    · exact t ⟨h.1, h'.1⟩
  · rw [q, q1, q2, q3, q4]; rfl
end
theorem cmpI_sub (a b P : Int) (h : a - b = P) : cmpI P 0 = cmpI a b := by
  unfold cmpI; split <;> (try split) <;> (try split) <;> (try split) <;> omega
section
variable (y mo d h m s n y' mo' d' h' m' s' n' L E Z : Int)
theorem bt_sg (k : pOk y mo d h m s n) (k' : pOk y' mo' d' h' m' s' n') (l1 : 1 ≤ L) (l2 : L ≤ 4) (hE : bD y mo d h m s n y' mo' d' h' m' s' n' = E) (hZ : bZ y mo d h m s n y' mo' d' h' m' s' n' = Z) :
    sg8 (uY L y mo d (dY E) (dM E) (dD E)) (uMo L y mo d (dY E) (dM E) (dD E)) (uW L y mo d (dY E) (dM E) (dD E)) (uD L y mo d (dY E) (dM E) (dD E)) (l5 5 Z) (l6 5 Z) (l7 5 Z) (l8 5 Z) = cmp7 y' mo' d' h' m' s' n' y mo d h m s n := by
  rw [cmp7_num k' k]
  obtain ⟨i1, i2, i3, i4, -⟩ := bt_in k k'
  obtain ⟨d1, d2⟩ := bt_date k k'
  rw [hE] at i1 d1 d2 i3 i4
  rw [hZ] at i2 i3 i4
  obtain ⟨-, -, -, -, b5, -⟩ := uv_bd k.1 d1 l1 l2
  have zz := fun z => uv_zero k.1 d1 l1 l2 z
  rw [d2] at zz
  have sn := uS_num k.1.1 d1.1
  rw [d2] at sn
  have tr : cmpI E (dnum y mo d) = 1 ∧ dnum y mo d < E ∨ cmpI E (dnum y mo d) = 0 ∧ E = dnum y mo d ∨ cmpI E (dnum y mo d) = -1 ∧ E < dnum y mo d := by
    unfold cmpI; split <;> (try split) <;> omega
  rw [sn] at b5
  obtain ⟨t1, t2, t3⟩ := lay5 Z
  generalize uY L y mo d (dY E) (dM E) (dD E) = A at *
  generalize uMo L y mo d (dY E) (dM E) (dD E) = B at *
  generalize uW L y mo d (dY E) (dM E) (dD E) = C at *
  generalize uD L y mo d (dY E) (dM E) (dD E) = D at *
  generalize l5 5 Z = z5 at *
  generalize l6 5 Z = z6 at *
  generalize l7 5 Z = z7 at *
  generalize l8 5 Z = z8 at *
  have nz : (A = 0 ∧ B = 0 ∧ C = 0 ∧ D = 0 ∧ z5 = 0 ∧ z6 = 0 ∧ z7 = 0 ∧ z8 = 0) → pnum y' mo' d' h' m' s' n' = pnum y mo d h m s n := fun q => by
    obtain ⟨q1, q2, q3, q4, q5, q6, q7, q8⟩ := q
    have e1 := zz ⟨q1, q2, q3, q4⟩
    have e2 : Z = 0 := by rw [← t1, q5, q6, q7, q8]; rfl
    rw [e2, e1] at i3; omega
  generalize pnum y' mo' d' h' m' s' n' = p' at *
  generalize pnum y mo d h m s n = p at *
  generalize cmpI E (dnum y mo d) = v at *
  generalize uS y mo d y' mo' d' = w at *
  generalize dnum y mo d = e at *
  rcases Int.lt_trichotomy p p' with q | q | q
  · rw [cmpI_gt q]
    have e1 : e ≤ E ∧ 0 ≤ Z := by rcases i4 with j | j | j <;> omega
    have g := t2 e1.2
    exact sg8_p1 ⟨by omega, by omega, by omega, by omega, g⟩ fun x => by have := nz x; omega
  · subst q
    have e1 : e = E ∧ Z = 0 := by rcases i4 with j | j | j <;> omega
    have g := t2 (by omega)
    have g' := t3 (by omega)
    have w1 : A = 0 ∧ B = 0 ∧ C = 0 ∧ D = 0 := by rcases b5 with j | j | j <;> omega
    rw [w1.1, w1.2.1, w1.2.2.1, w1.2.2.2, show z5 = 0 by omega, show z6 = 0 by omega, show z7 = 0 by omega, show z8 = 0 by omega, cmpI_0.2 rfl]
    rfl
  · rw [cmpI_lt q]
    have e1 : E ≤ e ∧ Z ≤ 0 := by rcases i4 with j | j | j <;> omega
    have g := t3 e1.2
    exact sg8_n1 ⟨by omega, by omega, by omega, by omega, g⟩ fun x => by have := nz x; omega
variable (A B C D H M S T e v g A' B' C' D' w g' f : Int)
/-- What is asked of what lies between, where it isn't refused. -/
def okB : Prop := Fn 31 [] [duv A B C D H M S T] (.bool true) ∧ Fn 32 [] [duv A B C D H M S T] (.int .i64 v) ∧ Fn 33 [] [ptv y' mo' d' h' m' s' n', ptv y mo d h m s n] (.int .i64 v) ∧ Fn 34 [] [duv A B C D H M S T] (.int .i64 g) ∧ L ≤ g
end
end Go.Proofs.Ytccllfegnijpiaa
end
section
/-
  All that lies between has one sign, and nothing greater than the unit: the law CalendarSigns.
-/
set_option linter.unusedVariables false
set_option linter.unusedSimpArgs false
set_option maxRecDepth 100000
namespace Go.Proofs.Ytccllfegnijpiaa
open Go Go.RowKit Go.Ev

section
variable (y mo d h m s n y' mo' d' h' m' s' n' L E Z : Int)
variable (A B C D H M S T e v g A' B' C' D' w g' f : Int)
theorem csg_e (kh1 : Fn 29 [] [ptv y mo d h m s n, ptv y' mo' d' h' m' s' n', .int .i64 L] (.tuple #[duv A B C D H M S T, .int .i64 e])) (q : e ≠ 0 ∨ e = 0 ∧ okB y mo d h m s n y' mo' d' h' m' s' n' L A B C D H M S T v g)
    (kh2 : Fn 25 [] [dv y mo d, dv y' mo' d', .int .i64 L] (.tuple #[du0, .int .i64 f])) (hf : f ≠ 0) : Fn 9 [] [ptv y mo d h m s n, ptv y' mo' d' h' m' s' n', .int .i64 L] (.bool true) := by
  rcases q with q | ⟨rfl, kr1, kr2, kr3, kr4, kr5⟩
  · refine fn_of Try.func9 rfl fun ww => ?_
    refine st_fn ent29 (kh1) sub0 (by kernel_rfl) ?_
    refine st_b 21 (show (e == 0) = false by exact decide_eq_false (by omega)) (by kernel_rfl) ?_
    refine st_fn ent25 (kh2) sub0 (by kernel_rfl) ?_
    refine st_b 51 (show (f != 0) = true by exact bne_iff_ne.2 (by omega)) (by kernel_rfl) ?_
    refine st_fn ent27 (alive19) sub0 (by kernel_rfl) ?_
    exact st_ret Try.func9 (by kernel_rfl)
  · refine fn_of Try.func9 rfl fun ww => ?_
    refine st_fn ent29 (kh1) sub0 (by kernel_rfl) ?_
    refine st_fn ent31 (kr1) sub0 (by kernel_rfl) ?_
    refine st_fn ent32 (kr2) sub0 (by kernel_rfl) ?_
    refine st_fn ent33 (kr3) sub0 (by kernel_rfl) ?_
    refine st_b 32 (show (v != v) = false by exact bne_eq_false_iff_eq.2 (by omega)) (by kernel_rfl) ?_
    refine st_fn ent34 (kr4) sub0 (by kernel_rfl) ?_
    refine st_b 38 (show (decide (g < L)) = false by exact decide_eq_false (by omega)) (by kernel_rfl) ?_
    refine st_fn ent25 (kh2) sub0 (by kernel_rfl) ?_
    refine st_b 51 (show (f != 0) = true by exact bne_iff_ne.2 (by omega)) (by kernel_rfl) ?_
    refine st_fn ent27 (alive19) sub0 (by kernel_rfl) ?_
    exact st_ret Try.func9 (by kernel_rfl)
theorem csg_kA (hL : L = 1 ∨ L = 2 ∨ L = 3 ∨ L = 4) (kh1 : Fn 29 [] [ptv y mo d h m s n, ptv y' mo' d' h' m' s' n', .int .i64 L] (.tuple #[duv A B C D H M S T, .int .i64 e])) (q : e ≠ 0)
    (kh2 : Fn 25 [] [dv y mo d, dv y' mo' d', .int .i64 L] (.tuple #[duv A' B' C' D' 0 0 0 0, .int .i64 0])) (ks1 : Fn 31 [] [duv A' B' C' D' 0 0 0 0] (.bool true)) (ks2 : Fn 32 [] [duv A' B' C' D' 0 0 0 0] (.int .i64 w))
    (ks3 : Fn 36 [] [dv y' mo' d', dv y mo d] (.int .i64 w)) (ks4 : Fn 34 [] [duv A' B' C' D' 0 0 0 0] (.int .i64 g')) (hg : L ≤ g') (h1 : L = 1 → -12 < B' ∧ B' < 12) (h2 : L ≤ 2 → -31 < D' ∧ D' < 31) (h3 : L = 3 → -7 < D' ∧ D' < 7) : Fn 9 [] [ptv y mo d h m s n, ptv y' mo' d' h' m' s' n', .int .i64 L] (.bool true) := by
  have h2' : -31 < D' ∧ D' < 31 ∨ L = 4 := by
    rcases hL with q | q | q | q
    · exact .inl (h2 (by omega))
    · exact .inl (h2 (by omega))
    · exact .inl (by have := h3 q; omega)
    · exact .inr q
  rcases hL with rfl | rfl | rfl | rfl
  · have b1 := h1 rfl
    have b2 : -31 < D' ∧ D' < 31 := by omega
    clear h1 h2 h3 h2'
    refine fn_of Try.func9 rfl fun ww => ?_
    refine st_fn ent29 (kh1) sub0 (by kernel_rfl) ?_
    refine st_b 21 (show (e == 0) = false by exact decide_eq_false (by omega)) (by kernel_rfl) ?_
    refine st_fn ent25 (kh2) sub0 (by kernel_rfl) ?_
    refine st_rowB ent35 (zufields (A') (B') (C') (D') (0) (0) (0) (0)) (by kernel_rfl) ?_
    refine st_b 58 (show (decide (B' > -12)) = true by exact decide_eq_true (by omega)) (by kernel_rfl) ?_
    refine st_b 63 (show (decide (B' < 12)) = true by exact decide_eq_true (by omega)) (by kernel_rfl) ?_
    refine st_fn ent27 (alive19) sub0 (by kernel_rfl) ?_
    refine st_fn ent31 (ks1) sub0 (by kernel_rfl) ?_
    refine st_fn ent32 (ks2) sub0 (by kernel_rfl) ?_
    refine st_fn ent36 (ks3) sub0 (by kernel_rfl) ?_
    refine st_b 82 (show (w == w) = true by exact decide_eq_true (by omega)) (by kernel_rfl) ?_
    refine st_fn ent34 (ks4) sub0 (by kernel_rfl) ?_
    refine st_b 89 (show (decide (g' ≥ if 4 < 1 then 4 else 1)) = true by exact decide_eq_true (by omega)) (by kernel_rfl) ?_
    refine st_b 100 (show (decide (D' < 31)) = true by exact decide_eq_true (by omega)) (by kernel_rfl) ?_
    refine st_b 104 (show (decide (D' > -31)) = true by exact decide_eq_true (by omega)) (by kernel_rfl) ?_
    exact st_ret Try.func9 (by kernel_rfl)
  · have b2 : -31 < D' ∧ D' < 31 := by omega
    clear h1 h2 h3 h2'
    by_cases u1 : B' > -12
    · by_cases u2 : B' < 12
      · have u3 := u2
        refine fn_of Try.func9 rfl fun ww => ?_
        refine st_fn ent29 (kh1) sub0 (by kernel_rfl) ?_
        refine st_b 21 (show (e == 0) = false by exact decide_eq_false (by omega)) (by kernel_rfl) ?_
        refine st_fn ent25 (kh2) sub0 (by kernel_rfl) ?_
        refine st_rowB ent35 (zufields (A') (B') (C') (D') (0) (0) (0) (0)) (by kernel_rfl) ?_
        refine st_b 58 (show (decide (B' > -12)) = true by exact decide_eq_true (by omega)) (by kernel_rfl) ?_
        refine st_b 63 (show (decide (B' < 12)) = true by exact decide_eq_true (by omega)) (by kernel_rfl) ?_
        refine st_fn ent27 (alive19) sub0 (by kernel_rfl) ?_
        refine st_fn ent31 (ks1) sub0 (by kernel_rfl) ?_
        refine st_fn ent32 (ks2) sub0 (by kernel_rfl) ?_
        refine st_fn ent36 (ks3) sub0 (by kernel_rfl) ?_
        refine st_b 82 (show (w == w) = true by exact decide_eq_true (by omega)) (by kernel_rfl) ?_
        refine st_fn ent34 (ks4) sub0 (by kernel_rfl) ?_
        refine st_b 89 (show (decide (g' ≥ if 4 < 2 then 4 else 2)) = true by exact decide_eq_true (by omega)) (by kernel_rfl) ?_
        refine st_b 100 (show (decide (D' < 31)) = true by exact decide_eq_true (by omega)) (by kernel_rfl) ?_
        refine st_b 104 (show (decide (D' > -31)) = true by exact decide_eq_true (by omega)) (by kernel_rfl) ?_
        exact st_ret Try.func9 (by kernel_rfl)
      · have u3 := u2
        refine fn_of Try.func9 rfl fun ww => ?_
        refine st_fn ent29 (kh1) sub0 (by kernel_rfl) ?_
        refine st_b 21 (show (e == 0) = false by exact decide_eq_false (by omega)) (by kernel_rfl) ?_
        refine st_fn ent25 (kh2) sub0 (by kernel_rfl) ?_
        refine st_rowB ent35 (zufields (A') (B') (C') (D') (0) (0) (0) (0)) (by kernel_rfl) ?_
        refine st_b 58 (show (decide (B' > -12)) = true by exact decide_eq_true (by omega)) (by kernel_rfl) ?_
        refine st_b 63 (show (decide (B' < 12)) = false by exact decide_eq_false (by omega)) (by kernel_rfl) ?_
        refine st_fn ent27 (alive19) sub0 (by kernel_rfl) ?_
        refine st_fn ent31 (ks1) sub0 (by kernel_rfl) ?_
        refine st_fn ent32 (ks2) sub0 (by kernel_rfl) ?_
        refine st_fn ent36 (ks3) sub0 (by kernel_rfl) ?_
        refine st_b 82 (show (w == w) = true by exact decide_eq_true (by omega)) (by kernel_rfl) ?_
        refine st_fn ent34 (ks4) sub0 (by kernel_rfl) ?_
        refine st_b 89 (show (decide (g' ≥ if 4 < 2 then 4 else 2)) = true by exact decide_eq_true (by omega)) (by kernel_rfl) ?_
        refine st_b 100 (show (decide (D' < 31)) = true by exact decide_eq_true (by omega)) (by kernel_rfl) ?_
        refine st_b 104 (show (decide (D' > -31)) = true by exact decide_eq_true (by omega)) (by kernel_rfl) ?_
        exact st_ret Try.func9 (by kernel_rfl)
    · have u3 := u1
      refine fn_of Try.func9 rfl fun ww => ?_
      refine st_fn ent29 (kh1) sub0 (by kernel_rfl) ?_
      refine st_b 21 (show (e == 0) = false by exact decide_eq_false (by omega)) (by kernel_rfl) ?_
      refine st_fn ent25 (kh2) sub0 (by kernel_rfl) ?_
      refine st_rowB ent35 (zufields (A') (B') (C') (D') (0) (0) (0) (0)) (by kernel_rfl) ?_
      refine st_b 58 (show (decide (B' > -12)) = false by exact decide_eq_false (by omega)) (by kernel_rfl) ?_
      refine st_fn ent27 (alive19) sub0 (by kernel_rfl) ?_
      refine st_fn ent31 (ks1) sub0 (by kernel_rfl) ?_
      refine st_fn ent32 (ks2) sub0 (by kernel_rfl) ?_
      refine st_fn ent36 (ks3) sub0 (by kernel_rfl) ?_
      refine st_b 82 (show (w == w) = true by exact decide_eq_true (by omega)) (by kernel_rfl) ?_
      refine st_fn ent34 (ks4) sub0 (by kernel_rfl) ?_
      refine st_b 89 (show (decide (g' ≥ if 4 < 2 then 4 else 2)) = true by exact decide_eq_true (by omega)) (by kernel_rfl) ?_
      refine st_b 100 (show (decide (D' < 31)) = true by exact decide_eq_true (by omega)) (by kernel_rfl) ?_
      refine st_b 104 (show (decide (D' > -31)) = true by exact decide_eq_true (by omega)) (by kernel_rfl) ?_
      exact st_ret Try.func9 (by kernel_rfl)
  · have b2 : -31 < D' ∧ D' < 31 := by omega
    have b3 := h3 rfl
    clear h1 h2 h3 h2'
    by_cases u1 : B' > -12
    · by_cases u2 : B' < 12
      · have u3 := u2
        refine fn_of Try.func9 rfl fun ww => ?_
        refine st_fn ent29 (kh1) sub0 (by kernel_rfl) ?_
        refine st_b 21 (show (e == 0) = false by exact decide_eq_false (by omega)) (by kernel_rfl) ?_
        refine st_fn ent25 (kh2) sub0 (by kernel_rfl) ?_
        refine st_rowB ent35 (zufields (A') (B') (C') (D') (0) (0) (0) (0)) (by kernel_rfl) ?_
        refine st_b 58 (show (decide (B' > -12)) = true by exact decide_eq_true (by omega)) (by kernel_rfl) ?_
        refine st_b 63 (show (decide (B' < 12)) = true by exact decide_eq_true (by omega)) (by kernel_rfl) ?_
        refine st_fn ent27 (alive19) sub0 (by kernel_rfl) ?_
        refine st_fn ent31 (ks1) sub0 (by kernel_rfl) ?_
        refine st_fn ent32 (ks2) sub0 (by kernel_rfl) ?_
        refine st_fn ent36 (ks3) sub0 (by kernel_rfl) ?_
        refine st_b 82 (show (w == w) = true by exact decide_eq_true (by omega)) (by kernel_rfl) ?_
        refine st_fn ent34 (ks4) sub0 (by kernel_rfl) ?_
        refine st_b 89 (show (decide (g' ≥ if 4 < 3 then 4 else 3)) = true by exact decide_eq_true (by omega)) (by kernel_rfl) ?_
        refine st_b 100 (show (decide (D' < 31)) = true by exact decide_eq_true (by omega)) (by kernel_rfl) ?_
        refine st_b 104 (show (decide (D' > -31)) = true by exact decide_eq_true (by omega)) (by kernel_rfl) ?_
        refine st_b 114 (show (decide (D' < 7)) = true by exact decide_eq_true (by omega)) (by kernel_rfl) ?_
        exact st_retv Try.func9 (show Value.bool (decide (D' > -7)) = _ by simp_all) (by kernel_rfl)
      · have u3 := u2
        refine fn_of Try.func9 rfl fun ww => ?_
        refine st_fn ent29 (kh1) sub0 (by kernel_rfl) ?_
        refine st_b 21 (show (e == 0) = false by exact decide_eq_false (by omega)) (by kernel_rfl) ?_
        refine st_fn ent25 (kh2) sub0 (by kernel_rfl) ?_
        refine st_rowB ent35 (zufields (A') (B') (C') (D') (0) (0) (0) (0)) (by kernel_rfl) ?_
        refine st_b 58 (show (decide (B' > -12)) = true by exact decide_eq_true (by omega)) (by kernel_rfl) ?_
        refine st_b 63 (show (decide (B' < 12)) = false by exact decide_eq_false (by omega)) (by kernel_rfl) ?_
        refine st_fn ent27 (alive19) sub0 (by kernel_rfl) ?_
        refine st_fn ent31 (ks1) sub0 (by kernel_rfl) ?_
        refine st_fn ent32 (ks2) sub0 (by kernel_rfl) ?_
        refine st_fn ent36 (ks3) sub0 (by kernel_rfl) ?_
        refine st_b 82 (show (w == w) = true by exact decide_eq_true (by omega)) (by kernel_rfl) ?_
        refine st_fn ent34 (ks4) sub0 (by kernel_rfl) ?_
        refine st_b 89 (show (decide (g' ≥ if 4 < 3 then 4 else 3)) = true by exact decide_eq_true (by omega)) (by kernel_rfl) ?_
        refine st_b 100 (show (decide (D' < 31)) = true by exact decide_eq_true (by omega)) (by kernel_rfl) ?_
        refine st_b 104 (show (decide (D' > -31)) = true by exact decide_eq_true (by omega)) (by kernel_rfl) ?_
        refine st_b 114 (show (decide (D' < 7)) = true by exact decide_eq_true (by omega)) (by kernel_rfl) ?_
        exact st_retv Try.func9 (show Value.bool (decide (D' > -7)) = _ by simp_all) (by kernel_rfl)
    · have u3 := u1
      refine fn_of Try.func9 rfl fun ww => ?_
      refine st_fn ent29 (kh1) sub0 (by kernel_rfl) ?_
      refine st_b 21 (show (e == 0) = false by exact decide_eq_false (by omega)) (by kernel_rfl) ?_
      refine st_fn ent25 (kh2) sub0 (by kernel_rfl) ?_
      refine st_rowB ent35 (zufields (A') (B') (C') (D') (0) (0) (0) (0)) (by kernel_rfl) ?_
      refine st_b 58 (show (decide (B' > -12)) = false by exact decide_eq_false (by omega)) (by kernel_rfl) ?_
      refine st_fn ent27 (alive19) sub0 (by kernel_rfl) ?_
      refine st_fn ent31 (ks1) sub0 (by kernel_rfl) ?_
      refine st_fn ent32 (ks2) sub0 (by kernel_rfl) ?_
      refine st_fn ent36 (ks3) sub0 (by kernel_rfl) ?_
      refine st_b 82 (show (w == w) = true by exact decide_eq_true (by omega)) (by kernel_rfl) ?_
      refine st_fn ent34 (ks4) sub0 (by kernel_rfl) ?_
      refine st_b 89 (show (decide (g' ≥ if 4 < 3 then 4 else 3)) = true by exact decide_eq_true (by omega)) (by kernel_rfl) ?_
      refine st_b 100 (show (decide (D' < 31)) = true by exact decide_eq_true (by omega)) (by kernel_rfl) ?_
      refine st_b 104 (show (decide (D' > -31)) = true by exact decide_eq_true (by omega)) (by kernel_rfl) ?_
      refine st_b 114 (show (decide (D' < 7)) = true by exact decide_eq_true (by omega)) (by kernel_rfl) ?_
      exact st_retv Try.func9 (show Value.bool (decide (D' > -7)) = _ by simp_all) (by kernel_rfl)
  · clear h1 h2 h3 h2'
    by_cases u1 : B' > -12
    · by_cases u2 : B' < 12
      · have u3 := u2
        refine fn_of Try.func9 rfl fun ww => ?_
        refine st_fn ent29 (kh1) sub0 (by kernel_rfl) ?_
        refine st_b 21 (show (e == 0) = false by exact decide_eq_false (by omega)) (by kernel_rfl) ?_
        refine st_fn ent25 (kh2) sub0 (by kernel_rfl) ?_
        refine st_rowB ent35 (zufields (A') (B') (C') (D') (0) (0) (0) (0)) (by kernel_rfl) ?_
        refine st_b 58 (show (decide (B' > -12)) = true by exact decide_eq_true (by omega)) (by kernel_rfl) ?_
        refine st_b 63 (show (decide (B' < 12)) = true by exact decide_eq_true (by omega)) (by kernel_rfl) ?_
        refine st_fn ent27 (alive19) sub0 (by kernel_rfl) ?_
        refine st_fn ent31 (ks1) sub0 (by kernel_rfl) ?_
        refine st_fn ent32 (ks2) sub0 (by kernel_rfl) ?_
        refine st_fn ent36 (ks3) sub0 (by kernel_rfl) ?_
        refine st_b 82 (show (w == w) = true by exact decide_eq_true (by omega)) (by kernel_rfl) ?_
        refine st_fn ent34 (ks4) sub0 (by kernel_rfl) ?_
        refine st_b 89 (show (decide (g' ≥ if 4 < 4 then 4 else 4)) = true by exact decide_eq_true (by omega)) (by kernel_rfl) ?_
        exact st_ret Try.func9 (by kernel_rfl)
      · have u3 := u2
        refine fn_of Try.func9 rfl fun ww => ?_
        refine st_fn ent29 (kh1) sub0 (by kernel_rfl) ?_
        refine st_b 21 (show (e == 0) = false by exact decide_eq_false (by omega)) (by kernel_rfl) ?_
        refine st_fn ent25 (kh2) sub0 (by kernel_rfl) ?_
        refine st_rowB ent35 (zufields (A') (B') (C') (D') (0) (0) (0) (0)) (by kernel_rfl) ?_
        refine st_b 58 (show (decide (B' > -12)) = true by exact decide_eq_true (by omega)) (by kernel_rfl) ?_
        refine st_b 63 (show (decide (B' < 12)) = false by exact decide_eq_false (by omega)) (by kernel_rfl) ?_
        refine st_fn ent27 (alive19) sub0 (by kernel_rfl) ?_
        refine st_fn ent31 (ks1) sub0 (by kernel_rfl) ?_
        refine st_fn ent32 (ks2) sub0 (by kernel_rfl) ?_
        refine st_fn ent36 (ks3) sub0 (by kernel_rfl) ?_
        refine st_b 82 (show (w == w) = true by exact decide_eq_true (by omega)) (by kernel_rfl) ?_
        refine st_fn ent34 (ks4) sub0 (by kernel_rfl) ?_
        refine st_b 89 (show (decide (g' ≥ if 4 < 4 then 4 else 4)) = true by exact decide_eq_true (by omega)) (by kernel_rfl) ?_
        exact st_ret Try.func9 (by kernel_rfl)
    · have u3 := u1
      refine fn_of Try.func9 rfl fun ww => ?_
      refine st_fn ent29 (kh1) sub0 (by kernel_rfl) ?_
      refine st_b 21 (show (e == 0) = false by exact decide_eq_false (by omega)) (by kernel_rfl) ?_
      refine st_fn ent25 (kh2) sub0 (by kernel_rfl) ?_
      refine st_rowB ent35 (zufields (A') (B') (C') (D') (0) (0) (0) (0)) (by kernel_rfl) ?_
      refine st_b 58 (show (decide (B' > -12)) = false by exact decide_eq_false (by omega)) (by kernel_rfl) ?_
      refine st_fn ent27 (alive19) sub0 (by kernel_rfl) ?_
      refine st_fn ent31 (ks1) sub0 (by kernel_rfl) ?_
      refine st_fn ent32 (ks2) sub0 (by kernel_rfl) ?_
      refine st_fn ent36 (ks3) sub0 (by kernel_rfl) ?_
      refine st_b 82 (show (w == w) = true by exact decide_eq_true (by omega)) (by kernel_rfl) ?_
      refine st_fn ent34 (ks4) sub0 (by kernel_rfl) ?_
      refine st_b 89 (show (decide (g' ≥ if 4 < 4 then 4 else 4)) = true by exact decide_eq_true (by omega)) (by kernel_rfl) ?_
      exact st_ret Try.func9 (by kernel_rfl)
end
end Go.Proofs.Ytccllfegnijpiaa
end
section
/-
  All that lies between has one sign, and nothing greater than the unit: the law CalendarSigns.
-/
set_option linter.unusedVariables false
set_option linter.unusedSimpArgs false
set_option maxRecDepth 100000
namespace Go.Proofs.Ytccllfegnijpiaa
open Go Go.RowKit Go.Ev

section
variable (y mo d h m s n y' mo' d' h' m' s' n' L E Z : Int)
variable (A B C D H M S T e v g A' B' C' D' w g' f : Int)
theorem csg_kB (hL : L = 1 ∨ L = 2 ∨ L = 3 ∨ L = 4) (kh1 : Fn 29 [] [ptv y mo d h m s n, ptv y' mo' d' h' m' s' n', .int .i64 L] (.tuple #[duv A B C D H M S T, .int .i64 0])) (q : okB y mo d h m s n y' mo' d' h' m' s' n' L A B C D H M S T v g)
    (kh2 : Fn 25 [] [dv y mo d, dv y' mo' d', .int .i64 L] (.tuple #[duv A' B' C' D' 0 0 0 0, .int .i64 0])) (ks1 : Fn 31 [] [duv A' B' C' D' 0 0 0 0] (.bool true)) (ks2 : Fn 32 [] [duv A' B' C' D' 0 0 0 0] (.int .i64 w))
    (ks3 : Fn 36 [] [dv y' mo' d', dv y mo d] (.int .i64 w)) (ks4 : Fn 34 [] [duv A' B' C' D' 0 0 0 0] (.int .i64 g')) (hg : L ≤ g') (h1 : L = 1 → -12 < B' ∧ B' < 12) (h2 : L ≤ 2 → -31 < D' ∧ D' < 31) (h3 : L = 3 → -7 < D' ∧ D' < 7) : Fn 9 [] [ptv y mo d h m s n, ptv y' mo' d' h' m' s' n', .int .i64 L] (.bool true) := by
  have h2' : -31 < D' ∧ D' < 31 ∨ L = 4 := by
    rcases hL with q | q | q | q
    · exact .inl (h2 (by omega))
    · exact .inl (h2 (by omega))
    · exact .inl (by have := h3 q; omega)
    · exact .inr q
  obtain ⟨kr1, kr2, kr3, kr4, kr5⟩ := q
  rcases hL with rfl | rfl | rfl | rfl
  · have b1 := h1 rfl
    have b2 : -31 < D' ∧ D' < 31 := by omega
    clear h1 h2 h3 h2'
    refine fn_of Try.func9 rfl fun ww => ?_
    refine st_fn ent29 (kh1) sub0 (by kernel_rfl) ?_
    refine st_fn ent31 (kr1) sub0 (by kernel_rfl) ?_
    refine st_fn ent32 (kr2) sub0 (by kernel_rfl) ?_
    refine st_fn ent33 (kr3) sub0 (by kernel_rfl) ?_
    refine st_b 32 (show (v != v) = false by exact bne_eq_false_iff_eq.2 (by omega)) (by kernel_rfl) ?_
    refine st_fn ent34 (kr4) sub0 (by kernel_rfl) ?_
    refine st_b 38 (show (decide (g < 1)) = false by exact decide_eq_false (by omega)) (by kernel_rfl) ?_
    refine st_fn ent25 (kh2) sub0 (by kernel_rfl) ?_
    refine st_rowB ent35 (zufields (A') (B') (C') (D') (0) (0) (0) (0)) (by kernel_rfl) ?_
    refine st_b 58 (show (decide (B' > -12)) = true by exact decide_eq_true (by omega)) (by kernel_rfl) ?_
    refine st_b 63 (show (decide (B' < 12)) = true by exact decide_eq_true (by omega)) (by kernel_rfl) ?_
    refine st_fn ent27 (alive19) sub0 (by kernel_rfl) ?_
    refine st_fn ent31 (ks1) sub0 (by kernel_rfl) ?_
    refine st_fn ent32 (ks2) sub0 (by kernel_rfl) ?_
    refine st_fn ent36 (ks3) sub0 (by kernel_rfl) ?_
    refine st_b 82 (show (w == w) = true by exact decide_eq_true (by omega)) (by kernel_rfl) ?_
    refine st_fn ent34 (ks4) sub0 (by kernel_rfl) ?_
    refine st_b 89 (show (decide (g' ≥ if 4 < 1 then 4 else 1)) = true by exact decide_eq_true (by omega)) (by kernel_rfl) ?_
    refine st_b 100 (show (decide (D' < 31)) = true by exact decide_eq_true (by omega)) (by kernel_rfl) ?_
    refine st_b 104 (show (decide (D' > -31)) = true by exact decide_eq_true (by omega)) (by kernel_rfl) ?_
    exact st_ret Try.func9 (by kernel_rfl)
  · have b2 : -31 < D' ∧ D' < 31 := by omega
    clear h1 h2 h3 h2'
    by_cases u1 : B' > -12
    · by_cases u2 : B' < 12
      · have u3 := u2
        refine fn_of Try.func9 rfl fun ww => ?_
        refine st_fn ent29 (kh1) sub0 (by kernel_rfl) ?_
        refine st_fn ent31 (kr1) sub0 (by kernel_rfl) ?_
        refine st_fn ent32 (kr2) sub0 (by kernel_rfl) ?_
        refine st_fn ent33 (kr3) sub0 (by kernel_rfl) ?_
        refine st_b 32 (show (v != v) = false by exact bne_eq_false_iff_eq.2 (by omega)) (by kernel_rfl) ?_
        refine st_fn ent34 (kr4) sub0 (by kernel_rfl) ?_
        refine st_b 38 (show (decide (g < 2)) = false by exact decide_eq_false (by omega)) (by kernel_rfl) ?_
        refine st_fn ent25 (kh2) sub0 (by kernel_rfl) ?_
        refine st_rowB ent35 (zufields (A') (B') (C') (D') (0) (0) (0) (0)) (by kernel_rfl) ?_
        refine st_b 58 (show (decide (B' > -12)) = true by exact decide_eq_true (by omega)) (by kernel_rfl) ?_
        refine st_b 63 (show (decide (B' < 12)) = true by exact decide_eq_true (by omega)) (by kernel_rfl) ?_
        refine st_fn ent27 (alive19) sub0 (by kernel_rfl) ?_
        refine st_fn ent31 (ks1) sub0 (by kernel_rfl) ?_
        refine st_fn ent32 (ks2) sub0 (by kernel_rfl) ?_
        refine st_fn ent36 (ks3) sub0 (by kernel_rfl) ?_
        refine st_b 82 (show (w == w) = true by exact decide_eq_true (by omega)) (by kernel_rfl) ?_
        refine st_fn ent34 (ks4) sub0 (by kernel_rfl) ?_
        refine st_b 89 (show (decide (g' ≥ if 4 < 2 then 4 else 2)) = true by exact decide_eq_true (by omega)) (by kernel_rfl) ?_
        refine st_b 100 (show (decide (D' < 31)) = true by exact decide_eq_true (by omega)) (by kernel_rfl) ?_
        refine st_b 104 (show (decide (D' > -31)) = true by exact decide_eq_true (by omega)) (by kernel_rfl) ?_
        exact st_ret Try.func9 (by kernel_rfl)
      · have u3 := u2
        refine fn_of Try.func9 rfl fun ww => ?_
        refine st_fn ent29 (kh1) sub0 (by kernel_rfl) ?_
        refine st_fn ent31 (kr1) sub0 (by kernel_rfl) ?_
        refine st_fn ent32 (kr2) sub0 (by kernel_rfl) ?_
        refine st_fn ent33 (kr3) sub0 (by kernel_rfl) ?_
        refine st_b 32 (show (v != v) = false by exact bne_eq_false_iff_eq.2 (by omega)) (by kernel_rfl) ?_
        refine st_fn ent34 (kr4) sub0 (by kernel_rfl) ?_
        refine st_b 38 (show (decide (g < 2)) = false by exact decide_eq_false (by omega)) (by kernel_rfl) ?_
        refine st_fn ent25 (kh2) sub0 (by kernel_rfl) ?_
        refine st_rowB ent35 (zufields (A') (B') (C') (D') (0) (0) (0) (0)) (by kernel_rfl) ?_
        refine st_b 58 (show (decide (B' > -12)) = true by exact decide_eq_true (by omega)) (by kernel_rfl) ?_
        refine st_b 63 (show (decide (B' < 12)) = false by exact decide_eq_false (by omega)) (by kernel_rfl) ?_
        refine st_fn ent27 (alive19) sub0 (by kernel_rfl) ?_
        refine st_fn ent31 (ks1) sub0 (by kernel_rfl) ?_
        refine st_fn ent32 (ks2) sub0 (by kernel_rfl) ?_
        refine st_fn ent36 (ks3) sub0 (by kernel_rfl) ?_
        refine st_b 82 (show (w == w) = true by exact decide_eq_true (by omega)) (by kernel_rfl) ?_
        refine st_fn ent34 (ks4) sub0 (by kernel_rfl) ?_
        refine st_b 89 (show (decide (g' ≥ if 4 < 2 then 4 else 2)) = true by exact decide_eq_true (by omega)) (by kernel_rfl) ?_
        refine st_b 100 (show (decide (D' < 31)) = true by exact decide_eq_true (by omega)) (by kernel_rfl) ?_
        refine st_b 104 (show (decide (D' > -31)) = true by exact decide_eq_true (by omega)) (by kernel_rfl) ?_
        exact st_ret Try.func9 (by kernel_rfl)
    · have u3 := u1
      refine fn_of Try.func9 rfl fun ww => ?_
      refine st_fn ent29 (kh1) sub0 (by kernel_rfl) ?_
      refine st_fn ent31 (kr1) sub0 (by kernel_rfl) ?_
      refine st_fn ent32 (kr2) sub0 (by kernel_rfl) ?_
      refine st_fn ent33 (kr3) sub0 (by kernel_rfl) ?_
      refine st_b 32 (show (v != v) = false by exact bne_eq_false_iff_eq.2 (by omega)) (by kernel_rfl) ?_
      refine st_fn ent34 (kr4) sub0 (by kernel_rfl) ?_
      refine st_b 38 (show (decide (g < 2)) = false by exact decide_eq_false (by omega)) (by kernel_rfl) ?_
      refine st_fn ent25 (kh2) sub0 (by kernel_rfl) ?_
      refine st_rowB ent35 (zufields (A') (B') (C') (D') (0) (0) (0) (0)) (by kernel_rfl) ?_
      refine st_b 58 (show (decide (B' > -12)) = false by exact decide_eq_false (by omega)) (by kernel_rfl) ?_
      refine st_fn ent27 (alive19) sub0 (by kernel_rfl) ?_
      refine st_fn ent31 (ks1) sub0 (by kernel_rfl) ?_
      refine st_fn ent32 (ks2) sub0 (by kernel_rfl) ?_
      refine st_fn ent36 (ks3) sub0 (by kernel_rfl) ?_
      refine st_b 82 (show (w == w) = true by exact decide_eq_true (by omega)) (by kernel_rfl) ?_
      refine st_fn ent34 (ks4) sub0 (by kernel_rfl) ?_
      refine st_b 89 (show (decide (g' ≥ if 4 < 2 then 4 else 2)) = true by exact decide_eq_true (by omega)) (by kernel_rfl) ?_
      refine st_b 100 (show (decide (D' < 31)) = true by exact decide_eq_true (by omega)) (by kernel_rfl) ?_
      refine st_b 104 (show (decide (D' > -31)) = true by exact decide_eq_true (by omega)) (by kernel_rfl) ?_
      exact st_ret Try.func9 (by kernel_rfl)
  · have b2 : -31 < D' ∧ D' < 31 := by omega
    have b3 := h3 rfl
    clear h1 h2 h3 h2'
    by_cases u1 : B' > -12
    · by_cases u2 : B' < 12
      · have u3 := u2
        refine fn_of Try.func9 rfl fun ww => ?_
        refine st_fn ent29 (kh1) sub0 (by kernel_rfl) ?_
        refine st_fn ent31 (kr1) sub0 (by kernel_rfl) ?_
        refine st_fn ent32 (kr2) sub0 (by kernel_rfl) ?_
        refine st_fn ent33 (kr3) sub0 (by kernel_rfl) ?_
        refine st_b 32 (show (v != v) = false by exact bne_eq_false_iff_eq.2 (by omega)) (by kernel_rfl) ?_
        refine st_fn ent34 (kr4) sub0 (by kernel_rfl) ?_
        refine st_b 38 (show (decide (g < 3)) = false by exact decide_eq_false (by omega)) (by kernel_rfl) ?_
        refine st_fn ent25 (kh2) sub0 (by kernel_rfl) ?_
        refine st_rowB ent35 (zufields (A') (B') (C') (D') (0) (0) (0) (0)) (by kernel_rfl) ?_
        refine st_b 58 (show (decide (B' > -12)) = true by exact decide_eq_true (by omega)) (by kernel_rfl) ?_
        refine st_b 63 (show (decide (B' < 12)) = true by exact decide_eq_true (by omega)) (by kernel_rfl) ?_
        refine st_fn ent27 (alive19) sub0 (by kernel_rfl) ?_
        refine st_fn ent31 (ks1) sub0 (by kernel_rfl) ?_
        refine st_fn ent32 (ks2) sub0 (by kernel_rfl) ?_
        refine st_fn ent36 (ks3) sub0 (by kernel_rfl) ?_
        refine st_b 82 (show (w == w) = true by exact decide_eq_true (by omega)) (by kernel_rfl) ?_
        refine st_fn ent34 (ks4) sub0 (by kernel_rfl) ?_
        refine st_b 89 (show (decide (g' ≥ if 4 < 3 then 4 else 3)) = true by exact decide_eq_true (by omega)) (by kernel_rfl) ?_
        refine st_b 100 (show (decide (D' < 31)) = true by exact decide_eq_true (by omega)) (by kernel_rfl) ?_
        refine st_b 104 (show (decide (D' > -31)) = true by exact decide_eq_true (by omega)) (by kernel_rfl) ?_
        refine st_b 114 (show (decide (D' < 7)) = true by exact decide_eq_true (by omega)) (by kernel_rfl) ?_
        exact st_retv Try.func9 (show Value.bool (decide (D' > -7)) = _ by simp_all) (by kernel_rfl)
      · have u3 := u2
        refine fn_of Try.func9 rfl fun ww => ?_
        refine st_fn ent29 (kh1) sub0 (by kernel_rfl) ?_
        refine st_fn ent31 (kr1) sub0 (by kernel_rfl) ?_
        refine st_fn ent32 (kr2) sub0 (by kernel_rfl) ?_
        refine st_fn ent33 (kr3) sub0 (by kernel_rfl) ?_
        refine st_b 32 (show (v != v) = false by exact bne_eq_false_iff_eq.2 (by omega)) (by kernel_rfl) ?_
        refine st_fn ent34 (kr4) sub0 (by kernel_rfl) ?_
        refine st_b 38 (show (decide (g < 3)) = false by exact decide_eq_false (by omega)) (by kernel_rfl) ?_
        refine st_fn ent25 (kh2) sub0 (by kernel_rfl) ?_
        refine st_rowB ent35 (zufields (A') (B') (C') (D') (0) (0) (0) (0)) (by kernel_rfl) ?_
        refine st_b 58 (show (decide (B' > -12)) = true by exact decide_eq_true (by omega)) (by kernel_rfl) ?_
        refine st_b 63 (show (decide (B' < 12)) = false by exact decide_eq_false (by omega)) (by kernel_rfl) ?_
        refine st_fn ent27 (alive19) sub0 (by kernel_rfl) ?_
        refine st_fn ent31 (ks1) sub0 (by kernel_rfl) ?_
        refine st_fn ent32 (ks2) sub0 (by kernel_rfl) ?_
        refine st_fn ent36 (ks3) sub0 (by kernel_rfl) ?_
        refine st_b 82 (show (w == w) = true by exact decide_eq_true (by omega)) (by kernel_rfl) ?_
        refine st_fn ent34 (ks4) sub0 (by kernel_rfl) ?_
        refine st_b 89 (show (decide (g' ≥ if 4 < 3 then 4 else 3)) = true by exact decide_eq_true (by omega)) (by kernel_rfl) ?_
        refine st_b 100 (show (decide (D' < 31)) = true by exact decide_eq_true (by omega)) (by kernel_rfl) ?_
        refine st_b 104 (show (decide (D' > -31)) = true by exact decide_eq_true (by omega)) (by kernel_rfl) ?_
        refine st_b 114 (show (decide (D' < 7)) = true by exact decide_eq_true (by omega)) (by kernel_rfl) ?_
        exact st_retv Try.func9 (show Value.bool (decide (D' > -7)) = _ by simp_all) (by kernel_rfl)
    · have u3 := u1
      refine fn_of Try.func9 rfl fun ww => ?_
      refine st_fn ent29 (kh1) sub0 (by kernel_rfl) ?_
      refine st_fn ent31 (kr1) sub0 (by kernel_rfl) ?_
      refine st_fn ent32 (kr2) sub0 (by kernel_rfl) ?_
      refine st_fn ent33 (kr3) sub0 (by kernel_rfl) ?_
      refine st_b 32 (show (v != v) = false by exact bne_eq_false_iff_eq.2 (by omega)) (by kernel_rfl) ?_
      refine st_fn ent34 (kr4) sub0 (by kernel_rfl) ?_
      refine st_b 38 (show (decide (g < 3)) = false by exact decide_eq_false (by omega)) (by kernel_rfl) ?_
      refine st_fn ent25 (kh2) sub0 (by kernel_rfl) ?_
      refine st_rowB ent35 (zufields (A') (B') (C') (D') (0) (0) (0) (0)) (by kernel_rfl) ?_
      refine st_b 58 (show (decide (B' > -12)) = false by exact decide_eq_false (by omega)) (by kernel_rfl) ?_
      refine st_fn ent27 (alive19) sub0 (by kernel_rfl) ?_
      refine st_fn ent31 (ks1) sub0 (by kernel_rfl) ?_
      refine st_fn ent32 (ks2) sub0 (by kernel_rfl) ?_
      refine st_fn ent36 (ks3) sub0 (by kernel_rfl) ?_
      refine st_b 82 (show (w == w) = true by exact decide_eq_true (by omega)) (by kernel_rfl) ?_
      refine st_fn ent34 (ks4) sub0 (by kernel_rfl) ?_
      refine st_b 89 (show (decide (g' ≥ if 4 < 3 then 4 else 3)) = true by exact decide_eq_true (by omega)) (by kernel_rfl) ?_
      refine st_b 100 (show (decide (D' < 31)) = true by exact decide_eq_true (by omega)) (by kernel_rfl) ?_
      refine st_b 104 (show (decide (D' > -31)) = true by exact decide_eq_true (by omega)) (by kernel_rfl) ?_
      refine st_b 114 (show (decide (D' < 7)) = true by exact decide_eq_true (by omega)) (by kernel_rfl) ?_
      exact st_retv Try.func9 (show Value.bool (decide (D' > -7)) = _ by simp_all) (by kernel_rfl)
  · clear h1 h2 h3 h2'
    by_cases u1 : B' > -12
    · by_cases u2 : B' < 12
      · have u3 := u2
        refine fn_of Try.func9 rfl fun ww => ?_
        refine st_fn ent29 (kh1) sub0 (by kernel_rfl) ?_
        refine st_fn ent31 (kr1) sub0 (by kernel_rfl) ?_
        refine st_fn ent32 (kr2) sub0 (by kernel_rfl) ?_
        refine st_fn ent33 (kr3) sub0 (by kernel_rfl) ?_
        refine st_b 32 (show (v != v) = false by exact bne_eq_false_iff_eq.2 (by omega)) (by kernel_rfl) ?_
        refine st_fn ent34 (kr4) sub0 (by kernel_rfl) ?_
        refine st_b 38 (show (decide (g < 4)) = false by exact decide_eq_false (by omega)) (by kernel_rfl) ?_
        refine st_fn ent25 (kh2) sub0 (by kernel_rfl) ?_
        refine st_rowB ent35 (zufields (A') (B') (C') (D') (0) (0) (0) (0)) (by kernel_rfl) ?_
        refine st_b 58 (show (decide (B' > -12)) = true by exact decide_eq_true (by omega)) (by kernel_rfl) ?_
        refine st_b 63 (show (decide (B' < 12)) = true by exact decide_eq_true (by omega)) (by kernel_rfl) ?_
        refine st_fn ent27 (alive19) sub0 (by kernel_rfl) ?_
        refine st_fn ent31 (ks1) sub0 (by kernel_rfl) ?_
        refine st_fn ent32 (ks2) sub0 (by kernel_rfl) ?_
        refine st_fn ent36 (ks3) sub0 (by kernel_rfl) ?_
        refine st_b 82 (show (w == w) = true by exact decide_eq_true (by omega)) (by kernel_rfl) ?_
        refine st_fn ent34 (ks4) sub0 (by kernel_rfl) ?_
        refine st_b 89 (show (decide (g' ≥ if 4 < 4 then 4 else 4)) = true by exact decide_eq_true (by omega)) (by kernel_rfl) ?_
        exact st_ret Try.func9 (by kernel_rfl)
      · have u3 := u2
        refine fn_of Try.func9 rfl fun ww => ?_
        refine st_fn ent29 (kh1) sub0 (by kernel_rfl) ?_
        refine st_fn ent31 (kr1) sub0 (by kernel_rfl) ?_
        refine st_fn ent32 (kr2) sub0 (by kernel_rfl) ?_
        refine st_fn ent33 (kr3) sub0 (by kernel_rfl) ?_
        refine st_b 32 (show (v != v) = false by exact bne_eq_false_iff_eq.2 (by omega)) (by kernel_rfl) ?_
        refine st_fn ent34 (kr4) sub0 (by kernel_rfl) ?_
        refine st_b 38 (show (decide (g < 4)) = false by exact decide_eq_false (by omega)) (by kernel_rfl) ?_
        refine st_fn ent25 (kh2) sub0 (by kernel_rfl) ?_
        refine st_rowB ent35 (zufields (A') (B') (C') (D') (0) (0) (0) (0)) (by kernel_rfl) ?_
        refine st_b 58 (show (decide (B' > -12)) = true by exact decide_eq_true (by omega)) (by kernel_rfl) ?_
        refine st_b 63 (show (decide (B' < 12)) = false by exact decide_eq_false (by omega)) (by kernel_rfl) ?_
        refine st_fn ent27 (alive19) sub0 (by kernel_rfl) ?_
        refine st_fn ent31 (ks1) sub0 (by kernel_rfl) ?_
        refine st_fn ent32 (ks2) sub0 (by kernel_rfl) ?_
        refine st_fn ent36 (ks3) sub0 (by kernel_rfl) ?_
        refine st_b 82 (show (w == w) = true by exact decide_eq_true (by omega)) (by kernel_rfl) ?_
        refine st_fn ent34 (ks4) sub0 (by kernel_rfl) ?_
        refine st_b 89 (show (decide (g' ≥ if 4 < 4 then 4 else 4)) = true by exact decide_eq_true (by omega)) (by kernel_rfl) ?_
        exact st_ret Try.func9 (by kernel_rfl)
    · have u3 := u1
      refine fn_of Try.func9 rfl fun ww => ?_
      refine st_fn ent29 (kh1) sub0 (by kernel_rfl) ?_
      refine st_fn ent31 (kr1) sub0 (by kernel_rfl) ?_
      refine st_fn ent32 (kr2) sub0 (by kernel_rfl) ?_
      refine st_fn ent33 (kr3) sub0 (by kernel_rfl) ?_
      refine st_b 32 (show (v != v) = false by exact bne_eq_false_iff_eq.2 (by omega)) (by kernel_rfl) ?_
      refine st_fn ent34 (kr4) sub0 (by kernel_rfl) ?_
      refine st_b 38 (show (decide (g < 4)) = false by exact decide_eq_false (by omega)) (by kernel_rfl) ?_
      refine st_fn ent25 (kh2) sub0 (by kernel_rfl) ?_
      refine st_rowB ent35 (zufields (A') (B') (C') (D') (0) (0) (0) (0)) (by kernel_rfl) ?_
      refine st_b 58 (show (decide (B' > -12)) = false by exact decide_eq_false (by omega)) (by kernel_rfl) ?_
      refine st_fn ent27 (alive19) sub0 (by kernel_rfl) ?_
      refine st_fn ent31 (ks1) sub0 (by kernel_rfl) ?_
      refine st_fn ent32 (ks2) sub0 (by kernel_rfl) ?_
      refine st_fn ent36 (ks3) sub0 (by kernel_rfl) ?_
      refine st_b 82 (show (w == w) = true by exact decide_eq_true (by omega)) (by kernel_rfl) ?_
      refine st_fn ent34 (ks4) sub0 (by kernel_rfl) ?_
      refine st_b 89 (show (decide (g' ≥ if 4 < 4 then 4 else 4)) = true by exact decide_eq_true (by omega)) (by kernel_rfl) ?_
      exact st_ret Try.func9 (by kernel_rfl)
end
end Go.Proofs.Ytccllfegnijpiaa
end
section
/-
  All that lies between has one sign, and nothing greater than the unit: the law CalendarSigns.
-/
set_option linter.unusedVariables false
set_option linter.unusedSimpArgs false
set_option maxRecDepth 100000
namespace Go.Proofs.Ytccllfegnijpiaa
open Go Go.RowKit Go.Ev

section
variable (y mo d h m s n y' mo' d' h' m' s' n' L E Z : Int)
variable (A B C D H M S T e v g A' B' C' D' w g' f : Int)
theorem csg_k (hL : L = 1 ∨ L = 2 ∨ L = 3 ∨ L = 4) (kh1 : Fn 29 [] [ptv y mo d h m s n, ptv y' mo' d' h' m' s' n', .int .i64 L] (.tuple #[duv A B C D H M S T, .int .i64 e])) (q : e ≠ 0 ∨ e = 0 ∧ okB y mo d h m s n y' mo' d' h' m' s' n' L A B C D H M S T v g)
    (kh2 : Fn 25 [] [dv y mo d, dv y' mo' d', .int .i64 L] (.tuple #[duv A' B' C' D' 0 0 0 0, .int .i64 0])) (ks1 : Fn 31 [] [duv A' B' C' D' 0 0 0 0] (.bool true)) (ks2 : Fn 32 [] [duv A' B' C' D' 0 0 0 0] (.int .i64 w))
    (ks3 : Fn 36 [] [dv y' mo' d', dv y mo d] (.int .i64 w)) (ks4 : Fn 34 [] [duv A' B' C' D' 0 0 0 0] (.int .i64 g')) (hg : L ≤ g') (h1 : L = 1 → -12 < B' ∧ B' < 12) (h2 : L ≤ 2 → -31 < D' ∧ D' < 31) (h3 : L = 3 → -7 < D' ∧ D' < 7) : Fn 9 [] [ptv y mo d h m s n, ptv y' mo' d' h' m' s' n', .int .i64 L] (.bool true) := by
  rcases q with q | ⟨rfl, q⟩
  · exact csg_kA y mo d h m s n y' mo' d' h' m' s' n' L A B C D H M S T e A' B' C' D' w g' hL kh1 q kh2 ks1 ks2 ks3 ks4 hg h1 h2 h3
  · exact csg_kB y mo d h m s n y' mo' d' h' m' s' n' L A B C D H M S T v g A' B' C' D' w g' hL kh1 q kh2 ks1 ks2 ks3 ks4 hg h1 h2 h3
end
section
variable (y mo d h m s n y' mo' d' h' m' s' n' L : Int)
theorem csg_b : ∃ A B C D H M S T e v g : Int, Fn 29 [] [ptv y mo d h m s n, ptv y' mo' d' h' m' s' n', .int .i64 L] (.tuple #[duv A B C D H M S T, .int .i64 e]) ∧ (e ≠ 0 ∨ e = 0 ∧ okB y mo d h m s n y' mo' d' h' m' s' n' L A B C D H M S T v g) := by
  by_cases k : pOk y mo d h m s n ∧ pOk y' mo' d' h' m' s' n' ∧ 1 ≤ L ∧ L ≤ 8
  · obtain ⟨k1, k2, l1, lq8⟩ := k
    by_cases lq4 : L ≤ 4
    · obtain ⟨o, i⟩ := bt_uOk y mo d h m s n y' mo' d' h' m' s' n' L _ _ k1 k2 l1 lq4 rfl rfl
      have sg := usign _ _ _ _ _ _ _ _ i
      rw [bt_sg y mo d h m s n y' mo' d' h' m' s' n' L _ _ k1 k2 l1 lq4 rfl rfl] at sg
      exact ⟨_, _, _, _, _, _, _, _, _, _, _, cbet y mo d h m s n y' mo' d' h' m' s' n' L _ _ k1 k2 l1 lq4 rfl rfl, .inr ⟨rfl, uright_y _ _ _ _ _ _ _ _ i o, sg, pcmp _ _ _ _ _ _ _ _ _ _ _ _ _ _, ularg _ _ _ _ _ _ _ _, uv_lg _ _ _ _ _ _ _ _ _ _ _ l1 lq4⟩⟩
    · have w : W128 (pnum y' mo' d' h' m' s' n' - pnum y mo d h m s n) := by
        have a := pOk_in k1
        have b := pOk_in k2
        unfold pIn at a b; unfold W128; omega
      by_cases q : layOk L (pnum y' mo' d' h' m' s' n' - pnum y mo d h m s n)
      · have o := lay_ok q
        have i := lay_64 q
        have t := (lay_tot (x := pnum y' mo' d' h' m' s' n' - pnum y mo d h m s n) q.1.1 q.1.2).1
        have z4 : l4 L (pnum y' mo' d' h' m' s' n' - pnum y mo d h m s n) = 0 := by unfold l4; rw [if_neg (by omega)]
        have sg := usign _ _ _ _ _ _ _ _ i
        rw [sg8_ex o.1.1, t, cmpI_sub _ _ _ rfl, ← cmp7_num k2 k1] at sg
        obtain ⟨g5, g6, g7, g8⟩ := lg8_t (a := 0) (b := 0) (c := 0) (h := l5 L (pnum y' mo' d' h' m' s' n' - pnum y mo d h m s n)) (mi := l6 L (pnum y' mo' d' h' m' s' n' - pnum y mo d h m s n)) (s := l7 L (pnum y' mo' d' h' m' s' n' - pnum y mo d h m s n)) (n := l8 L (pnum y' mo' d' h' m' s' n' - pnum y mo d h m s n)) rfl rfl rfl z4
        refine ⟨_, _, _, _, _, _, _, _, _, _, _, cbet_5 y mo d h m s n y' mo' d' h' m' s' n' L _ _ _ _ _ _ _ _ _ k1 k2 (by omega) lq8 (ulay_y L _ w q), .inr ⟨rfl, uright_y _ _ _ _ _ _ _ _ i o.1, sg, pcmp _ _ _ _ _ _ _ _ _ _ _ _ _ _, ularg _ _ _ _ _ _ _ _, ?_⟩⟩
        have l : L = 5 ∨ L = 6 ∨ L = 7 ∨ L = 8 := by omega
        rcases l with rfl | rfl | rfl | rfl
        · exact g5
        · exact g6 rfl
        · exact g7 rfl rfl
        · exact g8 rfl rfl rfl
      · exact ⟨_, _, _, _, _, _, _, _, _, 0, 0, cbet_5 y mo d h m s n y' mo' d' h' m' s' n' L _ _ _ _ _ _ _ _ _ k1 k2 (by omega) lq8 (ulay_n L _ w (by omega) lq8 q), .inl (by decide)⟩
  · exact ⟨_, _, _, _, _, _, _, _, _, 0, 0, cbet_a y mo d h m s n y' mo' d' h' m' s' n' L k, .inl (by decide)⟩
theorem law_csigns (W : World) : Calls Try.prog 9 #[ptv y mo d h m s n, ptv y' mo' d' h' m' s' n', .int .i64 L] W (fun e w' => e = .returned (.bool true) ∧ Ext W w') := by
  obtain ⟨A, B, C, D, H, M, S, T, e, v, g, h1, h2⟩ := csg_b y mo d h m s n y' mo' d' h' m' s' n' L
  by_cases k : dOk y mo d ∧ dOk y' mo' d' ∧ 1 ≤ L ∧ L ≤ 4
  · obtain ⟨k1, k2, l1, l4⟩ := k
    obtain ⟨b1, b2, b3, b4, b5, b6, b7, b8⟩ := uv_bd k1 k2 l1 l4
    obtain ⟨o, i⟩ := uOk_mk (z := 0) b1 b2 b3 b4 (by omega) (by rcases b5 with q | q | q <;> omega)
    have sg := usign _ _ _ _ 0 0 0 0 i
    rw [uv_sg k1 k2 l1 l4] at sg
    exact csg_k y mo d h m s n y' mo' d' h' m' s' n' L A B C D H M S T e v g _ _ _ _ _ _ (by omega) h1 h2 (cunt L y mo d y' mo' d' k1 k2 l1 l4) (uright_y _ _ _ _ 0 0 0 0 i o) sg (ccmp5 y' mo' d' y mo d) (ularg _ _ _ _ _ _ _ _) (uv_lg _ _ _ _ _ _ _ _ _ _ _ l1 l4) b6 b7 b8 W (zall_nil W)
  · exact csg_e y mo d h m s n y' mo' d' h' m' s' n' L A B C D H M S T e v g 1 h1 h2 (cunt_a y mo d y' mo' d' L k) (by omega) W (zall_nil W)
end
end Go.Proofs.Ytccllfegnijpiaa
end
