/-
  The law DivideBys, walked.
-/
import Derived.Test.YtmkddcmfofabbaaZfl
import Derived.Test.YtmkddcmfofabbaaLiv03
namespace Go.Proofs.Ytmkddcmfofabbaa
open Go Go.RowKit

theorem zfloor_by (a n : Int) (w : World) (ha : W128 a) (hn : 0 < n) (hI : I64 n) :
    Calls Try.prog 57 #[.agg #[.int .i64 (hi a), .int .u64 (lo a)], .agg #[.int .i64 (hi n), .int .u64 (lo n)]] w
      (fun e w' => e = .returned (.tuple #[.agg #[.int .i64 (hi (a.fdiv n)), .int .u64 (lo (a.fdiv n))], .agg #[.int .i64 (hi (a.fmod n)), .int .u64 (lo (a.fmod n))], .int .i64 0]) ∧ Ext w w') := by
  have h := zfloor a n w ha hI.w (by omega)
  obtain ⟨hq, r0, r1⟩ := by_math ha hn
  unfold RetQ at h
  rwa [thi_yes hq, tlo_yes hq, ter_yes hq, show qh (a.fdiv n) (a.fmod n) = hi (a.fmod n) from if_pos hq, show ql (a.fdiv n) (a.fmod n) = lo (a.fmod n) from if_pos hq] at h
set_option maxRecDepth 100000 in
set_option maxHeartbeats 1600000 in
theorem dby_no (a n : Int) (w : World) (hn : n ≤ 0) :
    Calls Try.prog 63 #[.agg #[.int .i64 (hi a), .int .u64 (lo a)], .int .i64 n] w (fun e w' => e = .returned (.tuple #[.agg #[.int .i64 0, .int .u64 0], .int .i64 0, .int .i64 1]) ∧ Ext w w') := by
  go_enter Try.func63, Try.ntmps63
  go_wp2_with fail
  refine bodyPost_ret (v := .tuple #[.agg #[.int .i64 0, .int .u64 0], .int .i64 0, .int .i64 1]) (by simp [results, Try.results63, go_sem]) rfl ⟨rfl, ?_⟩
  exact (by repeat (first | exact Ext.refl _ | refine Ext.alloc ?_ | refine Ext.drew ?_ | refine Ext.drewN ?_ | refine Ext.set ?_ (Ext.size ?_) | refine Ext.set ?_ (Ext.size1 ?_) | refine Ext.set ?_ (Ext.size2 ?_) | refine Ext.trans ?_ (by assumption)))
theorem s3d {w : World} {k k' k'' : Nat} {u v u' v' u'' v'' : Value} {t t' t'' : TypeId} (h : Box2 w k u v t) (h' : Box2 w k' u' v' t') (h'' : Box2 w k'' u'' v'' t'') :
    w.cell? ⟨k, 0, none⟩ = some u ∧ w.cell? ⟨k, 1, none⟩ = some v ∧ w.cell? ⟨k', 0, none⟩ = some u' ∧ w.cell? ⟨k', 1, none⟩ = some v' ∧ w.cell? ⟨k'', 0, none⟩ = some u'' ∧ w.cell? ⟨k'', 1, none⟩ = some v'' := ⟨h.c0, h.c1, h'.c0, h'.c1, h''.c0, h''.c1⟩
set_option maxRecDepth 100000 in
set_option maxHeartbeats 3200000 in
theorem law_bys (a n : Int) (w : World) (ha : W128 a) (hI : I64 n) :
    Calls Try.prog 13 #[.agg #[.int .i64 (hi a), .int .u64 (lo a)], .int .i64 n] w (fun e w' => e = .returned (.bool true) ∧ Ext w w') := by
  have H2 := Lib.hid dby_no
  have H3 := Lib.hid alive3
  by_cases hn : 0 < n
  · have H1 := Lib.hid dby
    have H4 := Lib.hid of_pure
    have H5 := Lib.hid zfloor_by
    have H6 := Lib.hid liv_of
    obtain ⟨hq, r0, r1⟩ := by_math ha hn
    have hIr : I64 (a.fmod n) := by unfold I64 at *; omega
    obtain ⟨n0, n1⟩ := hI
    have hn' : ¬ n < 1 := by omega
    go_enter Try.func13, Try.ntmps13
    go_wp2_with fail
    have hA : Box2 (w.alloc (.cells #[.int .i64 (hi a), .int .u64 (lo a)] 26)) w.heap.size (.int .i64 (hi a)) (.int .u64 (lo a)) 26 := Box2.new rfl
    have xw : Ext w (w.alloc (.cells #[.int .i64 (hi a), .int .u64 (lo a)] 26)) := (Ext.refl w).alloc
    refine (H1.out _ _ _ ha hn ⟨n0, n1⟩).mono ?_
    rintro e w1 ⟨rfl, x1⟩
    (first | replace xw := Ext.trans xw x1 | replace xw := Ext.trans (Ext.alloc xw) x1 | replace xw := Ext.trans (Ext.drew xw) x1 | replace xw := Ext.trans (Ext.alloc (Ext.drew xw)) x1); (first | replace hA := hA.ext x1 | replace hA := (hA.alloc _).ext x1 | replace hA := hA.drew.ext x1 | replace hA := (hA.drew.alloc _).ext x1)
    obtain ⟨W, hW⟩ : ∃ W, W = w1.alloc (.cells #[.int .i64 (hi (a.fdiv n)), .int .u64 (lo (a.fdiv n))] 26) := ⟨_, rfl⟩
    have hB : Box2 W w1.heap.size (.int .i64 (hi (a.fdiv n))) (.int .u64 (lo (a.fdiv n))) 26 := by rw [hW]; exact Box2.new rfl
    replace hA := hA.named hW
    replace xw : Ext w W := by rw [hW]; exact Ext.alloc xw
    go_wp2_with fail
    rw [← hW]
    clear hW x1
    go_cut [8, 9] (fun s8 s9 wx => ∃ (k8 k9 : Nat), s8 = .pointer (some ⟨k8, 0, none⟩) ∧ s9 = .pointer (some ⟨k9, 0, none⟩) ∧ Box2 wx k8 (.int .i64 (hi (a.fdiv n))) (.int .u64 (lo (a.fdiv n))) 26 ∧
      Box2 wx k9 (.int .i64 (hi (a.fmod n))) (.int .u64 (lo (a.fmod n))) 26 ∧ Box2 wx w1.heap.size (.int .i64 (hi (a.fdiv n))) (.int .u64 (lo (a.fdiv n))) 26 ∧ Ext w wx)
    case first =>
      refine wp_region_noPanic ?_
      refine wp_region_held_drew (S := fun w' => Ext W w') (by kernel_rfl) (Ext.refl W).drew (fun hHeld => ?_)
      have c0 := fun w' (h : Ext W w') => (hA.ext h).c0
      have c1 := fun w' (h : Ext W w') => (hA.ext h).c1
      refine wpAnyH_take (i := 0) (v := .agg #[.int .i64 (hi a), .int .u64 (lo a)]) rfl (by kernel_rfl) (by kernel_rfl) (by kernel_rfl) (fun _ _ _ h => h) (Or.inl ⟨by kernel_rfl, fun w' h => (by go_simp)⟩) hHeld ?_
      refine wpAnyH_take (i := 1) (v := .int .i64 n) rfl (by kernel_rfl) (by kernel_rfl) (by kernel_rfl) (fun _ _ _ h => h) (Or.inl ⟨by kernel_rfl, fun w' h => (by go_simp)⟩) hHeld ?_
      refine region2 (N := 13) (f0 := [0, 1]) (l := [(2, false), (3, false), (4, true), (5, true), (6, true), (7, true)]) (T := [10, 11, 12]) (iA := 8) (dA := 8) (iB := 9) (dB := 9) (oA := .cells #[.int .i64 0, .int .u64 0] 26) (oB := .cells #[.int .i64 0, .int .u64 0] 26) (fun _ _ _ _ _ h => h) (by kernel_rfl) (by kernel_rfl) rfl (by kernel_rfl) (by kernel_rfl)
        (fun K a w h => wpOp_of rfl fun K' hK => (by go_simp; exact hK _ _ h)) (fun K a w h => wpOp_of rfl fun K' hK => (by go_simp; exact hK _ _ h)) (by decide) (by simp [Act.put]) (by simp [Act.put]) (fun _ _ h x => h.trans x) hHeld ?_
      intro a1 v1 h1 y1; obtain ⟨s8, s9, rfl⟩ := away2 h1; refine wpOp_of rfl fun K' hK => ?_; go_simp
      refine (H4.out n _ n0 n1).mono ?_
      rintro e w2 ⟨rfl, hb1⟩
      refine hK _ _ ⟨⟨hb1, rfl, slots2 rfl rfl⟩, ?_⟩; clear hK K'
      intro a1 v2 h1 y2; obtain ⟨s8, s9, rfl⟩ := away2 h1; refine wpOp_of rfl fun K' hK => ?_; go_simp
      refine (H5.out a n _ ha hn ⟨n0, n1⟩).mono ?_
      rintro e w3 ⟨rfl, hb2⟩
      refine hK _ _ ⟨⟨hb2, rfl, slots2 rfl rfl⟩, ?_⟩; clear hK K'
      have x4 : Ext W w3 := Ext.trans (Ext.trans (Ext.trans (Ext.trans (Ext.refl W).drew y1) hb1) y2) hb2
      refine ⟨_, .tuple #[.agg #[.int .i64 (hi (a.fdiv n)), .int .u64 (lo (a.fdiv n))], .agg #[.int .i64 (hi (a.fmod n)), .int .u64 (lo (a.fmod n))], .int .i64 0], rfl, Or.inl ⟨by rfl, fun w' h => (by go_simp)⟩, by simp, ?_⟩
      refine ⟨_, .agg #[.int .i64 (hi (a.fdiv n)), .int .u64 (lo (a.fdiv n))], rfl, Or.inl ⟨by rfl, fun w' h => (by go_simp)⟩, by simp, ?_⟩
      refine ⟨_, .agg #[.int .i64 (hi (a.fmod n)), .int .u64 (lo (a.fmod n))], rfl, Or.inl ⟨by rfl, fun w' h => (by go_simp)⟩, by simp, ?_⟩
      refine ⟨_, .int .i64 0, rfl, Or.inl ⟨by rfl, fun w' h => (by go_simp)⟩, by simp, ?_⟩
      intro a' w' h y
      obtain ⟨s6, s7, rfl⟩ := away2 h
      rintro k k' ⟨hk1, hk2, hk3⟩ ⟨hl1, hl2, hl3⟩ hne hS'
      simp [Act.put] at hk2 hl2
      subst hk2 hl2
      have hkb : Box2 w' k (.int .i64 0) (.int .u64 0) 26 := hk3
      have hlb : Box2 w' k' (.int .i64 0) (.int .u64 0) 26 := hl3
      have k0 := hkb.c0
      have k1 := hkb.c1
      have k2 := hkb.f0
      have k3 := hkb.f1
      have hBq := hkb.set (.int .i64 (hi (a.fdiv n))) (.int .u64 (lo (a.fdiv n)))
      have hBr := hlb.other2 (Ne.symm hne) (.int .i64 (hi (a.fdiv n))) (.int .u64 (lo (a.fdiv n)))
      have hSq : Ext W ((w'.setCell ⟨k, 0, none⟩ (.int .i64 (hi (a.fdiv n)))).setCell ⟨k, 1, none⟩ (.int .u64 (lo (a.fdiv n)))) := (hS'.set hk1).set hk1
      have l0 := hBr.c0
      have l1 := hBr.c1
      have l2 := hBr.f0
      have l3 := hBr.f1
      refine wpOp_of rfl fun K' hK => ?_
      go_simp
      refine hK _ _ ⟨hSq, ?_⟩
      clear hK K'
      refine wpOp_of rfl fun K' hK => ?_
      go_simp
      refine hK _ _ ⟨(hSq.set hl1).set hl1, ?_⟩
      clear hK K'
      refine wpOp_of rfl fun K' hK => ?_
      go_simp
      refine hK _ _ ⟨(hSq.set hl1).set hl1, ?_⟩
      clear hK K'
      refine NoPanic.normal ?_
      go_wp2_with fail
      go_meet
      exact ⟨k, k', rfl, rfl, hBq.other2 hne _ _, hBr.set _ _, hB.ext ((hSq.set hl1).set hl1), xw.trans ((hSq.set hl1).set hl1)⟩
    case rest =>
      obtain ⟨k8, k9, rfl, rfl, hX, hY, hZ, xw⟩ := hcut
      clear hA hB
      go_wp2_with fail
      go_region_held3 (fun w' => w'.cell? ⟨k8, 0, none⟩ = some (.int .i64 (hi (a.fdiv n))) ∧ w'.cell? ⟨k8, 1, none⟩ = some (.int .u64 (lo (a.fdiv n))) ∧ w'.cell? ⟨k9, 0, none⟩ = some (.int .i64 (hi (a.fmod n))) ∧ w'.cell? ⟨k9, 1, none⟩ = some (.int .u64 (lo (a.fmod n))) ∧ w'.cell? ⟨w1.heap.size, 0, none⟩ = some (.int .i64 (hi (a.fdiv n))) ∧ w'.cell? ⟨w1.heap.size, 1, none⟩ = some (.int .u64 (lo (a.fdiv n))))
        (first
          | exact s3d (hX.drew.ext x) (hY.drew.ext x) (hZ.drew.ext x)
          | exact s3d hX.drew hY.drew hZ.drew)
        (first
          | (go_at_call 58; refine (H3.out _).mono ?_; rintro e w7 ⟨rfl, x1⟩; have x := x1)
          | (go_at_call 32; refine (H6.out (a.fmod n) _ hIr).mono ?_; rintro e w8 ⟨rfl, x2⟩; replace x := Ext.trans x x2))
      go_wp2_with fail
      go_ret
      exact ⟨rfl, Ext.trans xw.drew x⟩
  · have hn' : n ≤ 0 := by omega
    have hn1 : n < 1 := by omega
    clear hn
    go_enter Try.func13, Try.ntmps13
    go_wp2_with fail
    refine (H2.out _ _ _ hn').mono ?_
    rintro e w1 ⟨rfl, x1⟩
    have xw := Ext.trans (Ext.refl w).alloc x1
    have hB : Box2 (w1.alloc (.cells #[.int .i64 0, .int .u64 0] 26)) w1.heap.size (.int .i64 0) (.int .u64 0) 26 := Box2.new rfl
    go_wp2_with fail
    refine (H3.out _).mono ?_
    rintro e w2 ⟨rfl, x2⟩
    (first | replace xw := Ext.trans xw x2 | replace xw := Ext.trans (Ext.alloc xw) x2 | replace xw := Ext.trans (Ext.drew xw) x2 | replace xw := Ext.trans (Ext.alloc (Ext.drew xw)) x2); (first | replace hB := hB.ext x2 | replace hB := (hB.alloc _).ext x2 | replace hB := hB.drew.ext x2 | replace hB := (hB.drew.alloc _).ext x2)
    have hB_0 := hB.c0; have hB_1 := hB.c1
    go_wp2_with fail
    go_ret
    exact ⟨rfl, xw⟩
end Go.Proofs.Ytmkddcmfofabbaa
