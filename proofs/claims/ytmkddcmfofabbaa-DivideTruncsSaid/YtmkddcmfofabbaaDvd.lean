/-
  divide.By.
-/
import Derived.Test.YtmkddcmfofabbaaDvc
import Derived.Deep.DeepCutAuto
namespace Go.Proofs.Ytmkddcmfofabbaa
open Go Go.RowKit

theorem by_math {a n : Int} (ha : W128 a) (hn : 0 < n) : W128 (a.fdiv n) ∧ 0 ≤ a.fmod n ∧ a.fmod n < n := by
  have e1 := Int.fdiv_eq_ediv_of_nonneg a (show 0 ≤ n by omega)
  have e2 := Int.fmod_eq_emod_of_nonneg a (show 0 ≤ n by omega)
  rw [e1, e2]
  have h1 := Int.emod_nonneg a (show n ≠ 0 by omega)
  have h2 := Int.emod_lt_of_pos a hn
  refine ⟨?_, h1, h2⟩
  unfold W128 at *
  by_cases h : 0 ≤ a
  · have := Int.ediv_le_self n h
    have := Int.ediv_nonneg h (show 0 ≤ n by omega)
    omega
  · have h3 : a ≤ a / n := by
      refine Int.le_ediv_of_mul_le hn ?_
      have := Int.mul_le_mul_of_nonpos_left (show a ≤ 0 by omega) (show 1 ≤ n by omega)
      omega
    have h4 : a / n < 0 := Int.ediv_neg_of_neg_of_pos (by omega) hn
    omega
theorem floor_small (a n : Int) (w : World) (ha : W128 a) (hn : 0 < n) (hI : I64 n) :
    Calls Try.prog 56 #[.agg #[.int .i64 (hi a), .int .u64 (lo a)], .agg #[.int .i64 (hi n), .int .u64 (lo n)]] w (RetQ w (a.fdiv n) (a.fmod n)) := by
  refine dfloor a n w ha hI.w (by omega) (fun w => dtrunc a n w ha hI.w (by omega) (fun w => ?_))
  have h1 : mag n = n := mag_pos (by omega)
  have h2 : n < 18446744073709551616 := by unfold I64 at hI; omega
  have h3 : lo n = n ∧ hi n = 0 := by have := small_hl (x := n) (by omega) h2; exact ⟨this.2, this.1⟩
  rw [h1]
  exact over_small (mag a) n w (mag_U ha) hn h2
def ByP (w : World) (a n : Int) (e : Ending) (w' : World) : Prop := e = .returned (.tuple #[.agg #[.int .i64 (hi (a.fdiv n)), .int .u64 (lo (a.fdiv n))], .int .i64 (a.fmod n), .int .i64 0]) ∧ Ext w w'

set_option maxRecDepth 100000 in
set_option maxHeartbeats 3200000 in
theorem dby (a n : Int) (w : World) (ha : W128 a) (hn : 0 < n) (hI : I64 n) :
    Calls Try.prog 63 #[.agg #[.int .i64 (hi a), .int .u64 (lo a)], .int .i64 n] w (ByP w a n) := by
  have H1 := Lib.hid of_pure
  have H2 := Lib.hid floor_small
  obtain ⟨hq, r0, r1⟩ := by_math ha hn
  obtain ⟨n0, n1⟩ := hI
  have hr : lo (a.fmod n) = a.fmod n ∧ hi (a.fmod n) = 0 := by have := small_hl (x := a.fmod n) r0 (by omega); exact ⟨this.2, this.1⟩
  have HR := Lib.hid hr
  have hn' : ¬ n ≤ 0 := by omega
  clear hr
  go_enter Try.func63, Try.ntmps63
  go_wp2_with fail
  obtain ⟨W, hW⟩ : ∃ W, W = (w.alloc (.cells #[.int .i64 (hi a), .int .u64 (lo a)] 26)).alloc (.cells #[.int .i64 0, .int .u64 0] 26) := ⟨_, rfl⟩
  rw [← hW]
  have hA : Box2 W w.heap.size (.int .i64 (hi a)) (.int .u64 (lo a)) 26 := by rw [hW]; exact (Box2.new rfl).alloc _
  have hR : Box2 W (w.heap.size + 1) (.int .i64 0) (.int .u64 0) 26 := by rw [hW]; exact Box2.new (by simp)
  have xw : Ext w W := by rw [hW]; exact (Ext.refl w).alloc.alloc
  have sW : W.heap.size = w.heap.size + 2 := by rw [hW]; simp
  have SW := Lib.hid sW
  clear hW sW
  go_cut [7, 8] (fun s7 s8 wx => ∃ (k7 k8 : Nat), s7 = .pointer (some ⟨k7, 0, none⟩) ∧ s8 = .pointer (some ⟨k8, 0, none⟩) ∧ w.heap.size + 2 ≤ k7 ∧ w.heap.size + 2 ≤ k8 ∧ Box2 wx k7 (.int .i64 (hi (a.fdiv n))) (.int .u64 (lo (a.fdiv n))) 26 ∧
    Box2 wx k8 (.int .i64 (hi (a.fmod n))) (.int .u64 (lo (a.fmod n))) 26 ∧ Box2 wx (w.heap.size + 1) (.int .i64 0) (.int .u64 0) 26 ∧ Ext w wx)
  case first =>
    refine wp_region_noPanic ?_
    refine wp_region_held_drew (S := fun w' => Ext W w') (by kernel_rfl) (Ext.refl W).drew (fun hHeld => ?_)
    have c0 := fun w' (h : Ext W w') => (hA.ext h).c0
    have c1 := fun w' (h : Ext W w') => (hA.ext h).c1
    refine wpAnyH_take (i := 0) (v := .agg #[.int .i64 (hi a), .int .u64 (lo a)]) rfl (by kernel_rfl) (by kernel_rfl) (by kernel_rfl) (fun _ _ _ h => h) (Or.inl ⟨by kernel_rfl, fun w' h => (by go_simp)⟩) hHeld ?_
    refine wpAnyH_take (i := 1) (v := .int .i64 n) rfl (by kernel_rfl) (by kernel_rfl) (by kernel_rfl) (fun _ _ _ h => h) (Or.inl ⟨by kernel_rfl, fun w' h => (by go_simp)⟩) hHeld ?_
    refine region2 (N := 13) (f0 := [0, 1]) (l := [(2, false), (3, false), (4, true), (5, true), (6, true), (7, true)]) (T := [10, 11, 12]) (iA := 8) (dA := 7) (iB := 9) (dB := 8) (oA := .cells #[.int .i64 0, .int .u64 0] 26) (oB := .cells #[.int .i64 0, .int .u64 0] 26) (fun _ _ _ _ _ h => h) (by kernel_rfl) (by kernel_rfl) rfl (by kernel_rfl) (by kernel_rfl)
      (fun K a w h => wpOp_of rfl fun K' hK => (by go_simp; exact hK _ _ h)) (fun K a w h => wpOp_of rfl fun K' hK => (by go_simp; exact hK _ _ h)) (by decide) (by simp [Act.put]) (by simp [Act.put]) (fun _ _ h x => h.trans x) hHeld ?_
    intro a1 v1 h1 y1; obtain ⟨s7, s8, rfl⟩ := away2 h1; refine wpOp_of rfl fun K' hK => ?_; go_simp
    refine (H1.out n _ n0 n1).mono ?_
    rintro e w1 ⟨rfl, hb1⟩
    refine hK _ _ ⟨⟨hb1, rfl, slots2 rfl rfl⟩, ?_⟩; clear hK K'
    intro a1 v2 h1 y2; obtain ⟨s7, s8, rfl⟩ := away2 h1; refine wpOp_of rfl fun K' hK => ?_; go_simp
    refine (H2.out a n _ ha hn ⟨n0, n1⟩).mono ?_
    unfold RetQ
    rw [thi_yes hq, tlo_yes hq, ter_yes hq, show qh (a.fdiv n) (a.fmod n) = hi (a.fmod n) from if_pos hq, show ql (a.fdiv n) (a.fmod n) = lo (a.fmod n) from if_pos hq]
    rintro e w3 ⟨rfl, hb2⟩
    refine hK _ _ ⟨⟨hb2, rfl, slots2 rfl rfl⟩, ?_⟩; clear hK K'
    have x4 : Ext W w3 := Ext.trans (Ext.trans (Ext.trans (Ext.trans (Ext.refl W).drew y1) hb1) y2) hb2
    refine ⟨_, .tuple #[.agg #[.int .i64 (hi (a.fdiv n)), .int .u64 (lo (a.fdiv n))], .agg #[.int .i64 (hi (a.fmod n)), .int .u64 (lo (a.fmod n))], .int .i64 0], rfl, Or.inl ⟨by rfl, fun w' h => (by go_simp)⟩, by simp, ?_⟩
    refine ⟨_, .agg #[.int .i64 (hi (a.fdiv n)), .int .u64 (lo (a.fdiv n))], rfl, Or.inl ⟨by rfl, fun w' h => (by go_simp)⟩, by simp, ?_⟩
    refine ⟨_, .agg #[.int .i64 (hi (a.fmod n)), .int .u64 (lo (a.fmod n))], rfl, Or.inl ⟨by rfl, fun w' h => (by go_simp)⟩, by simp, ?_⟩
    refine ⟨_, .int .i64 0, rfl, Or.inl ⟨by rfl, fun w' h => (by go_simp)⟩, by simp, ?_⟩
    intro a' w' h y
    obtain ⟨s6, s7, rfl⟩ := away2 h
    rintro k k' ⟨hk1, hk2, hk3⟩ ⟨hl1, hl2, hl3⟩ hne hS'
    simp [Act.put] at hk2 hl2
    subst hk2 hl2
    have hk1' : w.heap.size + 2 ≤ k := by rw [← SW.out]; exact hk1
    have hl1' : w.heap.size + 2 ≤ k' := by rw [← SW.out]; exact hl1
    have hkb : Box2 w' k (.int .i64 0) (.int .u64 0) 26 := hk3
    have hlb : Box2 w' k' (.int .i64 0) (.int .u64 0) 26 := hl3
    have k0 := hkb.c0
    have k1 := hkb.c1
    have k2 := hkb.f0
    have k3 := hkb.f1
    have hBq := hkb.set (.int .i64 (hi (a.fdiv n))) (.int .u64 (lo (a.fdiv n)))
    have hBr := hlb.other2 (Ne.symm hne) (.int .i64 (hi (a.fdiv n))) (.int .u64 (lo (a.fdiv n)))
    have hSq : Ext W ((w'.setCell ⟨k, 0, none⟩ (.int .i64 (hi (a.fdiv n)))).setCell ⟨k, 1, none⟩ (.int .u64 (lo (a.fdiv n)))) := (hS'.set hk1).set hk1
    have l0 := hBr.c0
    have l1 := hBr.c1
    have l2 := hBr.f0
    have l3 := hBr.f1
    refine wpOp_of rfl fun K' hK => ?_
    go_simp
    refine hK _ _ ⟨hSq, ?_⟩
    clear hK K'
    refine wpOp_of rfl fun K' hK => ?_
    go_simp
    refine hK _ _ ⟨(hSq.set hl1).set hl1, ?_⟩
    clear hK K'
    refine wpOp_of rfl fun K' hK => ?_
    go_simp
    refine hK _ _ ⟨(hSq.set hl1).set hl1, ?_⟩
    clear hK K'
    refine NoPanic.normal ?_
    go_wp2_with fail
    go_meet
    exact ⟨k, k', rfl, rfl, hk1', hl1', hBq.other2 hne _ _, hBr.set _ _, hR.ext ((hSq.set hl1).set hl1), xw.trans ((hSq.set hl1).set hl1)⟩
  case rest =>
    obtain ⟨k7, k8, rfl, rfl, z7, z8, hQ, hT, hR, xw⟩ := hcut
    rw [HR.out.1] at hT
    have n7 : ¬ k7 = w.heap.size + 1 := by omega
    have n8 : ¬ k8 = w.heap.size + 1 := by omega
    have n9 : ¬ w.heap.size + 1 = k7 := by omega
    have n10 : ¬ w.heap.size + 1 = k8 := by omega
    clear hA SW
    have hQ_0 := hQ.c0; have hQ_1 := hQ.c1; have hT_0 := hT.c0; have hT_1 := hT.c1; have hR_0 := hR.c0; have hR_1 := hR.c1
    have hR_2 := hR.f0; have hR_3 := hR.f1
    go_wp2_with fail
    go_region
    go_wp2_with fail
    refine bodyPost_ret (v := .tuple #[.agg #[.int .i64 (hi (a.fdiv n)), .int .u64 (lo (a.fdiv n))], .int .i64 (a.fmod n), .int .i64 0]) (by simp [results, Try.results63, go_sem, hR_0, hR_1]) rfl ⟨rfl, ?_⟩
    exact Ext.drew (Ext.set (Ext.set xw (by omega)) (by omega))
end Go.Proofs.Ytmkddcmfofabbaa
