/-
  The reference's Trunc of layer 3 at a divisor of 0.
-/
import Derived.Test.YtmkddcmfofabbaaZfl
import Derived.Test.YtmkddcmfofabbaaRfd
namespace Go.Proofs.Ytmkddcmfofabbaa
open Go Go.RowKit

set_option maxRecDepth 100000 in
set_option maxHeartbeats 3200000 in
theorem ztrunc0 (a b : Int) (w : World) (ha : W128 a) (hb : W128 b) (h0 : b = 0) (q r : Int) :
    Calls Try.prog 60 #[.agg #[.int .i64 (hi a), .int .u64 (lo a)], .agg #[.int .i64 (hi b), .int .u64 (lo b)]] w (RetF w 0 q r) := by
  have H1 := Lib.hid ofw
  have H2 := Lib.hid sign_z
  have fb : Fit b := hb.bits.fit (by omega)
  have g0 : (cmpI b 0 == 0) = true := by
    rw [h0]; rfl
  clear h0
  go_enter Try.func60, Try.ntmps60
  go_wp2_with fail
  obtain ⟨W, hW⟩ : ∃ W, W = (((w.alloc (.cells #[.int .i64 (hi a), .int .u64 (lo a)] 26)).alloc (.cells #[.int .i64 (hi b), .int .u64 (lo b)] 26)).alloc (.cells #[.int .i64 0, .int .u64 0] 26)).alloc (.cells #[.int .i64 0, .int .u64 0] 26) := ⟨_, rfl⟩
  rw [← hW]
  have hA : Box2 W w.heap.size (.int .i64 (hi a)) (.int .u64 (lo a)) 26 := by rw [hW]; exact (((Box2.new rfl).alloc _).alloc _).alloc _
  have hB : Box2 W (w.heap.size + 1) (.int .i64 (hi b)) (.int .u64 (lo b)) 26 := by rw [hW]; exact ((Box2.new (by simp)).alloc _).alloc _
  have hR : Box2 W (w.heap.size + 1 + 1) (.int .i64 0) (.int .u64 0) 26 := by rw [hW]; exact (Box2.new (by simp)).alloc _
  have hS : Box2 W (w.heap.size + 1 + 1 + 1) (.int .i64 0) (.int .u64 0) 26 := by rw [hW]; exact Box2.new (by simp)
  have xw : Ext w W := by rw [hW]; exact (Ext.refl w).alloc.alloc.alloc.alloc
  clear hW
  go_cut [7, 8] (fun s7 s8 wx => ∃ (k7 k8 : Nat) (n7 : Bool) (a7 : Option Addr) (l7 c7 : Nat) (n8 : Bool) (a8 : Option Addr) (l8 c8 : Nat), s7 = .pointer (some ⟨k7, 0, none⟩) ∧ s8 = .pointer (some ⟨k8, 0, none⟩) ∧
    Box2 wx k7 (.bool n7) (.slice a7 l7 c7) 37 ∧ Box2 wx k8 (.bool n8) (.slice a8 l8 c8) 37 ∧ IsZ wx n7 (.slice a7 l7 c7) a ∧ IsZ wx n8 (.slice a8 l8 c8) b ∧
    Box2 wx (w.heap.size + 1 + 1) (.int .i64 0) (.int .u64 0) 26 ∧ Box2 wx (w.heap.size + 1 + 1 + 1) (.int .i64 0) (.int .u64 0) 26 ∧ Ext w wx)
  case first =>
    refine wp_region_noPanic ?_
    refine wp_region_held_drew (S := fun w' => Ext W w') (by kernel_rfl) (Ext.refl W).drew (fun hHeld => ?_)
    have c0 := fun w' (h : Ext W w') => (hA.ext h).c0
    have c1 := fun w' (h : Ext W w') => (hA.ext h).c1
    have c2 := fun w' (h : Ext W w') => (hB.ext h).c0
    have c3 := fun w' (h : Ext W w') => (hB.ext h).c1
    refine wpAnyH_take (i := 0) (v := .agg #[.int .i64 (hi a), .int .u64 (lo a)]) rfl (by kernel_rfl) (by kernel_rfl) (by kernel_rfl) (fun _ _ _ h => h) (Or.inl ⟨by kernel_rfl, fun w' h => (by go_simp)⟩) hHeld ?_
    refine wpAnyH_take (i := 2) (v := .agg #[.int .i64 (hi b), .int .u64 (lo b)]) rfl (by kernel_rfl) (by kernel_rfl) (by kernel_rfl) (fun _ _ _ h => h) (Or.inl ⟨by kernel_rfl, fun w' h => (by go_simp)⟩) hHeld ?_
    refine region2 (N := 8) (f0 := [0, 2]) (l := [(1, false), (3, false)]) (T := [6, 7]) (iA := 4) (dA := 7) (iB := 5) (dB := 8) (oA := .cells #[.bool false, .slice none 0 0] 37) (oB := .cells #[.bool false, .slice none 0 0] 37) (fun _ _ _ _ _ h => h) (by kernel_rfl) (by kernel_rfl) rfl (by kernel_rfl) (by kernel_rfl)
      (fun K a w h => wpOp_of rfl fun K' hK => (by go_simp; exact hK _ _ h)) (fun K a w h => wpOp_of rfl fun K' hK => (by go_simp; exact hK _ _ h)) (by decide) (by simp [Act.put]) (by simp [Act.put]) (fun _ _ h x => h.trans x) hHeld ?_
    intro a1 v1 h1 y1; obtain ⟨s7, s8, rfl⟩ := away2 h1; refine wpOp_of rfl fun K' hK => ?_; go_simp
    refine (H1.out a _ ha).mono ?_
    rintro e w1 ⟨n1, a1, l1, c1, rfl, hz1, hb1⟩
    refine hK _ _ ⟨⟨hb1, rfl, slots2 rfl rfl⟩, ?_⟩; clear hK K'
    intro a1 v2 h1 y2; obtain ⟨s7, s8, rfl⟩ := away2 h1; refine wpOp_of rfl fun K' hK => ?_; go_simp
    refine (H1.out b _ hb).mono ?_
    rintro e w2 ⟨n2, a2, l2, c2, rfl, hz2, hb2⟩
    refine hK _ _ ⟨⟨hb2, rfl, slots2 rfl rfl⟩, ?_⟩; clear hK K'
    have x4 : Ext W w2 := Ext.trans (Ext.trans (Ext.trans (Ext.trans (Ext.refl W).drew y1) hb1) y2) hb2
    intro a' w' h y
    obtain ⟨s6, s7, rfl⟩ := away2 h
    rintro k k' ⟨hk1, hk2, hk3⟩ ⟨hl1, hl2, hl3⟩ hne hS'
    have y4 : Ext w2 w' := y
    simp at hk2 hl2
    subst hk2 hl2
    have hq' := hz1.ext (Ext.trans (Ext.trans y2 hb2) y4)
    have hr' := hz2.ext y4
    have hkb : Box2 w' k (.bool false) (.slice none 0 0) 37 := hk3
    have hlb : Box2 w' k' (.bool false) (.slice none 0 0) 37 := hl3
    have k0 := hkb.c0
    have k1 := hkb.c1
    have k2 := hkb.f0
    have k3 := hkb.f1
    have hBq := hkb.set (.bool n1) (.slice a1 l1 c1)
    have hBr := hlb.other2 (Ne.symm hne) (.bool n1) (.slice a1 l1 c1)
    have hSq : Ext W ((w'.setCell ⟨k, 0, none⟩ (.bool n1)).setCell ⟨k, 1, none⟩ (.slice a1 l1 c1)) := (hS'.set hk1).set hk1
    have hqq := hq'.set2 hkb.kind (by decide) (.bool n1) (.slice a1 l1 c1)
    have hrq := hr'.set2 hkb.kind (by decide) (.bool n1) (.slice a1 l1 c1)
    have l0 := hBr.c0
    have l1 := hBr.c1
    have l2 := hBr.f0
    have l3 := hBr.f1
    refine wpOp_of rfl fun K' hK => ?_
    go_simp
    refine hK _ _ ⟨hSq, ?_⟩
    clear hK K'
    refine wpOp_of rfl fun K' hK => ?_
    go_simp
    refine hK _ _ ⟨(hSq.set hl1).set hl1, ?_⟩
    clear hK K'
    refine NoPanic.normal ?_
    go_wp2_with fail
    go_meet
    exact ⟨k, k', n1, a1, _, c1, n2, a2, _, c2, rfl, rfl, hBq.other2 hne _ _, hBr.set _ _, hqq.set2 hBr.kind (by decide) _ _, hrq.set2 hBr.kind (by decide) _ _, hR.ext ((hSq.set hl1).set hl1), hS.ext ((hSq.set hl1).set hl1), xw.trans ((hSq.set hl1).set hl1)⟩
  case rest =>
    obtain ⟨k7, k8, n7, a7, l7, c7, n8, a8, l8, c8, rfl, rfl, hX, hY, hx, hy, hR, hS, xw⟩ := hcut
    clear hA hB
    have hX_0 := hX.c0; have hX_1 := hX.c1; have hY_0 := hY.c0; have hY_1 := hY.c1
    go_wp2_with fail
    refine (H2.out _ _ _ _ b _ hy fb).mono ?_
    rintro e w3 ⟨rfl, x3⟩
    replace x3 : Ext _ w3 := x3
    clear hX_0 hX_1 hY_0 hY_1
    (first | replace xw := Ext.trans xw x3 | replace xw := Ext.trans (Ext.alloc xw) x3 | replace xw := Ext.trans (Ext.drew xw) x3 | replace xw := Ext.trans (Ext.alloc (Ext.drew xw)) x3); (first | replace hX := hX.ext x3 | replace hX := (hX.alloc _).ext x3 | replace hX := hX.drew.ext x3 | replace hX := (hX.drew.alloc _).ext x3); (first | replace hY := hY.ext x3 | replace hY := (hY.alloc _).ext x3 | replace hY := hY.drew.ext x3 | replace hY := (hY.drew.alloc _).ext x3); (first | replace hR := hR.ext x3 | replace hR := (hR.alloc _).ext x3 | replace hR := hR.drew.ext x3 | replace hR := (hR.drew.alloc _).ext x3); (first | replace hS := hS.ext x3 | replace hS := (hS.alloc _).ext x3 | replace hS := hS.drew.ext x3 | replace hS := (hS.drew.alloc _).ext x3); (first | replace hx := hx.ext x3 | replace hx := (hx.alloc _).ext x3 | replace hx := hx.drew.ext x3 | replace hx := (hx.drew.alloc _).ext x3); (first | replace hy := hy.ext x3 | replace hy := (hy.alloc _).ext x3 | replace hy := hy.drew.ext x3 | replace hy := (hy.drew.alloc _).ext x3)
    have hR_0 := hR.c0; have hR_1 := hR.c1; have hS_0 := hS.c0; have hS_1 := hS.c1
    have hR_2 := hR.f0; have hR_3 := hR.f1; have hS_2 := hS.f0; have hS_3 := hS.f1
    go_wp2_with fail
    refine bodyPost_ret (v := .tuple #[.agg #[.int .i64 0, .int .u64 0], .agg #[.int .i64 0, .int .u64 0], .int .i64 3]) (by simp [results, Try.results60, go_sem, hR_0, hR_1, hS_0, hS_1]) rfl (retF_0 ?_)
    exact Ext.set (Ext.set (Ext.set (Ext.set (by first | exact xw | exact Ext.alloc (Ext.alloc xw)) (by omega)) (by omega)) (by omega)) (by omega)
end Go.Proofs.Ytmkddcmfofabbaa
