/-
  The reference's Told and Floor of layer 3.
-/
import Derived.Test.YtmkddcmfofabbaaDvd
import Derived.Test.YtmkddcmfofabbaaOf
import Derived.Deep.DeepCutAuto
namespace Go.Proofs.Ytmkddcmfofabbaa
open Go Go.RowKit

theorem IsZ.named2 {V w : World} {neg : Bool} {sv : Value} {n : Int} {o o' : Obj} (h : IsZ w neg sv n) (e : V = (w.alloc o).alloc o') : IsZ V neg sv n := by rw [e]; exact (h.alloc o).alloc o'
set_option maxRecDepth 100000 in
set_option maxHeartbeats 1600000 in
theorem ztold3 (na nb : Bool) (aa ab : Option Addr) (la ca lb cb : Nat) (q r : Int) (w : World) (hq : IsZ w na (.slice aa la ca) q) (hr : IsZ w nb (.slice ab lb cb) r) (hb1 : Bits 1000 q) (hb2 : Bits 1000 r) (hrW : W128 r) :
    Calls Try.prog 103 #[.agg #[.bool na, .slice aa la ca], .agg #[.bool nb, .slice ab lb cb]] w (RetQ w q r) := by
  have H1 := Lib.hid told_any
  have HB1 := Lib.hid hb1
  have HB2 := Lib.hid hb2
  clear hb1 hb2
  by_cases hI : W128 q
  · go_enter Try.func103, Try.ntmps103
    go_wp2_with fail
    obtain ⟨W, hW⟩ : ∃ W, W = (((w.alloc (.cells #[.bool na, .slice aa la ca] 37)).alloc (.cells #[.bool nb, .slice ab lb cb] 37)).alloc (.cells #[.int .i64 0, .int .u64 0] 26)).alloc (.cells #[.int .i64 0, .int .u64 0] 26) := ⟨_, rfl⟩
    rw [← hW]
    have hB : Box2 W (w.heap.size + 1) (.bool nb) (.slice ab lb cb) 37 := by rw [hW]; exact ((Box2.new (by simp)).alloc _).alloc _
    have hR : Box2 W (w.heap.size + 1 + 1) (.int .i64 0) (.int .u64 0) 26 := by rw [hW]; exact (Box2.new (by simp)).alloc _
    have hS : Box2 W (w.heap.size + 1 + 1 + 1) (.int .i64 0) (.int .u64 0) 26 := by rw [hW]; exact Box2.new (by simp)
    have xw : Ext w W := by rw [hW]; exact (Ext.refl w).alloc.alloc.alloc.alloc
    have hza := hq.ext xw
    have hzb := hr.ext xw
    clear hW
    refine (H1.out _ _ _ _ q _ hza HB1.out).mono ?_
    rintro e w1 ⟨rfl, x1⟩
    rw [thi_yes hI, tlo_yes hI, ter_yes hI]
    (first | replace xw := Ext.trans xw x1 | replace xw := Ext.trans (Ext.alloc xw) x1 | replace xw := Ext.trans (Ext.drew xw) x1 | replace xw := Ext.trans (Ext.alloc (Ext.drew xw)) x1); (first | replace hB := hB.ext x1 | replace hB := (hB.alloc _).ext x1 | replace hB := hB.drew.ext x1 | replace hB := (hB.drew.alloc _).ext x1); (first | replace hR := hR.ext x1 | replace hR := (hR.alloc _).ext x1 | replace hR := hR.drew.ext x1 | replace hR := (hR.drew.alloc _).ext x1); (first | replace hS := hS.ext x1 | replace hS := (hS.alloc _).ext x1 | replace hS := hS.drew.ext x1 | replace hS := (hS.drew.alloc _).ext x1); (first | replace hzb := hzb.ext x1 | replace hzb := (hzb.alloc _).ext x1 | replace hzb := hzb.drew.ext x1 | replace hzb := (hzb.drew.alloc _).ext x1)
    have y1 := hS.kind.lt
    obtain ⟨V, hV⟩ : ∃ V, V = w1.alloc (.cells #[.int .i64 (hi q), .int .u64 (lo q)] 26) := ⟨_, rfl⟩
    have hP : Box2 V w1.heap.size (.int .i64 (hi q)) (.int .u64 (lo q)) 26 := by rw [hV]; exact Box2.new rfl
    have kB := hB.alloc (.cells #[.int .i64 (hi q), .int .u64 (lo q)] 26)
    replace hR := hR.named hV
    replace hS := hS.named hV
    replace hzb := hzb.named hV
    replace xw : Ext w V := by rw [hV]; exact Ext.alloc xw
    have kB_0 := kB.c0; have kB_1 := kB.c1
    go_wp2_with fail
    clear kB_0 kB_1
    clear kB hB
    rw [← hV]
    clear hV x1
    refine (H1.out _ _ _ _ r _ hzb HB2.out).mono ?_
    rintro e w2 ⟨rfl, x2⟩
    rw [thi_yes hrW, tlo_yes hrW, ter_yes hrW]
    (first | replace xw := Ext.trans xw x2 | replace xw := Ext.trans (Ext.alloc xw) x2 | replace xw := Ext.trans (Ext.drew xw) x2 | replace xw := Ext.trans (Ext.alloc (Ext.drew xw)) x2); (first | replace hP := hP.ext x2 | replace hP := (hP.alloc _).ext x2 | replace hP := hP.drew.ext x2 | replace hP := (hP.drew.alloc _).ext x2); (first | replace hR := hR.ext x2 | replace hR := (hR.alloc _).ext x2 | replace hR := hR.drew.ext x2 | replace hR := (hR.drew.alloc _).ext x2); (first | replace hS := hS.ext x2 | replace hS := (hS.alloc _).ext x2 | replace hS := hS.drew.ext x2 | replace hS := (hS.drew.alloc _).ext x2)
    have y2 := hS.kind.lt
    obtain ⟨U, hU⟩ : ∃ U, U = w2.alloc (.cells #[.int .i64 (hi r), .int .u64 (lo r)] 26) := ⟨_, rfl⟩
    have hQ : Box2 U w2.heap.size (.int .i64 (hi r)) (.int .u64 (lo r)) 26 := by rw [hU]; exact Box2.new rfl
    replace hP := hP.named hU
    replace hR := hR.named hU
    replace hS := hS.named hU
    replace xw : Ext w U := by rw [hU]; exact Ext.alloc xw
    go_wp2_with fail
    rw [← hU]
    have n1 : ¬ w1.heap.size = w.heap.size + 1 + 1 := by omega
    have n2 : ¬ w1.heap.size = w.heap.size + 1 + 1 + 1 := by omega
    have n3 : ¬ w2.heap.size = w.heap.size + 1 + 1 := by omega
    have n4 : ¬ w2.heap.size = w.heap.size + 1 + 1 + 1 := by omega
    have n5 : ¬ w.heap.size + 1 + 1 = w1.heap.size := by omega
    have n6 : ¬ w.heap.size + 1 + 1 + 1 = w1.heap.size := by omega
    have n7 : ¬ w.heap.size + 1 + 1 = w2.heap.size := by omega
    have n8 : ¬ w.heap.size + 1 + 1 + 1 = w2.heap.size := by omega
    clear hU x2
    have hP_0 := hP.c0; have hP_1 := hP.c1; have hQ_0 := hQ.c0; have hQ_1 := hQ.c1; have hR_0 := hR.c0; have hR_1 := hR.c1; have hS_0 := hS.c0; have hS_1 := hS.c1
    have hR_2 := hR.f0; have hR_3 := hR.f1; have hS_2 := hS.f0; have hS_3 := hS.f1
    go_region
    go_wp2_with fail
    refine bodyPost_ret (v := .tuple #[.agg #[.int .i64 (hi q), .int .u64 (lo q)], .agg #[.int .i64 (hi r), .int .u64 (lo r)], .int .i64 0]) (by simp [results, Try.results103, go_sem, hR_0, hR_1, hS_0, hS_1]) rfl (retQ_yes hI ?_)
    exact Ext.drew (Ext.set (Ext.set (Ext.set (Ext.set xw (by omega)) (by omega)) (by omega)) (by omega))
  · go_enter Try.func103, Try.ntmps103
    go_wp2_with fail
    obtain ⟨W, hW⟩ : ∃ W, W = (((w.alloc (.cells #[.bool na, .slice aa la ca] 37)).alloc (.cells #[.bool nb, .slice ab lb cb] 37)).alloc (.cells #[.int .i64 0, .int .u64 0] 26)).alloc (.cells #[.int .i64 0, .int .u64 0] 26) := ⟨_, rfl⟩
    rw [← hW]
    have hB : Box2 W (w.heap.size + 1) (.bool nb) (.slice ab lb cb) 37 := by rw [hW]; exact ((Box2.new (by simp)).alloc _).alloc _
    have hR : Box2 W (w.heap.size + 1 + 1) (.int .i64 0) (.int .u64 0) 26 := by rw [hW]; exact (Box2.new (by simp)).alloc _
    have hS : Box2 W (w.heap.size + 1 + 1 + 1) (.int .i64 0) (.int .u64 0) 26 := by rw [hW]; exact Box2.new (by simp)
    have xw : Ext w W := by rw [hW]; exact (Ext.refl w).alloc.alloc.alloc.alloc
    have hza := hq.ext xw
    have hzb := hr.ext xw
    clear hW
    refine (H1.out _ _ _ _ q _ hza HB1.out).mono ?_
    rintro e w1 ⟨rfl, x1⟩
    rw [thi_no hI, tlo_no hI, ter_no hI]
    (first | replace xw := Ext.trans xw x1 | replace xw := Ext.trans (Ext.alloc xw) x1 | replace xw := Ext.trans (Ext.drew xw) x1 | replace xw := Ext.trans (Ext.alloc (Ext.drew xw)) x1); (first | replace hB := hB.ext x1 | replace hB := (hB.alloc _).ext x1 | replace hB := hB.drew.ext x1 | replace hB := (hB.drew.alloc _).ext x1); (first | replace hR := hR.ext x1 | replace hR := (hR.alloc _).ext x1 | replace hR := hR.drew.ext x1 | replace hR := (hR.drew.alloc _).ext x1); (first | replace hS := hS.ext x1 | replace hS := (hS.alloc _).ext x1 | replace hS := hS.drew.ext x1 | replace hS := (hS.drew.alloc _).ext x1); (first | replace hzb := hzb.ext x1 | replace hzb := (hzb.alloc _).ext x1 | replace hzb := hzb.drew.ext x1 | replace hzb := (hzb.drew.alloc _).ext x1)
    have y1 := hS.kind.lt
    obtain ⟨V, hV⟩ : ∃ V, V = w1.alloc (.cells #[.int .i64 (0), .int .u64 (0)] 26) := ⟨_, rfl⟩
    have hP : Box2 V w1.heap.size (.int .i64 (0)) (.int .u64 (0)) 26 := by rw [hV]; exact Box2.new rfl
    have kB := hB.alloc (.cells #[.int .i64 (0), .int .u64 (0)] 26)
    replace hR := hR.named hV
    replace hS := hS.named hV
    replace hzb := hzb.named hV
    replace xw : Ext w V := by rw [hV]; exact Ext.alloc xw
    have kB_0 := kB.c0; have kB_1 := kB.c1
    go_wp2_with fail
    clear kB_0 kB_1
    clear kB hB
    rw [← hV]
    clear hV x1
    refine (H1.out _ _ _ _ r _ hzb HB2.out).mono ?_
    rintro e w2 ⟨rfl, x2⟩
    rw [thi_yes hrW, tlo_yes hrW, ter_yes hrW]
    (first | replace xw := Ext.trans xw x2 | replace xw := Ext.trans (Ext.alloc xw) x2 | replace xw := Ext.trans (Ext.drew xw) x2 | replace xw := Ext.trans (Ext.alloc (Ext.drew xw)) x2); (first | replace hP := hP.ext x2 | replace hP := (hP.alloc _).ext x2 | replace hP := hP.drew.ext x2 | replace hP := (hP.drew.alloc _).ext x2); (first | replace hR := hR.ext x2 | replace hR := (hR.alloc _).ext x2 | replace hR := hR.drew.ext x2 | replace hR := (hR.drew.alloc _).ext x2); (first | replace hS := hS.ext x2 | replace hS := (hS.alloc _).ext x2 | replace hS := hS.drew.ext x2 | replace hS := (hS.drew.alloc _).ext x2)
    have y2 := hS.kind.lt
    replace hR := hR.alloc (.cells #[.int .i64 (hi r), .int .u64 (lo r)] 26)
    replace hS := hS.alloc (.cells #[.int .i64 (hi r), .int .u64 (lo r)] 26)
    have hR_0 := hR.c0; have hR_1 := hR.c1; have hS_0 := hS.c0; have hS_1 := hS.c1
    have hR_2 := hR.f0; have hR_3 := hR.f1; have hS_2 := hS.f0; have hS_3 := hS.f1
    go_wp2_with fail
    refine bodyPost_ret (v := .tuple #[.agg #[.int .i64 0, .int .u64 0], .agg #[.int .i64 0, .int .u64 0], .int .i64 2]) (by simp [results, Try.results103, go_sem, hR_0, hR_1, hS_0, hS_1]) rfl (retQ_no hI ?_)
    exact Ext.set (Ext.set (Ext.set (Ext.set (Ext.alloc xw) (by omega)) (by omega)) (by omega)) (by omega)

theorem fmod_W {a b : Int} (hb : W128 b) (h0 : b ≠ 0) : W128 (a.fmod b) := by
  by_cases h : 0 < b
  · have h1 := Int.fmod_eq_emod_of_nonneg a (show 0 ≤ b by omega)
    have := Int.emod_nonneg a h0
    have := Int.emod_lt_of_pos a h
    unfold W128 at *; omega
  · obtain ⟨k1, k2, k3⟩ := tdm (a := a) h0
    by_cases hs : a.tmod b = 0 ∨ (a.tmod b < 0 ↔ b < 0)
    · rw [(floor_same h0 hs).2]; exact tmod_W hb h0
    · rw [(floor_less h0 (fun e => hs (Or.inl e)) (fun e => hs (Or.inr e))).2]
      unfold W128 at *; omega
theorem fdiv_bits {a b : Int} (ha : W128 a) (h0 : b ≠ 0) : Bits 129 (a.fdiv b) := by
  have e := tdiv_nat (a := a) (b := b)
  have h1 : a.natAbs / b.natAbs ≤ a.natAbs := Nat.div_le_self _ _
  by_cases hs : a.tmod b = 0 ∨ (a.tmod b < 0 ↔ b < 0)
  · rw [(floor_same h0 hs).1]; unfold Bits; unfold W128 at ha; omega
  · rw [(floor_less h0 (fun e => hs (Or.inl e)) (fun e => hs (Or.inr e))).1]; unfold Bits; unfold W128 at ha; omega

set_option maxRecDepth 100000 in
set_option maxHeartbeats 3200000 in
theorem zfloor (a b : Int) (w : World) (ha : W128 a) (hb : W128 b) (h0 : b ≠ 0) :
    Calls Try.prog 57 #[.agg #[.int .i64 (hi a), .int .u64 (lo a)], .agg #[.int .i64 (hi b), .int .u64 (lo b)]] w (RetQ w (a.fdiv b) (a.fmod b)) := by
  have H1 := Lib.hid ofw
  have H2 := Lib.hid sign_z
  have H3 := Lib.hid div_z
  have H4 := Lib.hid ztold3
  have hrW := fmod_W (a := a) hb h0
  have hbq := Lib.hid ((fdiv_bits (b := b) ha h0).mono (show 129 ≤ 1000 by omega))
  have fb : Fit b := hb.bits.fit (by omega)
  have g0 : (cmpI b 0 == 0) = false := by
    simp only [beq_eq_false_iff_ne, ne_eq]; unfold cmpI; split <;> (try split) <;> omega
  go_enter Try.func57, Try.ntmps57
  go_wp2_with fail
  obtain ⟨W, hW⟩ : ∃ W, W = (((w.alloc (.cells #[.int .i64 (hi a), .int .u64 (lo a)] 26)).alloc (.cells #[.int .i64 (hi b), .int .u64 (lo b)] 26)).alloc (.cells #[.int .i64 0, .int .u64 0] 26)).alloc (.cells #[.int .i64 0, .int .u64 0] 26) := ⟨_, rfl⟩
  rw [← hW]
  have hA : Box2 W w.heap.size (.int .i64 (hi a)) (.int .u64 (lo a)) 26 := by rw [hW]; exact (((Box2.new rfl).alloc _).alloc _).alloc _
  have hB : Box2 W (w.heap.size + 1) (.int .i64 (hi b)) (.int .u64 (lo b)) 26 := by rw [hW]; exact ((Box2.new (by simp)).alloc _).alloc _
  have hR : Box2 W (w.heap.size + 1 + 1) (.int .i64 0) (.int .u64 0) 26 := by rw [hW]; exact (Box2.new (by simp)).alloc _
  have hS : Box2 W (w.heap.size + 1 + 1 + 1) (.int .i64 0) (.int .u64 0) 26 := by rw [hW]; exact Box2.new (by simp)
  have xw : Ext w W := by rw [hW]; exact (Ext.refl w).alloc.alloc.alloc.alloc
  clear hW
  go_cut [7, 8] (fun s7 s8 wx => ∃ (k7 k8 : Nat) (n7 : Bool) (a7 : Option Addr) (l7 c7 : Nat) (n8 : Bool) (a8 : Option Addr) (l8 c8 : Nat), s7 = .pointer (some ⟨k7, 0, none⟩) ∧ s8 = .pointer (some ⟨k8, 0, none⟩) ∧
    Box2 wx k7 (.bool n7) (.slice a7 l7 c7) 37 ∧ Box2 wx k8 (.bool n8) (.slice a8 l8 c8) 37 ∧ IsZ wx n7 (.slice a7 l7 c7) a ∧ IsZ wx n8 (.slice a8 l8 c8) b ∧
    Box2 wx (w.heap.size + 1 + 1) (.int .i64 0) (.int .u64 0) 26 ∧ Box2 wx (w.heap.size + 1 + 1 + 1) (.int .i64 0) (.int .u64 0) 26 ∧ Ext w wx)
  case first =>
    refine wp_region_noPanic ?_
    refine wp_region_held_drew (S := fun w' => Ext W w') (by kernel_rfl) (Ext.refl W).drew (fun hHeld => ?_)
    have c0 := fun w' (h : Ext W w') => (hA.ext h).c0
    have c1 := fun w' (h : Ext W w') => (hA.ext h).c1
    have c2 := fun w' (h : Ext W w') => (hB.ext h).c0
    have c3 := fun w' (h : Ext W w') => (hB.ext h).c1
    refine wpAnyH_take (i := 0) (v := .agg #[.int .i64 (hi a), .int .u64 (lo a)]) rfl (by kernel_rfl) (by kernel_rfl) (by kernel_rfl) (fun _ _ _ h => h) (Or.inl ⟨by kernel_rfl, fun w' h => (by go_simp)⟩) hHeld ?_
    refine wpAnyH_take (i := 2) (v := .agg #[.int .i64 (hi b), .int .u64 (lo b)]) rfl (by kernel_rfl) (by kernel_rfl) (by kernel_rfl) (fun _ _ _ h => h) (Or.inl ⟨by kernel_rfl, fun w' h => (by go_simp)⟩) hHeld ?_
    refine region2 (N := 8) (f0 := [0, 2]) (l := [(1, false), (3, false)]) (T := [6, 7]) (iA := 4) (dA := 7) (iB := 5) (dB := 8) (oA := .cells #[.bool false, .slice none 0 0] 37) (oB := .cells #[.bool false, .slice none 0 0] 37) (fun _ _ _ _ _ h => h) (by kernel_rfl) (by kernel_rfl) rfl (by kernel_rfl) (by kernel_rfl)
      (fun K a w h => wpOp_of rfl fun K' hK => (by go_simp; exact hK _ _ h)) (fun K a w h => wpOp_of rfl fun K' hK => (by go_simp; exact hK _ _ h)) (by decide) (by simp [Act.put]) (by simp [Act.put]) (fun _ _ h x => h.trans x) hHeld ?_
    intro a1 v1 h1 y1; obtain ⟨s7, s8, rfl⟩ := away2 h1; refine wpOp_of rfl fun K' hK => ?_; go_simp
    refine (H1.out a _ ha).mono ?_
    rintro e w1 ⟨n1, a1, l1, c1, rfl, hz1, hb1⟩
    refine hK _ _ ⟨⟨hb1, rfl, slots2 rfl rfl⟩, ?_⟩; clear hK K'
    intro a1 v2 h1 y2; obtain ⟨s7, s8, rfl⟩ := away2 h1; refine wpOp_of rfl fun K' hK => ?_; go_simp
    refine (H1.out b _ hb).mono ?_
    rintro e w2 ⟨n2, a2, l2, c2, rfl, hz2, hb2⟩
    refine hK _ _ ⟨⟨hb2, rfl, slots2 rfl rfl⟩, ?_⟩; clear hK K'
    have x4 : Ext W w2 := Ext.trans (Ext.trans (Ext.trans (Ext.trans (Ext.refl W).drew y1) hb1) y2) hb2
    intro a' w' h y
    obtain ⟨s6, s7, rfl⟩ := away2 h
    rintro k k' ⟨hk1, hk2, hk3⟩ ⟨hl1, hl2, hl3⟩ hne hS'
    have y4 : Ext w2 w' := y
    simp at hk2 hl2
    subst hk2 hl2
    have hq' := hz1.ext (Ext.trans (Ext.trans y2 hb2) y4)
    have hr' := hz2.ext y4
    have hkb : Box2 w' k (.bool false) (.slice none 0 0) 37 := hk3
    have hlb : Box2 w' k' (.bool false) (.slice none 0 0) 37 := hl3
    have k0 := hkb.c0
    have k1 := hkb.c1
    have k2 := hkb.f0
    have k3 := hkb.f1
    have hBq := hkb.set (.bool n1) (.slice a1 l1 c1)
    have hBr := hlb.other2 (Ne.symm hne) (.bool n1) (.slice a1 l1 c1)
    have hSq : Ext W ((w'.setCell ⟨k, 0, none⟩ (.bool n1)).setCell ⟨k, 1, none⟩ (.slice a1 l1 c1)) := (hS'.set hk1).set hk1
    have hqq := hq'.set2 hkb.kind (by decide) (.bool n1) (.slice a1 l1 c1)
    have hrq := hr'.set2 hkb.kind (by decide) (.bool n1) (.slice a1 l1 c1)
    have l0 := hBr.c0
    have l1 := hBr.c1
    have l2 := hBr.f0
    have l3 := hBr.f1
    refine wpOp_of rfl fun K' hK => ?_
    go_simp
    refine hK _ _ ⟨hSq, ?_⟩
    clear hK K'
    refine wpOp_of rfl fun K' hK => ?_
    go_simp
    refine hK _ _ ⟨(hSq.set hl1).set hl1, ?_⟩
    clear hK K'
    refine NoPanic.normal ?_
    go_wp2_with fail
    go_meet
    exact ⟨k, k', n1, a1, _, c1, n2, a2, _, c2, rfl, rfl, hBq.other2 hne _ _, hBr.set _ _, hqq.set2 hBr.kind (by decide) _ _, hrq.set2 hBr.kind (by decide) _ _, hR.ext ((hSq.set hl1).set hl1), hS.ext ((hSq.set hl1).set hl1), xw.trans ((hSq.set hl1).set hl1)⟩
  case rest =>
    obtain ⟨k7, k8, n7, a7, l7, c7, n8, a8, l8, c8, rfl, rfl, hX, hY, hx, hy, hR, hS, xw⟩ := hcut
    clear hA hB
    have hX_0 := hX.c0; have hX_1 := hX.c1; have hY_0 := hY.c0; have hY_1 := hY.c1
    go_wp2_with fail
    refine (H2.out _ _ _ _ b _ hy fb).mono ?_
    rintro e w3 ⟨rfl, x3⟩
    replace x3 : Ext _ w3 := x3
    clear hX_0 hX_1 hY_0 hY_1
    (first | replace xw := Ext.trans xw x3 | replace xw := Ext.trans (Ext.alloc xw) x3 | replace xw := Ext.trans (Ext.drew xw) x3 | replace xw := Ext.trans (Ext.alloc (Ext.drew xw)) x3); (first | replace hX := hX.ext x3 | replace hX := (hX.alloc _).ext x3 | replace hX := hX.drew.ext x3 | replace hX := (hX.drew.alloc _).ext x3); (first | replace hY := hY.ext x3 | replace hY := (hY.alloc _).ext x3 | replace hY := hY.drew.ext x3 | replace hY := (hY.drew.alloc _).ext x3); (first | replace hR := hR.ext x3 | replace hR := (hR.alloc _).ext x3 | replace hR := hR.drew.ext x3 | replace hR := (hR.drew.alloc _).ext x3); (first | replace hS := hS.ext x3 | replace hS := (hS.alloc _).ext x3 | replace hS := hS.drew.ext x3 | replace hS := (hS.drew.alloc _).ext x3); (first | replace hx := hx.ext x3 | replace hx := (hx.alloc _).ext x3 | replace hx := hx.drew.ext x3 | replace hx := (hx.drew.alloc _).ext x3); (first | replace hy := hy.ext x3 | replace hy := (hy.alloc _).ext x3 | replace hy := hy.drew.ext x3 | replace hy := (hy.drew.alloc _).ext x3)
    have hX_0 := hX.c0; have hX_1 := hX.c1; have hY_0 := hY.c0; have hY_1 := hY.c1
    go_wp2_with fail
    refine (H3.out _ _ _ _ _ _ _ _ a b _ hx hy 128 (by omega) ha.bits hb.bits h0).mono ?_
    rintro e w4 ⟨nq, aq, lq, cq, nr, ar, lr, cr, rfl, hq, hr, x4⟩
    replace x4 : Ext _ w4 := x4
    (first | replace xw := Ext.trans xw x4 | replace xw := Ext.trans (Ext.alloc xw) x4 | replace xw := Ext.trans (Ext.drew xw) x4 | replace xw := Ext.trans (Ext.alloc (Ext.drew xw)) x4); (first | replace hR := hR.ext x4 | replace hR := (hR.alloc _).ext x4 | replace hR := hR.drew.ext x4 | replace hR := (hR.drew.alloc _).ext x4); (first | replace hS := hS.ext x4 | replace hS := (hS.alloc _).ext x4 | replace hS := hS.drew.ext x4 | replace hS := (hS.drew.alloc _).ext x4)
    obtain ⟨V, hV⟩ : ∃ V, V = (w4.alloc (.cells #[.bool nq, .slice aq lq cq] 37)).alloc (.cells #[.bool nr, .slice ar lr cr] 37) := ⟨_, rfl⟩
    have hP : Box2 ((w4.alloc (.cells #[.bool nq, .slice aq lq cq] 37)).alloc (.cells #[.bool nr, .slice ar lr cr] 37)) w4.heap.size (.bool nq) (.slice aq lq cq) 37 := (Box2.new rfl).alloc _
    have hQ : Box2 ((w4.alloc (.cells #[.bool nq, .slice aq lq cq] 37)).alloc (.cells #[.bool nr, .slice ar lr cr] 37)) (w4.heap.size + 1) (.bool nr) (.slice ar lr cr) 37 := Box2.new (by simp)
    replace hR := hR.named2 hV
    replace hS := hS.named2 hV
    replace hq := hq.named2 hV
    replace hr := hr.named2 hV
    replace xw : Ext w V := by rw [hV]; exact Ext.alloc (Ext.alloc xw)
    have hP_0 := hP.c0; have hP_1 := hP.c1; have hQ_0 := hQ.c0; have hQ_1 := hQ.c1
    go_wp2_with fail
    rw [← hV]
    clear hV hP hQ hP_0 hP_1 hQ_0 hQ_1
    refine (H4.out _ _ _ _ _ _ _ _ (a.fdiv b) (a.fmod b) _ hq hr hbq.out (hrW.bits.mono (by omega)) hrW).mono ?_
    rintro e w5 ⟨rfl, x5⟩
    (first | replace xw := Ext.trans xw x5 | replace xw := Ext.trans (Ext.alloc xw) x5 | replace xw := Ext.trans (Ext.drew xw) x5 | replace xw := Ext.trans (Ext.alloc (Ext.drew xw)) x5); (first | replace hR := hR.ext x5 | replace hR := (hR.alloc _).ext x5 | replace hR := hR.drew.ext x5 | replace hR := (hR.drew.alloc _).ext x5); (first | replace hS := hS.ext x5 | replace hS := (hS.alloc _).ext x5 | replace hS := hS.drew.ext x5 | replace hS := (hS.drew.alloc _).ext x5)
    have hR_0 := hR.c0; have hR_1 := hR.c1; have hS_0 := hS.c0; have hS_1 := hS.c1
    have hR_2 := hR.f0; have hR_3 := hR.f1; have hS_2 := hS.f0; have hS_3 := hS.f1
    go_wp2_with fail

    refine bodyPost_ret (v := .tuple #[.agg #[.int .i64 (thi (a.fdiv b)), .int .u64 (tlo (a.fdiv b))], .agg #[.int .i64 (qh (a.fdiv b) (a.fmod b)), .int .u64 (ql (a.fdiv b) (a.fmod b))], .int .i64 (ter (a.fdiv b))]) (by simp [results, Try.results57, go_sem, hR_0, hR_1, hS_0, hS_1]) rfl ⟨rfl, ?_⟩
    exact Ext.set (Ext.set (Ext.set (Ext.set xw (by omega)) (by omega)) (by omega)) (by omega)
end Go.Proofs.Ytmkddcmfofabbaa
