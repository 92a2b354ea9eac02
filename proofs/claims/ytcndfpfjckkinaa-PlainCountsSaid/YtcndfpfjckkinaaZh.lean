/-
  Walk of the reference's division: Div.
-/
import Derived.Test.YtcndfpfjckkinaaGb
import Derived.Deep.DeepCutAuto
namespace Go.Proofs.Ytcndfpfjckkinaa
open Go Go.RowKit

set_option maxRecDepth 100000 in
set_option maxHeartbeats 3200000 in
theorem div_z (na nb : Bool) (aa ab : Option Addr) (la ca lb cb : Nat) (m n : Int) (w : World) (hza : IsZ w na (.slice aa la ca) m) (hzb : IsZ w nb (.slice ab lb cb) n) (K : Nat) (hK : K ≤ 80000) (hm : Bits K m) (hn : Bits K n) (h1 : n ≠ 0) :
    Calls Try.prog 122 #[.agg #[.bool na, .slice aa la ca], .agg #[.bool nb, .slice ab lb cb]] w (RetZZ w (m.fdiv n) (m.fmod n)) := by
  go_enter Try.func122, Try.ntmps122
  go_wp2_with fail
  have hE : Env4 w ((((w.alloc (.cells #[.bool na, .slice aa la ca] 47)).alloc (.cells #[.bool nb, .slice ab lb cb] 47)).alloc (.cells #[.bool false, .slice none 0 0] 47)).alloc (.cells #[.bool false, .slice none 0 0] 47)) (.bool na) (.slice aa la ca) (.bool nb) (.slice ab lb cb) :=
    ⟨(((Box2.new rfl).alloc _).alloc _).alloc _, ((Box2.new (by simp)).alloc _).alloc _, (Box2.new (by simp)).alloc _, Box2.new (by simp), below4 w _ _ _ _⟩
  obtain ⟨W, hW⟩ : ∃ W, W = ((((w.alloc (.cells #[.bool na, .slice aa la ca] 47)).alloc (.cells #[.bool nb, .slice ab lb cb] 47)).alloc (.cells #[.bool false, .slice none 0 0] 47)).alloc (.cells #[.bool false, .slice none 0 0] 47)) := ⟨_, rfl⟩
  rw [← hW] at hE ⊢
  have xW : Ext w W := hE.W
  have hWs : w.heap.size + 4 ≤ W.heap.size := by rw [hW]; simp
  clear hW
  go_cut [6, 7] (fun s6 s7 wx => ∃ (k6 k7 : Nat) (nq : Bool) (aq : Option Addr) (lq cq : Nat) (nr : Bool) (ar : Option Addr) (lr cr : Nat), s6 = .pointer (some ⟨k6, 0, none⟩) ∧ s7 = .pointer (some ⟨k7, 0, none⟩) ∧ W.heap.size ≤ k6 ∧ W.heap.size ≤ k7 ∧ k6 ≠ k7 ∧
    Box2 wx k6 (.bool nq) (.slice aq lq cq) 47 ∧ Box2 wx k7 (.bool nr) (.slice ar lr cr) 47 ∧ IsZ wx nq (.slice aq lq cq) ((m.natAbs : Int) / n.natAbs) ∧ IsZ wx nr (.slice ar lr cr) ((m.natAbs : Int) % n.natAbs) ∧ Env4 w wx (.bool na) (.slice aa la ca) (.bool nb) (.slice ab lb cb))
  case first =>
    refine wp_region_noPanic ?_
    refine wp_region_held_drew (S := fun w' => Ext W w') (by kernel_rfl) (Ext.refl W).drew (fun hHeld => ?_)
    have c0 := fun w' (h : Ext W w') => (hE.A.ext h).c0
    have c1 := fun w' (h : Ext W w') => (hE.A.ext h).c1
    have c2 := fun w' (h : Ext W w') => (hE.B.ext h).c0
    have c3 := fun w' (h : Ext W w') => (hE.B.ext h).c1
    refine wpAnyH_take (i := 0) (v := .agg #[.bool na, .slice aa la ca]) rfl (by kernel_rfl) (by kernel_rfl) (by kernel_rfl) (fun _ _ _ h => h) (Or.inl ⟨by kernel_rfl, fun w' h => (by go_simp)⟩) hHeld ?_
    refine wpAnyH_take (i := 2) (v := .agg #[.bool nb, .slice ab lb cb]) rfl (by kernel_rfl) (by kernel_rfl) (by kernel_rfl) (fun _ _ _ h => h) (Or.inl ⟨by kernel_rfl, fun w' h => (by go_simp)⟩) hHeld ?_
    refine region2 (N := 12) (f0 := [0, 2]) (l := [(1, false), (3, false), (4, false), (5, true), (6, true), (7, true)]) (T := [10, 11]) (iA := 8) (dA := 6) (iB := 9) (dB := 7) (oA := .cells #[.bool false, .slice none 0 0] 47) (oB := .cells #[.bool false, .slice none 0 0] 47) (fun _ _ _ _ _ h => h) (by kernel_rfl) (by kernel_rfl) rfl (by kernel_rfl) (by kernel_rfl)
      (fun K a w h => wpOp_of rfl fun K' hK => (by go_simp; exact hK _ _ h)) (fun K a w h => wpOp_of rfl fun K' hK => (by go_simp; exact hK _ _ h)) (by decide) (by simp [Act.put]) (by simp [Act.put]) (fun _ _ h x => h.trans x) hHeld ?_
    intro a1 v1 h1 y1; obtain ⟨s6, s7, rfl⟩ := away2 h1; refine wpOp_of rfl fun K' hK => ?_; go_simp
    refine (abs_any na aa la ca m _ (hza.ext (xW.trans ((Ext.refl W).drew.trans y1))) (hm.fit (by omega))).mono ?_
    rintro e w1 ⟨n1, a1, l1, c1, rfl, hz1, hb1⟩
    refine hK _ _ ⟨⟨hb1, rfl, slots2 rfl rfl⟩, ?_⟩; clear hK K'
    intro a1 v2 h1 y2; obtain ⟨s6, s7, rfl⟩ := away2 h1; refine wpOp_of rfl fun K' hK => ?_; go_simp
    have x2 : Ext W v2 := ((Ext.refl W).drew.trans y1).trans (Ext.trans hb1 y2)
    refine (abs_any nb ab lb cb n _ (hzb.ext (xW.trans x2)) (hn.fit (by omega))).mono ?_
    rintro e w2 ⟨n2, a2, l2, c2, rfl, hz2, hb2⟩
    refine hK _ _ ⟨⟨hb2, rfl, slots2 rfl rfl⟩, ?_⟩; clear hK K'
    intro a1 v3 h1 y3; obtain ⟨s6, s7, rfl⟩ := away2 h1; refine wpOp_of rfl fun K' hK => ?_; go_simp
    refine (long_z _ _ _ _ _ _ _ _ m.natAbs n.natAbs _ (hz1.ext (y2.trans (Ext.trans hb2 y3))) (hz2.ext y3) K (by omega) hm.abs hn.abs (by omega) (by omega)).mono ?_
    rintro e w3 ⟨nq, aq, lq, cq, nr, ar, lr, cr, rfl, hq, hr, hb3⟩
    refine hK _ _ ⟨⟨hb3, rfl, slots2 rfl rfl⟩, ?_⟩; clear hK K'
    have x4 : Ext W w3 := x2.trans (Ext.trans hb2 (y3.trans hb3))
    refine ⟨_, .tuple #[.agg #[.bool nq, .slice aq lq cq], .agg #[.bool nr, .slice ar lr cr]], rfl, Or.inl ⟨by rfl, fun w' h => (by go_simp)⟩, by simp, ?_⟩
    refine ⟨_, .agg #[.bool nq, .slice aq lq cq], rfl, Or.inl ⟨by rfl, fun w' h => (by go_simp)⟩, by simp, ?_⟩
    refine ⟨_, .agg #[.bool nr, .slice ar lr cr], rfl, Or.inl ⟨by rfl, fun w' h => (by go_simp)⟩, by simp, ?_⟩
    intro a' w' h y
    obtain ⟨s6, s7, rfl⟩ := away2 h
    rintro k k' ⟨hk1, hk2, hk3⟩ ⟨hl1, hl2, hl3⟩ hne hS'
    have y4 : Ext w3 w' := y
    simp [Act.put] at hk2 hl2
    subst hk2 hl2
    have hq' := hq.ext y4
    have hr' := hr.ext y4
    have hkb : Box2 w' k (.bool false) (.slice none 0 0) 47 := hk3
    have hlb : Box2 w' k' (.bool false) (.slice none 0 0) 47 := hl3
    have k0 := hkb.c0
    have k1 := hkb.c1
    have k2 := hkb.f0
    have k3 := hkb.f1
    have hBq := hkb.set (.bool nq) (.slice aq lq cq)
    have hBr := hlb.other2 (Ne.symm hne) (.bool nq) (.slice aq lq cq)
    have hSq : Ext W ((w'.setCell ⟨k, 0, none⟩ (.bool nq)).setCell ⟨k, 1, none⟩ (.slice aq lq cq)) := (hS'.set hk1).set hk1
    have hqq := hq'.set2 hkb.kind (by decide) (.bool nq) (.slice aq lq cq)
    have hrq := hr'.set2 hkb.kind (by decide) (.bool nq) (.slice aq lq cq)
    have l0 := hBr.c0
    have l1 := hBr.c1
    have l2 := hBr.f0
    have l3 := hBr.f1
    refine wpOp_of rfl fun K' hK => ?_
    go_simp
    refine hK _ _ ⟨hSq, ?_⟩
    clear hK K'
    refine wpOp_of rfl fun K' hK => ?_
    go_simp
    refine hK _ _ ⟨(hSq.set hl1).set hl1, ?_⟩
    clear hK K'
    refine NoPanic.normal ?_
    go_wp2_with fail
    go_meet
    exact ⟨k, k', nq, aq, lq, cq, nr, ar, lr, cr, rfl, rfl, hk1, hl1, hne, hBq.other2 hne _ _, hBr.set _ _, hqq.set2 hBr.kind (by decide) _ _, hrq.set2 hBr.kind (by decide) _ _, hE.ext ((hSq.set hl1).set hl1)⟩
  case rest =>
    obtain ⟨k6, k7, nq, aq, lq, cq, nr, ar, lr, cr, rfl, rfl, hk6, hk7, hne, hQ, hT, hq, hr, hE⟩ := hcut
    clear xW
    obtain ⟨-, hna⟩ := isZ_sign hza
    obtain ⟨-, hnb⟩ := isZ_sign hzb
    obtain ⟨g1, g2, g3, g4, g5⟩ := div_parts m n h1
    have hqb : Bits K ((m.natAbs : Int) / n.natAbs) := div_bits hm.abs (by omega) (by omega)
    have hrb : Bits K ((m.natAbs : Int) % n.natAbs) := mod_bits hn.abs (by omega)
    clear g1 g4 g5
    cases na <;> cases nb <;> by_cases h0 : (m.natAbs : Int) % n.natAbs = 0
    · -- A0
      have hm0 : ¬ m < 0 := by simpa using hna
      have hn0' : ¬ n < 0 := by simpa using hnb
      have hn0 : 0 < n := by omega
      clear hn0'
      clear hna hnb
      obtain ⟨sl0, sn0⟩ := isZ_sign hr
      have hl0 : lr = 0 := sl0.2 (by omega)
      subst hl0
      clear sl0 sn0
      have ka0 := hE.A.c0
      have kb0 := hE.B.c0
      have kb1 := hE.B.c1
      have kq0 := hQ.c0
      have kq1 := hQ.c1
      have kq2 := hQ.f0
      have kq3 := hQ.f1
      have kt0 := hT.c0
      have kt1 := hT.c1
      have kt2 := hT.f0
      have kt3 := hT.f1
      have kr0 := hE.R.c0
      have kr1 := hE.R.c1
      have kr2 := hE.R.f0
      have kr3 := hE.R.f1
      have ks0 := hE.S.c0
      have ks1 := hE.S.c1
      have ks2 := hE.S.f0
      have ks3 := hE.S.f1
      go_wp2_with fail
      obtain ⟨d1, d2⟩ := div_A (m := m) (n := n) (by omega) (by omega)
      rw [← d1] at hq
      rw [← d2] at hr
      clear d1 d2
      go_region
      go_wp2_with fail
      refine bodyPost_ret (v := .tuple #[.agg #[.bool nq, .slice aq lq cq], .agg #[.bool nr, .slice ar 0 cr]]) (by simp [results, Try.results122, go_sem, kr0, kr1, ks0, ks1]) rfl
        (isZZ_end hq hr hE.R.kind hE.S.kind hE.W (by omega) (by omega) _ _ _ _)
    · -- A1
      have hm0 : ¬ m < 0 := by simpa using hna
      have hn0' : ¬ n < 0 := by simpa using hnb
      have hn0 : 0 < n := by omega
      clear hn0'
      clear hna hnb
      obtain ⟨sl0, sn0⟩ := isZ_sign hr
      have hl0 : 0 < lr := by
        have : lr ≠ 0 := fun e => by have := sl0.1 e; omega
        omega
      obtain rfl : nr = false := by rw [sn0]; simp; omega
      clear sl0 sn0
      have ka0 := hE.A.c0
      have kb0 := hE.B.c0
      have kb1 := hE.B.c1
      have kq0 := hQ.c0
      have kq1 := hQ.c1
      have kq2 := hQ.f0
      have kq3 := hQ.f1
      have kt0 := hT.c0
      have kt1 := hT.c1
      have kt2 := hT.f0
      have kt3 := hT.f1
      have kr0 := hE.R.c0
      have kr1 := hE.R.c1
      have kr2 := hE.R.f0
      have kr3 := hE.R.f1
      have ks0 := hE.S.c0
      have ks1 := hE.S.c1
      have ks2 := hE.S.f0
      have ks3 := hE.S.f1
      go_wp2_with fail
      obtain ⟨d1, d2⟩ := div_A (m := m) (n := n) (by omega) (by omega)
      rw [← d1] at hq
      rw [← d2] at hr
      clear d1 d2
      go_region
      go_wp2_with fail
      refine bodyPost_ret (v := .tuple #[.agg #[.bool nq, .slice aq lq cq], .agg #[.bool false, .slice ar lr cr]]) (by simp [results, Try.results122, go_sem, kr0, kr1, ks0, ks1]) rfl
        (isZZ_end hq hr hE.R.kind hE.S.kind hE.W (by omega) (by omega) _ _ _ _)
    · -- C0
      have hm0 : ¬ m < 0 := by simpa using hna
      have hn0 : n < 0 := by simpa using hnb
      clear hna hnb
      obtain ⟨sl0, sn0⟩ := isZ_sign hr
      have hl0 : lr = 0 := sl0.2 (by omega)
      subst hl0
      clear sl0 sn0
      have ka0 := hE.A.c0
      have kb0 := hE.B.c0
      have kb1 := hE.B.c1
      have kq0 := hQ.c0
      have kq1 := hQ.c1
      have kq2 := hQ.f0
      have kq3 := hQ.f1
      have kt0 := hT.c0
      have kt1 := hT.c1
      have kt2 := hT.f0
      have kt3 := hT.f1
      have kr0 := hE.R.c0
      have kr1 := hE.R.c1
      have kr2 := hE.R.f0
      have kr3 := hE.R.f1
      have ks0 := hE.S.c0
      have ks1 := hE.S.c1
      have ks2 := hE.S.f0
      have ks3 := hE.S.f1
      go_wp2_with fail
      refine (neg_any _ _ _ _ ((m.natAbs : Int) / n.natAbs) _ hq (hqb.fit (by omega))).mono ?_
      rintro e w1 ⟨n1, a1, l1, c1, rfl, hz1, hb1⟩
      have x1 : Ext _ w1 := hb1
      clear ka0 kb0 kb1 kq0 kq1 kq2 kq3 kt0 kt1 kt2 kt3 kr0 kr1 kr2 kr3 ks0 ks1 ks2 ks3
      replace hE := hE.ext x1
      replace hQ := hQ.ext x1
      replace hT := hT.ext x1
      replace hq := hq.ext x1
      replace hr := hr.ext x1
      have ka0 := hE.A.c0
      have kb0 := hE.B.c0
      have kb1 := hE.B.c1
      have kq0 := hQ.c0
      have kq1 := hQ.c1
      have kq2 := hQ.f0
      have kq3 := hQ.f1
      have kt0 := hT.c0
      have kt1 := hT.c1
      have kt2 := hT.f0
      have kt3 := hT.f1
      have kr0 := hE.R.c0
      have kr1 := hE.R.c1
      have kr2 := hE.R.f0
      have kr3 := hE.R.f1
      have ks0 := hE.S.c0
      have ks1 := hE.S.c1
      have ks2 := hE.S.f0
      have ks3 := hE.S.f1
      go_wp2_with fail
      clear ka0 kb0 kb1 kq0 kq1 kq2 kq3 kt0 kt1 kt2 kt3 kr0 kr1 kr2 kr3 ks0 ks1 ks2 ks3
      obtain ⟨V1, hV1⟩ : ∃ V, V = (w1.setCell ⟨k6, 0, none⟩ (.bool n1)).setCell ⟨k6, 1, none⟩ (.slice a1 l1 c1) := ⟨_, rfl⟩
      replace hr := hr.set2 hQ.kind (by decide) (.bool n1) (.slice a1 l1 c1)
      replace hq := hz1.set2 hQ.kind (by decide) (.bool n1) (.slice a1 l1 c1)
      replace hT := hT.other2 (Ne.symm hne) (.bool n1) (.slice a1 l1 c1)
      replace hE := hE.set2 (k := k6) (by omega) (.bool n1) (.slice a1 l1 c1)
      replace hQ := hQ.set (.bool n1) (.slice a1 l1 c1)
      rw [← hV1] at hq hr hQ hT hE ⊢
      clear hV1 hz1 x1 hb1
      have ka0 := hE.A.c0
      have kb0 := hE.B.c0
      have kb1 := hE.B.c1
      have kq0 := hQ.c0
      have kq1 := hQ.c1
      have kq2 := hQ.f0
      have kq3 := hQ.f1
      have kt0 := hT.c0
      have kt1 := hT.c1
      have kt2 := hT.f0
      have kt3 := hT.f1
      have kr0 := hE.R.c0
      have kr1 := hE.R.c1
      have kr2 := hE.R.f0
      have kr3 := hE.R.f1
      have ks0 := hE.S.c0
      have ks1 := hE.S.c1
      have ks2 := hE.S.f0
      have ks3 := hE.S.f1
      obtain ⟨d1, d2⟩ := div_C0 (m := m) (n := n) (by omega) (by omega) h0
      rw [← d1] at hq
      rw [← d2] at hr
      clear d1 d2
      go_region
      go_wp2_with fail
      refine bodyPost_ret (v := .tuple #[.agg #[.bool n1, .slice a1 l1 c1], .agg #[.bool nr, .slice ar 0 cr]]) (by simp [results, Try.results122, go_sem, kr0, kr1, ks0, ks1]) rfl
        (isZZ_end hq hr hE.R.kind hE.S.kind hE.W (by omega) (by omega) _ _ _ _)
    · -- C1
      have hm0 : ¬ m < 0 := by simpa using hna
      have hn0 : n < 0 := by simpa using hnb
      clear hna hnb
      obtain ⟨sl0, sn0⟩ := isZ_sign hr
      have hl0 : 0 < lr := by
        have : lr ≠ 0 := fun e => by have := sl0.1 e; omega
        omega
      obtain rfl : nr = false := by rw [sn0]; simp; omega
      clear sl0 sn0
      have ka0 := hE.A.c0
      have kb0 := hE.B.c0
      have kb1 := hE.B.c1
      have kq0 := hQ.c0
      have kq1 := hQ.c1
      have kq2 := hQ.f0
      have kq3 := hQ.f1
      have kt0 := hT.c0
      have kt1 := hT.c1
      have kt2 := hT.f0
      have kt3 := hT.f1
      have kr0 := hE.R.c0
      have kr1 := hE.R.c1
      have kr2 := hE.R.f0
      have kr3 := hE.R.f1
      have ks0 := hE.S.c0
      have ks1 := hE.S.c1
      have ks2 := hE.S.f0
      have ks3 := hE.S.f1
      go_wp2_with fail
      refine (neg_any _ _ _ _ ((m.natAbs : Int) / n.natAbs) _ hq (hqb.fit (by omega))).mono ?_
      rintro e w1 ⟨n1, a1, l1, c1, rfl, hz1, hb1⟩
      have x1 : Ext _ w1 := hb1
      clear ka0 kb0 kb1 kq0 kq1 kq2 kq3 kt0 kt1 kt2 kt3 kr0 kr1 kr2 kr3 ks0 ks1 ks2 ks3
      replace hE := hE.ext x1
      replace hQ := hQ.ext x1
      replace hT := hT.ext x1
      replace hq := hq.ext x1
      replace hr := hr.ext x1
      have ka0 := hE.A.c0
      have kb0 := hE.B.c0
      have kb1 := hE.B.c1
      have kq0 := hQ.c0
      have kq1 := hQ.c1
      have kq2 := hQ.f0
      have kq3 := hQ.f1
      have kt0 := hT.c0
      have kt1 := hT.c1
      have kt2 := hT.f0
      have kt3 := hT.f1
      have kr0 := hE.R.c0
      have kr1 := hE.R.c1
      have kr2 := hE.R.f0
      have kr3 := hE.R.f1
      have ks0 := hE.S.c0
      have ks1 := hE.S.c1
      have ks2 := hE.S.f0
      have ks3 := hE.S.f1
      go_wp2_with fail
      clear ka0 kb0 kb1 kq0 kq1 kq2 kq3 kt0 kt1 kt2 kt3 kr0 kr1 kr2 kr3 ks0 ks1 ks2 ks3
      obtain ⟨V1, hV1⟩ : ∃ V, V = (w1.setCell ⟨k6, 0, none⟩ (.bool n1)).setCell ⟨k6, 1, none⟩ (.slice a1 l1 c1) := ⟨_, rfl⟩
      replace hr := hr.set2 hQ.kind (by decide) (.bool n1) (.slice a1 l1 c1)
      replace hq := hz1.set2 hQ.kind (by decide) (.bool n1) (.slice a1 l1 c1)
      replace hT := hT.other2 (Ne.symm hne) (.bool n1) (.slice a1 l1 c1)
      replace hE := hE.set2 (k := k6) (by omega) (.bool n1) (.slice a1 l1 c1)
      replace hQ := hQ.set (.bool n1) (.slice a1 l1 c1)
      rw [← hV1] at hq hr hQ hT hE ⊢
      clear hV1 hz1 x1 hb1
      have ka0 := hE.A.c0
      have kb0 := hE.B.c0
      have kb1 := hE.B.c1
      have kq0 := hQ.c0
      have kq1 := hQ.c1
      have kq2 := hQ.f0
      have kq3 := hQ.f1
      have kt0 := hT.c0
      have kt1 := hT.c1
      have kt2 := hT.f0
      have kt3 := hT.f1
      have kr0 := hE.R.c0
      have kr1 := hE.R.c1
      have kr2 := hE.R.f0
      have kr3 := hE.R.f1
      have ks0 := hE.S.c0
      have ks1 := hE.S.c1
      have ks2 := hE.S.f0
      have ks3 := hE.S.f1
      go_region_with (first
        | (go_at_call 127; refine (ofu_any 1 _ (by omega) (by omega)).mono ?_; rintro e w8 ⟨n8, a8, l8, c8, rfl, hz8, hb8⟩; have p0 := (hQ.drew.below hb8).c0; have p1 := (hQ.drew.below hb8).c1)
        | (go_at_call 46; refine (sub_z _ _ _ _ _ _ _ _ (-((m.natAbs : Int) / n.natAbs)) 1 _ (hq.drew.below hb8) hz8 (hqb.neg.fit (by omega)) (Bits.fit (k := 1) (by unfold Bits; omega) (by omega))).mono ?_; rintro e w9 ⟨n9, a9, l9, c9, rfl, hz9, hb9⟩; have q := ((hQ.drew.below hb8).below hb9); have q0 := q.c0; have q1 := q.c1; have q2 := q.f0; have q3 := q.f1))
      all_goals
        clear p0 p1 q0 q1 q2 q3 q
        clear ka0 kb0 kb1 kq0 kq1 kq2 kq3 kt0 kt1 kt2 kt3 kr0 kr1 kr2 kr3 ks0 ks1 ks2 ks3
        have x8 : Ext _ w8 := hb8
        have x9 : Ext _ w9 := hb9
        replace hE := (hE.drew.ext x8).ext x9
        replace hQ := (hQ.drew.ext x8).ext x9
        replace hT := (hT.drew.ext x8).ext x9
        replace hr := (hr.drew.ext x8).ext x9
        have ka0 := hE.A.c0
        have kb0 := hE.B.c0
        have kb1 := hE.B.c1
        have kq0 := hQ.c0
        have kq1 := hQ.c1
        have kq2 := hQ.f0
        have kq3 := hQ.f1
        have kt0 := hT.c0
        have kt1 := hT.c1
        have kt2 := hT.f0
        have kt3 := hT.f1
        have kr0 := hE.R.c0
        have kr1 := hE.R.c1
        have kr2 := hE.R.f0
        have kr3 := hE.R.f1
        have ks0 := hE.S.c0
        have ks1 := hE.S.c1
        have ks2 := hE.S.f0
        have ks3 := hE.S.f1
        clear hq hz8 hb8 hb9
        go_wp2_with fail
        clear ka0 kb0 kb1 kq0 kq1 kq2 kq3 kt0 kt1 kt2 kt3 kr0 kr1 kr2 kr3 ks0 ks1 ks2 ks3
        obtain ⟨V9, hV9⟩ : ∃ V, V = (w9.setCell ⟨k6, 0, none⟩ (.bool n9)).setCell ⟨k6, 1, none⟩ (.slice a9 l9 c9) := ⟨_, rfl⟩
        have hq := hz9
        replace hr := hr.set2 hQ.kind (by decide) (.bool n9) (.slice a9 l9 c9)
        replace hq := hz9.set2 hQ.kind (by decide) (.bool n9) (.slice a9 l9 c9)
        replace hT := hT.other2 (Ne.symm hne) (.bool n9) (.slice a9 l9 c9)
        replace hE := hE.set2 (k := k6) (by omega) (.bool n9) (.slice a9 l9 c9)
        replace hQ := hQ.set (.bool n9) (.slice a9 l9 c9)
        rw [← hV9] at hq hr hQ hT hE ⊢
        clear hV9 hz9 x8 x9
        have ka0 := hE.A.c0
        have kb0 := hE.B.c0
        have kb1 := hE.B.c1
        have kq0 := hQ.c0
        have kq1 := hQ.c1
        have kq2 := hQ.f0
        have kq3 := hQ.f1
        have kt0 := hT.c0
        have kt1 := hT.c1
        have kt2 := hT.f0
        have kt3 := hT.f1
        have kr0 := hE.R.c0
        have kr1 := hE.R.c1
        have kr2 := hE.R.f0
        have kr3 := hE.R.f1
        have ks0 := hE.S.c0
        have ks1 := hE.S.c1
        have ks2 := hE.S.f0
        have ks3 := hE.S.f1
        refine (add_z _ _ _ _ _ _ _ _ ((m.natAbs : Int) % n.natAbs) n _ hr (hzb.ext hE.W) (hrb.fit (by omega)) (hn.fit (by omega))).mono ?_
        rintro e w2 ⟨n2, a2, l2, c2, rfl, hz2, hb2⟩
        have x2 : Ext _ w2 := hb2
        clear ka0 kb0 kb1 kq0 kq1 kq2 kq3 kt0 kt1 kt2 kt3 kr0 kr1 kr2 kr3 ks0 ks1 ks2 ks3
        replace hE := hE.ext x2
        replace hQ := hQ.ext x2
        replace hT := hT.ext x2
        replace hq := hq.ext x2
        replace hr := hr.ext x2
        have ka0 := hE.A.c0
        have kb0 := hE.B.c0
        have kb1 := hE.B.c1
        have kq0 := hQ.c0
        have kq1 := hQ.c1
        have kq2 := hQ.f0
        have kq3 := hQ.f1
        have kt0 := hT.c0
        have kt1 := hT.c1
        have kt2 := hT.f0
        have kt3 := hT.f1
        have kr0 := hE.R.c0
        have kr1 := hE.R.c1
        have kr2 := hE.R.f0
        have kr3 := hE.R.f1
        have ks0 := hE.S.c0
        have ks1 := hE.S.c1
        have ks2 := hE.S.f0
        have ks3 := hE.S.f1
        go_wp2_with fail
        clear ka0 kb0 kb1 kq0 kq1 kq2 kq3 kt0 kt1 kt2 kt3 kr0 kr1 kr2 kr3 ks0 ks1 ks2 ks3
        obtain ⟨V2, hV2⟩ : ∃ V, V = (w2.setCell ⟨k7, 0, none⟩ (.bool n2)).setCell ⟨k7, 1, none⟩ (.slice a2 l2 c2) := ⟨_, rfl⟩
        replace hq := hq.set2 hT.kind (by decide) (.bool n2) (.slice a2 l2 c2)
        replace hr := hz2.set2 hT.kind (by decide) (.bool n2) (.slice a2 l2 c2)
        replace hQ := hQ.other2 hne (.bool n2) (.slice a2 l2 c2)
        replace hE := hE.set2 (k := k7) (by omega) (.bool n2) (.slice a2 l2 c2)
        replace hT := hT.set (.bool n2) (.slice a2 l2 c2)
        rw [← hV2] at hq hr hQ hT hE ⊢
        clear hV2 hz2 x2 hb2
        have ka0 := hE.A.c0
        have kb0 := hE.B.c0
        have kb1 := hE.B.c1
        have kq0 := hQ.c0
        have kq1 := hQ.c1
        have kq2 := hQ.f0
        have kq3 := hQ.f1
        have kt0 := hT.c0
        have kt1 := hT.c1
        have kt2 := hT.f0
        have kt3 := hT.f1
        have kr0 := hE.R.c0
        have kr1 := hE.R.c1
        have kr2 := hE.R.f0
        have kr3 := hE.R.f1
        have ks0 := hE.S.c0
        have ks1 := hE.S.c1
        have ks2 := hE.S.f0
        have ks3 := hE.S.f1
        obtain ⟨d1, d2⟩ := div_C1 (m := m) (n := n) (by omega) (by omega) h0
        rw [← d1] at hq
        rw [← d2] at hr
        clear d1 d2
        go_region
        go_wp2_with fail
        refine bodyPost_ret (v := .tuple #[.agg #[.bool n9, .slice a9 l9 c9], .agg #[.bool n2, .slice a2 l2 c2]]) (by simp [results, Try.results122, go_sem, kr0, kr1, ks0, ks1]) rfl
          (isZZ_end hq hr hE.R.kind hE.S.kind hE.W (by omega) (by omega) _ _ _ _)
    · -- D0
      have hm0 : m < 0 := by simpa using hna
      have hn0' : ¬ n < 0 := by simpa using hnb
      have hn0 : 0 < n := by omega
      clear hn0'
      clear hna hnb
      have ka0 := hE.A.c0
      have kb0 := hE.B.c0
      have kb1 := hE.B.c1
      have kq0 := hQ.c0
      have kq1 := hQ.c1
      have kq2 := hQ.f0
      have kq3 := hQ.f1
      have kt0 := hT.c0
      have kt1 := hT.c1
      have kt2 := hT.f0
      have kt3 := hT.f1
      have kr0 := hE.R.c0
      have kr1 := hE.R.c1
      have kr2 := hE.R.f0
      have kr3 := hE.R.f1
      have ks0 := hE.S.c0
      have ks1 := hE.S.c1
      have ks2 := hE.S.f0
      have ks3 := hE.S.f1
      go_wp2_with fail
      refine (neg_any _ _ _ _ ((m.natAbs : Int) / n.natAbs) _ hq (hqb.fit (by omega))).mono ?_
      rintro e w1 ⟨n1, a1, l1, c1, rfl, hz1, hb1⟩
      have x1 : Ext _ w1 := hb1
      clear ka0 kb0 kb1 kq0 kq1 kq2 kq3 kt0 kt1 kt2 kt3 kr0 kr1 kr2 kr3 ks0 ks1 ks2 ks3
      replace hE := hE.ext x1
      replace hQ := hQ.ext x1
      replace hT := hT.ext x1
      replace hq := hq.ext x1
      replace hr := hr.ext x1
      have ka0 := hE.A.c0
      have kb0 := hE.B.c0
      have kb1 := hE.B.c1
      have kq0 := hQ.c0
      have kq1 := hQ.c1
      have kq2 := hQ.f0
      have kq3 := hQ.f1
      have kt0 := hT.c0
      have kt1 := hT.c1
      have kt2 := hT.f0
      have kt3 := hT.f1
      have kr0 := hE.R.c0
      have kr1 := hE.R.c1
      have kr2 := hE.R.f0
      have kr3 := hE.R.f1
      have ks0 := hE.S.c0
      have ks1 := hE.S.c1
      have ks2 := hE.S.f0
      have ks3 := hE.S.f1
      go_wp2_with fail
      clear ka0 kb0 kb1 kq0 kq1 kq2 kq3 kt0 kt1 kt2 kt3 kr0 kr1 kr2 kr3 ks0 ks1 ks2 ks3
      obtain ⟨V1, hV1⟩ : ∃ V, V = (w1.setCell ⟨k6, 0, none⟩ (.bool n1)).setCell ⟨k6, 1, none⟩ (.slice a1 l1 c1) := ⟨_, rfl⟩
      replace hr := hr.set2 hQ.kind (by decide) (.bool n1) (.slice a1 l1 c1)
      replace hq := hz1.set2 hQ.kind (by decide) (.bool n1) (.slice a1 l1 c1)
      replace hT := hT.other2 (Ne.symm hne) (.bool n1) (.slice a1 l1 c1)
      replace hE := hE.set2 (k := k6) (by omega) (.bool n1) (.slice a1 l1 c1)
      replace hQ := hQ.set (.bool n1) (.slice a1 l1 c1)
      rw [← hV1] at hq hr hQ hT hE ⊢
      clear hV1 hz1 x1 hb1
      have ka0 := hE.A.c0
      have kb0 := hE.B.c0
      have kb1 := hE.B.c1
      have kq0 := hQ.c0
      have kq1 := hQ.c1
      have kq2 := hQ.f0
      have kq3 := hQ.f1
      have kt0 := hT.c0
      have kt1 := hT.c1
      have kt2 := hT.f0
      have kt3 := hT.f1
      have kr0 := hE.R.c0
      have kr1 := hE.R.c1
      have kr2 := hE.R.f0
      have kr3 := hE.R.f1
      have ks0 := hE.S.c0
      have ks1 := hE.S.c1
      have ks2 := hE.S.f0
      have ks3 := hE.S.f1
      refine (neg_any _ _ _ _ ((m.natAbs : Int) % n.natAbs) _ hr (hrb.fit (by omega))).mono ?_
      rintro e w2 ⟨n2, a2, l2, c2, rfl, hz2, hb2⟩
      have x2 : Ext _ w2 := hb2
      obtain ⟨sl2, sn2⟩ := isZ_sign hz2
      have hl2 : l2 = 0 := sl2.2 (by omega)
      subst hl2
      clear sl2 sn2
      clear ka0 kb0 kb1 kq0 kq1 kq2 kq3 kt0 kt1 kt2 kt3 kr0 kr1 kr2 kr3 ks0 ks1 ks2 ks3
      replace hE := hE.ext x2
      replace hQ := hQ.ext x2
      replace hT := hT.ext x2
      replace hq := hq.ext x2
      replace hr := hr.ext x2
      have ka0 := hE.A.c0
      have kb0 := hE.B.c0
      have kb1 := hE.B.c1
      have kq0 := hQ.c0
      have kq1 := hQ.c1
      have kq2 := hQ.f0
      have kq3 := hQ.f1
      have kt0 := hT.c0
      have kt1 := hT.c1
      have kt2 := hT.f0
      have kt3 := hT.f1
      have kr0 := hE.R.c0
      have kr1 := hE.R.c1
      have kr2 := hE.R.f0
      have kr3 := hE.R.f1
      have ks0 := hE.S.c0
      have ks1 := hE.S.c1
      have ks2 := hE.S.f0
      have ks3 := hE.S.f1
      go_wp2_with fail
      clear ka0 kb0 kb1 kq0 kq1 kq2 kq3 kt0 kt1 kt2 kt3 kr0 kr1 kr2 kr3 ks0 ks1 ks2 ks3
      obtain ⟨V2, hV2⟩ : ∃ V, V = (w2.setCell ⟨k7, 0, none⟩ (.bool n2)).setCell ⟨k7, 1, none⟩ (.slice a2 0 c2) := ⟨_, rfl⟩
      replace hq := hq.set2 hT.kind (by decide) (.bool n2) (.slice a2 0 c2)
      replace hr := hz2.set2 hT.kind (by decide) (.bool n2) (.slice a2 0 c2)
      replace hQ := hQ.other2 hne (.bool n2) (.slice a2 0 c2)
      replace hE := hE.set2 (k := k7) (by omega) (.bool n2) (.slice a2 0 c2)
      replace hT := hT.set (.bool n2) (.slice a2 0 c2)
      rw [← hV2] at hq hr hQ hT hE ⊢
      clear hV2 hz2 x2 hb2
      have ka0 := hE.A.c0
      have kb0 := hE.B.c0
      have kb1 := hE.B.c1
      have kq0 := hQ.c0
      have kq1 := hQ.c1
      have kq2 := hQ.f0
      have kq3 := hQ.f1
      have kt0 := hT.c0
      have kt1 := hT.c1
      have kt2 := hT.f0
      have kt3 := hT.f1
      have kr0 := hE.R.c0
      have kr1 := hE.R.c1
      have kr2 := hE.R.f0
      have kr3 := hE.R.f1
      have ks0 := hE.S.c0
      have ks1 := hE.S.c1
      have ks2 := hE.S.f0
      have ks3 := hE.S.f1
      obtain ⟨d1, d2⟩ := div_D0 (m := m) (n := n) (by omega) (by omega) h0
      rw [← d1] at hq
      rw [← d2] at hr
      clear d1 d2
      go_region
      go_wp2_with fail
      refine bodyPost_ret (v := .tuple #[.agg #[.bool n1, .slice a1 l1 c1], .agg #[.bool n2, .slice a2 0 c2]]) (by simp [results, Try.results122, go_sem, kr0, kr1, ks0, ks1]) rfl
        (isZZ_end hq hr hE.R.kind hE.S.kind hE.W (by omega) (by omega) _ _ _ _)
    · -- D1
      have hm0 : m < 0 := by simpa using hna
      have hn0' : ¬ n < 0 := by simpa using hnb
      have hn0 : 0 < n := by omega
      clear hn0'
      clear hna hnb
      have ka0 := hE.A.c0
      have kb0 := hE.B.c0
      have kb1 := hE.B.c1
      have kq0 := hQ.c0
      have kq1 := hQ.c1
      have kq2 := hQ.f0
      have kq3 := hQ.f1
      have kt0 := hT.c0
      have kt1 := hT.c1
      have kt2 := hT.f0
      have kt3 := hT.f1
      have kr0 := hE.R.c0
      have kr1 := hE.R.c1
      have kr2 := hE.R.f0
      have kr3 := hE.R.f1
      have ks0 := hE.S.c0
      have ks1 := hE.S.c1
      have ks2 := hE.S.f0
      have ks3 := hE.S.f1
      go_wp2_with fail
      refine (neg_any _ _ _ _ ((m.natAbs : Int) / n.natAbs) _ hq (hqb.fit (by omega))).mono ?_
      rintro e w1 ⟨n1, a1, l1, c1, rfl, hz1, hb1⟩
      have x1 : Ext _ w1 := hb1
      clear ka0 kb0 kb1 kq0 kq1 kq2 kq3 kt0 kt1 kt2 kt3 kr0 kr1 kr2 kr3 ks0 ks1 ks2 ks3
      replace hE := hE.ext x1
      replace hQ := hQ.ext x1
      replace hT := hT.ext x1
      replace hq := hq.ext x1
      replace hr := hr.ext x1
      have ka0 := hE.A.c0
      have kb0 := hE.B.c0
      have kb1 := hE.B.c1
      have kq0 := hQ.c0
      have kq1 := hQ.c1
      have kq2 := hQ.f0
      have kq3 := hQ.f1
      have kt0 := hT.c0
      have kt1 := hT.c1
      have kt2 := hT.f0
      have kt3 := hT.f1
      have kr0 := hE.R.c0
      have kr1 := hE.R.c1
      have kr2 := hE.R.f0
      have kr3 := hE.R.f1
      have ks0 := hE.S.c0
      have ks1 := hE.S.c1
      have ks2 := hE.S.f0
      have ks3 := hE.S.f1
      go_wp2_with fail
      clear ka0 kb0 kb1 kq0 kq1 kq2 kq3 kt0 kt1 kt2 kt3 kr0 kr1 kr2 kr3 ks0 ks1 ks2 ks3
      obtain ⟨V1, hV1⟩ : ∃ V, V = (w1.setCell ⟨k6, 0, none⟩ (.bool n1)).setCell ⟨k6, 1, none⟩ (.slice a1 l1 c1) := ⟨_, rfl⟩
      replace hr := hr.set2 hQ.kind (by decide) (.bool n1) (.slice a1 l1 c1)
      replace hq := hz1.set2 hQ.kind (by decide) (.bool n1) (.slice a1 l1 c1)
      replace hT := hT.other2 (Ne.symm hne) (.bool n1) (.slice a1 l1 c1)
      replace hE := hE.set2 (k := k6) (by omega) (.bool n1) (.slice a1 l1 c1)
      replace hQ := hQ.set (.bool n1) (.slice a1 l1 c1)
      rw [← hV1] at hq hr hQ hT hE ⊢
      clear hV1 hz1 x1 hb1
      have ka0 := hE.A.c0
      have kb0 := hE.B.c0
      have kb1 := hE.B.c1
      have kq0 := hQ.c0
      have kq1 := hQ.c1
      have kq2 := hQ.f0
      have kq3 := hQ.f1
      have kt0 := hT.c0
      have kt1 := hT.c1
      have kt2 := hT.f0
      have kt3 := hT.f1
      have kr0 := hE.R.c0
      have kr1 := hE.R.c1
      have kr2 := hE.R.f0
      have kr3 := hE.R.f1
      have ks0 := hE.S.c0
      have ks1 := hE.S.c1
      have ks2 := hE.S.f0
      have ks3 := hE.S.f1
      refine (neg_any _ _ _ _ ((m.natAbs : Int) % n.natAbs) _ hr (hrb.fit (by omega))).mono ?_
      rintro e w2 ⟨n2, a2, l2, c2, rfl, hz2, hb2⟩
      have x2 : Ext _ w2 := hb2
      obtain ⟨sl2, sn2⟩ := isZ_sign hz2
      have hl2 : 0 < l2 := by
        have : l2 ≠ 0 := fun e => by have := sl2.1 e; omega
        omega
      obtain rfl : n2 = true := by rw [sn2]; simp; omega
      clear sl2 sn2
      clear ka0 kb0 kb1 kq0 kq1 kq2 kq3 kt0 kt1 kt2 kt3 kr0 kr1 kr2 kr3 ks0 ks1 ks2 ks3
      replace hE := hE.ext x2
      replace hQ := hQ.ext x2
      replace hT := hT.ext x2
      replace hq := hq.ext x2
      replace hr := hr.ext x2
      have ka0 := hE.A.c0
      have kb0 := hE.B.c0
      have kb1 := hE.B.c1
      have kq0 := hQ.c0
      have kq1 := hQ.c1
      have kq2 := hQ.f0
      have kq3 := hQ.f1
      have kt0 := hT.c0
      have kt1 := hT.c1
      have kt2 := hT.f0
      have kt3 := hT.f1
      have kr0 := hE.R.c0
      have kr1 := hE.R.c1
      have kr2 := hE.R.f0
      have kr3 := hE.R.f1
      have ks0 := hE.S.c0
      have ks1 := hE.S.c1
      have ks2 := hE.S.f0
      have ks3 := hE.S.f1
      go_wp2_with fail
      clear ka0 kb0 kb1 kq0 kq1 kq2 kq3 kt0 kt1 kt2 kt3 kr0 kr1 kr2 kr3 ks0 ks1 ks2 ks3
      obtain ⟨V2, hV2⟩ : ∃ V, V = (w2.setCell ⟨k7, 0, none⟩ (.bool true)).setCell ⟨k7, 1, none⟩ (.slice a2 l2 c2) := ⟨_, rfl⟩
      replace hq := hq.set2 hT.kind (by decide) (.bool true) (.slice a2 l2 c2)
      replace hr := hz2.set2 hT.kind (by decide) (.bool true) (.slice a2 l2 c2)
      replace hQ := hQ.other2 hne (.bool true) (.slice a2 l2 c2)
      replace hE := hE.set2 (k := k7) (by omega) (.bool true) (.slice a2 l2 c2)
      replace hT := hT.set (.bool true) (.slice a2 l2 c2)
      rw [← hV2] at hq hr hQ hT hE ⊢
      clear hV2 hz2 x2 hb2
      have ka0 := hE.A.c0
      have kb0 := hE.B.c0
      have kb1 := hE.B.c1
      have kq0 := hQ.c0
      have kq1 := hQ.c1
      have kq2 := hQ.f0
      have kq3 := hQ.f1
      have kt0 := hT.c0
      have kt1 := hT.c1
      have kt2 := hT.f0
      have kt3 := hT.f1
      have kr0 := hE.R.c0
      have kr1 := hE.R.c1
      have kr2 := hE.R.f0
      have kr3 := hE.R.f1
      have ks0 := hE.S.c0
      have ks1 := hE.S.c1
      have ks2 := hE.S.f0
      have ks3 := hE.S.f1
      go_region_with (first
        | (go_at_call 127; refine (ofu_any 1 _ (by omega) (by omega)).mono ?_; rintro e w8 ⟨n8, a8, l8, c8, rfl, hz8, hb8⟩; have p0 := (hQ.drew.below hb8).c0; have p1 := (hQ.drew.below hb8).c1)
        | (go_at_call 46; refine (sub_z _ _ _ _ _ _ _ _ (-((m.natAbs : Int) / n.natAbs)) 1 _ (hq.drew.below hb8) hz8 (hqb.neg.fit (by omega)) (Bits.fit (k := 1) (by unfold Bits; omega) (by omega))).mono ?_; rintro e w9 ⟨n9, a9, l9, c9, rfl, hz9, hb9⟩; have q := ((hQ.drew.below hb8).below hb9); have q0 := q.c0; have q1 := q.c1; have q2 := q.f0; have q3 := q.f1))
      all_goals
        clear p0 p1 q0 q1 q2 q3 q
        clear ka0 kb0 kb1 kq0 kq1 kq2 kq3 kt0 kt1 kt2 kt3 kr0 kr1 kr2 kr3 ks0 ks1 ks2 ks3
        have x8 : Ext _ w8 := hb8
        have x9 : Ext _ w9 := hb9
        replace hE := (hE.drew.ext x8).ext x9
        replace hQ := (hQ.drew.ext x8).ext x9
        replace hT := (hT.drew.ext x8).ext x9
        replace hr := (hr.drew.ext x8).ext x9
        have ka0 := hE.A.c0
        have kb0 := hE.B.c0
        have kb1 := hE.B.c1
        have kq0 := hQ.c0
        have kq1 := hQ.c1
        have kq2 := hQ.f0
        have kq3 := hQ.f1
        have kt0 := hT.c0
        have kt1 := hT.c1
        have kt2 := hT.f0
        have kt3 := hT.f1
        have kr0 := hE.R.c0
        have kr1 := hE.R.c1
        have kr2 := hE.R.f0
        have kr3 := hE.R.f1
        have ks0 := hE.S.c0
        have ks1 := hE.S.c1
        have ks2 := hE.S.f0
        have ks3 := hE.S.f1
        clear hq hz8 hb8 hb9
        go_wp2_with fail
        clear ka0 kb0 kb1 kq0 kq1 kq2 kq3 kt0 kt1 kt2 kt3 kr0 kr1 kr2 kr3 ks0 ks1 ks2 ks3
        obtain ⟨V9, hV9⟩ : ∃ V, V = (w9.setCell ⟨k6, 0, none⟩ (.bool n9)).setCell ⟨k6, 1, none⟩ (.slice a9 l9 c9) := ⟨_, rfl⟩
        have hq := hz9
        replace hr := hr.set2 hQ.kind (by decide) (.bool n9) (.slice a9 l9 c9)
        replace hq := hz9.set2 hQ.kind (by decide) (.bool n9) (.slice a9 l9 c9)
        replace hT := hT.other2 (Ne.symm hne) (.bool n9) (.slice a9 l9 c9)
        replace hE := hE.set2 (k := k6) (by omega) (.bool n9) (.slice a9 l9 c9)
        replace hQ := hQ.set (.bool n9) (.slice a9 l9 c9)
        rw [← hV9] at hq hr hQ hT hE ⊢
        clear hV9 hz9 x8 x9
        have ka0 := hE.A.c0
        have kb0 := hE.B.c0
        have kb1 := hE.B.c1
        have kq0 := hQ.c0
        have kq1 := hQ.c1
        have kq2 := hQ.f0
        have kq3 := hQ.f1
        have kt0 := hT.c0
        have kt1 := hT.c1
        have kt2 := hT.f0
        have kt3 := hT.f1
        have kr0 := hE.R.c0
        have kr1 := hE.R.c1
        have kr2 := hE.R.f0
        have kr3 := hE.R.f1
        have ks0 := hE.S.c0
        have ks1 := hE.S.c1
        have ks2 := hE.S.f0
        have ks3 := hE.S.f1
        refine (add_z _ _ _ _ _ _ _ _ (-((m.natAbs : Int) % n.natAbs)) n _ hr (hzb.ext hE.W) (hrb.neg.fit (by omega)) (hn.fit (by omega))).mono ?_
        rintro e w3 ⟨n3, a3, l3, c3, rfl, hz3, hb3⟩
        have x3 : Ext _ w3 := hb3
        clear ka0 kb0 kb1 kq0 kq1 kq2 kq3 kt0 kt1 kt2 kt3 kr0 kr1 kr2 kr3 ks0 ks1 ks2 ks3
        replace hE := hE.ext x3
        replace hQ := hQ.ext x3
        replace hT := hT.ext x3
        replace hq := hq.ext x3
        replace hr := hr.ext x3
        have ka0 := hE.A.c0
        have kb0 := hE.B.c0
        have kb1 := hE.B.c1
        have kq0 := hQ.c0
        have kq1 := hQ.c1
        have kq2 := hQ.f0
        have kq3 := hQ.f1
        have kt0 := hT.c0
        have kt1 := hT.c1
        have kt2 := hT.f0
        have kt3 := hT.f1
        have kr0 := hE.R.c0
        have kr1 := hE.R.c1
        have kr2 := hE.R.f0
        have kr3 := hE.R.f1
        have ks0 := hE.S.c0
        have ks1 := hE.S.c1
        have ks2 := hE.S.f0
        have ks3 := hE.S.f1
        go_wp2_with fail
        clear ka0 kb0 kb1 kq0 kq1 kq2 kq3 kt0 kt1 kt2 kt3 kr0 kr1 kr2 kr3 ks0 ks1 ks2 ks3
        obtain ⟨V3, hV3⟩ : ∃ V, V = (w3.setCell ⟨k7, 0, none⟩ (.bool n3)).setCell ⟨k7, 1, none⟩ (.slice a3 l3 c3) := ⟨_, rfl⟩
        replace hq := hq.set2 hT.kind (by decide) (.bool n3) (.slice a3 l3 c3)
        replace hr := hz3.set2 hT.kind (by decide) (.bool n3) (.slice a3 l3 c3)
        replace hQ := hQ.other2 hne (.bool n3) (.slice a3 l3 c3)
        replace hE := hE.set2 (k := k7) (by omega) (.bool n3) (.slice a3 l3 c3)
        replace hT := hT.set (.bool n3) (.slice a3 l3 c3)
        rw [← hV3] at hq hr hQ hT hE ⊢
        clear hV3 hz3 x3 hb3
        have ka0 := hE.A.c0
        have kb0 := hE.B.c0
        have kb1 := hE.B.c1
        have kq0 := hQ.c0
        have kq1 := hQ.c1
        have kq2 := hQ.f0
        have kq3 := hQ.f1
        have kt0 := hT.c0
        have kt1 := hT.c1
        have kt2 := hT.f0
        have kt3 := hT.f1
        have kr0 := hE.R.c0
        have kr1 := hE.R.c1
        have kr2 := hE.R.f0
        have kr3 := hE.R.f1
        have ks0 := hE.S.c0
        have ks1 := hE.S.c1
        have ks2 := hE.S.f0
        have ks3 := hE.S.f1
        obtain ⟨d1, d2⟩ := div_D1 (m := m) (n := n) (by omega) (by omega) h0
        rw [← d1] at hq
        rw [← d2] at hr
        clear d1 d2
        go_region
        go_wp2_with fail
        refine bodyPost_ret (v := .tuple #[.agg #[.bool n9, .slice a9 l9 c9], .agg #[.bool n3, .slice a3 l3 c3]]) (by simp [results, Try.results122, go_sem, kr0, kr1, ks0, ks1]) rfl
          (isZZ_end hq hr hE.R.kind hE.S.kind hE.W (by omega) (by omega) _ _ _ _)
    · -- B0
      have hm0 : m < 0 := by simpa using hna
      have hn0 : n < 0 := by simpa using hnb
      clear hna hnb
      have ka0 := hE.A.c0
      have kb0 := hE.B.c0
      have kb1 := hE.B.c1
      have kq0 := hQ.c0
      have kq1 := hQ.c1
      have kq2 := hQ.f0
      have kq3 := hQ.f1
      have kt0 := hT.c0
      have kt1 := hT.c1
      have kt2 := hT.f0
      have kt3 := hT.f1
      have kr0 := hE.R.c0
      have kr1 := hE.R.c1
      have kr2 := hE.R.f0
      have kr3 := hE.R.f1
      have ks0 := hE.S.c0
      have ks1 := hE.S.c1
      have ks2 := hE.S.f0
      have ks3 := hE.S.f1
      go_wp2_with fail
      refine (neg_any _ _ _ _ ((m.natAbs : Int) % n.natAbs) _ hr (hrb.fit (by omega))).mono ?_
      rintro e w1 ⟨n1, a1, l1, c1, rfl, hz1, hb1⟩
      have x1 : Ext _ w1 := hb1
      obtain ⟨sl1, sn1⟩ := isZ_sign hz1
      have hl1 : l1 = 0 := sl1.2 (by omega)
      subst hl1
      clear sl1 sn1
      clear ka0 kb0 kb1 kq0 kq1 kq2 kq3 kt0 kt1 kt2 kt3 kr0 kr1 kr2 kr3 ks0 ks1 ks2 ks3
      replace hE := hE.ext x1
      replace hQ := hQ.ext x1
      replace hT := hT.ext x1
      replace hq := hq.ext x1
      replace hr := hr.ext x1
      have ka0 := hE.A.c0
      have kb0 := hE.B.c0
      have kb1 := hE.B.c1
      have kq0 := hQ.c0
      have kq1 := hQ.c1
      have kq2 := hQ.f0
      have kq3 := hQ.f1
      have kt0 := hT.c0
      have kt1 := hT.c1
      have kt2 := hT.f0
      have kt3 := hT.f1
      have kr0 := hE.R.c0
      have kr1 := hE.R.c1
      have kr2 := hE.R.f0
      have kr3 := hE.R.f1
      have ks0 := hE.S.c0
      have ks1 := hE.S.c1
      have ks2 := hE.S.f0
      have ks3 := hE.S.f1
      go_wp2_with fail
      clear ka0 kb0 kb1 kq0 kq1 kq2 kq3 kt0 kt1 kt2 kt3 kr0 kr1 kr2 kr3 ks0 ks1 ks2 ks3
      obtain ⟨V1, hV1⟩ : ∃ V, V = (w1.setCell ⟨k7, 0, none⟩ (.bool n1)).setCell ⟨k7, 1, none⟩ (.slice a1 0 c1) := ⟨_, rfl⟩
      replace hq := hq.set2 hT.kind (by decide) (.bool n1) (.slice a1 0 c1)
      replace hr := hz1.set2 hT.kind (by decide) (.bool n1) (.slice a1 0 c1)
      replace hQ := hQ.other2 hne (.bool n1) (.slice a1 0 c1)
      replace hE := hE.set2 (k := k7) (by omega) (.bool n1) (.slice a1 0 c1)
      replace hT := hT.set (.bool n1) (.slice a1 0 c1)
      rw [← hV1] at hq hr hQ hT hE ⊢
      clear hV1 hz1 x1 hb1
      have ka0 := hE.A.c0
      have kb0 := hE.B.c0
      have kb1 := hE.B.c1
      have kq0 := hQ.c0
      have kq1 := hQ.c1
      have kq2 := hQ.f0
      have kq3 := hQ.f1
      have kt0 := hT.c0
      have kt1 := hT.c1
      have kt2 := hT.f0
      have kt3 := hT.f1
      have kr0 := hE.R.c0
      have kr1 := hE.R.c1
      have kr2 := hE.R.f0
      have kr3 := hE.R.f1
      have ks0 := hE.S.c0
      have ks1 := hE.S.c1
      have ks2 := hE.S.f0
      have ks3 := hE.S.f1
      obtain ⟨d1, d2⟩ := div_B (m := m) (n := n) (by omega) (by omega)
      rw [← d1] at hq
      rw [← d2] at hr
      clear d1 d2
      go_region
      go_wp2_with fail
      refine bodyPost_ret (v := .tuple #[.agg #[.bool nq, .slice aq lq cq], .agg #[.bool n1, .slice a1 0 c1]]) (by simp [results, Try.results122, go_sem, kr0, kr1, ks0, ks1]) rfl
        (isZZ_end hq hr hE.R.kind hE.S.kind hE.W (by omega) (by omega) _ _ _ _)
    · -- B1
      have hm0 : m < 0 := by simpa using hna
      have hn0 : n < 0 := by simpa using hnb
      clear hna hnb
      have ka0 := hE.A.c0
      have kb0 := hE.B.c0
      have kb1 := hE.B.c1
      have kq0 := hQ.c0
      have kq1 := hQ.c1
      have kq2 := hQ.f0
      have kq3 := hQ.f1
      have kt0 := hT.c0
      have kt1 := hT.c1
      have kt2 := hT.f0
      have kt3 := hT.f1
      have kr0 := hE.R.c0
      have kr1 := hE.R.c1
      have kr2 := hE.R.f0
      have kr3 := hE.R.f1
      have ks0 := hE.S.c0
      have ks1 := hE.S.c1
      have ks2 := hE.S.f0
      have ks3 := hE.S.f1
      go_wp2_with fail
      refine (neg_any _ _ _ _ ((m.natAbs : Int) % n.natAbs) _ hr (hrb.fit (by omega))).mono ?_
      rintro e w1 ⟨n1, a1, l1, c1, rfl, hz1, hb1⟩
      have x1 : Ext _ w1 := hb1
      obtain ⟨sl1, sn1⟩ := isZ_sign hz1
      have hl1 : 0 < l1 := by
        have : l1 ≠ 0 := fun e => by have := sl1.1 e; omega
        omega
      obtain rfl : n1 = true := by rw [sn1]; simp; omega
      clear sl1 sn1
      clear ka0 kb0 kb1 kq0 kq1 kq2 kq3 kt0 kt1 kt2 kt3 kr0 kr1 kr2 kr3 ks0 ks1 ks2 ks3
      replace hE := hE.ext x1
      replace hQ := hQ.ext x1
      replace hT := hT.ext x1
      replace hq := hq.ext x1
      replace hr := hr.ext x1
      have ka0 := hE.A.c0
      have kb0 := hE.B.c0
      have kb1 := hE.B.c1
      have kq0 := hQ.c0
      have kq1 := hQ.c1
      have kq2 := hQ.f0
      have kq3 := hQ.f1
      have kt0 := hT.c0
      have kt1 := hT.c1
      have kt2 := hT.f0
      have kt3 := hT.f1
      have kr0 := hE.R.c0
      have kr1 := hE.R.c1
      have kr2 := hE.R.f0
      have kr3 := hE.R.f1
      have ks0 := hE.S.c0
      have ks1 := hE.S.c1
      have ks2 := hE.S.f0
      have ks3 := hE.S.f1
      go_wp2_with fail
      clear ka0 kb0 kb1 kq0 kq1 kq2 kq3 kt0 kt1 kt2 kt3 kr0 kr1 kr2 kr3 ks0 ks1 ks2 ks3
      obtain ⟨V1, hV1⟩ : ∃ V, V = (w1.setCell ⟨k7, 0, none⟩ (.bool true)).setCell ⟨k7, 1, none⟩ (.slice a1 l1 c1) := ⟨_, rfl⟩
      replace hq := hq.set2 hT.kind (by decide) (.bool true) (.slice a1 l1 c1)
      replace hr := hz1.set2 hT.kind (by decide) (.bool true) (.slice a1 l1 c1)
      replace hQ := hQ.other2 hne (.bool true) (.slice a1 l1 c1)
      replace hE := hE.set2 (k := k7) (by omega) (.bool true) (.slice a1 l1 c1)
      replace hT := hT.set (.bool true) (.slice a1 l1 c1)
      rw [← hV1] at hq hr hQ hT hE ⊢
      clear hV1 hz1 x1 hb1
      have ka0 := hE.A.c0
      have kb0 := hE.B.c0
      have kb1 := hE.B.c1
      have kq0 := hQ.c0
      have kq1 := hQ.c1
      have kq2 := hQ.f0
      have kq3 := hQ.f1
      have kt0 := hT.c0
      have kt1 := hT.c1
      have kt2 := hT.f0
      have kt3 := hT.f1
      have kr0 := hE.R.c0
      have kr1 := hE.R.c1
      have kr2 := hE.R.f0
      have kr3 := hE.R.f1
      have ks0 := hE.S.c0
      have ks1 := hE.S.c1
      have ks2 := hE.S.f0
      have ks3 := hE.S.f1
      obtain ⟨d1, d2⟩ := div_B (m := m) (n := n) (by omega) (by omega)
      rw [← d1] at hq
      rw [← d2] at hr
      clear d1 d2
      go_region
      go_wp2_with fail
      refine bodyPost_ret (v := .tuple #[.agg #[.bool nq, .slice aq lq cq], .agg #[.bool true, .slice a1 l1 c1]]) (by simp [results, Try.results122, go_sem, kr0, kr1, ks0, ks1]) rfl
        (isZZ_end hq hr hE.R.kind hE.S.kind hE.W (by omega) (by omega) _ _ _ _)

end Go.Proofs.Ytcndfpfjckkinaa
