/-
  Texts joined: Gd, Ent, Dur, Fx, Duz, Due, Dug, Dui, Duib, Duj, Inn. Each says at its head what it shows.
-/
import Derived.BigQuiet
import Derived.Deep.DeepCutAuto
import Derived.WideShapes
import Derived.Test.YtcndfpfjckkinaaDe
section
/-
  The reference's Fits: is a number one of 64 bits?
-/
namespace Go.Proofs.Ytcndfpfjckkinaa
open Go Go.RowKit

theorem P127 : P 127 = 170141183460469231731687303715884105728 := by unfold P; decide
theorem power127 (w : World) : Calls Try.prog 126 #[.int .i64 127] w (RetZ w (P 127)) := power_any 127 w (by omega)

end Go.Proofs.Ytcndfpfjckkinaa

/-
  The reference's wide numbers: Fits of layer 2.
-/
namespace Go.Proofs.Ytcndfpfjckkinaa
open Go Go.RowKit

def FitW (w : World) (n : Int) (e : Ending) (w' : World) : Prop := e = .returned (.tuple #[.agg #[.int .i64 (thi n), .int .u64 (tlo n)], .bool (decide (W128 n))]) ∧ Ext w w'
theorem fitW_no {w w' : World} {n : Int} (h : ¬ W128 n) (x : Ext w w') : FitW w n (.returned (.tuple #[.agg #[.int .i64 0, .int .u64 0], .bool false])) w' := by
  refine ⟨?_, x⟩
  rw [thi_no h, tlo_no h, decide_eq_false h]
theorem fitW_yes {w w' : World} {n a b : Int} (h : W128 n) (ha : a = hi n) (hb : b = lo n) (x : Ext w w') : FitW w n (.returned (.tuple #[.agg #[.int .i64 a, .int .u64 b], .bool true])) w' := by
  refine ⟨?_, x⟩
  rw [thi_yes h, tlo_yes h, decide_eq_true h, ha, hb]
theorem hi_fdiv (n : Int) : n.fdiv (P 64) = hi n := by rw [P64, Int.fdiv_eq_ediv_of_nonneg _ (by omega)]; rfl
theorem lo_fmod (n : Int) : n.fmod (P 64) = lo n := by rw [P64, Int.fmod_eq_emod_of_nonneg _ (by omega)]; rfl
theorem upu_step {ds : List Int} {n : Int} (dd : Digs ds) (hv : n = sgn false (val ds)) (h1 : n < 18446744073709551616) (k : Nat) (hk : k < ds.length) :
    (0 ≤ up false ds (k + 1) * 65536 ∧ up false ds (k + 1) * 65536 < 18446744073709551616) ∧ up false ds k = up false ds (k + 1) * 65536 + dg ds k ∧
    (0 ≤ up false ds k ∧ up false ds k < 18446744073709551616) := by
  obtain ⟨a1, a2⟩ := drop_le dd k
  have a3 := val_nonneg (dd.drop (k + 1))
  have a4 := dg_drop ds k hk
  obtain ⟨a5, a6⟩ := dd k
  unfold up
  simp only [sgn, Bool.false_eq_true, if_false] at *
  omega

set_option maxRecDepth 100000 in
set_option maxHeartbeats 1600000 in
theorem fitw_any (na : Bool) (aa : Option Addr) (la ca : Nat) (n : Int) (w : World) (hz : IsZ w na (.slice aa la ca) n) (hb : Bits 1000 n) :
    Calls Try.prog 36 #[.agg #[.bool na, .slice aa la ca]] w (FitW w n) := by
  have HP := Lib.hid P127
  have hf : Fit n := hb.fit (by omega)
  have f127 : Fit (P 127) := (Bits.P 127).fit (by omega)
  by_cases h1 : P 127 ≤ n
  · have hc := (cmpI_ge n (P 127)).2 h1
    have hno : ¬ W128 n := by rw [P127] at h1; unfold W128; omega
    have hA : Box2 ((w.alloc (.cells #[.bool na, .slice aa la ca] 47)).alloc (.cells #[.int .i64 0, .int .u64 0] 38)) w.heap.size (.bool na) (.slice aa la ca) 47 := (Box2.new rfl).alloc _
    have hR : Box2 ((w.alloc (.cells #[.bool na, .slice aa la ca] 47)).alloc (.cells #[.int .i64 0, .int .u64 0] 38)) (w.heap.size + 1) (.int .i64 0) (.int .u64 0) 38 := Box2.new (by simp)
    have xA : Ext w ((w.alloc (.cells #[.bool na, .slice aa la ca] 47)).alloc (.cells #[.int .i64 0, .int .u64 0] 38)) := (Ext.refl w).alloc.alloc
    clear h1
    go_enter Try.func36, Try.ntmps36
    go_wp2_with fail
    go_region_with (first
      | (go_at_call 126; refine (power127 _).mono ?_; rintro e w1 ⟨n1, a1, l1, c1, rfl, hz1, hb1⟩; have x1 : Ext _ w1 := hb1; have p := (hA.drew.ext x1); have p0 := p.c0; have p1 := p.c1)
      | (go_at_call 45; refine (cmp_z _ _ _ _ _ _ _ _ n (P 127) _ ((hz.ext xA.drew).ext x1) hz1 hf f127).mono ?_; rintro e w2 ⟨rfl, hb2⟩; have x2 : Ext _ w2 := hb2; have q := (hR.drew.ext x1).ext x2; have q0 := q.c0; have q1 := q.c1; have q2 := q.f0; have q3 := q.f1))
    all_goals
      go_wp2_with fail
      refine bodyPost_ret (v := .tuple #[.agg #[.int .i64 0, .int .u64 0], .bool false]) (by simp [results, Try.results36, go_sem, q0, q1]) rfl (fitW_no hno (Ext.set (Ext.set (Ext.trans (Ext.trans xA.drew x1) x2) (by omega)) (by omega)))
  · have h1' : n < P 127 := by omega
    have hc : ¬ 0 ≤ cmpI n (P 127) := fun h => h1 ((cmpI_ge n (P 127)).1 h)
    have hc' : decide (0 ≤ cmpI n (P 127)) = false := decide_eq_false hc
    have hcl := cmpI_lt h1'
    by_cases h2 : n < -P 127
    · have hd : cmpI n (-P 127) < 0 := by have := cmpI_ge n (-P 127); omega
      have hno : ¬ W128 n := by rw [P127] at h2; unfold W128; omega
      clear h1 h1' h2 hcl
      go_enter Try.func36, Try.ntmps36
      go_wp2_with fail
      obtain ⟨W, hW⟩ : ∃ W, W = (w.alloc (.cells #[.bool na, .slice aa la ca] 47)).alloc (.cells #[.int .i64 0, .int .u64 0] 38) := ⟨_, rfl⟩
      rw [← hW]
      have hA : Box2 W w.heap.size (.bool na) (.slice aa la ca) 47 := by rw [hW]; exact (Box2.new rfl).alloc _
      have hR : Box2 W (w.heap.size + 1) (.int .i64 0) (.int .u64 0) 38 := by rw [hW]; exact Box2.new (by simp)
      have xA : Ext w W := by rw [hW]; exact (Ext.refl w).alloc.alloc
      have sW : W.heap.size = w.heap.size + 2 := by rw [hW]; simp
      have SW := Lib.hid sW
      clear hW sW
      go_region_held3 (fun w' => w'.cell? ⟨w.heap.size, 0, none⟩ = some (.bool na) ∧ w'.cell? ⟨w.heap.size, 1, none⟩ = some (.slice aa la ca))
        (first
          | exact ⟨(((((hA.drew.ext x1).ext x2).ext x3).ext x4).ext x5).c0, (((((hA.drew.ext x1).ext x2).ext x3).ext x4).ext x5).c1⟩
          | exact ⟨((((hA.drew.ext x1).ext x2).ext x3).ext x4).c0, ((((hA.drew.ext x1).ext x2).ext x3).ext x4).c1⟩
          | exact ⟨(((hA.drew.ext x1).ext x2).ext x3).c0, (((hA.drew.ext x1).ext x2).ext x3).c1⟩
          | exact ⟨((hA.drew.ext x1).ext x2).c0, ((hA.drew.ext x1).ext x2).c1⟩
          | exact ⟨(hA.drew.ext x1).c0, (hA.drew.ext x1).c1⟩
          | exact ⟨hA.drew.c0, hA.drew.c1⟩)
        (first
          | (go_at_call 128; refine (neg_any _ _ _ _ (P 127) _ hz3 f127).mono ?_; rintro e w4 ⟨n4, a4, l4, c4, rfl, hz4, hb4⟩; have x4 : Ext _ w4 := hb4)
          | (have := x4; go_at_call 45; refine (cmp_z _ _ _ _ _ _ _ _ n (-P 127) _ (((((hz.ext xA.drew).ext x1).ext x2).ext x3).ext x4) hz4 hf f127.neg).mono ?_; rintro e w5 ⟨rfl, hb5⟩; have x5 : Ext _ w5 := hb5)
          | (have := x2; go_at_call 126; refine (power127 _).mono ?_; rintro e w3 ⟨n3, a3, l3, c3, rfl, hz3, hb3⟩; have x3 : Ext _ w3 := hb3)
          | (go_at_call 126; refine (power127 _).mono ?_; rintro e w1 ⟨n1, a1, l1, c1, rfl, hz1, hb1⟩; have x1 : Ext _ w1 := hb1)
          | (go_at_call 45; refine (cmp_z _ _ _ _ _ _ _ _ n (P 127) _ ((hz.ext xA.drew).ext x1) hz1 hf f127).mono ?_; rintro e w2 ⟨rfl, hb2⟩; have x2 : Ext _ w2 := hb2))
      have q := ((((hR.drew.ext x1).ext x2).ext x3).ext x4).ext x5
      have q0 := q.c0
      have q1 := q.c1
      have q2 := q.f0
      have q3 := q.f1
      go_wp2_with fail
      refine bodyPost_ret (v := .tuple #[.agg #[.int .i64 0, .int .u64 0], .bool false]) (by simp [results, Try.results36, go_sem, q0, q1]) rfl (fitW_no hno (Ext.set (Ext.set (Ext.trans (Ext.trans (Ext.trans (Ext.trans (Ext.trans xA.drew x1) x2) x3) x4) x5) (by omega)) (by omega)))
    · have hd : ¬ cmpI n (-P 127) < 0 := by have := cmpI_ge n (-P 127); omega
      have hd' : decide (cmpI n (-P 127) < 0) = false := decide_eq_false hd
      have hI : W128 n := by rw [P127] at h1' h2; unfold W128; omega
      clear h1 h1' h2 hcl
      go_enter Try.func36, Try.ntmps36
      go_wp2_with fail
      obtain ⟨W, hW⟩ : ∃ W, W = (w.alloc (.cells #[.bool na, .slice aa la ca] 47)).alloc (.cells #[.int .i64 0, .int .u64 0] 38) := ⟨_, rfl⟩
      rw [← hW]
      have hA : Box2 W w.heap.size (.bool na) (.slice aa la ca) 47 := by rw [hW]; exact (Box2.new rfl).alloc _
      have hR : Box2 W (w.heap.size + 1) (.int .i64 0) (.int .u64 0) 38 := by rw [hW]; exact Box2.new (by simp)
      have xA : Ext w W := by rw [hW]; exact (Ext.refl w).alloc.alloc
      have sW : W.heap.size = w.heap.size + 2 := by rw [hW]; simp
      have SW := Lib.hid sW
      clear hW sW
      go_region_held3 (fun w' => w'.cell? ⟨w.heap.size, 0, none⟩ = some (.bool na) ∧ w'.cell? ⟨w.heap.size, 1, none⟩ = some (.slice aa la ca))
        (first
          | exact ⟨(((((hA.drew.ext x1).ext x2).ext x3).ext x4).ext x5).c0, (((((hA.drew.ext x1).ext x2).ext x3).ext x4).ext x5).c1⟩
          | exact ⟨((((hA.drew.ext x1).ext x2).ext x3).ext x4).c0, ((((hA.drew.ext x1).ext x2).ext x3).ext x4).c1⟩
          | exact ⟨(((hA.drew.ext x1).ext x2).ext x3).c0, (((hA.drew.ext x1).ext x2).ext x3).c1⟩
          | exact ⟨((hA.drew.ext x1).ext x2).c0, ((hA.drew.ext x1).ext x2).c1⟩
          | exact ⟨(hA.drew.ext x1).c0, (hA.drew.ext x1).c1⟩
          | exact ⟨hA.drew.c0, hA.drew.c1⟩)
        (first
          | (go_at_call 128; refine (neg_any _ _ _ _ (P 127) _ hz3 f127).mono ?_; rintro e w4 ⟨n4, a4, l4, c4, rfl, hz4, hb4⟩; have x4 : Ext _ w4 := hb4)
          | (have := x4; go_at_call 45; refine (cmp_z _ _ _ _ _ _ _ _ n (-P 127) _ (((((hz.ext xA.drew).ext x1).ext x2).ext x3).ext x4) hz4 hf f127.neg).mono ?_; rintro e w5 ⟨rfl, hb5⟩; have x5 : Ext _ w5 := hb5)
          | (have := x2; go_at_call 126; refine (power127 _).mono ?_; rintro e w3 ⟨n3, a3, l3, c3, rfl, hz3, hb3⟩; have x3 : Ext _ w3 := hb3)
          | (go_at_call 126; refine (power127 _).mono ?_; rintro e w1 ⟨n1, a1, l1, c1, rfl, hz1, hb1⟩; have x1 : Ext _ w1 := hb1)
          | (go_at_call 45; refine (cmp_z _ _ _ _ _ _ _ _ n (P 127) _ ((hz.ext xA.drew).ext x1) hz1 hf f127).mono ?_; rintro e w2 ⟨rfl, hb2⟩; have x2 : Ext _ w2 := hb2))
      have hA5 := ((((hA.drew.ext x1).ext x2).ext x3).ext x4).ext x5
      have hR5 := ((((hR.drew.ext x1).ext x2).ext x3).ext x4).ext x5
      have xW : Ext w w5 := Ext.trans (Ext.trans (Ext.trans (Ext.trans (Ext.trans xA.drew x1) x2) x3) x4) x5
      have z5 := (Ext.trans (Ext.trans (Ext.trans (Ext.trans ((Ext.refl W).drew.trans x1) x2) x3) x4) x5).size
      rw [SW.out] at z5
      have hz5 := hz.ext xW
      clear hc hc' hd hd' hz1 hz3 hz4 x1 x2 x3 x4 x5 hb1 hb2 hb3 hb4 hb5 HP f127 xA hA hR hz SW
      go_wp2_with fail
      go_cut [4, 5] (fun s4 s5 wx => ∃ (k4 k5 : Nat) (nq : Bool) (aq : Option Addr) (lq cq : Nat) (nr : Bool) (ar : Option Addr) (lr cr : Nat), s4 = .pointer (some ⟨k4, 0, none⟩) ∧ s5 = .pointer (some ⟨k5, 0, none⟩) ∧
        Box2 wx k4 (.bool nq) (.slice aq lq cq) 47 ∧ Box2 wx k5 (.bool nr) (.slice ar lr cr) 47 ∧ IsZ wx nq (.slice aq lq cq) (n.fdiv (P 64)) ∧ IsZ wx nr (.slice ar lr cr) (n.fmod (P 64)) ∧ Box2 wx (w.heap.size + 1) (.int .i64 0) (.int .u64 0) 38 ∧ Ext w wx)
      case first =>
        refine wp_region_noPanic ?_
        refine wp_region_held_drew (S := fun w' => Ext w5 w') (by kernel_rfl) (Ext.refl w5).drew (fun hHeld => ?_)
        have c0 := fun w' (h : Ext w5 w') => (hA5.ext h).c0
        have c1 := fun w' (h : Ext w5 w') => (hA5.ext h).c1
        refine wpAnyH_take (i := 0) (v := .agg #[.bool na, .slice aa la ca]) rfl (by kernel_rfl) (by kernel_rfl) (by kernel_rfl) (fun _ _ _ h => h) (Or.inl ⟨by kernel_rfl, fun w' h => (by go_simp)⟩) hHeld ?_
        refine region2 (N := 10) (f0 := [0]) (l := [(1, false), (2, false), (3, true), (4, true), (5, true)]) (T := [8, 9]) (iA := 6) (dA := 4) (iB := 7) (dB := 5) (oA := .cells #[.bool false, .slice none 0 0] 47) (oB := .cells #[.bool false, .slice none 0 0] 47) (fun _ _ _ _ _ h => h) (by kernel_rfl) (by kernel_rfl) rfl (by kernel_rfl) (by kernel_rfl)
          (fun K a w h => wpOp_of rfl fun K' hK => (by go_simp; exact hK _ _ h)) (fun K a w h => wpOp_of rfl fun K' hK => (by go_simp; exact hK _ _ h)) (by decide) (by simp [Act.put]) (by simp [Act.put]) (fun _ _ h x => h.trans x) hHeld ?_
        intro a1 v1 h1 y1; obtain ⟨s4, s5, rfl⟩ := away2 h1; refine wpOp_of rfl fun K' hK => ?_; go_simp
        refine (power64 _).mono ?_
        rintro e w1 ⟨n1, a1, l1, c1, rfl, hz1, hb1⟩
        refine hK _ _ ⟨⟨hb1, rfl, slots2 rfl rfl⟩, ?_⟩; clear hK K'
        intro a1 v2 h1 y2; obtain ⟨s4, s5, rfl⟩ := away2 h1; refine wpOp_of rfl fun K' hK => ?_; go_simp
        have x2 : Ext w5 v2 := ((Ext.refl w5).drew.trans y1).trans (Ext.trans hb1 y2)
        refine (div_z _ _ _ _ _ _ _ _ n (P 64) _ (hz5.ext x2) (hz1.ext y2) 1000 (by omega) hb ((Bits.P 64).mono (by omega)) (by rw [P64]; omega)).mono ?_
        rintro e w3 ⟨nq, aq, lq, cq, nr, ar, lr, cr, rfl, hq, hr, hb2⟩
        refine hK _ _ ⟨⟨hb2, rfl, slots2 rfl rfl⟩, ?_⟩; clear hK K'
        have x4 : Ext w5 w3 := x2.trans hb2
        refine ⟨_, .tuple #[.agg #[.bool nq, .slice aq lq cq], .agg #[.bool nr, .slice ar lr cr]], rfl, Or.inl ⟨by rfl, fun w' h => (by go_simp)⟩, by simp, ?_⟩
        refine ⟨_, .agg #[.bool nq, .slice aq lq cq], rfl, Or.inl ⟨by rfl, fun w' h => (by go_simp)⟩, by simp, ?_⟩
        refine ⟨_, .agg #[.bool nr, .slice ar lr cr], rfl, Or.inl ⟨by rfl, fun w' h => (by go_simp)⟩, by simp, ?_⟩
        intro a' w' h y
        obtain ⟨s6, s7, rfl⟩ := away2 h
        rintro k k' ⟨hk1, hk2, hk3⟩ ⟨hl1, hl2, hl3⟩ hne hS'
        have y4 : Ext w3 w' := y
        simp [Act.put] at hk2 hl2
        subst hk2 hl2
        have hk1' : w5.heap.size ≤ k := hk1
        have hl1' : w5.heap.size ≤ k' := hl1
        have hq' := hq.ext y4
        have hr' := hr.ext y4
        have hkb : Box2 w' k (.bool false) (.slice none 0 0) 47 := hk3
        have hlb : Box2 w' k' (.bool false) (.slice none 0 0) 47 := hl3
        have k0 := hkb.c0
        have k1 := hkb.c1
        have k2 := hkb.f0
        have k3 := hkb.f1
        have hBq := hkb.set (.bool nq) (.slice aq lq cq)
        have hBr := hlb.other2 (Ne.symm hne) (.bool nq) (.slice aq lq cq)
        have hSq : Ext w5 ((w'.setCell ⟨k, 0, none⟩ (.bool nq)).setCell ⟨k, 1, none⟩ (.slice aq lq cq)) := (hS'.set hk1).set hk1
        have hqq := hq'.set2 hkb.kind (by decide) (.bool nq) (.slice aq lq cq)
        have hrq := hr'.set2 hkb.kind (by decide) (.bool nq) (.slice aq lq cq)
        have l0 := hBr.c0
        have l1 := hBr.c1
        have l2 := hBr.f0
        have l3 := hBr.f1
        refine wpOp_of rfl fun K' hK => ?_
        go_simp
        refine hK _ _ ⟨hSq, ?_⟩
        clear hK K'
        refine wpOp_of rfl fun K' hK => ?_
        go_simp
        refine hK _ _ ⟨(hSq.set hl1).set hl1, ?_⟩
        clear hK K'
        refine NoPanic.normal ?_
        go_wp2_with fail
        go_meet
        exact ⟨k, k', nq, aq, lq, cq, nr, ar, lr, cr, rfl, rfl, hBq.other2 hne _ _, hBr.set _ _, hqq.set2 hBr.kind (by decide) _ _, hrq.set2 hBr.kind (by decide) _ _, hR5.ext ((hSq.set hl1).set hl1), xW.trans ((hSq.set hl1).set hl1)⟩
      case rest =>
        obtain ⟨k4, k5, nq, aq, lq, cq, nr, ar, lr, cr, rfl, rfl, hQ, hT, hq, hr, hR, xw⟩ := hcut
        rw [hi_fdiv] at hq
        rw [lo_fmod] at hr
        have b0 := hQ.c0
        have b1 := hQ.c1
        clear hA5 hR5 xW z5 hz5
        obtain ⟨g0, g1⟩ := hi_bd hI
        obtain ⟨l0, l1⟩ := lo_bd n
        have hI' : I64 (hi n) := ⟨g0, g1⟩
        have hbh : Bits 64 (hi n) := by unfold Bits; omega
        have hf' : Fit (lo n) := Bits.fit (k := 64) (by unfold Bits; omega) (by omega)
        go_wp2_with fail
        refine (fits_any _ _ _ _ (hi n) _ hq (hbh.mono (by omega))).mono ?_
        rintro e w6 ⟨rfl, x6⟩
        rw [show t64 (hi n) = hi n from if_pos hI', decide_eq_true hI']
        replace hT := hT.ext x6
        replace hR := hR.ext x6
        replace hr := hr.ext x6
        replace xw := Ext.trans xw x6
        clear hQ hq b0 b1 x6 hbh g0 g1 hI' hf hb
        obtain ⟨ds, ⟨a, ca', ba, oa, e, hca, hxa, hxc⟩, dd, td, hv, hneg⟩ := hr
        simp only [Value.slice.injEq] at e
        obtain ⟨rfl, rfl, rfl⟩ := e
        have hnr : nr = false := by rw [hneg]; exact decide_eq_false (by omega)
        subst hnr
        have hll : ds.length ≤ 7000 := by
          have h0 := val_nonneg dd
          have hvv : val ds = (lo n).natAbs := by simp [sgn] at hv; omega
          exact tidy_len dd td 7000 (by rw [hvv]; exact hf')
        clear hf' l0
        have e0 := up_len false ds
        have HV := Lib.hid hv
        have p0 := hT.c0
        have p1 := hT.c1
        have r0 := hR.c0
        have r1 := hR.c1
        have r2 := hR.f0
        have r3 := hR.f1
        clear hneg td hv
        go_wp2_with fail
        go_loop [8, 9] (fun s i => ∃ k : Nat, k ≤ ds.length ∧ i = .int .i64 ((k : Int) - 1) ∧ s = .int .u64 (up false ds k)) (fun _ i => (intOf i + 1).toNat)
        case atStart => exact ⟨ds.length, Nat.le_refl _, rfl, by rw [e0]⟩
        case round =>
          clear e0
          obtain ⟨k, hk, rfl, rfl⟩ := hrel
          by_cases h0 : k = 0
          · subst h0
            have HW : Hid (up false ds 0 = lo n) := Lib.hid (by rw [up_zero, ← HV.out])
            clear hxa hxc l1
            go_wp2_with fail
            refine bodyPost_ret (v := .tuple #[.agg #[.int .i64 (hi n), .int .u64 (up false ds 0)], .bool true]) (by simp [results, Try.results36, go_sem, r0, r1]) rfl (fitW_yes hI rfl HW.out (Ext.set (Ext.set xw (by omega)) (by omega)))
          · obtain ⟨j, rfl⟩ : ∃ j, k = j + 1 := ⟨k - 1, by omega⟩
            have hs := upu_step dd HV.out l1 j (by omega)
            have hix := fun w => at_row (cap := cr) (fun h => (hxa h).1) (j : Int) (by omega) (by omega) w
            have e : ((j + 1 : Nat) : Int) - 1 = j := by omega
            rw [e]
            have hcx := hxc j (by omega)
            obtain ⟨d0, d1⟩ := dd j
            clear hxa e hxc
            obtain ⟨⟨s0, s1⟩, s2, s3, s4⟩ := hs
            rw [s2] at s3 s4
            have S2 := Lib.hid s2
            clear s2 l1
            go_wp2_with fail
            go_round
            case rel => exact ⟨j, by omega, rfl, by rw [S2.out]⟩
            case measure => simp [intOf]
end Go.Proofs.Ytcndfpfjckkinaa

/-
  The reference's wide numbers: Of and Told of layer 2.
-/
namespace Go.Proofs.Ytcndfpfjckkinaa
open Go Go.RowKit

end Go.Proofs.Ytcndfpfjckkinaa

/-
  What every right program answers: alive of layer 2.
-/
namespace Go.Proofs.Ytcndfpfjckkinaa
open Go Go.RowKit

end Go.Proofs.Ytcndfpfjckkinaa

/-
  The law WideInts, walked.
-/
namespace Go.Proofs.Ytcndfpfjckkinaa
open Go Go.RowKit

end Go.Proofs.Ytcndfpfjckkinaa

/-
  The law WideProducts, walked.
-/
namespace Go.Proofs.Ytcndfpfjckkinaa
open Go Go.RowKit

end Go.Proofs.Ytcndfpfjckkinaa
end
section
/-
  Every function of the program is entered when it is called.
-/
namespace Go.Proofs.Ytcndfpfjckkinaa
open Go Go.Ev
theorem ent36 : Enters Try.prog 36 := enters_of Try.func36 (by kernel_rfl) rfl
theorem ent56 : Enters Try.prog 56 := enters_of Try.func56 (by kernel_rfl) rfl
theorem ent57 : Enters Try.prog 57 := enters_of Try.func57 (by kernel_rfl) rfl
theorem ent58 : Enters Try.prog 58 := enters_of Try.func58 (by kernel_rfl) rfl
theorem ent68 : Enters Try.prog 68 := enters_of Try.func68 (by kernel_rfl) rfl
theorem ent69 : Enters Try.prog 69 := enters_of Try.func69 (by kernel_rfl) rfl
theorem ent71 : Enters Try.prog 71 := enters_of Try.func71 (by kernel_rfl) rfl
theorem ent72 : Enters Try.prog 72 := enters_of Try.func72 (by kernel_rfl) rfl
theorem ent73 : Enters Try.prog 73 := enters_of Try.func73 (by kernel_rfl) rfl
theorem ent143 : Enters Try.prog 143 := enters_of Try.func143 (by kernel_rfl) rfl
theorem ent199 : Enters Try.prog 199 := enters_of Try.func199 (by kernel_rfl) rfl
end Go.Proofs.Ytcndfpfjckkinaa
end
section
/-
  Durations: totals, signs, what may be, and how a total is laid out; no program in sight.
-/
set_option linter.unusedVariables false
namespace Go.Proofs.Ytcndfpfjckkinaa

theorem uOk_neg {a b c d h mi s n : Int} (k : uOk a b c d h mi s n) : uOk (-a) (-b) (-c) (-d) (-h) (-mi) (-s) (-n) := by
  unfold uOk pos8 neg8 cnt1 dtot at *; omega
end Go.Proofs.Ytcndfpfjckkinaa
end
section
/-
  More contracts of the first layers, as the reckoner wants them.
-/
set_option linter.unusedVariables false
namespace Go.Proofs.Ytcndfpfjckkinaa
open Go Go.RowKit Go.Ev

theorem fitw_f (p : ZQ) (x : Int) (hb : Bits 1000 x) (h : W128 x) : Fn 36 [(p, x)] [zv p] (.tuple #[wv x, .bool true]) := fun w k => (fitw_any _ _ _ _ x w (one_z k) hb).mono fun e w' q => ⟨by rw [q.1, thi_yes h, tlo_yes h, decide_eq_true h], q.2⟩
end Go.Proofs.Ytcndfpfjckkinaa
end
section
/-
  Durations: what may be, as the reference reckons it.
-/
set_option linter.unusedVariables false
set_option maxRecDepth 100000
namespace Go.Proofs.Ytcndfpfjckkinaa
open Go Go.RowKit Go.Ev

section
variable (a b c d h mi s n : Int)
theorem zusign : Fn 69 [] [duv a b c d h mi s n] (.int .i64 (sg8 a b c d h mi s n)) := by
  refine fn_of Try.func69 rfl fun ww => ?_
  refine st_rowB ent97 (zufields (a) (b) (c) (d) (h) (mi) (s) (n)) (by kernel_rfl) ?_
  refine st_round (by kernel_rfl) ?_
  by_cases k17 : a > 0
  · refine st_b 17 (decide_eq_true k17) (by kernel_rfl) ?_
    exact st_retv Try.func69 (show Value.int IntKind.i64 1 = _ by (exact i_eq (sg8_1 (by omega)).symm)) (by kernel_rfl)
  · refine st_b 17 (decide_eq_false k17) (by kernel_rfl) ?_
    by_cases k22 : a < 0
    · refine st_b 22 (decide_eq_true k22) (by kernel_rfl) ?_
      exact st_retv Try.func69 (show Value.int IntKind.i64 (-1) = _ by (exact i_eq (sg8_m (by omega)).symm)) (by kernel_rfl)
    · refine st_b 22 (decide_eq_false k22) (by kernel_rfl) ?_
      refine st_i 12 .i64 (x' := 0 + 1) (Go.IntWalk.i64_in _ (by omega)) (by kernel_rfl) ?_
      refine st_round (by kernel_rfl) ?_
      by_cases k17 : b > 0
      · refine st_b 17 (decide_eq_true k17) (by kernel_rfl) ?_
        exact st_retv Try.func69 (show Value.int IntKind.i64 1 = _ by (exact i_eq (sg8_1 (by omega)).symm)) (by kernel_rfl)
      · refine st_b 17 (decide_eq_false k17) (by kernel_rfl) ?_
        by_cases k22 : b < 0
        · refine st_b 22 (decide_eq_true k22) (by kernel_rfl) ?_
          exact st_retv Try.func69 (show Value.int IntKind.i64 (-1) = _ by (exact i_eq (sg8_m (by omega)).symm)) (by kernel_rfl)
        · refine st_b 22 (decide_eq_false k22) (by kernel_rfl) ?_
          refine st_i 12 .i64 (x' := 0 + 1 + 1) (Go.IntWalk.i64_in _ (by omega)) (by kernel_rfl) ?_
          refine st_round (by kernel_rfl) ?_
          by_cases k17 : c > 0
          · refine st_b 17 (decide_eq_true k17) (by kernel_rfl) ?_
            exact st_retv Try.func69 (show Value.int IntKind.i64 1 = _ by (exact i_eq (sg8_1 (by omega)).symm)) (by kernel_rfl)
          · refine st_b 17 (decide_eq_false k17) (by kernel_rfl) ?_
            by_cases k22 : c < 0
            · refine st_b 22 (decide_eq_true k22) (by kernel_rfl) ?_
              exact st_retv Try.func69 (show Value.int IntKind.i64 (-1) = _ by (exact i_eq (sg8_m (by omega)).symm)) (by kernel_rfl)
            · refine st_b 22 (decide_eq_false k22) (by kernel_rfl) ?_
              refine st_i 12 .i64 (x' := 0 + 1 + 1 + 1) (Go.IntWalk.i64_in _ (by omega)) (by kernel_rfl) ?_
              refine st_round (by kernel_rfl) ?_
              by_cases k17 : d > 0
              · refine st_b 17 (decide_eq_true k17) (by kernel_rfl) ?_
                exact st_retv Try.func69 (show Value.int IntKind.i64 1 = _ by (exact i_eq (sg8_1 (by omega)).symm)) (by kernel_rfl)
              · refine st_b 17 (decide_eq_false k17) (by kernel_rfl) ?_
                by_cases k22 : d < 0
                · refine st_b 22 (decide_eq_true k22) (by kernel_rfl) ?_
                  exact st_retv Try.func69 (show Value.int IntKind.i64 (-1) = _ by (exact i_eq (sg8_m (by omega)).symm)) (by kernel_rfl)
                · refine st_b 22 (decide_eq_false k22) (by kernel_rfl) ?_
                  refine st_i 12 .i64 (x' := 0 + 1 + 1 + 1 + 1) (Go.IntWalk.i64_in _ (by omega)) (by kernel_rfl) ?_
                  refine st_round (by kernel_rfl) ?_
                  by_cases k17 : h > 0
                  · refine st_b 17 (decide_eq_true k17) (by kernel_rfl) ?_
                    exact st_retv Try.func69 (show Value.int IntKind.i64 1 = _ by (exact i_eq (sg8_1 (by omega)).symm)) (by kernel_rfl)
                  · refine st_b 17 (decide_eq_false k17) (by kernel_rfl) ?_
                    by_cases k22 : h < 0
                    · refine st_b 22 (decide_eq_true k22) (by kernel_rfl) ?_
                      exact st_retv Try.func69 (show Value.int IntKind.i64 (-1) = _ by (exact i_eq (sg8_m (by omega)).symm)) (by kernel_rfl)
                    · refine st_b 22 (decide_eq_false k22) (by kernel_rfl) ?_
                      refine st_i 12 .i64 (x' := 0 + 1 + 1 + 1 + 1 + 1) (Go.IntWalk.i64_in _ (by omega)) (by kernel_rfl) ?_
                      refine st_round (by kernel_rfl) ?_
                      by_cases k17 : mi > 0
                      · refine st_b 17 (decide_eq_true k17) (by kernel_rfl) ?_
                        exact st_retv Try.func69 (show Value.int IntKind.i64 1 = _ by (exact i_eq (sg8_1 (by omega)).symm)) (by kernel_rfl)
                      · refine st_b 17 (decide_eq_false k17) (by kernel_rfl) ?_
                        by_cases k22 : mi < 0
                        · refine st_b 22 (decide_eq_true k22) (by kernel_rfl) ?_
                          exact st_retv Try.func69 (show Value.int IntKind.i64 (-1) = _ by (exact i_eq (sg8_m (by omega)).symm)) (by kernel_rfl)
                        · refine st_b 22 (decide_eq_false k22) (by kernel_rfl) ?_
                          refine st_i 12 .i64 (x' := 0 + 1 + 1 + 1 + 1 + 1 + 1) (Go.IntWalk.i64_in _ (by omega)) (by kernel_rfl) ?_
                          refine st_round (by kernel_rfl) ?_
                          by_cases k17 : s > 0
                          · refine st_b 17 (decide_eq_true k17) (by kernel_rfl) ?_
                            exact st_retv Try.func69 (show Value.int IntKind.i64 1 = _ by (exact i_eq (sg8_1 (by omega)).symm)) (by kernel_rfl)
                          · refine st_b 17 (decide_eq_false k17) (by kernel_rfl) ?_
                            by_cases k22 : s < 0
                            · refine st_b 22 (decide_eq_true k22) (by kernel_rfl) ?_
                              exact st_retv Try.func69 (show Value.int IntKind.i64 (-1) = _ by (exact i_eq (sg8_m (by omega)).symm)) (by kernel_rfl)
                            · refine st_b 22 (decide_eq_false k22) (by kernel_rfl) ?_
                              refine st_i 12 .i64 (x' := 0 + 1 + 1 + 1 + 1 + 1 + 1 + 1) (Go.IntWalk.i64_in _ (by omega)) (by kernel_rfl) ?_
                              refine st_round (by kernel_rfl) ?_
                              by_cases k17 : n > 0
                              · refine st_b 17 (decide_eq_true k17) (by kernel_rfl) ?_
                                exact st_retv Try.func69 (show Value.int IntKind.i64 1 = _ by (exact i_eq (sg8_1 (by omega)).symm)) (by kernel_rfl)
                              · refine st_b 17 (decide_eq_false k17) (by kernel_rfl) ?_
                                by_cases k22 : n < 0
                                · refine st_b 22 (decide_eq_true k22) (by kernel_rfl) ?_
                                  exact st_retv Try.func69 (show Value.int IntKind.i64 (-1) = _ by (exact i_eq (sg8_m (by omega)).symm)) (by kernel_rfl)
                                · refine st_b 22 (decide_eq_false k22) (by kernel_rfl) ?_
                                  refine st_i 12 .i64 (x' := 0 + 1 + 1 + 1 + 1 + 1 + 1 + 1 + 1) (Go.IntWalk.i64_in _ (by omega)) (by kernel_rfl) ?_
                                  refine st_round (by kernel_rfl) ?_
                                  exact st_retv Try.func69 (show Value.int IntKind.i64 0 = _ by (exact i_eq (sg8_0 (by omega)).symm)) (by kernel_rfl)
theorem zularg : Fn 71 [] [duv a b c d h mi s n] (.int .i64 (lg8 a b c d h mi s n)) := by
  refine fn_of Try.func71 rfl fun ww => ?_
  refine st_rowB ent97 (zufields (a) (b) (c) (d) (h) (mi) (s) (n)) (by kernel_rfl) ?_
  refine st_round (by kernel_rfl) ?_
  by_cases k17 : a ≠ 0
  · refine st_b 17 (bne_iff_ne.2 k17) (by kernel_rfl) ?_
    refine st_i 19 .i64 (x' := 0 + 1) (Go.IntWalk.i64_in _ (by omega)) (by kernel_rfl) ?_
    exact st_retv Try.func71 (show Value.int IntKind.i64 (0 + 1) = _ by (refine i_eq ?_; unfold lg8; simp_all)) (by kernel_rfl)
  · refine st_b 17 (bne_eq_false_iff_eq.2 (Classical.not_not.1 k17)) (by kernel_rfl) ?_
    refine st_i 12 .i64 (x' := 0 + 1) (Go.IntWalk.i64_in _ (by omega)) (by kernel_rfl) ?_
    refine st_round (by kernel_rfl) ?_
    by_cases k17 : b ≠ 0
    · refine st_b 17 (bne_iff_ne.2 k17) (by kernel_rfl) ?_
      refine st_i 19 .i64 (x' := 0 + 1 + 1) (Go.IntWalk.i64_in _ (by omega)) (by kernel_rfl) ?_
      exact st_retv Try.func71 (show Value.int IntKind.i64 (0 + 1 + 1) = _ by (refine i_eq ?_; unfold lg8; simp_all)) (by kernel_rfl)
    · refine st_b 17 (bne_eq_false_iff_eq.2 (Classical.not_not.1 k17)) (by kernel_rfl) ?_
      refine st_i 12 .i64 (x' := 0 + 1 + 1) (Go.IntWalk.i64_in _ (by omega)) (by kernel_rfl) ?_
      refine st_round (by kernel_rfl) ?_
      by_cases k17 : c ≠ 0
      · refine st_b 17 (bne_iff_ne.2 k17) (by kernel_rfl) ?_
        refine st_i 19 .i64 (x' := 0 + 1 + 1 + 1) (Go.IntWalk.i64_in _ (by omega)) (by kernel_rfl) ?_
        exact st_retv Try.func71 (show Value.int IntKind.i64 (0 + 1 + 1 + 1) = _ by (refine i_eq ?_; unfold lg8; simp_all)) (by kernel_rfl)
      · refine st_b 17 (bne_eq_false_iff_eq.2 (Classical.not_not.1 k17)) (by kernel_rfl) ?_
        refine st_i 12 .i64 (x' := 0 + 1 + 1 + 1) (Go.IntWalk.i64_in _ (by omega)) (by kernel_rfl) ?_
        refine st_round (by kernel_rfl) ?_
        by_cases k17 : d ≠ 0
        · refine st_b 17 (bne_iff_ne.2 k17) (by kernel_rfl) ?_
          refine st_i 19 .i64 (x' := 0 + 1 + 1 + 1 + 1) (Go.IntWalk.i64_in _ (by omega)) (by kernel_rfl) ?_
          exact st_retv Try.func71 (show Value.int IntKind.i64 (0 + 1 + 1 + 1 + 1) = _ by (refine i_eq ?_; unfold lg8; simp_all)) (by kernel_rfl)
        · refine st_b 17 (bne_eq_false_iff_eq.2 (Classical.not_not.1 k17)) (by kernel_rfl) ?_
          refine st_i 12 .i64 (x' := 0 + 1 + 1 + 1 + 1) (Go.IntWalk.i64_in _ (by omega)) (by kernel_rfl) ?_
          refine st_round (by kernel_rfl) ?_
          by_cases k17 : h ≠ 0
          · refine st_b 17 (bne_iff_ne.2 k17) (by kernel_rfl) ?_
            refine st_i 19 .i64 (x' := 0 + 1 + 1 + 1 + 1 + 1) (Go.IntWalk.i64_in _ (by omega)) (by kernel_rfl) ?_
            exact st_retv Try.func71 (show Value.int IntKind.i64 (0 + 1 + 1 + 1 + 1 + 1) = _ by (refine i_eq ?_; unfold lg8; simp_all)) (by kernel_rfl)
          · refine st_b 17 (bne_eq_false_iff_eq.2 (Classical.not_not.1 k17)) (by kernel_rfl) ?_
            refine st_i 12 .i64 (x' := 0 + 1 + 1 + 1 + 1 + 1) (Go.IntWalk.i64_in _ (by omega)) (by kernel_rfl) ?_
            refine st_round (by kernel_rfl) ?_
            by_cases k17 : mi ≠ 0
            · refine st_b 17 (bne_iff_ne.2 k17) (by kernel_rfl) ?_
              refine st_i 19 .i64 (x' := 0 + 1 + 1 + 1 + 1 + 1 + 1) (Go.IntWalk.i64_in _ (by omega)) (by kernel_rfl) ?_
              exact st_retv Try.func71 (show Value.int IntKind.i64 (0 + 1 + 1 + 1 + 1 + 1 + 1) = _ by (refine i_eq ?_; unfold lg8; simp_all)) (by kernel_rfl)
            · refine st_b 17 (bne_eq_false_iff_eq.2 (Classical.not_not.1 k17)) (by kernel_rfl) ?_
              refine st_i 12 .i64 (x' := 0 + 1 + 1 + 1 + 1 + 1 + 1) (Go.IntWalk.i64_in _ (by omega)) (by kernel_rfl) ?_
              refine st_round (by kernel_rfl) ?_
              by_cases k17 : s ≠ 0
              · refine st_b 17 (bne_iff_ne.2 k17) (by kernel_rfl) ?_
                refine st_i 19 .i64 (x' := 0 + 1 + 1 + 1 + 1 + 1 + 1 + 1) (Go.IntWalk.i64_in _ (by omega)) (by kernel_rfl) ?_
                exact st_retv Try.func71 (show Value.int IntKind.i64 (0 + 1 + 1 + 1 + 1 + 1 + 1 + 1) = _ by (refine i_eq ?_; unfold lg8; simp_all)) (by kernel_rfl)
              · refine st_b 17 (bne_eq_false_iff_eq.2 (Classical.not_not.1 k17)) (by kernel_rfl) ?_
                refine st_i 12 .i64 (x' := 0 + 1 + 1 + 1 + 1 + 1 + 1 + 1) (Go.IntWalk.i64_in _ (by omega)) (by kernel_rfl) ?_
                refine st_round (by kernel_rfl) ?_
                by_cases k17 : n ≠ 0
                · refine st_b 17 (bne_iff_ne.2 k17) (by kernel_rfl) ?_
                  refine st_i 19 .i64 (x' := 0 + 1 + 1 + 1 + 1 + 1 + 1 + 1 + 1) (Go.IntWalk.i64_in _ (by omega)) (by kernel_rfl) ?_
                  exact st_retv Try.func71 (show Value.int IntKind.i64 (0 + 1 + 1 + 1 + 1 + 1 + 1 + 1 + 1) = _ by (refine i_eq ?_; unfold lg8; simp_all)) (by kernel_rfl)
                · refine st_b 17 (bne_eq_false_iff_eq.2 (Classical.not_not.1 k17)) (by kernel_rfl) ?_
                  refine st_i 12 .i64 (x' := 0 + 1 + 1 + 1 + 1 + 1 + 1 + 1 + 1) (Go.IntWalk.i64_in _ (by omega)) (by kernel_rfl) ?_
                  refine st_round (by kernel_rfl) ?_
                  exact st_retv Try.func71 (show Value.int IntKind.i64 8 = _ by (refine i_eq ?_; unfold lg8; simp_all)) (by kernel_rfl)
end
end Go.Proofs.Ytcndfpfjckkinaa
end
section
/-
  A total laid out, as the program and the reference do it; sums, rounding.
-/
set_option linter.unusedVariables false
set_option maxRecDepth 100000
namespace Go.Proofs.Ytcndfpfjckkinaa
open Go Go.RowKit Go.Ev

section
variable (a b c d h mi s n : Int)
theorem utotal_f (i : all64 a b c d h mi s n) (k : ¬ uOk a b c d h mi s n) : Fn 60 [] [duv a b c d h mi s n] (.tuple #[.agg #[.int .i64 0, .int .u64 0], .int .i64 1]) := by
  have r := uright_f a b c d h mi s n i k
  refine fn_of Try.func60 rfl fun ww => ?_
  refine st_fn ent62 (r) sub0 (by kernel_rfl) ?_
  exact st_ret Try.func60 (by kernel_rfl)
theorem uexact_f (i : all64 a b c d h mi s n) (k : ¬ uEx a b c d h mi s n) : Fn 138 [] [duv a b c d h mi s n] (.bool false) := by
  by_cases ka : a = 0
  · by_cases kb : b = 0
    · by_cases kc : c = 0
      · subst ka kb kc
        have r := uright_f 0 0 0 d h mi s n i (fun q => k ⟨q, rfl, rfl, rfl⟩)
        clear k
        refine fn_of Try.func138 rfl fun ww => ?_
        refine st_fn ent62 (r) sub0 (by kernel_rfl) ?_
        exact st_ret Try.func138 (by kernel_rfl)
      · clear k
        refine fn_of Try.func138 rfl fun ww => ?_
        refine st_b 5 (show (a == 0) = true by exact decide_eq_true (by omega)) (by kernel_rfl) ?_
        refine st_b 9 (show (b == 0) = true by exact decide_eq_true (by omega)) (by kernel_rfl) ?_
        refine st_b 14 (show (c == 0) = false by exact decide_eq_false (by omega)) (by kernel_rfl) ?_
        exact st_ret Try.func138 (by kernel_rfl)
    · clear k
      refine fn_of Try.func138 rfl fun ww => ?_
      refine st_b 5 (show (a == 0) = true by exact decide_eq_true (by omega)) (by kernel_rfl) ?_
      refine st_b 9 (show (b == 0) = false by exact decide_eq_false (by omega)) (by kernel_rfl) ?_
      exact st_ret Try.func138 (by kernel_rfl)
  · clear k
    refine fn_of Try.func138 rfl fun ww => ?_
    refine st_b 5 (show (a == 0) = false by exact decide_eq_false (by omega)) (by kernel_rfl) ?_
    exact st_ret Try.func138 (by kernel_rfl)
theorem zuexact_y (i : all64 a b c d h mi s n) (k : uEx a b c d h mi s n) : Fn 58 [] [duv a b c d h mi s n] (.bool true) := by
  obtain ⟨k0, rfl, rfl, rfl⟩ := k
  have r := zuright_y 0 0 0 d h mi s n i k0
  refine fn_of Try.func58 rfl fun ww => ?_
  refine st_fn ent67 (r) sub0 (by kernel_rfl) ?_
  exact st_ret Try.func58 (by kernel_rfl)
theorem zuexact_f (i : all64 a b c d h mi s n) (k : ¬ uEx a b c d h mi s n) : Fn 58 [] [duv a b c d h mi s n] (.bool false) := by
  by_cases kr : uOk a b c d h mi s n
  · have r := zuright_y a b c d h mi s n i kr
    by_cases ka : a = 0
    · by_cases kb : b = 0
      · have kc : c ≠ 0 := fun q => k ⟨kr, ka, kb, q⟩
        clear k kr
        refine fn_of Try.func58 rfl fun ww => ?_
        refine st_fn ent67 (r) sub0 (by kernel_rfl) ?_
        refine st_b 8 (show (a == 0) = true by exact decide_eq_true (by omega)) (by kernel_rfl) ?_
        refine st_b 13 (show (b == 0) = true by exact decide_eq_true (by omega)) (by kernel_rfl) ?_
        exact st_retv Try.func58 (show Value.bool (c == 0) = _ by simp_all) (by kernel_rfl)
      · clear k kr
        refine fn_of Try.func58 rfl fun ww => ?_
        refine st_fn ent67 (r) sub0 (by kernel_rfl) ?_
        refine st_b 8 (show (a == 0) = true by exact decide_eq_true (by omega)) (by kernel_rfl) ?_
        refine st_b 13 (show (b == 0) = false by exact decide_eq_false (by omega)) (by kernel_rfl) ?_
        exact st_ret Try.func58 (by kernel_rfl)
    · clear k kr
      refine fn_of Try.func58 rfl fun ww => ?_
      refine st_fn ent67 (r) sub0 (by kernel_rfl) ?_
      refine st_b 8 (show (a == 0) = false by exact decide_eq_false (by omega)) (by kernel_rfl) ?_
      exact st_ret Try.func58 (by kernel_rfl)
  · have r := zuright_f a b c d h mi s n i kr
    clear k kr
    refine fn_of Try.func58 rfl fun ww => ?_
    refine st_fn ent67 (r) sub0 (by kernel_rfl) ?_
    exact st_ret Try.func58 (by kernel_rfl)
end
/-! laid out -/
end Go.Proofs.Ytcndfpfjckkinaa
end
section
/-
  Durations with the other sign.
-/
set_option linter.unusedVariables false
set_option linter.unusedSimpArgs false
set_option maxRecDepth 100000
namespace Go.Proofs.Ytcndfpfjckkinaa
open Go Go.RowKit Go.Ev

theorem ksub_y (a : Int) (h : I64 a) (k : a ≠ -9223372036854775808) : Fn 199 [] [.int .i64 0, .int .i64 a] (.tuple #[.int .i64 (-a), .int .i64 0]) := by
  unfold I64 at h
  by_cases z : a = 0
  · subst z
    refine fn_of Try.func199 rfl fun ww => ?_
    refine st_i 9 .i64 (x' := 0 - 0) (Go.IntWalk.i64_in _ (by omega)) (by kernel_rfl) ?_
    exact st_retv Try.func199 (show Value.tuple #[Value.int IntKind.i64 (0 - 0), Value.int IntKind.i64 0] = _ by rfl) (by kernel_rfl)
  · by_cases g : 0 < a
    · have e1 : decide (-a < 0) = true := decide_eq_true (by omega)
      have e2 : decide (a > 0) = true := decide_eq_true (by omega)
      have e : (decide (-a < 0) == decide (a > 0)) = true := by rw [e1, e2]; rfl
      refine fn_of Try.func199 rfl fun ww => ?_
      refine st_i 9 IntKind.i64 (x := IntKind.i64.wrap (0 - a)) ((Go.IntWalk.i64_in (0 - a) (by omega)).trans ((show (0 : Int) - a = -a by omega))) (by kernel_rfl) ?_
      refine st_b 11 (show (a == 0) = false by exact decide_eq_false (by omega)) (by kernel_rfl) ?_
      refine st_b 18 (show (decide (-a < 0) == decide (a > 0)) = true by assumption) (by kernel_rfl) ?_
      exact st_ret Try.func199 (by kernel_rfl)
    · have e1 : decide (-a < 0) = false := decide_eq_false (by omega)
      have e2 : decide (a > 0) = false := decide_eq_false (by omega)
      have e : (decide (-a < 0) == decide (a > 0)) = true := by rw [e1, e2]; rfl
      refine fn_of Try.func199 rfl fun ww => ?_
      refine st_i 9 IntKind.i64 (x := IntKind.i64.wrap (0 - a)) ((Go.IntWalk.i64_in (0 - a) (by omega)).trans ((show (0 : Int) - a = -a by omega))) (by kernel_rfl) ?_
      refine st_b 11 (show (a == 0) = false by exact decide_eq_false (by omega)) (by kernel_rfl) ?_
      refine st_b 18 (show (decide (-a < 0) == decide (a > 0)) = true by assumption) (by kernel_rfl) ?_
      exact st_ret Try.func199 (by kernel_rfl)
theorem ksub_n : Fn 199 [] [.int .i64 0, .int .i64 (-9223372036854775808)] (.tuple #[.int .i64 0, .int .i64 2]) := by
  refine fn_of Try.func199 rfl fun ww => ?_
  exact st_ret Try.func199 (by kernel_rfl)
theorem kneg_y (a : Int) (h : I64 a) (k : a ≠ -9223372036854775808) : Fn 143 [] [.int .i64 a] (.tuple #[.int .i64 (-a), .int .i64 0]) := by
  refine fn_of Try.func143 rfl fun ww => ?_
  refine st_fn ent199 (ksub_y (a) (by assumption) (by assumption)) sub0 (by kernel_rfl) ?_
  exact st_ret Try.func143 (by kernel_rfl)
theorem kneg_n : Fn 143 [] [.int .i64 (-9223372036854775808)] (.tuple #[.int .i64 0, .int .i64 2]) := by
  refine fn_of Try.func143 rfl fun ww => ?_
  refine st_fn ent199 (ksub_n) sub0 (by kernel_rfl) ?_
  exact st_ret Try.func143 (by kernel_rfl)
section
variable (a b c d h mi s n : Int)
/-- The fields of one that may be, but the last, are small. -/
theorem uOk_small {a b c d h mi s n : Int} (i : all64 a b c d h mi s n) (k : uOk a b c d h mi s n) : a ≠ -9223372036854775808 ∧ b ≠ -9223372036854775808 ∧ c ≠ -9223372036854775808 ∧ d ≠ -9223372036854775808 ∧ h ≠ -9223372036854775808 ∧ mi ≠ -9223372036854775808 ∧ s ≠ -9223372036854775808 := by
  obtain ⟨k1, ⟨k2, k3, k4⟩, k5, k6⟩ := k
  unfold cnt1 at k2 k3 k4
  unfold dtot LIM at k5 k6
  rcases k1 with k1 | k1
  · unfold pos8 at k1; omega
  · unfold neg8 at k1; omega
theorem uneg_f (i : all64 a b c d h mi s n) (k : ¬ uOk a b c d h mi s n) : Fn 68 [] [duv a b c d h mi s n] (.tuple #[du0, .int .i64 1]) := by
  have r := uright_f a b c d h mi s n i k
  refine fn_of Try.func68 rfl fun ww => ?_
  refine st_fn ent62 (r) sub0 (by kernel_rfl) ?_
  exact st_ret Try.func68 (by kernel_rfl)
theorem uneg_y (i : all64 a b c d h mi s n) (k : uOk a b c d h mi s n) (hn : n ≠ -9223372036854775808) : Fn 68 [] [duv a b c d h mi s n] (.tuple #[duv (-a) (-b) (-c) (-d) (-h) (-mi) (-s) (-n), .int .i64 0]) := by
  have r := uright_y a b c d h mi s n i k
  obtain ⟨s1, s2, s3, s4, s5, s6, s7⟩ := uOk_small i k
  obtain ⟨i1, i2, i3, i4, i5, i6, i7, i8⟩ := i
  clear k
  refine fn_of Try.func68 rfl fun ww => ?_
  refine st_fn ent62 (r) sub0 (by kernel_rfl) ?_
  refine ufields_row 0 0 (by kernel_rfl) ?_
  refine st_round (by kernel_rfl) ?_
  refine st_fn ent143 (kneg_y (a) (by assumption) (by assumption)) sub0 (by kernel_rfl) ?_
  refine st_i 33 .i64 (x' := 0 + 1) (Go.IntWalk.i64_in _ (by omega)) (by kernel_rfl) ?_
  refine st_round (by kernel_rfl) ?_
  refine st_fn ent143 (kneg_y (b) (by assumption) (by assumption)) sub0 (by kernel_rfl) ?_
  refine st_i 33 .i64 (x' := 0 + 1 + 1) (Go.IntWalk.i64_in _ (by omega)) (by kernel_rfl) ?_
  refine st_round (by kernel_rfl) ?_
  refine st_fn ent143 (kneg_y (c) (by assumption) (by assumption)) sub0 (by kernel_rfl) ?_
  refine st_i 33 .i64 (x' := 0 + 1 + 1 + 1) (Go.IntWalk.i64_in _ (by omega)) (by kernel_rfl) ?_
  refine st_round (by kernel_rfl) ?_
  refine st_fn ent143 (kneg_y (d) (by assumption) (by assumption)) sub0 (by kernel_rfl) ?_
  refine st_i 33 .i64 (x' := 0 + 1 + 1 + 1 + 1) (Go.IntWalk.i64_in _ (by omega)) (by kernel_rfl) ?_
  refine st_round (by kernel_rfl) ?_
  refine st_fn ent143 (kneg_y (h) (by assumption) (by assumption)) sub0 (by kernel_rfl) ?_
  refine st_i 33 .i64 (x' := 0 + 1 + 1 + 1 + 1 + 1) (Go.IntWalk.i64_in _ (by omega)) (by kernel_rfl) ?_
  refine st_round (by kernel_rfl) ?_
  refine st_fn ent143 (kneg_y (mi) (by assumption) (by assumption)) sub0 (by kernel_rfl) ?_
  refine st_i 33 .i64 (x' := 0 + 1 + 1 + 1 + 1 + 1 + 1) (Go.IntWalk.i64_in _ (by omega)) (by kernel_rfl) ?_
  refine st_round (by kernel_rfl) ?_
  refine st_fn ent143 (kneg_y (s) (by assumption) (by assumption)) sub0 (by kernel_rfl) ?_
  refine st_i 33 .i64 (x' := 0 + 1 + 1 + 1 + 1 + 1 + 1 + 1) (Go.IntWalk.i64_in _ (by omega)) (by kernel_rfl) ?_
  refine st_round (by kernel_rfl) ?_
  refine st_fn ent143 (kneg_y (n) (by assumption) (by assumption)) sub0 (by kernel_rfl) ?_
  refine st_i 33 .i64 (x' := 0 + 1 + 1 + 1 + 1 + 1 + 1 + 1 + 1) (Go.IntWalk.i64_in _ (by omega)) (by kernel_rfl) ?_
  refine st_round (by kernel_rfl) ?_
  exact st_ret Try.func68 (by kernel_rfl)
theorem uneg_o (i : all64 a b c d h mi s (-9223372036854775808)) (k : uOk a b c d h mi s (-9223372036854775808)) : Fn 68 [] [duv a b c d h mi s (-9223372036854775808)] (.tuple #[du0, .int .i64 2]) := by
  have r := uright_y a b c d h mi s _ i k
  obtain ⟨s1, s2, s3, s4, s5, s6, s7⟩ := uOk_small i k
  obtain ⟨i1, i2, i3, i4, i5, i6, i7, i8⟩ := i
  clear k
  refine fn_of Try.func68 rfl fun ww => ?_
  refine st_fn ent62 (r) sub0 (by kernel_rfl) ?_
  refine ufields_row 0 0 (by kernel_rfl) ?_
  refine st_round (by kernel_rfl) ?_
  refine st_fn ent143 (kneg_y (a) (by assumption) (by assumption)) sub0 (by kernel_rfl) ?_
  refine st_i 33 .i64 (x' := 0 + 1) (Go.IntWalk.i64_in _ (by omega)) (by kernel_rfl) ?_
  refine st_round (by kernel_rfl) ?_
  refine st_fn ent143 (kneg_y (b) (by assumption) (by assumption)) sub0 (by kernel_rfl) ?_
  refine st_i 33 .i64 (x' := 0 + 1 + 1) (Go.IntWalk.i64_in _ (by omega)) (by kernel_rfl) ?_
  refine st_round (by kernel_rfl) ?_
  refine st_fn ent143 (kneg_y (c) (by assumption) (by assumption)) sub0 (by kernel_rfl) ?_
  refine st_i 33 .i64 (x' := 0 + 1 + 1 + 1) (Go.IntWalk.i64_in _ (by omega)) (by kernel_rfl) ?_
  refine st_round (by kernel_rfl) ?_
  refine st_fn ent143 (kneg_y (d) (by assumption) (by assumption)) sub0 (by kernel_rfl) ?_
  refine st_i 33 .i64 (x' := 0 + 1 + 1 + 1 + 1) (Go.IntWalk.i64_in _ (by omega)) (by kernel_rfl) ?_
  refine st_round (by kernel_rfl) ?_
  refine st_fn ent143 (kneg_y (h) (by assumption) (by assumption)) sub0 (by kernel_rfl) ?_
  refine st_i 33 .i64 (x' := 0 + 1 + 1 + 1 + 1 + 1) (Go.IntWalk.i64_in _ (by omega)) (by kernel_rfl) ?_
  refine st_round (by kernel_rfl) ?_
  refine st_fn ent143 (kneg_y (mi) (by assumption) (by assumption)) sub0 (by kernel_rfl) ?_
  refine st_i 33 .i64 (x' := 0 + 1 + 1 + 1 + 1 + 1 + 1) (Go.IntWalk.i64_in _ (by omega)) (by kernel_rfl) ?_
  refine st_round (by kernel_rfl) ?_
  refine st_fn ent143 (kneg_y (s) (by assumption) (by assumption)) sub0 (by kernel_rfl) ?_
  refine st_i 33 .i64 (x' := 0 + 1 + 1 + 1 + 1 + 1 + 1 + 1) (Go.IntWalk.i64_in _ (by omega)) (by kernel_rfl) ?_
  refine st_round (by kernel_rfl) ?_
  refine st_fn ent143 (kneg_n) sub0 (by kernel_rfl) ?_
  exact st_ret Try.func68 (by kernel_rfl)
theorem zuneg_y (i : all64 a b c d h mi s n) (k : uOk a b c d h mi s n) (hn : n ≠ -9223372036854775808) : Fn 72 [] [duv a b c d h mi s n] (.tuple #[duv (-a) (-b) (-c) (-d) (-h) (-mi) (-s) (-n), .int .i64 0]) := by
  obtain ⟨s1, s2, s3, s4, s5, s6, s7⟩ := uOk_small i k
  obtain ⟨i1, i2, i3, i4, i5, i6, i7, i8⟩ := i
  unfold I64 at i1 i2 i3 i4 i5 i6 i7 i8
  clear k
  refine fn_of Try.func72 rfl fun ww => ?_
  refine st_rowB ent97 (zufields (a) (b) (c) (d) (h) (mi) (s) (n)) (by kernel_rfl) ?_
  refine st_round (by kernel_rfl) ?_
  refine st_b 17 (show (a == -9223372036854775808) = false by exact decide_eq_false (by omega)) (by kernel_rfl) ?_
  refine st_i 24 .i64 (x' := 0 - a) (Go.IntWalk.i64_in _ (by omega)) (by kernel_rfl) ?_
  refine st_i 12 .i64 (x' := 0 + 1) (Go.IntWalk.i64_in _ (by omega)) (by kernel_rfl) ?_
  refine st_round (by kernel_rfl) ?_
  refine st_b 17 (show (b == -9223372036854775808) = false by exact decide_eq_false (by omega)) (by kernel_rfl) ?_
  refine st_i 24 .i64 (x' := 0 - b) (Go.IntWalk.i64_in _ (by omega)) (by kernel_rfl) ?_
  refine st_i 12 .i64 (x' := 0 + 1 + 1) (Go.IntWalk.i64_in _ (by omega)) (by kernel_rfl) ?_
  refine st_round (by kernel_rfl) ?_
  refine st_b 17 (show (c == -9223372036854775808) = false by exact decide_eq_false (by omega)) (by kernel_rfl) ?_
  refine st_i 24 .i64 (x' := 0 - c) (Go.IntWalk.i64_in _ (by omega)) (by kernel_rfl) ?_
  refine st_i 12 .i64 (x' := 0 + 1 + 1 + 1) (Go.IntWalk.i64_in _ (by omega)) (by kernel_rfl) ?_
  refine st_round (by kernel_rfl) ?_
  refine st_b 17 (show (d == -9223372036854775808) = false by exact decide_eq_false (by omega)) (by kernel_rfl) ?_
  refine st_i 24 .i64 (x' := 0 - d) (Go.IntWalk.i64_in _ (by omega)) (by kernel_rfl) ?_
  refine st_i 12 .i64 (x' := 0 + 1 + 1 + 1 + 1) (Go.IntWalk.i64_in _ (by omega)) (by kernel_rfl) ?_
  refine st_round (by kernel_rfl) ?_
  refine st_b 17 (show (h == -9223372036854775808) = false by exact decide_eq_false (by omega)) (by kernel_rfl) ?_
  refine st_i 24 .i64 (x' := 0 - h) (Go.IntWalk.i64_in _ (by omega)) (by kernel_rfl) ?_
  refine st_i 12 .i64 (x' := 0 + 1 + 1 + 1 + 1 + 1) (Go.IntWalk.i64_in _ (by omega)) (by kernel_rfl) ?_
  refine st_round (by kernel_rfl) ?_
  refine st_b 17 (show (mi == -9223372036854775808) = false by exact decide_eq_false (by omega)) (by kernel_rfl) ?_
  refine st_i 24 .i64 (x' := 0 - mi) (Go.IntWalk.i64_in _ (by omega)) (by kernel_rfl) ?_
  refine st_i 12 .i64 (x' := 0 + 1 + 1 + 1 + 1 + 1 + 1) (Go.IntWalk.i64_in _ (by omega)) (by kernel_rfl) ?_
  refine st_round (by kernel_rfl) ?_
  refine st_b 17 (show (s == -9223372036854775808) = false by exact decide_eq_false (by omega)) (by kernel_rfl) ?_
  refine st_i 24 .i64 (x' := 0 - s) (Go.IntWalk.i64_in _ (by omega)) (by kernel_rfl) ?_
  refine st_i 12 .i64 (x' := 0 + 1 + 1 + 1 + 1 + 1 + 1 + 1) (Go.IntWalk.i64_in _ (by omega)) (by kernel_rfl) ?_
  refine st_round (by kernel_rfl) ?_
  refine st_b 17 (show (n == -9223372036854775808) = false by exact decide_eq_false (by omega)) (by kernel_rfl) ?_
  refine st_i 24 .i64 (x' := 0 - n) (Go.IntWalk.i64_in _ (by omega)) (by kernel_rfl) ?_
  refine st_i 12 .i64 (x' := 0 + 1 + 1 + 1 + 1 + 1 + 1 + 1 + 1) (Go.IntWalk.i64_in _ (by omega)) (by kernel_rfl) ?_
  refine st_round (by kernel_rfl) ?_
  refine st_fn ent137 (zumade (0 - a) (0 - b) (0 - c) (0 - d) (0 - h) (0 - mi) (0 - s) (0 - n)) sub0 (by kernel_rfl) ?_
  exact st_retv Try.func72 (show Value.tuple #[Value.agg { toList := [Value.int IntKind.i64 (0 - a), Value.int IntKind.i64 (0 - b), Value.int IntKind.i64 (0 - c), Value.int IntKind.i64 (0 - d), Value.int IntKind.i64 (0 - h), Value.int IntKind.i64 (0 - mi), Value.int IntKind.i64 (0 - s), Value.int IntKind.i64 (0 - n)] }, Value.int IntKind.i64 0] = _ by simp) (by kernel_rfl)
theorem zuneg_o (i : all64 a b c d h mi s (-9223372036854775808)) (k : uOk a b c d h mi s (-9223372036854775808)) : Fn 72 [] [duv a b c d h mi s (-9223372036854775808)] (.tuple #[du0, .int .i64 2]) := by
  obtain ⟨s1, s2, s3, s4, s5, s6, s7⟩ := uOk_small i k
  obtain ⟨i1, i2, i3, i4, i5, i6, i7, i8⟩ := i
  unfold I64 at i1 i2 i3 i4 i5 i6 i7 i8
  clear k
  refine fn_of Try.func72 rfl fun ww => ?_
  refine st_rowB ent97 (zufields (a) (b) (c) (d) (h) (mi) (s) (-9223372036854775808)) (by kernel_rfl) ?_
  refine st_round (by kernel_rfl) ?_
  refine st_b 17 (show (a == -9223372036854775808) = false by exact decide_eq_false (by omega)) (by kernel_rfl) ?_
  refine st_i 24 .i64 (x' := 0 - a) (Go.IntWalk.i64_in _ (by omega)) (by kernel_rfl) ?_
  refine st_i 12 .i64 (x' := 0 + 1) (Go.IntWalk.i64_in _ (by omega)) (by kernel_rfl) ?_
  refine st_round (by kernel_rfl) ?_
  refine st_b 17 (show (b == -9223372036854775808) = false by exact decide_eq_false (by omega)) (by kernel_rfl) ?_
  refine st_i 24 .i64 (x' := 0 - b) (Go.IntWalk.i64_in _ (by omega)) (by kernel_rfl) ?_
  refine st_i 12 .i64 (x' := 0 + 1 + 1) (Go.IntWalk.i64_in _ (by omega)) (by kernel_rfl) ?_
  refine st_round (by kernel_rfl) ?_
  refine st_b 17 (show (c == -9223372036854775808) = false by exact decide_eq_false (by omega)) (by kernel_rfl) ?_
  refine st_i 24 .i64 (x' := 0 - c) (Go.IntWalk.i64_in _ (by omega)) (by kernel_rfl) ?_
  refine st_i 12 .i64 (x' := 0 + 1 + 1 + 1) (Go.IntWalk.i64_in _ (by omega)) (by kernel_rfl) ?_
  refine st_round (by kernel_rfl) ?_
  refine st_b 17 (show (d == -9223372036854775808) = false by exact decide_eq_false (by omega)) (by kernel_rfl) ?_
  refine st_i 24 .i64 (x' := 0 - d) (Go.IntWalk.i64_in _ (by omega)) (by kernel_rfl) ?_
  refine st_i 12 .i64 (x' := 0 + 1 + 1 + 1 + 1) (Go.IntWalk.i64_in _ (by omega)) (by kernel_rfl) ?_
  refine st_round (by kernel_rfl) ?_
  refine st_b 17 (show (h == -9223372036854775808) = false by exact decide_eq_false (by omega)) (by kernel_rfl) ?_
  refine st_i 24 .i64 (x' := 0 - h) (Go.IntWalk.i64_in _ (by omega)) (by kernel_rfl) ?_
  refine st_i 12 .i64 (x' := 0 + 1 + 1 + 1 + 1 + 1) (Go.IntWalk.i64_in _ (by omega)) (by kernel_rfl) ?_
  refine st_round (by kernel_rfl) ?_
  refine st_b 17 (show (mi == -9223372036854775808) = false by exact decide_eq_false (by omega)) (by kernel_rfl) ?_
  refine st_i 24 .i64 (x' := 0 - mi) (Go.IntWalk.i64_in _ (by omega)) (by kernel_rfl) ?_
  refine st_i 12 .i64 (x' := 0 + 1 + 1 + 1 + 1 + 1 + 1) (Go.IntWalk.i64_in _ (by omega)) (by kernel_rfl) ?_
  refine st_round (by kernel_rfl) ?_
  refine st_b 17 (show (s == -9223372036854775808) = false by exact decide_eq_false (by omega)) (by kernel_rfl) ?_
  refine st_i 24 .i64 (x' := 0 - s) (Go.IntWalk.i64_in _ (by omega)) (by kernel_rfl) ?_
  refine st_i 12 .i64 (x' := 0 + 1 + 1 + 1 + 1 + 1 + 1 + 1) (Go.IntWalk.i64_in _ (by omega)) (by kernel_rfl) ?_
  refine st_round (by kernel_rfl) ?_
  exact st_ret Try.func72 (by kernel_rfl)
end
end Go.Proofs.Ytcndfpfjckkinaa
end
section
/-
  The laws DurationRights, DurationAdds, DurationBack, DurationRounds, walked.
-/
set_option linter.unusedVariables false
set_option linter.unusedSimpArgs false
set_option maxRecDepth 100000
namespace Go.Proofs.Ytcndfpfjckkinaa
open Go Go.RowKit Go.Ev

theorem dtot_W {d h mi s n : Int} (i1 : I64 d) (i2 : I64 h) (i3 : I64 mi) (i4 : I64 s) (i5 : I64 n) : W128 (dtot d h mi s n) := by unfold I64 at *; unfold W128 dtot; omega
theorem ex_tot {a b c d h mi s n : Int} (k : uEx a b c d h mi s n) : -9007199254740992000000000 < dtot d h mi s n ∧ dtot d h mi s n < 9007199254740992000000000 := k.1.2.2
section
variable (a b c d h mi s n : Int)
theorem zuwide (i : all64 a b c d h mi s n) : Fn 73 [] [duv a b c d h mi s n] (wv (dtot d h mi s n)) := by
  obtain ⟨i1, i2, i3, i4, i5, i6, i7, i8⟩ := i
  have w := dtot_W i4 i5 i6 i7 i8
  have t := zutot a b c d h mi s n i4 i5 i6 i7 i8
  refine fn_of Try.func73 rfl fun ww => ?_
  refine st_g ent59 (t) sub0 (by kernel_rfl) (fun zq0 => ?_)
  refine st_fn ent36 (fitw_f (zq0) (dtot d h mi s n) (by exact Bits.mono w.bits (by decide)) (by assumption)) (subC 0 rfl sub0) (by kernel_rfl) ?_
  exact st_ret Try.func73 (by kernel_rfl)
theorem drights_f (i : all64 a b c d h mi s n) (k : ¬ uOk a b c d h mi s n) : Fn 14 [] [duv a b c d h mi s n] (.bool true) := by
  have r1 := uright_f a b c d h mi s n i k
  have r2 := zuright_f a b c d h mi s n i k
  have t1 := utotal_f a b c d h mi s n i k
  have g1 := uneg_f a b c d h mi s n i k
  have s1 := usign a b c d h mi s n i
  clear i k
  refine fn_of Try.func14 rfl fun ww => ?_
  refine st_fn ent67 (r2) sub0 (by kernel_rfl) ?_
  refine st_fn ent60 (t1) sub0 (by kernel_rfl) ?_
  refine st_fn ent68 (g1) sub0 (by kernel_rfl) ?_
  refine st_fn ent54 (alive18) sub0 (by kernel_rfl) ?_
  refine st_fn ent62 (r1) sub0 (by kernel_rfl) ?_
  refine st_fn ent61 (s1) sub0 (by kernel_rfl) ?_
  refine st_fn ent69 (zusign (a) (b) (c) (d) (h) (mi) (s) (n)) sub0 (by kernel_rfl) ?_
  refine st_b 35 (show (sg8 a b c d h mi s n != sg8 a b c d h mi s n) = false by exact bne_eq_false_iff_eq.2 (by omega)) (by kernel_rfl) ?_
  refine st_fn ent70 (ularg (a) (b) (c) (d) (h) (mi) (s) (n)) sub0 (by kernel_rfl) ?_
  refine st_fn ent71 (zularg (a) (b) (c) (d) (h) (mi) (s) (n)) sub0 (by kernel_rfl) ?_
  refine st_b 42 (show (lg8 a b c d h mi s n != lg8 a b c d h mi s n) = false by exact bne_eq_false_iff_eq.2 (by omega)) (by kernel_rfl) ?_
  exact st_ret Try.func14 (by kernel_rfl)
theorem drights_y (i : all64 a b c d h mi s n) (k : uOk a b c d h mi s n) (A B C D H M S T e : Int) (g1 : Fn 68 [] [duv a b c d h mi s n] (.tuple #[duv A B C D H M S T, .int .i64 e])) (g2 : Fn 72 [] [duv a b c d h mi s n] (.tuple #[duv A B C D H M S T, .int .i64 e])) : Fn 14 [] [duv a b c d h mi s n] (.bool true) := by
  have r1 := uright_y a b c d h mi s n i k
  have r2 := zuright_y a b c d h mi s n i k
  have t1 := utotal_y a b c d h mi s n i k
  have s1 := usign a b c d h mi s n i
  have w1 := zuwide a b c d h mi s n i
  clear i k
  refine fn_of Try.func14 rfl fun ww => ?_
  refine st_fn ent67 (r2) sub0 (by kernel_rfl) ?_
  refine st_fn ent60 (t1) sub0 (by kernel_rfl) ?_
  refine st_fn ent68 (g1) sub0 (by kernel_rfl) ?_
  refine st_fn ent54 (alive18) sub0 (by kernel_rfl) ?_
  refine st_fn ent62 (r1) sub0 (by kernel_rfl) ?_
  refine st_fn ent61 (s1) sub0 (by kernel_rfl) ?_
  refine st_fn ent69 (zusign (a) (b) (c) (d) (h) (mi) (s) (n)) sub0 (by kernel_rfl) ?_
  refine st_b 35 (show (sg8 a b c d h mi s n != sg8 a b c d h mi s n) = false by exact bne_eq_false_iff_eq.2 (by omega)) (by kernel_rfl) ?_
  refine st_fn ent70 (ularg (a) (b) (c) (d) (h) (mi) (s) (n)) sub0 (by kernel_rfl) ?_
  refine st_fn ent71 (zularg (a) (b) (c) (d) (h) (mi) (s) (n)) sub0 (by kernel_rfl) ?_
  refine st_b 42 (show (lg8 a b c d h mi s n != lg8 a b c d h mi s n) = false by exact bne_eq_false_iff_eq.2 (by omega)) (by kernel_rfl) ?_
  refine st_fn ent72 (g2) sub0 (by kernel_rfl) ?_
  refine st_fn ent73 (w1) sub0 (by kernel_rfl) ?_
  refine st_b 70 (show (hi (dtot d h mi s n) == hi (dtot d h mi s n) && (lo (dtot d h mi s n) == lo (dtot d h mi s n) && true)) = true by simp_all) (by kernel_rfl) ?_
  refine st_b 78 (show (A == A && (B == B && (C == C && (D == D && (H == H && (M == M && (S == S && (T == T && true)))))))) = true by simp_all) (by kernel_rfl) ?_
  exact st_retv Try.func14 (show Value.bool (e == e) = _ by simp) (by kernel_rfl)
theorem law_drights (W : World) (i : all64 a b c d h mi s n) : Calls Try.prog 14 #[duv a b c d h mi s n] W (fun e w' => e = .returned (.bool true) ∧ Ext W w') := by
  by_cases k : uOk a b c d h mi s n
  · by_cases q : n = -9223372036854775808
    · subst q
      exact drights_y a b c d h mi s _ i k _ _ _ _ _ _ _ _ _ (uneg_o a b c d h mi s i k) (zuneg_o a b c d h mi s i k) W (zall_nil W)
    · exact drights_y a b c d h mi s n i k _ _ _ _ _ _ _ _ _ (uneg_y a b c d h mi s n i k q) (zuneg_y a b c d h mi s n i k q) W (zall_nil W)
  · exact drights_f a b c d h mi s n i k W (zall_nil W)
end
theorem lg8_ex {a b c d h mi s n : Int} (k : uEx a b c d h mi s n) : 4 ≤ lg8 a b c d h mi s n ∧ lg8 a b c d h mi s n ≤ 8 := by
  obtain ⟨-, rfl, rfl, rfl⟩ := k
  unfold lg8
  rw [if_neg (by omega), if_neg (by omega), if_neg (by omega)]
  split <;> (try split) <;> (try split) <;> (try split) <;> omega
abbrev lgm (x y : Int) : Int := if y < x then y else x
theorem lgm_in {x y : Int} (h : 4 ≤ x ∧ x ≤ 8) (k : 4 ≤ y ∧ y ≤ 8) : 4 ≤ lgm x y ∧ lgm x y ≤ 8 := by unfold lgm; split <;> omega
section
variable (a b c d h mi s n a' b' c' d' h' mi' s' n' : Int)
theorem uadd_f (i : all64 a b c d h mi s n) (i' : all64 a' b' c' d' h' mi' s' n') (k : ¬ (uEx a b c d h mi s n ∧ uEx a' b' c' d' h' mi' s' n')) : Fn 55 [] [duv a b c d h mi s n, duv a' b' c' d' h' mi' s' n'] (.tuple #[du0, .int .i64 1]) := by
  by_cases k1 : uEx a b c d h mi s n
  · have e1 := uexact_y a b c d h mi s n i k1
    have e2 := uexact_f a' b' c' d' h' mi' s' n' i' (fun q => k ⟨k1, q⟩)
    clear i i' k k1
    refine fn_of Try.func55 rfl fun ww => ?_
    refine st_fn ent138 (e1) sub0 (by kernel_rfl) ?_
    refine st_fn ent138 (e2) sub0 (by kernel_rfl) ?_
    exact st_ret Try.func55 (by kernel_rfl)
  · have e1 := uexact_f a b c d h mi s n i k1
    clear i i' k k1
    refine fn_of Try.func55 rfl fun ww => ?_
    refine st_fn ent138 (e1) sub0 (by kernel_rfl) ?_
    exact st_ret Try.func55 (by kernel_rfl)
theorem zuadd_f (i : all64 a b c d h mi s n) (i' : all64 a' b' c' d' h' mi' s' n') (k : ¬ (uEx a b c d h mi s n ∧ uEx a' b' c' d' h' mi' s' n')) : Fn 56 [] [duv a b c d h mi s n, duv a' b' c' d' h' mi' s' n'] (.tuple #[du0, .int .i64 1]) := by
  by_cases k1 : uEx a b c d h mi s n
  · have e1 := zuexact_y a b c d h mi s n i k1
    have e2 := zuexact_f a' b' c' d' h' mi' s' n' i' (fun q => k ⟨k1, q⟩)
    clear i i' k k1
    refine fn_of Try.func56 rfl fun ww => ?_
    refine st_fn ent58 (e1) sub0 (by kernel_rfl) ?_
    refine st_fn ent58 (e2) sub0 (by kernel_rfl) ?_
    exact st_ret Try.func56 (by kernel_rfl)
  · have e1 := zuexact_f a b c d h mi s n i k1
    clear i i' k k1
    refine fn_of Try.func56 rfl fun ww => ?_
    refine st_fn ent58 (e1) sub0 (by kernel_rfl) ?_
    exact st_ret Try.func56 (by kernel_rfl)
theorem ucmp_f (i : all64 a b c d h mi s n) (i' : all64 a' b' c' d' h' mi' s' n') (k : ¬ (uEx a b c d h mi s n ∧ uEx a' b' c' d' h' mi' s' n')) : Fn 57 [] [duv a b c d h mi s n, duv a' b' c' d' h' mi' s' n'] (.tuple #[.int .i64 0, .int .i64 1]) := by
  by_cases k1 : uEx a b c d h mi s n
  · have e1 := uexact_y a b c d h mi s n i k1
    have e2 := uexact_f a' b' c' d' h' mi' s' n' i' (fun q => k ⟨k1, q⟩)
    clear i i' k k1
    refine fn_of Try.func57 rfl fun ww => ?_
    refine st_fn ent138 (e1) sub0 (by kernel_rfl) ?_
    refine st_fn ent138 (e2) sub0 (by kernel_rfl) ?_
    exact st_ret Try.func57 (by kernel_rfl)
  · have e1 := uexact_f a b c d h mi s n i k1
    clear i i' k k1
    refine fn_of Try.func57 rfl fun ww => ?_
    refine st_fn ent138 (e1) sub0 (by kernel_rfl) ?_
    exact st_ret Try.func57 (by kernel_rfl)
theorem ucmp_y (i : all64 a b c d h mi s n) (i' : all64 a' b' c' d' h' mi' s' n') (k : uEx a b c d h mi s n) (k' : uEx a' b' c' d' h' mi' s' n') : Fn 57 [] [duv a b c d h mi s n, duv a' b' c' d' h' mi' s' n'] (.tuple #[.int .i64 (cmpI (dtot d h mi s n) (dtot d' h' mi' s' n')), .int .i64 0]) := by
  have e1 := uexact_y a b c d h mi s n i k
  have e2 := uexact_y a' b' c' d' h' mi' s' n' i' k'
  have t1 := utot a b c d h mi s n i.2.2.2.1 i.2.2.2.2.1 i.2.2.2.2.2.1 i.2.2.2.2.2.2.1 i.2.2.2.2.2.2.2
  have t2 := utot a' b' c' d' h' mi' s' n' i'.2.2.2.1 i'.2.2.2.2.1 i'.2.2.2.2.2.1 i'.2.2.2.2.2.2.1 i'.2.2.2.2.2.2.2
  clear i i' k k'
  refine fn_of Try.func57 rfl fun ww => ?_
  refine st_fn ent138 (e1) sub0 (by kernel_rfl) ?_
  refine st_fn ent138 (e2) sub0 (by kernel_rfl) ?_
  refine st_fn ent139 (t1) sub0 (by kernel_rfl) ?_
  refine st_fn ent139 (t2) sub0 (by kernel_rfl) ?_
  refine st_fn ent47 (wcmp_fn (dtot d h mi s n) (dtot d' h' mi' s' n')) sub0 (by kernel_rfl) ?_
  exact st_ret Try.func57 (by kernel_rfl)
variable (A B C D H M S T e u : Int)
theorem uadd_v (i : all64 a b c d h mi s n) (i' : all64 a' b' c' d' h' mi' s' n') (k : uEx a b c d h mi s n) (k' : uEx a' b' c' d' h' mi' s' n') (hl : Fn 52 [] [wv (dtot d h mi s n + dtot d' h' mi' s' n'), .int .i64 (lgm (lg8 a b c d h mi s n) (lg8 a' b' c' d' h' mi' s' n'))] (.tuple #[duv A B C D H M S T, .int .i64 e])) : Fn 55 [] [duv a b c d h mi s n, duv a' b' c' d' h' mi' s' n'] (.tuple #[duv A B C D H M S T, .int .i64 e]) := by
  have e1 := uexact_y a b c d h mi s n i k
  have e2 := uexact_y a' b' c' d' h' mi' s' n' i' k'
  have t1 := utot a b c d h mi s n i.2.2.2.1 i.2.2.2.2.1 i.2.2.2.2.2.1 i.2.2.2.2.2.2.1 i.2.2.2.2.2.2.2
  have t2 := utot a' b' c' d' h' mi' s' n' i'.2.2.2.1 i'.2.2.2.2.1 i'.2.2.2.2.2.1 i'.2.2.2.2.2.2.1 i'.2.2.2.2.2.2.2
  have b1 := ex_tot k
  have b2 := ex_tot k'
  have w1 := wadd_yes (dtot d h mi s n) (dtot d' h' mi' s' n') (by unfold W128; omega) (by unfold W128; omega) (by unfold W128; omega)
  clear i i' k k' b1 b2
  refine fn_of Try.func55 rfl fun ww => ?_
  refine st_fn ent138 (e1) sub0 (by kernel_rfl) ?_
  refine st_fn ent138 (e2) sub0 (by kernel_rfl) ?_
  refine st_fn ent139 (t1) sub0 (by kernel_rfl) ?_
  refine st_fn ent139 (t2) sub0 (by kernel_rfl) ?_
  refine st_fn ent129 (w1) sub0 (by kernel_rfl) ?_
  refine st_fn ent70 (ularg (a) (b) (c) (d) (h) (mi) (s) (n)) sub0 (by kernel_rfl) ?_
  refine st_fn ent70 (ularg (a') (b') (c') (d') (h') (mi') (s') (n')) sub0 (by kernel_rfl) ?_
  refine st_fn ent52 (hl) sub0 (by kernel_rfl) ?_
  exact st_ret Try.func55 (by kernel_rfl)
theorem zuadd_v (i : all64 a b c d h mi s n) (i' : all64 a' b' c' d' h' mi' s' n') (k : uEx a b c d h mi s n) (k' : uEx a' b' c' d' h' mi' s' n') (hl : ∀ p : ZQ, Fn 53 [(p, dtot d h mi s n + dtot d' h' mi' s' n')] [zv p, .int .i64 (lgm (lg8 a b c d h mi s n) (lg8 a' b' c' d' h' mi' s' n'))] (.tuple #[duv A B C D H M S T, .int .i64 e])) : Fn 56 [] [duv a b c d h mi s n, duv a' b' c' d' h' mi' s' n'] (.tuple #[duv A B C D H M S T, .int .i64 e]) := by
  have e1 := zuexact_y a b c d h mi s n i k
  have e2 := zuexact_y a' b' c' d' h' mi' s' n' i' k'
  have t1 := zutot a b c d h mi s n i.2.2.2.1 i.2.2.2.2.1 i.2.2.2.2.2.1 i.2.2.2.2.2.2.1 i.2.2.2.2.2.2.2
  have t2 := zutot a' b' c' d' h' mi' s' n' i'.2.2.2.1 i'.2.2.2.2.1 i'.2.2.2.2.2.1 i'.2.2.2.2.2.2.1 i'.2.2.2.2.2.2.2
  have b1 := ex_tot k
  have b2 := ex_tot k'
  have w1 : W128 (dtot d h mi s n) := by unfold W128; omega
  have w2 : W128 (dtot d' h' mi' s' n') := by unfold W128; omega
  clear i i' k k' b1 b2
  by_cases q : lg8 a' b' c' d' h' mi' s' n' < lg8 a b c d h mi s n
  · have eu : lgm (lg8 a b c d h mi s n) (lg8 a' b' c' d' h' mi' s' n') = lg8 a' b' c' d' h' mi' s' n' := if_pos q
    rw [eu] at hl
    refine fn_of Try.func56 rfl fun ww => ?_
    refine st_fn ent58 (e1) sub0 (by kernel_rfl) ?_
    refine st_fn ent58 (e2) sub0 (by kernel_rfl) ?_
    refine st_fn ent71 (zularg (a) (b) (c) (d) (h) (mi) (s) (n)) sub0 (by kernel_rfl) ?_
    refine st_fn ent71 (zularg (a') (b') (c') (d') (h') (mi') (s') (n')) sub0 (by kernel_rfl) ?_
    refine st_b 21 (show (decide (lg8 a' b' c' d' h' mi' s' n' < lg8 a b c d h mi s n)) = true by exact decide_eq_true (by omega)) (by kernel_rfl) ?_
    refine st_fn ent71 (zularg (a') (b') (c') (d') (h') (mi') (s') (n')) sub0 (by kernel_rfl) ?_
    refine st_g ent59 (t1) sub0 (by kernel_rfl) (fun zq5 => ?_)
    refine st_g ent59 (t2) sub0 (by kernel_rfl) (fun zq6 => ?_)
    refine st_g ent125 (fzadd (zq5) (zq6) (dtot d h mi s n) (dtot d' h' mi' s' n') (by exact Bits.fit w1.bits (by decide)) (by exact Bits.fit w2.bits (by decide))) (subC 1 rfl (subC 0 rfl sub0)) (by kernel_rfl) (fun zq7 => ?_)
    refine st_fn ent53 (hl (zq7)) (subC 0 rfl sub0) (by kernel_rfl) ?_
    exact st_ret Try.func56 (by kernel_rfl)
  · have eu : lgm (lg8 a b c d h mi s n) (lg8 a' b' c' d' h' mi' s' n') = lg8 a b c d h mi s n := if_neg q
    rw [eu] at hl
    refine fn_of Try.func56 rfl fun ww => ?_
    refine st_fn ent58 (e1) sub0 (by kernel_rfl) ?_
    refine st_fn ent58 (e2) sub0 (by kernel_rfl) ?_
    refine st_fn ent71 (zularg (a) (b) (c) (d) (h) (mi) (s) (n)) sub0 (by kernel_rfl) ?_
    refine st_fn ent71 (zularg (a') (b') (c') (d') (h') (mi') (s') (n')) sub0 (by kernel_rfl) ?_
    refine st_b 21 (show (decide (lg8 a' b' c' d' h' mi' s' n' < lg8 a b c d h mi s n)) = false by exact decide_eq_false (by omega)) (by kernel_rfl) ?_
    refine st_g ent59 (t1) sub0 (by kernel_rfl) (fun zq4 => ?_)
    refine st_g ent59 (t2) sub0 (by kernel_rfl) (fun zq5 => ?_)
    refine st_g ent125 (fzadd (zq4) (zq5) (dtot d h mi s n) (dtot d' h' mi' s' n') (by exact Bits.fit w1.bits (by decide)) (by exact Bits.fit w2.bits (by decide))) (subC 1 rfl (subC 0 rfl sub0)) (by kernel_rfl) (fun zq6 => ?_)
    refine st_fn ent53 (hl (zq6)) (subC 0 rfl sub0) (by kernel_rfl) ?_
    exact st_ret Try.func56 (by kernel_rfl)
theorem dadds_v (i : all64 a b c d h mi s n) (i' : all64 a' b' c' d' h' mi' s' n') (k : uEx a b c d h mi s n) (k' : uEx a' b' c' d' h' mi' s' n') (h1 : Fn 55 [] [duv a b c d h mi s n, duv a' b' c' d' h' mi' s' n'] (.tuple #[duv A B C D H M S T, .int .i64 e])) (h2 : Fn 56 [] [duv a b c d h mi s n, duv a' b' c' d' h' mi' s' n'] (.tuple #[duv A B C D H M S T, .int .i64 e])) : Fn 11 [] [duv a b c d h mi s n, duv a' b' c' d' h' mi' s' n'] (.bool true) := by
  have c1 := ucmp_y a b c d h mi s n a' b' c' d' h' mi' s' n' i i' k k'
  have e1 := zuexact_y a b c d h mi s n i k
  have e2 := zuexact_y a' b' c' d' h' mi' s' n' i' k'
  have t1 := zutot a b c d h mi s n i.2.2.2.1 i.2.2.2.2.1 i.2.2.2.2.2.1 i.2.2.2.2.2.2.1 i.2.2.2.2.2.2.2
  have t2 := zutot a' b' c' d' h' mi' s' n' i'.2.2.2.1 i'.2.2.2.2.1 i'.2.2.2.2.2.1 i'.2.2.2.2.2.2.1 i'.2.2.2.2.2.2.2
  have b1 := ex_tot k
  have b2 := ex_tot k'
  have w1 : W128 (dtot d h mi s n) := by unfold W128; omega
  have w2 : W128 (dtot d' h' mi' s' n') := by unfold W128; omega
  clear i i' k k' b1 b2
  refine fn_of Try.func11 rfl fun ww => ?_
  refine st_fn ent55 (h1) sub0 (by kernel_rfl) ?_
  refine st_fn ent56 (h2) sub0 (by kernel_rfl) ?_
  refine st_fn ent57 (c1) sub0 (by kernel_rfl) ?_
  refine st_fn ent54 (alive18) sub0 (by kernel_rfl) ?_
  refine st_b 34 (show (!(A == A && (B == B && (C == C && (D == D && (H == H && (M == M && (S == S && (T == T && true))))))))) = false by simp_all) (by kernel_rfl) ?_
  refine st_b 39 (show (e != e) = false by exact bne_eq_false_iff_eq.2 (by omega)) (by kernel_rfl) ?_
  refine st_fn ent58 (e1) sub0 (by kernel_rfl) ?_
  refine st_fn ent58 (e2) sub0 (by kernel_rfl) ?_
  refine st_g ent59 (t1) sub0 (by kernel_rfl) (fun zq6 => ?_)
  refine st_g ent59 (t2) sub0 (by kernel_rfl) (fun zq7 => ?_)
  refine st_fn ent45 (fzcmp (zq6) (zq7) (dtot d h mi s n) (dtot d' h' mi' s' n') (by exact Bits.fit w1.bits (by decide)) (by exact Bits.fit w2.bits (by decide))) (subC 1 rfl (subC 0 rfl sub0)) (by kernel_rfl) ?_
  exact st_retv Try.func11 (show Value.bool (cmpI (dtot d h mi s n) (dtot d' h' mi' s' n') == cmpI (dtot d h mi s n) (dtot d' h' mi' s' n')) = _ by simp) (by kernel_rfl)
theorem dadds_f (i : all64 a b c d h mi s n) (i' : all64 a' b' c' d' h' mi' s' n') (k : ¬ (uEx a b c d h mi s n ∧ uEx a' b' c' d' h' mi' s' n')) : Fn 11 [] [duv a b c d h mi s n, duv a' b' c' d' h' mi' s' n'] (.bool true) := by
  have h1 := uadd_f a b c d h mi s n a' b' c' d' h' mi' s' n' i i' k
  have h2 := zuadd_f a b c d h mi s n a' b' c' d' h' mi' s' n' i i' k
  have c1 := ucmp_f a b c d h mi s n a' b' c' d' h' mi' s' n' i i' k
  by_cases k1 : uEx a b c d h mi s n
  · have e1 := zuexact_y a b c d h mi s n i k1
    have e2 := zuexact_f a' b' c' d' h' mi' s' n' i' (fun q => k ⟨k1, q⟩)
    clear i i' k k1
    refine fn_of Try.func11 rfl fun ww => ?_
    refine st_fn ent55 (h1) sub0 (by kernel_rfl) ?_
    refine st_fn ent56 (h2) sub0 (by kernel_rfl) ?_
    refine st_fn ent57 (c1) sub0 (by kernel_rfl) ?_
    refine st_fn ent54 (alive18) sub0 (by kernel_rfl) ?_
    refine st_fn ent58 (e1) sub0 (by kernel_rfl) ?_
    refine st_fn ent58 (e2) sub0 (by kernel_rfl) ?_
    exact st_ret Try.func11 (by kernel_rfl)
  · have e1 := zuexact_f a b c d h mi s n i k1
    clear i i' k k1
    refine fn_of Try.func11 rfl fun ww => ?_
    refine st_fn ent55 (h1) sub0 (by kernel_rfl) ?_
    refine st_fn ent56 (h2) sub0 (by kernel_rfl) ?_
    refine st_fn ent57 (c1) sub0 (by kernel_rfl) ?_
    refine st_fn ent54 (alive18) sub0 (by kernel_rfl) ?_
    refine st_fn ent58 (e1) sub0 (by kernel_rfl) ?_
    exact st_ret Try.func11 (by kernel_rfl)
theorem add_W (k : uEx a b c d h mi s n) (k' : uEx a' b' c' d' h' mi' s' n') : W128 (dtot d h mi s n + dtot d' h' mi' s' n') := by
  have b1 := ex_tot k
  have b2 := ex_tot k'
  unfold W128; omega
theorem law_dadds (W : World) (i : all64 a b c d h mi s n) (i' : all64 a' b' c' d' h' mi' s' n') : Calls Try.prog 11 #[duv a b c d h mi s n, duv a' b' c' d' h' mi' s' n'] W (fun e w' => e = .returned (.bool true) ∧ Ext W w') := by
  by_cases k : uEx a b c d h mi s n ∧ uEx a' b' c' d' h' mi' s' n'
  · have w := add_W a b c d h mi s n a' b' c' d' h' mi' s' n' k.1 k.2
    have u := lgm_in (lg8_ex k.1) (lg8_ex k.2)
    by_cases l : layOk (lgm (lg8 a b c d h mi s n) (lg8 a' b' c' d' h' mi' s' n')) (dtot d h mi s n + dtot d' h' mi' s' n')
    · exact dadds_v a b c d h mi s n a' b' c' d' h' mi' s' n' _ _ _ _ _ _ _ _ _ i i' k.1 k.2 (uadd_v a b c d h mi s n a' b' c' d' h' mi' s' n' _ _ _ _ _ _ _ _ _ i i' k.1 k.2 (ulay_y _ _ w l)) (zuadd_v a b c d h mi s n a' b' c' d' h' mi' s' n' _ _ _ _ _ _ _ _ _ i i' k.1 k.2 fun p => zulay_y _ _ p w l) W (zall_nil W)
    · exact dadds_v a b c d h mi s n a' b' c' d' h' mi' s' n' _ _ _ _ _ _ _ _ _ i i' k.1 k.2 (uadd_v a b c d h mi s n a' b' c' d' h' mi' s' n' _ _ _ _ _ _ _ _ _ i i' k.1 k.2 (ulay_n _ _ w u.1 u.2 l)) (zuadd_v a b c d h mi s n a' b' c' d' h' mi' s' n' _ _ _ _ _ _ _ _ _ i i' k.1 k.2 fun p => zulay_n _ _ p w u.1 u.2 l) W (zall_nil W)
  · exact dadds_f a b c d h mi s n a' b' c' d' h' mi' s' n' i i' k W (zall_nil W)
/-! what was added is taken away again -/
theorem dback_e (e1 e2 : Int) (A' B' C' D' H' M' S' T' : Int) (q : e1 ≠ 0 ∨ e1 = 0 ∧ e2 ≠ 0) (h1 : Fn 55 [] [duv a b c d h mi s n, duv a' b' c' d' h' mi' s' n'] (.tuple #[duv A B C D H M S T, .int .i64 e1])) (h2 : Fn 68 [] [duv a' b' c' d' h' mi' s' n'] (.tuple #[duv A' B' C' D' H' M' S' T', .int .i64 e2])) : Fn 15 [] [duv a b c d h mi s n, duv a' b' c' d' h' mi' s' n'] (.bool true) := by
  rcases q with q | ⟨q, q2⟩
  · refine fn_of Try.func15 rfl fun ww => ?_
    refine st_fn ent55 (h1) sub0 (by kernel_rfl) ?_
    refine st_fn ent68 (h2) sub0 (by kernel_rfl) ?_
    refine st_b 25 (show (e1 != 0) = true by exact bne_iff_ne.2 (by omega)) (by kernel_rfl) ?_
    refine st_fn ent54 (alive18) sub0 (by kernel_rfl) ?_
    exact st_ret Try.func15 (by kernel_rfl)
  · subst q
    refine fn_of Try.func15 rfl fun ww => ?_
    refine st_fn ent55 (h1) sub0 (by kernel_rfl) ?_
    refine st_fn ent68 (h2) sub0 (by kernel_rfl) ?_
    refine st_b 28 (show (e2 != 0) = true by exact bne_iff_ne.2 (by omega)) (by kernel_rfl) ?_
    refine st_fn ent54 (alive18) sub0 (by kernel_rfl) ?_
    exact st_ret Try.func15 (by kernel_rfl)
theorem dback_n (A' B' C' D' H' M' S' T' : Int) (h1 : Fn 55 [] [duv a b c d h mi s n, duv a' b' c' d' h' mi' s' n'] (.tuple #[duv A B C D H M S T, .int .i64 0])) (h2 : Fn 68 [] [duv a' b' c' d' h' mi' s' n'] (.tuple #[duv A' B' C' D' H' M' S' T', .int .i64 0])) (h3 : Fn 55 [] [duv A B C D H M S T, duv A' B' C' D' H' M' S' T'] (.tuple #[du0, .int .i64 4])) : Fn 15 [] [duv a b c d h mi s n, duv a' b' c' d' h' mi' s' n'] (.bool true) := by
  refine fn_of Try.func15 rfl fun ww => ?_
  refine st_fn ent55 (h1) sub0 (by kernel_rfl) ?_
  refine st_fn ent68 (h2) sub0 (by kernel_rfl) ?_
  refine st_fn ent55 (h3) sub0 (by kernel_rfl) ?_
  refine st_fn ent54 (alive18) sub0 (by kernel_rfl) ?_
  exact st_ret Try.func15 (by kernel_rfl)
theorem dback_y (A' B' C' D' H' M' S' T' X1 X2 X3 X4 X5 X6 X7 X8 : Int) (h1 : Fn 55 [] [duv a b c d h mi s n, duv a' b' c' d' h' mi' s' n'] (.tuple #[duv A B C D H M S T, .int .i64 0])) (h2 : Fn 68 [] [duv a' b' c' d' h' mi' s' n'] (.tuple #[duv A' B' C' D' H' M' S' T', .int .i64 0])) (h3 : Fn 55 [] [duv A B C D H M S T, duv A' B' C' D' H' M' S' T'] (.tuple #[duv X1 X2 X3 X4 X5 X6 X7 X8, .int .i64 0]))
    (h4 : Fn 57 [] [duv X1 X2 X3 X4 X5 X6 X7 X8, duv a b c d h mi s n] (.tuple #[.int .i64 0, .int .i64 0])) : Fn 15 [] [duv a b c d h mi s n, duv a' b' c' d' h' mi' s' n'] (.bool true) := by
  refine fn_of Try.func15 rfl fun ww => ?_
  refine st_fn ent55 (h1) sub0 (by kernel_rfl) ?_
  refine st_fn ent68 (h2) sub0 (by kernel_rfl) ?_
  refine st_fn ent55 (h3) sub0 (by kernel_rfl) ?_
  refine st_fn ent57 (h4) sub0 (by kernel_rfl) ?_
  refine st_fn ent54 (alive18) sub0 (by kernel_rfl) ?_
  exact st_ret Try.func15 (by kernel_rfl)
end
end Go.Proofs.Ytcndfpfjckkinaa
end
section
/-
  The law DurationBack: what was added is taken away again.
-/
set_option linter.unusedVariables false
set_option linter.unusedSimpArgs false
set_option maxRecDepth 100000
namespace Go.Proofs.Ytcndfpfjckkinaa
open Go Go.RowKit Go.Ev

section
variable (a b c d h mi s n a' b' c' d' h' mi' s' n' : Int)
theorem neg_64 {a b c d h mi s n : Int} (i : all64 a b c d h mi s n) (k : uOk a b c d h mi s n) (q : n ≠ -9223372036854775808) : all64 (-a) (-b) (-c) (-d) (-h) (-mi) (-s) (-n) := by
  obtain ⟨s1, s2, s3, s4, s5, s6, s7⟩ := uOk_small i k
  obtain ⟨i1, i2, i3, i4, i5, i6, i7, i8⟩ := i
  unfold I64 at i1 i2 i3 i4 i5 i6 i7 i8
  refine ⟨?_, ?_, ?_, ?_, ?_, ?_, ?_, ?_⟩ <;> unfold I64 <;> omega
theorem ex_neg {a b c d h mi s n : Int} (k : uEx a b c d h mi s n) : uEx (-a) (-b) (-c) (-d) (-h) (-mi) (-s) (-n) := by
  obtain ⟨k1, rfl, rfl, rfl⟩ := k
  exact ⟨uOk_neg k1, rfl, rfl, rfl⟩
theorem dback_ok (D H M S T : Int) (W : World) (i : all64 a b c d h mi s n) (i' : all64 a' b' c' d' h' mi' s' n') (k : uEx a b c d h mi s n) (k' : uEx a' b' c' d' h' mi' s' n') (q : n' ≠ -9223372036854775808) (a1 : Fn 55 [] [duv a b c d h mi s n, duv a' b' c' d' h' mi' s' n'] (.tuple #[duv 0 0 0 D H M S T, .int .i64 0])) (j1 : all64 0 0 0 D H M S T) (o1 : uEx 0 0 0 D H M S T)
    (t : dtot D H M S T = dtot d h mi s n + dtot d' h' mi' s' n') : Calls Try.prog 15 #[duv a b c d h mi s n, duv a' b' c' d' h' mi' s' n'] W (fun e w' => e = .returned (.bool true) ∧ Ext W w') := by
  have a2 := uneg_y a' b' c' d' h' mi' s' n' i' k'.1 q
  have o2 := ex_neg k'
  have j2 := neg_64 i' k'.1 q
  have w2 := dtot_W i.2.2.2.1 i.2.2.2.2.1 i.2.2.2.2.2.1 i.2.2.2.2.2.2.1 i.2.2.2.2.2.2.2
  have et : dtot D H M S T + dtot (-d') (-h') (-mi') (-s') (-n') = dtot d h mi s n := by rw [t]; unfold dtot; omega
  have u2 := lgm_in (lg8_ex o1) (lg8_ex o2)
  have a3 := fun A B C D' H' M' S' T' e => uadd_v 0 0 0 D H M S T (-a') (-b') (-c') (-d') (-h') (-mi') (-s') (-n') A B C D' H' M' S' T' e j1 j2 o1 o2
  rw [et] at a3
  generalize lgm (lg8 0 0 0 D H M S T) (lg8 (-a') (-b') (-c') (-d') (-h') (-mi') (-s') (-n')) = U at *
  by_cases l2 : layOk U (dtot d h mi s n)
  · have o3 := lay_ok l2
    have cc := ucmp_y 0 0 0 (l4 U (dtot d h mi s n)) (l5 U (dtot d h mi s n)) (l6 U (dtot d h mi s n)) (l7 U (dtot d h mi s n)) (l8 U (dtot d h mi s n)) a b c d h mi s n (lay_64 l2) i o3 k
    rw [(lay_tot (x := dtot d h mi s n) l2.1.1 l2.1.2).1, cmpI_eq rfl] at cc
    have a4 := a3 0 0 0 (l4 U (dtot d h mi s n)) (l5 U (dtot d h mi s n)) (l6 U (dtot d h mi s n)) (l7 U (dtot d h mi s n)) (l8 U (dtot d h mi s n)) 0 (ulay_y U (dtot d h mi s n) w2 l2)
    exact dback_y a b c d h mi s n a' b' c' d' h' mi' s' n' 0 0 0 D H M S T (-a') (-b') (-c') (-d') (-h') (-mi') (-s') (-n') 0 0 0 (l4 U (dtot d h mi s n)) (l5 U (dtot d h mi s n)) (l6 U (dtot d h mi s n)) (l7 U (dtot d h mi s n)) (l8 U (dtot d h mi s n)) a1 a2 a4 cc W (zall_nil W)
  · have a4 := a3 0 0 0 0 0 0 0 0 4 (ulay_n U (dtot d h mi s n) w2 u2.1 u2.2 l2)
    exact dback_n a b c d h mi s n a' b' c' d' h' mi' s' n' 0 0 0 D H M S T (-a') (-b') (-c') (-d') (-h') (-mi') (-s') (-n') a1 a2 a4 W (zall_nil W)
theorem law_dback (W : World) (i : all64 a b c d h mi s n) (i' : all64 a' b' c' d' h' mi' s' n') : Calls Try.prog 15 #[duv a b c d h mi s n, duv a' b' c' d' h' mi' s' n'] W (fun e w' => e = .returned (.bool true) ∧ Ext W w') := by
  by_cases k : uEx a b c d h mi s n ∧ uEx a' b' c' d' h' mi' s' n'
  · have w := add_W a b c d h mi s n a' b' c' d' h' mi' s' n' k.1 k.2
    have u := lgm_in (lg8_ex k.1) (lg8_ex k.2)
    have a1 := fun A B C D' H' M' S' T' e => uadd_v a b c d h mi s n a' b' c' d' h' mi' s' n' A B C D' H' M' S' T' e i i' k.1 k.2
    generalize lgm (lg8 a b c d h mi s n) (lg8 a' b' c' d' h' mi' s' n') = U at *
    obtain ⟨X, hX⟩ : ∃ X, X = dtot d h mi s n + dtot d' h' mi' s' n' := ⟨_, rfl⟩
    rw [← hX] at a1 w
    by_cases l : layOk U X
    · have a4 := a1 0 0 0 (l4 U X) (l5 U X) (l6 U X) (l7 U X) (l8 U X) 0 (ulay_y U X w l)
      by_cases q : n' = -9223372036854775808
      · subst q
        exact dback_e a b c d h mi s n a' b' c' d' h' mi' s' _ 0 0 0 (l4 U X) (l5 U X) (l6 U X) (l7 U X) (l8 U X) 0 2 0 0 0 0 0 0 0 0 (.inr ⟨rfl, by omega⟩) a4 (uneg_o a' b' c' d' h' mi' s' i' k.2.1) W (zall_nil W)
      · exact dback_ok a b c d h mi s n a' b' c' d' h' mi' s' n' (l4 U X) (l5 U X) (l6 U X) (l7 U X) (l8 U X) W i i' k.1 k.2 q a4 (lay_64 l) (lay_ok l) (by rw [(lay_tot (x := X) l.1.1 l.1.2).1, hX])
    · have a4 := a1 0 0 0 0 0 0 0 0 4 (ulay_n U X w u.1 u.2 l)
      by_cases q : n' = -9223372036854775808
      · subst q
        exact dback_e a b c d h mi s n a' b' c' d' h' mi' s' _ 0 0 0 0 0 0 0 0 4 2 0 0 0 0 0 0 0 0 (.inl (by omega)) a4 (uneg_o a' b' c' d' h' mi' s' i' k.2.1) W (zall_nil W)
      · exact dback_e a b c d h mi s n a' b' c' d' h' mi' s' n' 0 0 0 0 0 0 0 0 4 0 (-a') (-b') (-c') (-d') (-h') (-mi') (-s') (-n') (.inl (by omega)) a4 (uneg_y a' b' c' d' h' mi' s' n' i' k.2.1 q) W (zall_nil W)
  · have a1 := uadd_f a b c d h mi s n a' b' c' d' h' mi' s' n' i i' k
    by_cases r : uOk a' b' c' d' h' mi' s' n'
    · by_cases q : n' = -9223372036854775808
      · subst q
        exact dback_e a b c d h mi s n a' b' c' d' h' mi' s' _ 0 0 0 0 0 0 0 0 1 2 0 0 0 0 0 0 0 0 (.inl (by omega)) a1 (uneg_o a' b' c' d' h' mi' s' i' r) W (zall_nil W)
      · exact dback_e a b c d h mi s n a' b' c' d' h' mi' s' n' 0 0 0 0 0 0 0 0 1 0 (-a') (-b') (-c') (-d') (-h') (-mi') (-s') (-n') (.inl (by omega)) a1 (uneg_y a' b' c' d' h' mi' s' n' i' r q) W (zall_nil W)
    · exact dback_e a b c d h mi s n a' b' c' d' h' mi' s' n' 0 0 0 0 0 0 0 0 1 1 0 0 0 0 0 0 0 0 (.inl (by omega)) a1 (uneg_f a' b' c' d' h' mi' s' n' i' r) W (zall_nil W)
end
end Go.Proofs.Ytcndfpfjckkinaa
end
section
/-
  Eight numbers that come in have room in 64 bits.
-/
namespace Go.Proofs.Ytcndfpfjckkinaa

theorem all64_of {a b c d h mi s n : Int} (k : ∀ x ∈ [a, b, c, d, h, mi, s, n], I64 x) : all64 a b c d h mi s n :=
  ⟨k a (by simp), k b (by simp), k c (by simp), k d (by simp), k h (by simp), k mi (by simp), k s (by simp), k n (by simp)⟩
end Go.Proofs.Ytcndfpfjckkinaa
end
section
/-
  A struct of so many 64-bit numbers that comes in.
-/
namespace Go.Proofs.Ytcndfpfjckkinaa
open Go Go.RowKit

def intRow (P : Program) (t : TypeId) (n : Nat) : Bool := (match P.underlying t with
  | some (.struct _) => true
  | some (.array _ _) => true
  | _ => false) && decide (P.cellsOf t = n) && match P.cellTypes P.depth t with
  | some ts => decide (ts.length = n) && ts.all fun u => match P.underlying u with
    | some (.int .i64) => true
    | _ => false
  | none => false
theorem cells_in {P : Program} {w : World} {r : Reach} {b : Nat} {ts : List TypeId} (ha : ∀ u, u ∈ ts → P.underlying u = some (.int .i64)) (hne : 0 < ts.length) : ∀ (l : List Value),
    (∀ (i : Nat) (v : Value), l[i]? = some v → ∃ (j : Nat) (u : TypeId), ts[j]? = some u ∧ Cell.okWide P w r b u v) → ∃ xs : List Int, l = xs.map (Value.int .i64) ∧ ∀ x ∈ xs, I64 x
  | [], _ => ⟨[], rfl, fun x h => by cases h⟩
  | v :: l, h => by
    obtain ⟨xs, h1, h2⟩ := cells_in ha hne l fun i v hv => h (i + 1) v (by simpa using hv)
    obtain ⟨j, u, hu, hc⟩ := h 0 v rfl
    have hU := ha u (List.mem_of_getElem? hu)
    obtain ⟨x, rfl, hx⟩ : ∃ x, v = .int .i64 x ∧ I64 x := by
      simp only [Cell.okWide, hU] at hc
      cases v <;> simp [Cell.ok, hU] at hc
      rename_i k x
      obtain ⟨rfl, hk⟩ := hc
      refine ⟨x, rfl, ?_⟩
      have m0 : IntKind.i64.min = -9223372036854775808 := by decide
      have m1 : IntKind.i64.max = 9223372036854775807 := by decide
      unfold IntKind.has at hk
      rw [m0, m1] at hk
      exact hk
    exact ⟨x :: xs, by rw [h1]; rfl, fun y hy => by
      rcases List.mem_cons.1 hy with rfl | hy
      · exact hx
      · exact h2 y hy⟩
theorem ints_in {P : Program} {w : World} {r : Reach} {b : Nat} {t : TypeId} {n : Nat} {v : Value} (hn : 0 < n) (ht : intRow P t n = true) (hv : Value.okWide P w r b t v) : ∃ xs : List Int, v = .agg (xs.map (Value.int .i64)).toArray ∧ xs.length = n ∧ ∀ x ∈ xs, I64 x := by
  unfold intRow at ht
  rw [Bool.and_eq_true, Bool.and_eq_true] at ht
  obtain ⟨⟨hs, hc⟩, hl⟩ := ht
  obtain ⟨cs, rfl, hsz, ts, hts, -, hcell⟩ : ∃ cs, v = .agg cs ∧ cs.size = P.cellsOf t ∧ Row.okWide P w r b t cs := by
    unfold Value.okWide at hv
    split at hv
    · exact hv
    · exact hv
    · rename_i h1 h2
      split at hs
      · rename_i fs h; exact absurd h (h1 fs)
      · rename_i m e h; exact absurd h (h2 m e)
      · cases hs
  rw [hts] at hl
  simp only [Bool.and_eq_true, decide_eq_true_eq, List.all_eq_true] at hl hc
  have ha : ∀ u ∈ ts, P.underlying u = some (.int .i64) := fun u hu => by
    have := hl.2 u hu
    split at this
    · assumption
    · cases this
  obtain ⟨xs, h1, h2⟩ := cells_in (P := P) (w := w) (r := r) (b := b) ha (by omega) cs.toList fun i v hv => by
    obtain ⟨u, h3, h4⟩ := hcell i v (by simpa using hv)
    exact ⟨_, u, h3, h4⟩
  have e : cs = (xs.map (Value.int .i64)).toArray := by rw [← h1]
  refine ⟨xs, by rw [e], ?_, h2⟩
  have := congrArg Array.size e
  simp at this; omega
theorem list8 {α : Type} {l : List α} (h : l.length = 8) : ∃ a b c d e f g i, l = [a, b, c, d, e, f, g, i] := by
  match l, h with
  | [a, b, c, d, e, f, g, i], _ => exact ⟨a, b, c, d, e, f, g, i, rfl⟩
end Go.Proofs.Ytcndfpfjckkinaa
end
