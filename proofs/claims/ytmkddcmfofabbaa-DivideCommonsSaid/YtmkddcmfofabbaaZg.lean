/-
  Walk of the reference's division bit by bit: long.
-/
import Derived.Test.YtmkddcmfofabbaaZf
import Derived.Test.YtmkddcmfofabbaaDigb
import Derived.Deep.RegionWith
namespace Go.Proofs.Ytmkddcmfofabbaa
open Go Go.RowKit

/-- A call that returns two numbers. -/
def RetZZ (w : World) (q r : Int) (e : Ending) (w' : World) : Prop :=
  ∃ n1 a1 l1 c1 n2 a2 l2 c2, e = .returned (.tuple #[.agg #[.bool n1, .slice a1 l1 c1], .agg #[.bool n2, .slice a2 l2 c2]]) ∧ IsZ w' n1 (.slice a1 l1 c1) q ∧ IsZ w' n2 (.slice a2 l2 c2) r ∧ Below w.heap.size w w'

theorem IsZ.drew {w : World} {neg : Bool} {sv : Value} {n : Int} (h : IsZ w neg sv n) : IsZ w.drew neg sv n := h
theorem IsZ.drewN {w : World} {neg : Bool} {sv : Value} {n : Int} (h : IsZ w neg sv n) (k : Nat) : IsZ (w.drewN k) neg sv n := h
/-- The end of a function whose two results, numbers, lie in blocks of their own. -/
theorem isZZ_end {w w1 : World} {k k' : Nat} {n1 n2 : Bool} {a1 a2 : Option Addr} {l1 c1 l2 c2 : Nat} {q r : Int} (hq : IsZ w1 n1 (.slice a1 l1 c1) q) (hr : IsZ w1 n2 (.slice a2 l2 c2) r)
    (hk : Kind w1 k 37) (hk' : Kind w1 k' 37) (hb : Below w.heap.size w w1) (hle : w.heap.size ≤ k) (hle' : w.heap.size ≤ k') (u v u' v' : Value) :
    RetZZ w q r (.returned (.tuple #[.agg #[.bool n1, .slice a1 l1 c1], .agg #[.bool n2, .slice a2 l2 c2]])) ((((w1.setCell ⟨k, 0, none⟩ u).setCell ⟨k, 1, none⟩ v).setCell ⟨k', 0, none⟩ u').setCell ⟨k', 1, none⟩ v').drew := by
  have hk2 : Kind ((w1.setCell ⟨k, 0, none⟩ u).setCell ⟨k, 1, none⟩ v) k' 37 := (hk'.setCell _ _ _).setCell _ _ _
  have h1 := (hq.set2 hk (by decide) u v).set2 hk2 (by decide) u' v'
  have h2 := (hr.set2 hk (by decide) u v).set2 hk2 (by decide) u' v'
  exact ⟨n1, a1, l1, c1, n2, a2, l2, c2, rfl, h1.drew, h2.drew, (below_set2 (below_set2 hb hle u v) hle' u' v').drew⟩

/-- Four blocks that stay as they are, and the memory that was there. -/
structure Env4 (w wr : World) (a a' b b' : Value) : Prop where
  A : Box2 wr w.heap.size a a' 37
  B : Box2 wr (w.heap.size + 1) b b' 37
  R : Box2 wr (w.heap.size + 1 + 1) (.bool false) (.slice none 0 0) 37
  S : Box2 wr (w.heap.size + 1 + 1 + 1) (.bool false) (.slice none 0 0) 37
  W : Below w.heap.size w wr
theorem Env4.below {w wr w' : World} {a a' b b' : Value} (h : Env4 w wr a a' b b') (hb : Below wr.heap.size wr w') : Env4 w w' a a' b b' :=
  ⟨h.A.below hb, h.B.below hb, h.R.below hb, h.S.below hb, h.W.trans (hb.mono h.W.size)⟩
theorem Env4.set2 {w wr : World} {a a' b b' : Value} (h : Env4 w wr a a' b b') {k : Nat} (hk : w.heap.size + 1 + 1 + 1 < k) (u v : Value) : Env4 w ((wr.setCell ⟨k, 0, none⟩ u).setCell ⟨k, 1, none⟩ v) a a' b b' :=
  ⟨h.A.other2 (by omega) _ _, h.B.other2 (by omega) _ _, h.R.other2 (by omega) _ _, h.S.other2 (by omega) _ _, below_set2 h.W (by omega) _ _⟩
theorem Env4.drew {w wr : World} {a a' b b' : Value} (h : Env4 w wr a a' b b') : Env4 w wr.drew a a' b b' := ⟨h.A, h.B, h.R, h.S, h.W.drew⟩

theorem boxes6 (w : World) (a b a' b' : Value) (t : TypeId) : ∃ W, W = (((((w.alloc (.cells #[a, a'] t)).alloc (.cells #[b, b'] t)).alloc (.cells #[.bool false, .slice none 0 0] t)).alloc (.cells #[.bool false, .slice none 0 0] t)).alloc (.cells #[.bool false, .slice none 0 0] t)).alloc (.cells #[.bool false, .slice none 0 0] t) ∧
    Box2 W w.heap.size a a' t ∧ Box2 W (w.heap.size + 1) b b' t ∧ Box2 W (w.heap.size + 1 + 1) (.bool false) (.slice none 0 0) t ∧ Box2 W (w.heap.size + 1 + 1 + 1) (.bool false) (.slice none 0 0) t ∧
    Box2 W (w.heap.size + 1 + 1 + 1 + 1) (.bool false) (.slice none 0 0) t ∧ Box2 W (w.heap.size + 1 + 1 + 1 + 1 + 1) (.bool false) (.slice none 0 0) t ∧ Below w.heap.size w W ∧ W.heap.size = w.heap.size + 6 :=
  ⟨_, rfl, (((((Box2.new rfl).alloc _).alloc _).alloc _).alloc _).alloc _, ((((Box2.new (by simp)).alloc _).alloc _).alloc _).alloc _, (((Box2.new (by simp)).alloc _).alloc _).alloc _, ((Box2.new (by simp)).alloc _).alloc _,
    (Box2.new (by simp)).alloc _, Box2.new (by simp), (below5 w _ _ _ _ _).alloc (by simp; omega) _, by simp⟩

set_option maxRecDepth 100000 in
set_option maxHeartbeats 3200000 in
theorem long_z (na nb : Bool) (aa ab : Option Addr) (la ca lb cb : Nat) (m n : Int) (w : World) (hza : IsZ w na (.slice aa la ca) m) (hzb : IsZ w nb (.slice ab lb cb) n) (K : Nat) (hK : K ≤ 90000) (hm : Bits K m) (hn : Bits K n) (h0 : 0 ≤ m) (h1 : 0 < n) :
    Calls Try.prog 120 #[.agg #[.bool na, .slice aa la ca], .agg #[.bool nb, .slice ab lb cb]] w (RetZZ w (m / n) (m % n)) := by
  obtain ⟨xs, hrx, dx, tx, hvx, hlx, hna⟩ := isZ_row hza (hm.fit (by omega))
  have hxr := hrx
  obtain ⟨aa', ca', ba, oa, e, -, hxa, hxc⟩ := hrx
  simp only [Value.slice.injEq] at e
  obtain ⟨rfl, rfl, rfl⟩ := e
  obtain ⟨W, hWe, hA, hB, hR, hS, hQ, hT, hW, hWs⟩ := boxes6 w (.bool na) (.bool nb) (.slice aa xs.length ca) (.slice ab lb cb) 37
  have HX := Lib.hid hvx
  clear hvx hna hza tx
  go_enter Try.func120, Try.ntmps120
  go_wp2_with fail
  rw [← hWe]
  have HWe := Lib.hid hWe
  have HWs := Lib.hid hWs
  clear hWe hWs
  have hmv : val xs = m := by rw [HX.out]; omega
  have hst : shr m (16 * xs.length) = 0 := shr_top h0 _ (by rw [← hmv, ← B_two]; exact val_lt dx)
  have hsq : IsZ W false (.slice none 0 0) (shr m (16 * xs.length) / n) := by rw [hst, Int.zero_ediv]; exact isZ_zero _
  have hsr : IsZ W false (.slice none 0 0) (shr m (16 * xs.length) % n) := by rw [hst, Int.zero_emod]; exact isZ_zero _
  have HM := Lib.hid hmv
  clear hmv hst HX
  go_loopw [8] (fun i wr => ∃ (t : Nat) (nq : Bool) (aq : Option Addr) (lq cq : Nat) (nr : Bool) (ar : Option Addr) (lr cr : Nat), i = .int .i64 ((t : Int) - 1) ∧ t ≤ 16 * xs.length ∧
      IsZ wr nq (.slice aq lq cq) (shr m t / n) ∧ IsZ wr nr (.slice ar lr cr) (shr m t % n) ∧
      Env4 w wr (.bool na) (.slice aa xs.length ca) (.bool nb) (.slice ab lb cb) ∧
      Box2 wr (w.heap.size + 1 + 1 + 1 + 1) (.bool nq) (.slice aq lq cq) 37 ∧ Box2 wr (w.heap.size + 1 + 1 + 1 + 1 + 1) (.bool nr) (.slice ar lr cr) 37)
    (fun i _ => (intOf i + 1).toNat)
  case atStart => exact ⟨16 * xs.length, _, _, _, _, _, _, _, _, by go_num, Nat.le_refl _, hsq, hsr, ⟨hA, hB, hR, hS, hW⟩, hQ, hT⟩
  case round =>
    clear hA hB hR hS hQ hT hW hsq hsr HWe HWs
    obtain ⟨t, nq, aq, lq, cq, nr, ar, lr, cr, rfl, ht, hq, hr, hE, hQ, hT⟩ := hrel
    have t0 := hT.c0
    have t1 := hT.c1
    have q0 := hQ.c0
    have q1 := hQ.c1
    by_cases ht0 : t = 0
    · subst ht0
      rw [shr_zero] at hq hr
      clear hxa hxc
      have r0 := hE.R.c0
      have r1 := hE.R.c1
      have r2 := hE.R.f0
      have r3 := hE.R.f1
      have s0 := hE.S.c0
      have s1 := hE.S.c1
      have s2 := hE.S.f0
      have s3 := hE.S.f1
      go_wp2_with fail
      go_region
      go_wp2_with fail
      refine bodyPost_ret (v := .tuple #[.agg #[.bool nq, .slice aq lq cq], .agg #[.bool nr, .slice ar lr cr]]) (by simp [results, Try.results120, go_sem, r0, r1, s0, s1]) rfl
        (isZZ_end hq hr hE.R.kind hE.S.kind hE.W (by omega) (by omega) _ _ _ _)
    · obtain ⟨j, rfl⟩ : ∃ j, t = j + 1 := ⟨t - 1, by omega⟩
      have e : ((j + 1 : Nat) : Int) - 1 = j := by omega
      simp only [e]
      have a1 := hE.A.c1
      have hix := fun w => at_row (cap := ca) (fun h => (hxa h).1) ((j : Int) / 16) (by omega) (by omega) w
      have e2 : ((j : Int) / 16).toNat = j / 16 := by omega
      have hcx := (hE.W.cell (p := ⟨ba, oa + j / 16, none⟩) (hxa (by omega)).2.lt).trans (hxc (j / 16) (by omega))
      have hdg := dx (j / 16)
      simp only [e2] at hix
      clear hxa hxc e
      have hb0 : 0 ≤ dg xs (j / 16) / 2 ^ (j % 16) := by rw [← shr_pow]; exact shr_nonneg hdg.1 _
      have hbv := bit_val dx j
      rw [HM.out, shr_pow (dg xs (j / 16)) (j % 16)] at hbv
      have hrb := shr_bits hm h0 (j + 1)
      have hqb := div_bits hrb (shr_nonneg h0 _) h1
      have hmb := mod_bits (m := shr m (j + 1)) hn h1
      generalize hM : shr m (j + 1) = M at *
      have HMM := Lib.hid hM
      have HBV := Lib.hid hbv
      clear hM hbv
      go_wp2_with fail
      obtain ⟨b, hb⟩ : ∃ b, b = dg xs (j / 16) / 2 ^ (j % 16) % 2 := ⟨_, rfl⟩
      have hbb : 0 ≤ b ∧ b < 2 := by rw [hb]; omega
      rw [← hb]
      have HBV2 := HBV.out
      rw [← hb] at HBV2
      have HBV3 := Lib.hid HBV2
      clear HBV HBV2 hb hb0
      have bb : Bits 2 b := by unfold Bits; omega
      refine (add_z _ _ _ _ _ _ _ _ (M % n) (M % n) _ hr hr (hmb.fit (by omega)) (hmb.fit (by omega))).mono ?_
      rintro e w1 ⟨n1, a1', l1, c1, rfl, hz1, hb1⟩
      go_wp2_with fail
      refine (ofu_any b _ (by omega) (by omega)).mono ?_
      rintro e w2 ⟨n2, a2', l2, c2, rfl, hz2, hb2⟩
      go_wp2_with fail
      have f2 : Bits (K + 2) b := bb.mono (by omega)
      refine (add_z _ _ _ _ _ _ _ _ (M % n + M % n) b _ (hz1.below hb2) hz2 ((hmb.add hmb).fit (by omega)) (bb.fit (by omega))).mono ?_
      rintro e w3 ⟨n3, a3', l3, c3, rfl, hz3, hb3⟩
      have hT3 := ((hT.below hb1).below hb2).below hb3
      have hQ3 := (((hQ.below hb1).below hb2).below hb3).other2 (b := w.heap.size + 1 + 1 + 1 + 1 + 1) (by omega) (.bool n3) (.slice a3' l3 c3)
      have hE3 := (((hE.below hb1).below hb2).below hb3).set2 (k := w.heap.size + 1 + 1 + 1 + 1 + 1) (by omega) (.bool n3) (.slice a3' l3 c3)
      have hr3 := hz3.set2 hT3.kind (by decide) (.bool n3) (.slice a3' l3 c3)
      have hq3 := (((hq.below hb1).below hb2).below hb3).set2 hT3.kind (by decide) (.bool n3) (.slice a3' l3 c3)
      have hT4 := hT3.set (.bool n3) (.slice a3' l3 c3)
      have t0 := hT3.c0
      have t1 := hT3.c1
      have t2 := hT3.f0
      have t3 := hT3.f1
      have q0 := hQ3.c0
      have q1 := hQ3.c1
      clear hr hq hz3 hT3 hQ hT hE hz1 hz2 hb1 hb2 hb3 hcx hix a1
      go_wp2_with fail
      obtain ⟨V3, hV3⟩ : ∃ V, V = (w3.setCell ⟨w.heap.size + 1 + 1 + 1 + 1 + 1, 0, none⟩ (.bool n3)).setCell ⟨w.heap.size + 1 + 1 + 1 + 1 + 1, 1, none⟩ (.slice a3' l3 c3) := ⟨_, rfl⟩
      rw [← hV3] at hr3 hq3 hQ3 hT4 hE3 ⊢
      clear hV3 t0 t1 t2 t3 q0 q1
      refine (add_z _ _ _ _ _ _ _ _ (M / n) (M / n) _ hq3 hq3 (hqb.fit (by omega)) (hqb.fit (by omega))).mono ?_
      rintro e w4 ⟨n4, a4, l4, c4, rfl, hz4, hb4⟩
      have hQ4 := hQ3.below hb4
      have q0 := hQ4.c0
      have q1 := hQ4.c1
      have q2 := hQ4.f0
      have q3 := hQ4.f1
      have hT5 := (hT4.below hb4).other2 (b := w.heap.size + 1 + 1 + 1 + 1) (by omega) (.bool n4) (.slice a4 l4 c4)
      have hE5 := (hE3.below hb4).set2 (k := w.heap.size + 1 + 1 + 1 + 1) (by omega) (.bool n4) (.slice a4 l4 c4)
      have hq5 := hz4.set2 hQ4.kind (by decide) (.bool n4) (.slice a4 l4 c4)
      have hr5 := (hr3.below hb4).set2 hQ4.kind (by decide) (.bool n4) (.slice a4 l4 c4)
      have hQ5 := hQ4.set (.bool n4) (.slice a4 l4 c4)
      have t0 := hT5.c0
      have t1 := hT5.c1
      have b0 := hE5.B.c0
      have b1 := hE5.B.c1
      clear hr3 hq3 hz4 hQ3 hQ4 hT4 hE3 hb4
      go_wp2_with fail
      obtain ⟨V4, hV4⟩ : ∃ V, V = (w4.setCell ⟨w.heap.size + 1 + 1 + 1 + 1, 0, none⟩ (.bool n4)).setCell ⟨w.heap.size + 1 + 1 + 1 + 1, 1, none⟩ (.slice a4 l4 c4) := ⟨_, rfl⟩
      rw [← hV4] at hr5 hq5 hQ5 hT5 hE5 t0 t1 b0 b1 ⊢
      clear hV4 q0 q1 q2 q3
      have hF : Bits (K + 3) (M % n + M % n + b) := ((hmb.add hmb).mono (show K + 1 ≤ K + 2 by omega)).add f2
      refine (cmp_z _ _ _ _ _ _ _ _ (M % n + M % n + b) n _ hr5 (hzb.below hE5.W) (hF.fit (by omega)) (hn.fit (by omega))).mono ?_
      rintro e w5 ⟨rfl, hb5⟩
      have hT6 := hT5.below hb5
      have hQ6 := hQ5.below hb5
      have hE6 := hE5.below hb5
      have hr6 := hr5.below hb5
      have hq6 := hq5.below hb5
      clear t0 t1 b0 b1 hT5 hQ5 hE5 hr5 hq5 hb5
      have t0 := hT6.c0
      have t1 := hT6.c1
      have t2 := hT6.f0
      have t3 := hT6.f1
      have b0 := hE6.B.c0
      have b1 := hE6.B.c1
      by_cases hge : n ≤ M % n + M % n + b
      · obtain ⟨e1, e2⟩ := long_more (M := M) h1 hbb.1 hbb.2 hge
        rw [← HBV3.out] at e1 e2
        have E1 := Lib.hid e1
        have E2 := Lib.hid e2
        have hc := (cmpI_ge _ _).2 hge
        clear e1 e2 hge
        go_wp2_with fail
        refine (sub_z _ _ _ _ _ _ _ _ (M % n + M % n + b) n _ hr6 (hzb.below hE6.W) (hF.fit (by omega)) (hn.fit (by omega))).mono ?_
        rintro e w7 ⟨n7, a7, l7, c7, rfl, hz7, hb7⟩
        clear t0 t1 t2 t3 b0 b1
        have hT7 := hT6.below hb7
        have t0 := hT7.c0
        have t1 := hT7.c1
        have t2 := hT7.f0
        have t3 := hT7.f1
        have hQ7 := (hQ6.below hb7).other2 (b := w.heap.size + 1 + 1 + 1 + 1 + 1) (by omega) (.bool n7) (.slice a7 l7 c7)
        have hE7 := (hE6.below hb7).set2 (k := w.heap.size + 1 + 1 + 1 + 1 + 1) (by omega) (.bool n7) (.slice a7 l7 c7)
        have hr7 := hz7.set2 hT7.kind (by decide) (.bool n7) (.slice a7 l7 c7)
        have hq7 := (hq6.below hb7).set2 hT7.kind (by decide) (.bool n7) (.slice a7 l7 c7)
        have hT8 := hT7.set (.bool n7) (.slice a7 l7 c7)
        clear hT6 hQ6 hE6 hr6 hq6 hz7
        go_wp2_with fail
        obtain ⟨V7, hV7⟩ : ∃ V, V = (w7.setCell ⟨w.heap.size + 1 + 1 + 1 + 1 + 1, 0, none⟩ (.bool n7)).setCell ⟨w.heap.size + 1 + 1 + 1 + 1 + 1, 1, none⟩ (.slice a7 l7 c7) := ⟨_, rfl⟩
        rw [← hV7] at hr7 hq7 hQ7 hT8 hE7 ⊢
        clear hV7 t0 t1 t2 t3 hT7 hb7
        have q0' := hQ7.drew.c0
        have q1' := hQ7.drew.c1
        go_region_with (first
            | (go_at_call 95; refine (ofu_any 1 _ (by omega) (by omega)).mono ?_; rintro e w8 ⟨n8, a8, l8, c8, rfl, hz8, hb8⟩; have p0 := (hQ7.drew.below hb8).c0; have p1 := (hQ7.drew.below hb8).c1)
            | (go_at_call 46; refine (add_z _ _ _ _ _ _ _ _ (M / n + M / n) 1 _ (hq7.drew.below hb8) hz8 ((hqb.add hqb).fit (by omega)) (Bits.fit (k := 1) (by unfold Bits; omega) (by omega))).mono ?_; rintro e w9 ⟨n9, a9, l9, c9, rfl, hz9, hb9⟩; have q := ((hQ7.drew.below hb8).below hb9); have q0 := q.c0; have q1 := q.c1; have q2 := q.f0; have q3 := q.f1))
        all_goals
          have hQf := q.set (.bool n9) (.slice a9 l9 c9)
          have hTf := ((hT8.drew.below hb8).below hb9).other2 (b := w.heap.size + 1 + 1 + 1 + 1) (by omega) (.bool n9) (.slice a9 l9 c9)
          have hEf := ((hE7.drew.below hb8).below hb9).set2 (k := w.heap.size + 1 + 1 + 1 + 1) (by omega) (.bool n9) (.slice a9 l9 c9)
          have hqf := hz9.set2 q.kind (by decide) (.bool n9) (.slice a9 l9 c9)
          have hrf := ((hr7.drew.below hb8).below hb9).set2 q.kind (by decide) (.bool n9) (.slice a9 l9 c9)
          rw [← E1.out] at hqf
          rw [← E2.out] at hrf
          clear q q0 q1 q2 q3 p0 p1 q0' q1' hr7 hq7 hQ7 hT8 hE7 hz8 hz9 hb8 hb9
          go_wp2_with fail
          go_roundw
          case rel => exact ⟨j, _, _, _, _, _, _, _, _, rfl, by omega, hqf, hrf, hEf, hQf, hTf⟩
          case measure => simp [intOf]
      · have hlt : M % n + M % n + b < n := by omega
        obtain ⟨e1, e2⟩ := long_less (M := M) h1 hbb.1 hlt
        rw [← HBV3.out] at e1 e2
        have E1 := Lib.hid e1
        have E2 := Lib.hid e2
        have hc : cmpI (M % n + M % n + b) n < 0 := by have := cmpI_ge (M % n + M % n + b) n; omega
        clear e1 e2 hge hlt
        rw [← E1.out] at hq6
        rw [← E2.out] at hr6
        go_wp2_with fail
        go_roundw
        case rel => exact ⟨j, _, _, _, _, _, _, _, _, rfl, by omega, hq6, hr6, hE6, hQ6, hT6⟩
        case measure => simp [intOf]
end Go.Proofs.Ytmkddcmfofabbaa
