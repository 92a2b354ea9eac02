/-
  The law WideSums, walked.
-/
import Derived.Test.YtmkddcmfofabbaaLwProds
namespace Go.Proofs.Ytmkddcmfofabbaa
open Go Go.RowKit

set_option maxRecDepth 100000 in
set_option maxHeartbeats 3200000 in
theorem law_sums (m n : Int) (w : World) (hm : W128 m) (hn : W128 n) :
    Calls Try.prog 6 #[.agg #[.int .i64 (hi m), .int .u64 (lo m)], .agg #[.int .i64 (hi n), .int .u64 (lo n)]] w (fun e w' => e = .returned (.bool true) ∧ Ext w w') := by
  have H1 := Lib.hid wadd
  have H2 := Lib.hid wsub
  have H3 := Lib.hid wneg
  have H4 := Lib.hid add_z
  have H5 := Lib.hid sub_z
  have H6 := Lib.hid ofw
  have H7 := Lib.hid told_any
  have H8 := Lib.hid alive2
  have H9 := Lib.hid neg_any
  have fm : Fit m := hm.bits.fit (by omega)
  have fn : Fit n := hn.bits.fit (by omega)
  have b1 := Lib.hid ((hm.bits.add hn.bits).mono (show 129 ≤ 1000 by omega))
  have b2 := Lib.hid ((hm.bits.sub hn.bits).mono (show 129 ≤ 1000 by omega))
  have b3 := Lib.hid (hm.bits.neg.mono (show 128 ≤ 1000 by omega))
  go_enter Try.func6, Try.ntmps6
  go_wp2_with fail
  obtain ⟨W, hW⟩ : ∃ W, W = (w.alloc (.cells #[.int .i64 (hi m), .int .u64 (lo m)] 26)).alloc (.cells #[.int .i64 (hi n), .int .u64 (lo n)] 26) := ⟨_, rfl⟩
  rw [← hW]
  have hM : Box2 W w.heap.size (.int .i64 (hi m)) (.int .u64 (lo m)) 26 := by rw [hW]; exact (Box2.new rfl).alloc _
  have hN : Box2 W (w.heap.size + 1) (.int .i64 (hi n)) (.int .u64 (lo n)) 26 := by rw [hW]; exact Box2.new (by simp)
  have xw : Ext w W := by rw [hW]; exact (Ext.refl w).alloc.alloc
  clear hW
  refine (H1.out _ _ _ hm hn).mono ?_
  rintro e w1 ⟨rfl, x1⟩
  (first | replace xw := Ext.trans xw x1 | replace xw := Ext.trans (Ext.alloc xw) x1 | replace xw := Ext.trans (Ext.drew xw) x1 | replace xw := Ext.trans (Ext.alloc (Ext.drew xw)) x1); (first | replace hM := hM.ext x1 | replace hM := (hM.alloc _).ext x1 | replace hM := hM.drew.ext x1 | replace hM := (hM.drew.alloc _).ext x1); (first | replace hN := hN.ext x1 | replace hN := (hN.alloc _).ext x1 | replace hN := hN.drew.ext x1 | replace hN := (hN.drew.alloc _).ext x1)
  go_wp2_with fail
  have hA : Box2 (w1.alloc (.cells #[.int .i64 (thi (m + n)), .int .u64 (tlo (m + n))] 26)) w1.heap.size (.int .i64 (thi (m + n))) (.int .u64 (tlo (m + n))) 26 := Box2.new rfl
  obtain ⟨VA, hVA⟩ : ∃ V, V = w1.alloc (.cells #[.int .i64 (thi (m + n)), .int .u64 (tlo (m + n))] 26) := ⟨_, rfl⟩
  replace xw : Ext w VA := by rw [hVA]; exact Ext.alloc xw
  rw [← hVA] at hA ⊢
  replace hM := hM.named hVA
  replace hN := hN.named hVA
  clear hVA x1
  go_wp2_with fail
  go_cut [7, 8] (fun s r wx => ∃ (k : Nat), s = .pointer (some ⟨k, 0, none⟩) ∧ r = .int .i64 (ter (m + n)) ∧ Box2 wx k (.int .i64 (thi (m + n))) (.int .u64 (tlo (m + n))) 26 ∧ Ext VA wx)
  case first =>
    refine wp_region_noPanic ?_
    refine wp_region_held_drew (S := fun w' => Ext VA w') (by kernel_rfl) (Ext.refl VA).drew (fun hHeld => ?_)
    have c0 := fun w' (h : Ext VA w') => (hM.ext h).c0
    have c1 := fun w' (h : Ext VA w') => (hM.ext h).c1
    have c2 := fun w' (h : Ext VA w') => (hN.ext h).c0
    have c3 := fun w' (h : Ext VA w') => (hN.ext h).c1
    refine wpAnyH_take (i := 0) (v := .agg #[.int .i64 (hi m), .int .u64 (lo m)]) rfl (by kernel_rfl) (by kernel_rfl) (by kernel_rfl) (fun _ _ _ h => h) (Or.inl ⟨by rfl, fun w' h => (by go_simp)⟩) hHeld ?_
    refine wpAnyH_take (i := 2) (v := .agg #[.int .i64 (hi n), .int .u64 (lo n)]) rfl (by kernel_rfl) (by kernel_rfl) (by kernel_rfl) (fun _ _ _ h => h) (Or.inl ⟨by rfl, fun w' h => (by go_simp)⟩) hHeld ?_
    refine region1 (N := 12) (f0 := [0, 2]) (l := [(1, false), (3, false), (4, false), (5, false), (6, true), (7, true), (8, true)]) (T := [10, 11]) (iA := 9) (dA := 7) (oA := .cells #[.int .i64 0, .int .u64 0] 26) (fun _ _ _ _ _ h => h) (by kernel_rfl) (by kernel_rfl) rfl (by kernel_rfl) (by kernel_rfl)
      (fun K a w h => wpOp_of rfl fun K' hK => (by go_simp; exact hK _ _ h)) (by simp [Act.put]) (fun _ _ h x => h.trans x) hHeld ?_
    intro a1 v1 h1 y1; obtain ⟨s7, rfl⟩ := away1 h1; refine wpOp_of rfl fun K' hK => ?_; go_simp
    refine (H6.out _ _ hm).mono ?_
    rintro e w1 ⟨n1, a1, l1, c1, rfl, hz1, hb1⟩
    refine hK _ _ ⟨⟨hb1, rfl, slots1 rfl⟩, ?_⟩
    clear hK K'
    intro a1 v2 h1 y2; obtain ⟨s7, rfl⟩ := away1 h1; refine wpOp_of rfl fun K' hK => ?_; go_simp
    refine (H6.out _ _ hn).mono ?_
    rintro e w2 ⟨n2, a2, l2, c2, rfl, hz2, hb2⟩
    refine hK _ _ ⟨⟨hb2, rfl, slots1 rfl⟩, ?_⟩
    clear hK K'
    intro a1 v3 h1 y3; obtain ⟨s7, rfl⟩ := away1 h1; refine wpOp_of rfl fun K' hK => ?_; go_simp
    refine (H4.out _ _ _ _ _ _ _ _ m n _ (hz1.ext (y2.trans (Ext.trans hb2 y3))) (hz2.ext y3) fm fn).mono ?_
    rintro e w3 ⟨n3, a3, l3, c3, rfl, hz3, hb3⟩
    refine hK _ _ ⟨⟨hb3, rfl, slots1 rfl⟩, ?_⟩
    clear hK K'
    intro a1 v4 h1 y4; obtain ⟨s7, rfl⟩ := away1 h1; refine wpOp_of rfl fun K' hK => ?_; go_simp
    refine (H7.out _ _ _ _ (m + n) _ (hz3.ext y4) b1.out).mono ?_
    rintro e w4 ⟨rfl, hb4⟩
    refine hK _ _ ⟨⟨hb4, rfl, slots1 rfl⟩, ?_⟩
    clear hK K'
    have x5 : Ext VA w4 := Ext.trans (Ext.trans (Ext.trans (Ext.trans (Ext.trans (Ext.trans (Ext.trans (Ext.refl VA).drew y1) hb1) y2) hb2) y3) hb3) (y4.trans hb4)
    refine ⟨_, .tuple #[.agg #[.int .i64 (thi (m + n)), .int .u64 (tlo (m + n))], .int .i64 (ter (m + n))], rfl, Or.inl ⟨by rfl, fun w' h => (by go_simp)⟩, by simp, ?_⟩
    refine ⟨_, .agg #[.int .i64 (thi (m + n)), .int .u64 (tlo (m + n))], rfl, Or.inl ⟨by rfl, fun w' h => (by go_simp)⟩, by simp, ?_⟩
    refine ⟨_, .int .i64 (ter (m + n)), rfl, Or.inl ⟨by rfl, fun w' h => (by go_simp)⟩, by simp, ?_⟩
    intro a' w' h y
    obtain ⟨s6, rfl⟩ := away1 h
    rintro k ⟨hk1, hk2, hk3⟩ hS'
    simp [Act.put] at hk2
    subst hk2
    have hkb : Box2 w' k (.int .i64 0) (.int .u64 0) 26 := hk3
    have k0 := hkb.c0
    have k1 := hkb.c1
    have k2 := hkb.f0
    have k3 := hkb.f1
    have hBq := hkb.set (.int .i64 (thi (m + n))) (.int .u64 (tlo (m + n)))
    have hSq : Ext VA ((w'.setCell ⟨k, 0, none⟩ (.int .i64 (thi (m + n)))).setCell ⟨k, 1, none⟩ (.int .u64 (tlo (m + n)))) := (hS'.set hk1).set hk1
    refine wpOp_of rfl fun K' hK => ?_
    go_simp
    refine hK _ _ ⟨hSq, ?_⟩
    clear hK K'
    refine wpOp_of rfl fun K' hK => ?_
    go_simp
    refine hK _ _ ⟨hSq, ?_⟩
    clear hK K'
    refine NoPanic.normal ?_
    go_wp2_with fail
    go_meet
    exact ⟨k, rfl, rfl, hBq, hSq⟩
  case rest =>
    obtain ⟨k7, rfl, rfl, hB, x2⟩ := hcut
    (first | replace xw := Ext.trans xw x2 | replace xw := Ext.trans (Ext.alloc xw) x2 | replace xw := Ext.trans (Ext.drew xw) x2 | replace xw := Ext.trans (Ext.alloc (Ext.drew xw)) x2); (first | replace hM := hM.ext x2 | replace hM := (hM.alloc _).ext x2 | replace hM := hM.drew.ext x2 | replace hM := (hM.drew.alloc _).ext x2); (first | replace hN := hN.ext x2 | replace hN := (hN.alloc _).ext x2 | replace hN := hN.drew.ext x2 | replace hN := (hN.drew.alloc _).ext x2); (first | replace hA := hA.ext x2 | replace hA := (hA.alloc _).ext x2 | replace hA := hA.drew.ext x2 | replace hA := (hA.drew.alloc _).ext x2)
    clear x2
    have hM_0 := hM.c0; have hM_1 := hM.c1; have hN_0 := hN.c0; have hN_1 := hN.c1
    go_wp2_with fail
    refine (H2.out _ _ _ hm hn).mono ?_
    rintro e w3 ⟨rfl, x3⟩
    clear hM_0 hM_1 hN_0 hN_1
    (first | replace xw := Ext.trans xw x3 | replace xw := Ext.trans (Ext.alloc xw) x3 | replace xw := Ext.trans (Ext.drew xw) x3 | replace xw := Ext.trans (Ext.alloc (Ext.drew xw)) x3); (first | replace hM := hM.ext x3 | replace hM := (hM.alloc _).ext x3 | replace hM := hM.drew.ext x3 | replace hM := (hM.drew.alloc _).ext x3); (first | replace hN := hN.ext x3 | replace hN := (hN.alloc _).ext x3 | replace hN := hN.drew.ext x3 | replace hN := (hN.drew.alloc _).ext x3); (first | replace hA := hA.ext x3 | replace hA := (hA.alloc _).ext x3 | replace hA := hA.drew.ext x3 | replace hA := (hA.drew.alloc _).ext x3); (first | replace hB := hB.ext x3 | replace hB := (hB.alloc _).ext x3 | replace hB := hB.drew.ext x3 | replace hB := (hB.drew.alloc _).ext x3)
    go_wp2_with fail
    have hC : Box2 (w3.alloc (.cells #[.int .i64 (thi (m - n)), .int .u64 (tlo (m - n))] 26)) w3.heap.size (.int .i64 (thi (m - n))) (.int .u64 (tlo (m - n))) 26 := Box2.new rfl
    obtain ⟨VC, hVC⟩ : ∃ V, V = w3.alloc (.cells #[.int .i64 (thi (m - n)), .int .u64 (tlo (m - n))] 26) := ⟨_, rfl⟩
    replace xw : Ext w VC := by rw [hVC]; exact Ext.alloc xw
    rw [← hVC] at hC ⊢
    replace hM := hM.named hVC
    replace hN := hN.named hVC
    replace hA := hA.named hVC
    replace hB := hB.named hVC
    clear hVC x3
    go_wp2_with fail
    go_cut [11, 12] (fun s r wx => ∃ (k : Nat), s = .pointer (some ⟨k, 0, none⟩) ∧ r = .int .i64 (ter (m - n)) ∧ Box2 wx k (.int .i64 (thi (m - n))) (.int .u64 (tlo (m - n))) 26 ∧ Ext VC wx)
    case first =>
      refine wp_region_noPanic ?_
      refine wp_region_held_drew (S := fun w' => Ext VC w') (by kernel_rfl) (Ext.refl VC).drew (fun hHeld => ?_)
      have c0 := fun w' (h : Ext VC w') => (hM.ext h).c0
      have c1 := fun w' (h : Ext VC w') => (hM.ext h).c1
      have c2 := fun w' (h : Ext VC w') => (hN.ext h).c0
      have c3 := fun w' (h : Ext VC w') => (hN.ext h).c1
      refine wpAnyH_take (i := 0) (v := .agg #[.int .i64 (hi m), .int .u64 (lo m)]) rfl (by kernel_rfl) (by kernel_rfl) (by kernel_rfl) (fun _ _ _ h => h) (Or.inl ⟨by rfl, fun w' h => (by go_simp)⟩) hHeld ?_
      refine wpAnyH_take (i := 2) (v := .agg #[.int .i64 (hi n), .int .u64 (lo n)]) rfl (by kernel_rfl) (by kernel_rfl) (by kernel_rfl) (fun _ _ _ h => h) (Or.inl ⟨by rfl, fun w' h => (by go_simp)⟩) hHeld ?_
      refine region1 (N := 12) (f0 := [0, 2]) (l := [(1, false), (3, false), (4, false), (5, false), (6, true), (7, true), (8, true)]) (T := [10, 11]) (iA := 9) (dA := 11) (oA := .cells #[.int .i64 0, .int .u64 0] 26) (fun _ _ _ _ _ h => h) (by kernel_rfl) (by kernel_rfl) rfl (by kernel_rfl) (by kernel_rfl)
        (fun K a w h => wpOp_of rfl fun K' hK => (by go_simp; exact hK _ _ h)) (by simp [Act.put]) (fun _ _ h x => h.trans x) hHeld ?_
      intro a1 v1 h1 y1; obtain ⟨s11, rfl⟩ := away1 h1; refine wpOp_of rfl fun K' hK => ?_; go_simp
      refine (H6.out _ _ hm).mono ?_
      rintro e w1 ⟨n1, a1, l1, c1, rfl, hz1, hb1⟩
      refine hK _ _ ⟨⟨hb1, rfl, slots1 rfl⟩, ?_⟩
      clear hK K'
      intro a1 v2 h1 y2; obtain ⟨s11, rfl⟩ := away1 h1; refine wpOp_of rfl fun K' hK => ?_; go_simp
      refine (H6.out _ _ hn).mono ?_
      rintro e w2 ⟨n2, a2, l2, c2, rfl, hz2, hb2⟩
      refine hK _ _ ⟨⟨hb2, rfl, slots1 rfl⟩, ?_⟩
      clear hK K'
      intro a1 v3 h1 y3; obtain ⟨s11, rfl⟩ := away1 h1; refine wpOp_of rfl fun K' hK => ?_; go_simp
      refine (H5.out _ _ _ _ _ _ _ _ m n _ (hz1.ext (y2.trans (Ext.trans hb2 y3))) (hz2.ext y3) fm fn).mono ?_
      rintro e w3 ⟨n3, a3, l3, c3, rfl, hz3, hb3⟩
      refine hK _ _ ⟨⟨hb3, rfl, slots1 rfl⟩, ?_⟩
      clear hK K'
      intro a1 v4 h1 y4; obtain ⟨s11, rfl⟩ := away1 h1; refine wpOp_of rfl fun K' hK => ?_; go_simp
      refine (H7.out _ _ _ _ (m - n) _ (hz3.ext y4) b2.out).mono ?_
      rintro e w4 ⟨rfl, hb4⟩
      refine hK _ _ ⟨⟨hb4, rfl, slots1 rfl⟩, ?_⟩
      clear hK K'
      have x5 : Ext VC w4 := Ext.trans (Ext.trans (Ext.trans (Ext.trans (Ext.trans (Ext.trans (Ext.trans (Ext.refl VC).drew y1) hb1) y2) hb2) y3) hb3) (y4.trans hb4)
      refine ⟨_, .tuple #[.agg #[.int .i64 (thi (m - n)), .int .u64 (tlo (m - n))], .int .i64 (ter (m - n))], rfl, Or.inl ⟨by rfl, fun w' h => (by go_simp)⟩, by simp, ?_⟩
      refine ⟨_, .agg #[.int .i64 (thi (m - n)), .int .u64 (tlo (m - n))], rfl, Or.inl ⟨by rfl, fun w' h => (by go_simp)⟩, by simp, ?_⟩
      refine ⟨_, .int .i64 (ter (m - n)), rfl, Or.inl ⟨by rfl, fun w' h => (by go_simp)⟩, by simp, ?_⟩
      intro a' w' h y
      obtain ⟨s6, rfl⟩ := away1 h
      rintro k ⟨hk1, hk2, hk3⟩ hS'
      simp [Act.put] at hk2
      subst hk2
      have hkb : Box2 w' k (.int .i64 0) (.int .u64 0) 26 := hk3
      have k0 := hkb.c0
      have k1 := hkb.c1
      have k2 := hkb.f0
      have k3 := hkb.f1
      have hBq := hkb.set (.int .i64 (thi (m - n))) (.int .u64 (tlo (m - n)))
      have hSq : Ext VC ((w'.setCell ⟨k, 0, none⟩ (.int .i64 (thi (m - n)))).setCell ⟨k, 1, none⟩ (.int .u64 (tlo (m - n)))) := (hS'.set hk1).set hk1
      refine wpOp_of rfl fun K' hK => ?_
      go_simp
      refine hK _ _ ⟨hSq, ?_⟩
      clear hK K'
      refine wpOp_of rfl fun K' hK => ?_
      go_simp
      refine hK _ _ ⟨hSq, ?_⟩
      clear hK K'
      refine NoPanic.normal ?_
      go_wp2_with fail
      go_meet
      exact ⟨k, rfl, rfl, hBq, hSq⟩
    case rest =>
      obtain ⟨k11, rfl, rfl, hD, x4⟩ := hcut
      (first | replace xw := Ext.trans xw x4 | replace xw := Ext.trans (Ext.alloc xw) x4 | replace xw := Ext.trans (Ext.drew xw) x4 | replace xw := Ext.trans (Ext.alloc (Ext.drew xw)) x4); (first | replace hM := hM.ext x4 | replace hM := (hM.alloc _).ext x4 | replace hM := hM.drew.ext x4 | replace hM := (hM.drew.alloc _).ext x4); (first | replace hN := hN.ext x4 | replace hN := (hN.alloc _).ext x4 | replace hN := hN.drew.ext x4 | replace hN := (hN.drew.alloc _).ext x4); (first | replace hA := hA.ext x4 | replace hA := (hA.alloc _).ext x4 | replace hA := hA.drew.ext x4 | replace hA := (hA.drew.alloc _).ext x4); (first | replace hB := hB.ext x4 | replace hB := (hB.alloc _).ext x4 | replace hB := hB.drew.ext x4 | replace hB := (hB.drew.alloc _).ext x4); (first | replace hC := hC.ext x4 | replace hC := (hC.alloc _).ext x4 | replace hC := hC.drew.ext x4 | replace hC := (hC.drew.alloc _).ext x4)
      clear x4
      have hM_0 := hM.c0; have hM_1 := hM.c1
      go_wp2_with fail
      refine (H3.out _ _ hm).mono ?_
      rintro e w5 ⟨rfl, x5⟩
      clear hM_0 hM_1
      (first | replace xw := Ext.trans xw x5 | replace xw := Ext.trans (Ext.alloc xw) x5 | replace xw := Ext.trans (Ext.drew xw) x5 | replace xw := Ext.trans (Ext.alloc (Ext.drew xw)) x5); (first | replace hM := hM.ext x5 | replace hM := (hM.alloc _).ext x5 | replace hM := hM.drew.ext x5 | replace hM := (hM.drew.alloc _).ext x5); (first | replace hA := hA.ext x5 | replace hA := (hA.alloc _).ext x5 | replace hA := hA.drew.ext x5 | replace hA := (hA.drew.alloc _).ext x5); (first | replace hB := hB.ext x5 | replace hB := (hB.alloc _).ext x5 | replace hB := hB.drew.ext x5 | replace hB := (hB.drew.alloc _).ext x5); (first | replace hC := hC.ext x5 | replace hC := (hC.alloc _).ext x5 | replace hC := hC.drew.ext x5 | replace hC := (hC.drew.alloc _).ext x5); (first | replace hD := hD.ext x5 | replace hD := (hD.alloc _).ext x5 | replace hD := hD.drew.ext x5 | replace hD := (hD.drew.alloc _).ext x5)
      have hL := hM.alloc (.cells #[.int .i64 (thi (-m)), .int .u64 (tlo (-m))] 26)
      have hL_0 := hL.c0; have hL_1 := hL.c1
      go_wp2_with fail
      clear hL_0 hL_1
      clear hL
      have hE : Box2 (w5.alloc (.cells #[.int .i64 (thi (-m)), .int .u64 (tlo (-m))] 26)) w5.heap.size (.int .i64 (thi (-m))) (.int .u64 (tlo (-m))) 26 := Box2.new rfl
      obtain ⟨VE, hVE⟩ : ∃ V, V = w5.alloc (.cells #[.int .i64 (thi (-m)), .int .u64 (tlo (-m))] 26) := ⟨_, rfl⟩
      replace xw : Ext w VE := by rw [hVE]; exact Ext.alloc xw
      rw [← hVE] at hE ⊢
      replace hM := hM.named hVE
      replace hA := hA.named hVE
      replace hB := hB.named hVE
      replace hC := hC.named hVE
      replace hD := hD.named hVE
      clear hVE x5
      refine (H6.out _ _ hm).mono ?_
      rintro e w6 ⟨n6, a6, l6, c6, rfl, hz6, x6⟩
      replace x6 : Ext _ w6 := x6
      (first | replace xw := Ext.trans xw x6 | replace xw := Ext.trans (Ext.alloc xw) x6 | replace xw := Ext.trans (Ext.drew xw) x6 | replace xw := Ext.trans (Ext.alloc (Ext.drew xw)) x6); (first | replace hA := hA.ext x6 | replace hA := (hA.alloc _).ext x6 | replace hA := hA.drew.ext x6 | replace hA := (hA.drew.alloc _).ext x6); (first | replace hB := hB.ext x6 | replace hB := (hB.alloc _).ext x6 | replace hB := hB.drew.ext x6 | replace hB := (hB.drew.alloc _).ext x6); (first | replace hC := hC.ext x6 | replace hC := (hC.alloc _).ext x6 | replace hC := hC.drew.ext x6 | replace hC := (hC.drew.alloc _).ext x6); (first | replace hD := hD.ext x6 | replace hD := (hD.alloc _).ext x6 | replace hD := hD.drew.ext x6 | replace hD := (hD.drew.alloc _).ext x6); (first | replace hE := hE.ext x6 | replace hE := (hE.alloc _).ext x6 | replace hE := hE.drew.ext x6 | replace hE := (hE.drew.alloc _).ext x6)
      go_wp2_with fail
      refine (H9.out _ _ _ _ m _ hz6 fm).mono ?_
      rintro e w7 ⟨n7, a7, l7, c7, rfl, hz7, x7⟩
      replace x7 : Ext _ w7 := x7
      (first | replace xw := Ext.trans xw x7 | replace xw := Ext.trans (Ext.alloc xw) x7 | replace xw := Ext.trans (Ext.drew xw) x7 | replace xw := Ext.trans (Ext.alloc (Ext.drew xw)) x7); (first | replace hA := hA.ext x7 | replace hA := (hA.alloc _).ext x7 | replace hA := hA.drew.ext x7 | replace hA := (hA.drew.alloc _).ext x7); (first | replace hB := hB.ext x7 | replace hB := (hB.alloc _).ext x7 | replace hB := hB.drew.ext x7 | replace hB := (hB.drew.alloc _).ext x7); (first | replace hC := hC.ext x7 | replace hC := (hC.alloc _).ext x7 | replace hC := hC.drew.ext x7 | replace hC := (hC.drew.alloc _).ext x7); (first | replace hD := hD.ext x7 | replace hD := (hD.alloc _).ext x7 | replace hD := hD.drew.ext x7 | replace hD := (hD.drew.alloc _).ext x7); (first | replace hE := hE.ext x7 | replace hE := (hE.alloc _).ext x7 | replace hE := hE.drew.ext x7 | replace hE := (hE.drew.alloc _).ext x7)
      go_wp2_with fail
      refine (H7.out _ _ _ _ (-m) _ hz7 b3.out).mono ?_
      rintro e w8 ⟨rfl, x8⟩
      (first | replace xw := Ext.trans xw x8 | replace xw := Ext.trans (Ext.alloc xw) x8 | replace xw := Ext.trans (Ext.drew xw) x8 | replace xw := Ext.trans (Ext.alloc (Ext.drew xw)) x8); (first | replace hA := hA.ext x8 | replace hA := (hA.alloc _).ext x8 | replace hA := hA.drew.ext x8 | replace hA := (hA.drew.alloc _).ext x8); (first | replace hB := hB.ext x8 | replace hB := (hB.alloc _).ext x8 | replace hB := hB.drew.ext x8 | replace hB := (hB.drew.alloc _).ext x8); (first | replace hC := hC.ext x8 | replace hC := (hC.alloc _).ext x8 | replace hC := hC.drew.ext x8 | replace hC := (hC.drew.alloc _).ext x8); (first | replace hD := hD.ext x8 | replace hD := (hD.alloc _).ext x8 | replace hD := hD.drew.ext x8 | replace hD := (hD.drew.alloc _).ext x8); (first | replace hE := hE.ext x8 | replace hE := (hE.alloc _).ext x8 | replace hE := hE.drew.ext x8 | replace hE := (hE.drew.alloc _).ext x8)
      clear hz6 hz7 x6 x7 x8
      go_wp2_with fail
      have hF : Box2 (w8.alloc (.cells #[.int .i64 (thi (-m)), .int .u64 (tlo (-m))] 26)) w8.heap.size (.int .i64 (thi (-m))) (.int .u64 (tlo (-m))) 26 := Box2.new rfl
      obtain ⟨VF, hVF⟩ : ∃ V, V = w8.alloc (.cells #[.int .i64 (thi (-m)), .int .u64 (tlo (-m))] 26) := ⟨_, rfl⟩
      replace xw : Ext w VF := by rw [hVF]; exact Ext.alloc xw
      rw [← hVF] at hF ⊢
      replace hA := hA.named hVF
      replace hB := hB.named hVF
      replace hC := hC.named hVF
      replace hD := hD.named hVF
      replace hE := hE.named hVF
      clear hVF
      refine (H8.out _).mono ?_
      rintro e w9 ⟨rfl, x9⟩
      (first | replace xw := Ext.trans xw x9 | replace xw := Ext.trans (Ext.alloc xw) x9 | replace xw := Ext.trans (Ext.drew xw) x9 | replace xw := Ext.trans (Ext.alloc (Ext.drew xw)) x9); (first | replace hA := hA.ext x9 | replace hA := (hA.alloc _).ext x9 | replace hA := hA.drew.ext x9 | replace hA := (hA.drew.alloc _).ext x9); (first | replace hB := hB.ext x9 | replace hB := (hB.alloc _).ext x9 | replace hB := hB.drew.ext x9 | replace hB := (hB.drew.alloc _).ext x9); (first | replace hC := hC.ext x9 | replace hC := (hC.alloc _).ext x9 | replace hC := hC.drew.ext x9 | replace hC := (hC.drew.alloc _).ext x9); (first | replace hD := hD.ext x9 | replace hD := (hD.alloc _).ext x9 | replace hD := hD.drew.ext x9 | replace hD := (hD.drew.alloc _).ext x9); (first | replace hE := hE.ext x9 | replace hE := (hE.alloc _).ext x9 | replace hE := hE.drew.ext x9 | replace hE := (hE.drew.alloc _).ext x9); (first | replace hF := hF.ext x9 | replace hF := (hF.alloc _).ext x9 | replace hF := hF.drew.ext x9 | replace hF := (hF.drew.alloc _).ext x9)
      have hA_0 := hA.c0; have hA_1 := hA.c1; have hB_0 := hB.c0; have hB_1 := hB.c1; have hC_0 := hC.c0; have hC_1 := hC.c1; have hD_0 := hD.c0; have hD_1 := hD.c1; have hE_0 := hE.c0; have hE_1 := hE.c1; have hF_0 := hF.c0; have hF_1 := hF.c1
      go_wp2_with fail
      go_ret
      exact ⟨rfl, xw⟩
end Go.Proofs.Ytmkddcmfofabbaa
