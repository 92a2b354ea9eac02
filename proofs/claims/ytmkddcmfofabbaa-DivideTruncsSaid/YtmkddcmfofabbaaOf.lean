/-
  The reference's wide numbers: Of and Told of layer 2.
-/
import Derived.Test.YtmkddcmfofabbaaFitw
namespace Go.Proofs.Ytmkddcmfofabbaa
open Go Go.RowKit

theorem hi_P (n : Int) : hi n * P 64 + lo n = n := by rw [P64]; exact (hi_lo n).symm
theorem W128.bits {n : Int} (h : W128 n) : Bits 128 n := by unfold W128 at h; unfold Bits; omega
theorem I64.bits {n : Int} (h : I64 n) : Bits 64 n := by unfold I64 at h; unfold Bits; omega
theorem I64.w {n : Int} (h : I64 n) : W128 n := by unfold I64 at h; unfold W128; omega
set_option maxRecDepth 100000 in
set_option maxHeartbeats 1600000 in
theorem ofw (n : Int) (w : World) (hn : W128 n) : Calls Try.prog 35 #[.agg #[.int .i64 (hi n), .int .u64 (lo n)]] w (RetZ w n) := by
  obtain ⟨h0, h1⟩ := hi_bd hn
  obtain ⟨L0, L1⟩ := lo_bd n
  have bh : Bits 65 (hi n) := by unfold Bits; omega
  have bl : Bits 65 (lo n) := by unfold Bits; omega
  have bP := Bits.P 64
  have bm := bh.mul bP
  have HS := Lib.hid (hi_P n)
  go_enter Try.func35, Try.ntmps35
  go_wp2_with fail
  obtain ⟨W, hW⟩ : ∃ W, W = (w.alloc (.cells #[.int .i64 (hi n), .int .u64 (lo n)] 26)).alloc (.cells #[.bool false, .slice none 0 0] 37) := ⟨_, rfl⟩
  rw [← hW]
  have hA : Box2 W w.heap.size (.int .i64 (hi n)) (.int .u64 (lo n)) 26 := by rw [hW]; exact (Box2.new rfl).alloc _
  have hR : Box2 W (w.heap.size + 1) (.bool false) (.slice none 0 0) 37 := by rw [hW]; exact Box2.new (by simp)
  have xA : Ext w W := by rw [hW]; exact (Ext.refl w).alloc.alloc
  clear hW
  go_region_held3 (fun w' => w'.cell? ⟨w.heap.size, 0, none⟩ = some (.int .i64 (hi n)) ∧ w'.cell? ⟨w.heap.size, 1, none⟩ = some (.int .u64 (lo n)))
    (first
      | exact ⟨((((((hA.drew.ext x1).ext x2).ext x3).ext x4).ext x5).other2 (by omega) _ _).c0, ((((((hA.drew.ext x1).ext x2).ext x3).ext x4).ext x5).other2 (by omega) _ _).c1⟩
      | exact ⟨(((((hA.drew.ext x1).ext x2).ext x3).ext x4).ext x5).c0, (((((hA.drew.ext x1).ext x2).ext x3).ext x4).ext x5).c1⟩
      | exact ⟨((((hA.drew.ext x1).ext x2).ext x3).ext x4).c0, ((((hA.drew.ext x1).ext x2).ext x3).ext x4).c1⟩
      | exact ⟨(((hA.drew.ext x1).ext x2).ext x3).c0, (((hA.drew.ext x1).ext x2).ext x3).c1⟩
      | exact ⟨((hA.drew.ext x1).ext x2).c0, ((hA.drew.ext x1).ext x2).c1⟩
      | exact ⟨(hA.drew.ext x1).c0, (hA.drew.ext x1).c1⟩
      | exact ⟨hA.drew.c0, hA.drew.c1⟩)
    (first
      | (go_at_call 42; refine (of_any (hi n) _ h0 h1).mono ?_; rintro e w1 ⟨n1, a1, l1, c1, rfl, hz1, hb1⟩; have x1 : Ext _ w1 := hb1)
      | (go_at_call 94; refine (power64 _).mono ?_; rintro e w2 ⟨n2, a2, l2, c2, rfl, hz2, hb2⟩; have x2 : Ext _ w2 := hb2)
      | (go_at_call 41; refine (mul_z _ _ _ _ _ _ _ _ (hi n) (P 64) _ (hz1.ext x2) hz2 (bh.fit (by omega)) (bP.fit (by omega))).mono ?_; rintro e w3 ⟨n3, a3, l3, c3, rfl, hz3, hb3⟩; have x3 : Ext _ w3 := hb3)
      | (go_at_call 95; refine (ofu_any (lo n) _ L0 L1).mono ?_; rintro e w4 ⟨n4, a4, l4, c4, rfl, hz4, hb4⟩; have x4 : Ext _ w4 := hb4)
      | (go_at_call 46; refine (add_z _ _ _ _ _ _ _ _ (hi n * P 64) (lo n) _ (hz3.ext x4) hz4 (bm.fit (by omega)) (bl.fit (by omega))).mono ?_; rintro e w5 ⟨n5, a5, l5, c5, rfl, hz5, hb5⟩; have x5 : Ext _ w5 := hb5; have q := ((((hR.drew.ext x1).ext x2).ext x3).ext x4).ext x5; have q0 := q.c0; have q1 := q.c1; have q2 := q.f0; have q3 := q.f1))
  rw [HS.out] at hz5
  go_wp2_with fail
  refine bodyPost_ret (v := .agg #[.bool n5, .slice a5 l5 c5]) (by simp [results, Try.results35, go_sem, q0, q1]) rfl
    (isZ_end hz5 q.kind (Ext.trans (Ext.trans (Ext.trans (Ext.trans (Ext.trans xA.drew x1) x2) x3) x4) x5) (by omega) _ _)

set_option maxRecDepth 100000 in
set_option maxHeartbeats 1600000 in
theorem told_any (na : Bool) (aa : Option Addr) (la ca : Nat) (n : Int) (w : World) (hz : IsZ w na (.slice aa la ca) n) (hb : Bits 1000 n) :
    Calls Try.prog 44 #[.agg #[.bool na, .slice aa la ca]] w (RetT w n) := by
  have H := Lib.hid fitw_any
  have HB := Lib.hid hb
  clear hb
  by_cases hI : W128 n
  · go_enter Try.func44, Try.ntmps44
    go_wp2_with fail
    obtain ⟨W, hW⟩ : ∃ W, W = (w.alloc (.cells #[.bool na, .slice aa la ca] 37)).alloc (.cells #[.int .i64 0, .int .u64 0] 26) := ⟨_, rfl⟩
    rw [← hW]
    have hR : Box2 W (w.heap.size + 1) (.int .i64 0) (.int .u64 0) 26 := by rw [hW]; exact Box2.new (by simp)
    have xA : Ext w W := by rw [hW]; exact (Ext.refl w).alloc.alloc
    have sW : w.heap.size + 1 < W.heap.size := by rw [hW]; simp
    clear hW
    refine (H.out _ _ _ _ n _ (hz.ext xA) HB.out).mono ?_
    rintro e w1 ⟨rfl, x1⟩
    have s1 : w.heap.size + 1 < w1.heap.size := Nat.lt_of_lt_of_le sW x1.size
    rw [thi_yes hI, tlo_yes hI, decide_eq_true hI]
    have q := hR.ext x1
    have q0 := q.c0
    have q1 := q.c1
    have q2 := q.f0
    have q3 := q.f1
    go_wp2_with fail
    refine bodyPost_ret (v := .tuple #[.agg #[.int .i64 (hi n), .int .u64 (lo n)], .int .i64 0]) (by simp [results, Try.results44, go_sem, q0, q1, s1]) rfl (retT_yes hI rfl rfl (by repeat (first | exact Ext.refl _ | refine Ext.alloc ?_ | refine Ext.drew ?_ | refine Ext.drewN ?_ | refine Ext.set ?_ (Ext.size ?_) | refine Ext.set ?_ (Ext.size1 ?_) | refine Ext.set ?_ (Ext.size2 ?_) | refine Ext.trans ?_ (by assumption))))
  · go_enter Try.func44, Try.ntmps44
    go_wp2_with fail
    obtain ⟨W, hW⟩ : ∃ W, W = (w.alloc (.cells #[.bool na, .slice aa la ca] 37)).alloc (.cells #[.int .i64 0, .int .u64 0] 26) := ⟨_, rfl⟩
    rw [← hW]
    have hR : Box2 W (w.heap.size + 1) (.int .i64 0) (.int .u64 0) 26 := by rw [hW]; exact Box2.new (by simp)
    have xA : Ext w W := by rw [hW]; exact (Ext.refl w).alloc.alloc
    have sW : w.heap.size + 1 < W.heap.size := by rw [hW]; simp
    clear hW
    refine (H.out _ _ _ _ n _ (hz.ext xA) HB.out).mono ?_
    rintro e w1 ⟨rfl, x1⟩
    have s1 : w.heap.size + 1 < w1.heap.size := Nat.lt_of_lt_of_le sW x1.size
    rw [thi_no hI, tlo_no hI, decide_eq_false hI]
    have q := hR.ext x1
    have q0 := q.c0
    have q1 := q.c1
    have q2 := q.f0
    have q3 := q.f1
    go_wp2_with fail
    refine bodyPost_ret (v := .tuple #[.agg #[.int .i64 0, .int .u64 0], .int .i64 2]) (by simp [results, Try.results44, go_sem, q0, q1, s1]) rfl (retT_no hI (by repeat (first | exact Ext.refl _ | refine Ext.alloc ?_ | refine Ext.drew ?_ | refine Ext.drewN ?_ | refine Ext.set ?_ (Ext.size ?_) | refine Ext.set ?_ (Ext.size1 ?_) | refine Ext.set ?_ (Ext.size2 ?_) | refine Ext.trans ?_ (by assumption))))
end Go.Proofs.Ytmkddcmfofabbaa
