/-
  divide.Floor.
-/
import Derived.Test.YtmkddcmfofabbaaDvb
import Derived.Test.YtmkddcmfofabbaaChainx
namespace Go.Proofs.Ytmkddcmfofabbaa
open Go Go.RowKit

theorem tdm {a b : Int} (hb : b ≠ 0) : a = b * a.tdiv b + a.tmod b ∧ (a.tmod b).natAbs < b.natAbs ∧ (a.tmod b).natAbs ≤ a.natAbs := by
  have h1 := Int.mul_tdiv_add_tmod a b
  have h2 := Int.natAbs_tmod a b
  have h3 := Nat.mod_lt a.natAbs (show 0 < b.natAbs by omega)
  have h4 := Nat.mod_le a.natAbs b.natAbs
  refine ⟨h1.symm, by omega, by omega⟩
theorem floor_same {a b : Int} (hb : b ≠ 0) (h : a.tmod b = 0 ∨ (a.tmod b < 0 ↔ b < 0)) : a.fdiv b = a.tdiv b ∧ a.fmod b = a.tmod b := by
  obtain ⟨h1, h2, h3⟩ := tdm (a := a) hb
  generalize a.tdiv b = q at *
  generalize a.tmod b = r at *
  by_cases h0 : 0 < b
  · exact fdiv_fmod_pos h0 h1 (by omega) (by omega)
  · exact fdiv_fmod_neg (by omega) h1 (by omega) (by omega)
theorem floor_less {a b : Int} (hb : b ≠ 0) (h0 : a.tmod b ≠ 0) (h : ¬ (a.tmod b < 0 ↔ b < 0)) : a.fdiv b = a.tdiv b - 1 ∧ a.fmod b = a.tmod b + b := by
  obtain ⟨h1, h2, h3⟩ := tdm (a := a) hb
  generalize a.tdiv b = q at *
  generalize a.tmod b = r at *
  have e : a = b * (q - 1) + (r + b) := by rw [Int.mul_sub, h1]; omega
  by_cases h0 : 0 < b
  · exact fdiv_fmod_pos h0 e (by omega) (by omega)
  · exact fdiv_fmod_neg (by omega) e (by omega) (by omega)
theorem tdiv_nat {a b : Int} : (a.tdiv b).natAbs = a.natAbs / b.natAbs := Int.natAbs_tdiv a b
theorem trunc_room {a b : Int} (ha : W128 a) (hb : b ≠ 0) (h : ¬ W128 (a.tdiv b)) : a.tmod b = 0 := by
  obtain ⟨h1, h2, h3⟩ := tdm (a := a) hb
  have e := tdiv_nat (a := a) (b := b)
  by_cases hb1 : b.natAbs = 1
  · omega
  · exfalso
    have : a.natAbs / b.natAbs ≤ a.natAbs / 2 := Nat.div_le_div_left (by omega) (by omega)
    unfold W128 at *
    omega
theorem floor_room {a b : Int} (ha : W128 a) (hb : b ≠ 0) (h0 : a.tmod b ≠ 0) : W128 (a.tdiv b - 1) := by
  obtain ⟨h1, h2, h3⟩ := tdm (a := a) hb
  have e := tdiv_nat (a := a) (b := b)
  have : a.natAbs / b.natAbs ≤ a.natAbs / 2 := Nat.div_le_div_left (by omega) (by omega)
  unfold W128 at *
  omega

def Trunc3 (a b : Int) : Prop := ∀ w, Calls Try.prog 59 #[.agg #[.int .i64 (hi a), .int .u64 (lo a)], .agg #[.int .i64 (hi b), .int .u64 (lo b)]] w (RetQ w (a.tdiv b) (a.tmod b))
set_option maxRecDepth 100000 in
set_option maxHeartbeats 3200000 in
theorem dfloor (a b : Int) (w : World) (ha : W128 a) (hb : W128 b) (h0 : b ≠ 0) (ho : Trunc3 a b) :
    Calls Try.prog 56 #[.agg #[.int .i64 (hi a), .int .u64 (lo a)], .agg #[.int .i64 (hi b), .int .u64 (lo b)]] w (RetQ w (a.fdiv b) (a.fmod b)) := by
  have H1 := Lib.hid ho
  have H2 := Lib.hid of_pure
  have H3 := Lib.hid wsub
  have H4 := Lib.hid wadd
  clear ho
  by_cases hq : W128 (a.tdiv b)
  · by_cases hr : a.tmod b = 0
    · obtain ⟨e1, e2⟩ := floor_same (a := a) h0 (Or.inl hr)
      rw [e1, e2]
      have HR := Lib.hid (show hi (a.tmod b) = 0 ∧ lo (a.tmod b) = 0 by rw [hr]; exact ⟨rfl, rfl⟩)
      have g1 : (hi (a.tmod b) == 0) = true := by rw [HR.out.1]; rfl
      have g2 : (lo (a.tmod b) == 0) = true := by rw [HR.out.2]; rfl
      clear e1 e2 hr
      go_enter Try.func56, Try.ntmps56
      go_wp2_with fail
      obtain ⟨W, hW⟩ : ∃ W, W = (((w.alloc (.cells #[.int .i64 (hi a), .int .u64 (lo a)] 26)).alloc (.cells #[.int .i64 (hi b), .int .u64 (lo b)] 26)).alloc (.cells #[.int .i64 0, .int .u64 0] 26)).alloc (.cells #[.int .i64 0, .int .u64 0] 26) := ⟨_, rfl⟩
      rw [← hW]
      have hB : Box2 W (w.heap.size + 1) (.int .i64 (hi b)) (.int .u64 (lo b)) 26 := by rw [hW]; exact ((Box2.new (by simp)).alloc _).alloc _
      have hR : Box2 W (w.heap.size + 1 + 1) (.int .i64 0) (.int .u64 0) 26 := by rw [hW]; exact (Box2.new (by simp)).alloc _
      have hS : Box2 W (w.heap.size + 1 + 1 + 1) (.int .i64 0) (.int .u64 0) 26 := by rw [hW]; exact Box2.new (by simp)
      have xw : Ext w W := by rw [hW]; exact (Ext.refl w).alloc.alloc.alloc.alloc
      clear hW
      refine (H1.out _).mono ?_
      rintro e w1 ⟨rfl, x1⟩
      (first | replace xw := Ext.trans xw x1 | replace xw := Ext.trans (Ext.alloc xw) x1 | replace xw := Ext.trans (Ext.drew xw) x1 | replace xw := Ext.trans (Ext.alloc (Ext.drew xw)) x1); (first | replace hB := hB.ext x1 | replace hB := (hB.alloc _).ext x1 | replace hB := hB.drew.ext x1 | replace hB := (hB.drew.alloc _).ext x1); (first | replace hR := hR.ext x1 | replace hR := (hR.alloc _).ext x1 | replace hR := hR.drew.ext x1 | replace hR := (hR.drew.alloc _).ext x1); (first | replace hS := hS.ext x1 | replace hS := (hS.alloc _).ext x1 | replace hS := hS.drew.ext x1 | replace hS := (hS.drew.alloc _).ext x1)
      have y1 := hS.kind.lt
      rw [thi_yes hq, tlo_yes hq, ter_yes hq, show qh (a.tdiv b) (a.tmod b) = hi (a.tmod b) from if_pos hq, show ql (a.tdiv b) (a.tmod b) = lo (a.tmod b) from if_pos hq]
      obtain ⟨V, hV⟩ : ∃ V, V = (w1.alloc (.cells #[.int .i64 (hi (a.tdiv b)), .int .u64 (lo (a.tdiv b))] 26)).alloc (.cells #[.int .i64 (hi (a.tmod b)), .int .u64 (lo (a.tmod b))] 26) := ⟨_, rfl⟩
      have hP : Box2 V w1.heap.size (.int .i64 (hi (a.tdiv b))) (.int .u64 (lo (a.tdiv b))) 26 := by rw [hV]; exact (Box2.new rfl).alloc _
      have hQ : Box2 V (w1.heap.size + 1) (.int .i64 (hi (a.tmod b))) (.int .u64 (lo (a.tmod b))) 26 := by rw [hV]; exact Box2.new (by simp)
      replace hB := hB.named2 hV
      replace hR := hR.named2 hV
      replace hS := hS.named2 hV
      replace xw : Ext w V := by rw [hV]; exact Ext.alloc (Ext.alloc xw)
      have kB := hB
      rw [hV] at kB
      have kQ := hQ
      rw [hV] at kQ
      have kB_0 := kB.c0; have kB_1 := kB.c1; have kQ_0 := kQ.c0; have kQ_1 := kQ.c1
      go_wp2_with fail
      rw [← hV]
      clear kB_0 kB_1 kQ_0 kQ_1
      clear kB kQ hV
      have n1 : ¬ w1.heap.size = w.heap.size + 1 + 1 := by omega
      have n2 : ¬ w1.heap.size = w.heap.size + 1 + 1 + 1 := by omega
      have n3 : ¬ w1.heap.size + 1 = w.heap.size + 1 + 1 := by omega
      have n4 : ¬ w1.heap.size + 1 = w.heap.size + 1 + 1 + 1 := by omega
      have n5 : ¬ w.heap.size + 1 + 1 = w1.heap.size := by omega
      have n6 : ¬ w.heap.size + 1 + 1 + 1 = w1.heap.size := by omega
      have n7 : ¬ w.heap.size + 1 = w1.heap.size := by omega
      have n8 : ¬ w.heap.size + 1 + 1 = w1.heap.size + 1 := by omega
      have n9 : ¬ w1.heap.size = w.heap.size + 1 := by omega
      have hP_0 := hP.c0; have hP_1 := hP.c1; have hQ_0 := hQ.c0; have hQ_1 := hQ.c1; have hR_0 := hR.c0; have hR_1 := hR.c1; have hS_0 := hS.c0; have hS_1 := hS.c1
      have hR_2 := hR.f0; have hR_3 := hR.f1; have hS_2 := hS.f0; have hS_3 := hS.f1
      go_region
      go_wp2_with fail
      refine bodyPost_ret (v := .tuple #[.agg #[.int .i64 (hi (a.tdiv b)), .int .u64 (lo (a.tdiv b))], .agg #[.int .i64 (hi (a.tmod b)), .int .u64 (lo (a.tmod b))], .int .i64 0]) (by simp [results, Try.results56, go_sem, hR_0, hR_1, hS_0, hS_1]) rfl (retQ_yes hq ?_)
      exact Ext.drew (Ext.set (Ext.set (Ext.set (Ext.set xw (by omega)) (by omega)) (by omega)) (by omega))
    · by_cases hs : a.tmod b < 0 ↔ b < 0
      · obtain ⟨e1, e2⟩ := floor_same (a := a) h0 (Or.inr hs)
        rw [e1, e2]
        have hsg : (decide (hi (a.tmod b) < 0) == decide (hi b < 0)) = true := by
          simp only [beq_iff_eq, decide_eq_decide, hi_neg]; exact hs
        clear e1 e2
        by_cases hz : hi (a.tmod b) = 0
        · have g1 : (hi (a.tmod b) == 0) = true := by simpa using hz
          have g2 : (lo (a.tmod b) == 0) = false := by
            simp only [beq_eq_false_iff_ne, ne_eq]; intro h; apply hr; rw [hi_lo (a.tmod b), hz, h]; rfl
          clear hz hr hs
          go_enter Try.func56, Try.ntmps56
          go_wp2_with fail
          obtain ⟨W, hW⟩ : ∃ W, W = (((w.alloc (.cells #[.int .i64 (hi a), .int .u64 (lo a)] 26)).alloc (.cells #[.int .i64 (hi b), .int .u64 (lo b)] 26)).alloc (.cells #[.int .i64 0, .int .u64 0] 26)).alloc (.cells #[.int .i64 0, .int .u64 0] 26) := ⟨_, rfl⟩
          rw [← hW]
          have hB : Box2 W (w.heap.size + 1) (.int .i64 (hi b)) (.int .u64 (lo b)) 26 := by rw [hW]; exact ((Box2.new (by simp)).alloc _).alloc _
          have hR : Box2 W (w.heap.size + 1 + 1) (.int .i64 0) (.int .u64 0) 26 := by rw [hW]; exact (Box2.new (by simp)).alloc _
          have hS : Box2 W (w.heap.size + 1 + 1 + 1) (.int .i64 0) (.int .u64 0) 26 := by rw [hW]; exact Box2.new (by simp)
          have xw : Ext w W := by rw [hW]; exact (Ext.refl w).alloc.alloc.alloc.alloc
          clear hW
          refine (H1.out _).mono ?_
          rintro e w1 ⟨rfl, x1⟩
          (first | replace xw := Ext.trans xw x1 | replace xw := Ext.trans (Ext.alloc xw) x1 | replace xw := Ext.trans (Ext.drew xw) x1 | replace xw := Ext.trans (Ext.alloc (Ext.drew xw)) x1); (first | replace hB := hB.ext x1 | replace hB := (hB.alloc _).ext x1 | replace hB := hB.drew.ext x1 | replace hB := (hB.drew.alloc _).ext x1); (first | replace hR := hR.ext x1 | replace hR := (hR.alloc _).ext x1 | replace hR := hR.drew.ext x1 | replace hR := (hR.drew.alloc _).ext x1); (first | replace hS := hS.ext x1 | replace hS := (hS.alloc _).ext x1 | replace hS := hS.drew.ext x1 | replace hS := (hS.drew.alloc _).ext x1)
          have y1 := hS.kind.lt
          rw [thi_yes hq, tlo_yes hq, ter_yes hq, show qh (a.tdiv b) (a.tmod b) = hi (a.tmod b) from if_pos hq, show ql (a.tdiv b) (a.tmod b) = lo (a.tmod b) from if_pos hq]
          obtain ⟨V, hV⟩ : ∃ V, V = (w1.alloc (.cells #[.int .i64 (hi (a.tdiv b)), .int .u64 (lo (a.tdiv b))] 26)).alloc (.cells #[.int .i64 (hi (a.tmod b)), .int .u64 (lo (a.tmod b))] 26) := ⟨_, rfl⟩
          have hP : Box2 V w1.heap.size (.int .i64 (hi (a.tdiv b))) (.int .u64 (lo (a.tdiv b))) 26 := by rw [hV]; exact (Box2.new rfl).alloc _
          have hQ : Box2 V (w1.heap.size + 1) (.int .i64 (hi (a.tmod b))) (.int .u64 (lo (a.tmod b))) 26 := by rw [hV]; exact Box2.new (by simp)
          replace hB := hB.named2 hV
          replace hR := hR.named2 hV
          replace hS := hS.named2 hV
          replace xw : Ext w V := by rw [hV]; exact Ext.alloc (Ext.alloc xw)
          have kB := hB
          rw [hV] at kB
          have kQ := hQ
          rw [hV] at kQ
          have kB_0 := kB.c0; have kB_1 := kB.c1; have kQ_0 := kQ.c0; have kQ_1 := kQ.c1
          go_wp2_with fail
          rw [← hV]
          clear kB_0 kB_1 kQ_0 kQ_1
          clear kB kQ hV
          have n1 : ¬ w1.heap.size = w.heap.size + 1 + 1 := by omega
          have n2 : ¬ w1.heap.size = w.heap.size + 1 + 1 + 1 := by omega
          have n3 : ¬ w1.heap.size + 1 = w.heap.size + 1 + 1 := by omega
          have n4 : ¬ w1.heap.size + 1 = w.heap.size + 1 + 1 + 1 := by omega
          have n5 : ¬ w.heap.size + 1 + 1 = w1.heap.size := by omega
          have n6 : ¬ w.heap.size + 1 + 1 + 1 = w1.heap.size := by omega
          have n7 : ¬ w.heap.size + 1 = w1.heap.size := by omega
          have n8 : ¬ w.heap.size + 1 + 1 = w1.heap.size + 1 := by omega
          have n9 : ¬ w1.heap.size = w.heap.size + 1 := by omega
          have hP_0 := hP.c0; have hP_1 := hP.c1; have hQ_0 := hQ.c0; have hQ_1 := hQ.c1; have hR_0 := hR.c0; have hR_1 := hR.c1; have hS_0 := hS.c0; have hS_1 := hS.c1
          have hR_2 := hR.f0; have hR_3 := hR.f1; have hS_2 := hS.f0; have hS_3 := hS.f1
          go_region
          go_wp2_with fail
          refine bodyPost_ret (v := .tuple #[.agg #[.int .i64 (hi (a.tdiv b)), .int .u64 (lo (a.tdiv b))], .agg #[.int .i64 (hi (a.tmod b)), .int .u64 (lo (a.tmod b))], .int .i64 0]) (by simp [results, Try.results56, go_sem, hR_0, hR_1, hS_0, hS_1]) rfl (retQ_yes hq ?_)
          exact Ext.drew (Ext.set (Ext.set (Ext.set (Ext.set xw (by omega)) (by omega)) (by omega)) (by omega))
        · have g1 : (hi (a.tmod b) == 0) = false := by simpa using hz
          clear hz hr hs
          go_enter Try.func56, Try.ntmps56
          go_wp2_with fail
          obtain ⟨W, hW⟩ : ∃ W, W = (((w.alloc (.cells #[.int .i64 (hi a), .int .u64 (lo a)] 26)).alloc (.cells #[.int .i64 (hi b), .int .u64 (lo b)] 26)).alloc (.cells #[.int .i64 0, .int .u64 0] 26)).alloc (.cells #[.int .i64 0, .int .u64 0] 26) := ⟨_, rfl⟩
          rw [← hW]
          have hB : Box2 W (w.heap.size + 1) (.int .i64 (hi b)) (.int .u64 (lo b)) 26 := by rw [hW]; exact ((Box2.new (by simp)).alloc _).alloc _
          have hR : Box2 W (w.heap.size + 1 + 1) (.int .i64 0) (.int .u64 0) 26 := by rw [hW]; exact (Box2.new (by simp)).alloc _
          have hS : Box2 W (w.heap.size + 1 + 1 + 1) (.int .i64 0) (.int .u64 0) 26 := by rw [hW]; exact Box2.new (by simp)
          have xw : Ext w W := by rw [hW]; exact (Ext.refl w).alloc.alloc.alloc.alloc
          clear hW
          refine (H1.out _).mono ?_
          rintro e w1 ⟨rfl, x1⟩
          (first | replace xw := Ext.trans xw x1 | replace xw := Ext.trans (Ext.alloc xw) x1 | replace xw := Ext.trans (Ext.drew xw) x1 | replace xw := Ext.trans (Ext.alloc (Ext.drew xw)) x1); (first | replace hB := hB.ext x1 | replace hB := (hB.alloc _).ext x1 | replace hB := hB.drew.ext x1 | replace hB := (hB.drew.alloc _).ext x1); (first | replace hR := hR.ext x1 | replace hR := (hR.alloc _).ext x1 | replace hR := hR.drew.ext x1 | replace hR := (hR.drew.alloc _).ext x1); (first | replace hS := hS.ext x1 | replace hS := (hS.alloc _).ext x1 | replace hS := hS.drew.ext x1 | replace hS := (hS.drew.alloc _).ext x1)
          have y1 := hS.kind.lt
          rw [thi_yes hq, tlo_yes hq, ter_yes hq, show qh (a.tdiv b) (a.tmod b) = hi (a.tmod b) from if_pos hq, show ql (a.tdiv b) (a.tmod b) = lo (a.tmod b) from if_pos hq]
          obtain ⟨V, hV⟩ : ∃ V, V = (w1.alloc (.cells #[.int .i64 (hi (a.tdiv b)), .int .u64 (lo (a.tdiv b))] 26)).alloc (.cells #[.int .i64 (hi (a.tmod b)), .int .u64 (lo (a.tmod b))] 26) := ⟨_, rfl⟩
          have hP : Box2 V w1.heap.size (.int .i64 (hi (a.tdiv b))) (.int .u64 (lo (a.tdiv b))) 26 := by rw [hV]; exact (Box2.new rfl).alloc _
          have hQ : Box2 V (w1.heap.size + 1) (.int .i64 (hi (a.tmod b))) (.int .u64 (lo (a.tmod b))) 26 := by rw [hV]; exact Box2.new (by simp)
          replace hB := hB.named2 hV
          replace hR := hR.named2 hV
          replace hS := hS.named2 hV
          replace xw : Ext w V := by rw [hV]; exact Ext.alloc (Ext.alloc xw)
          have kB := hB
          rw [hV] at kB
          have kQ := hQ
          rw [hV] at kQ
          have kB_0 := kB.c0; have kB_1 := kB.c1; have kQ_0 := kQ.c0; have kQ_1 := kQ.c1
          go_wp2_with fail
          rw [← hV]
          clear kB_0 kB_1 kQ_0 kQ_1
          clear kB kQ hV
          have n1 : ¬ w1.heap.size = w.heap.size + 1 + 1 := by omega
          have n2 : ¬ w1.heap.size = w.heap.size + 1 + 1 + 1 := by omega
          have n3 : ¬ w1.heap.size + 1 = w.heap.size + 1 + 1 := by omega
          have n4 : ¬ w1.heap.size + 1 = w.heap.size + 1 + 1 + 1 := by omega
          have n5 : ¬ w.heap.size + 1 + 1 = w1.heap.size := by omega
          have n6 : ¬ w.heap.size + 1 + 1 + 1 = w1.heap.size := by omega
          have n7 : ¬ w.heap.size + 1 = w1.heap.size := by omega
          have n8 : ¬ w.heap.size + 1 + 1 = w1.heap.size + 1 := by omega
          have n9 : ¬ w1.heap.size = w.heap.size + 1 := by omega
          have hP_0 := hP.c0; have hP_1 := hP.c1; have hQ_0 := hQ.c0; have hQ_1 := hQ.c1; have hR_0 := hR.c0; have hR_1 := hR.c1; have hS_0 := hS.c0; have hS_1 := hS.c1
          have hR_2 := hR.f0; have hR_3 := hR.f1; have hS_2 := hS.f0; have hS_3 := hS.f1
          go_region
          go_wp2_with fail
          refine bodyPost_ret (v := .tuple #[.agg #[.int .i64 (hi (a.tdiv b)), .int .u64 (lo (a.tdiv b))], .agg #[.int .i64 (hi (a.tmod b)), .int .u64 (lo (a.tmod b))], .int .i64 0]) (by simp [results, Try.results56, go_sem, hR_0, hR_1, hS_0, hS_1]) rfl (retQ_yes hq ?_)
          exact Ext.drew (Ext.set (Ext.set (Ext.set (Ext.set xw (by omega)) (by omega)) (by omega)) (by omega))
      · obtain ⟨e1, e2⟩ := floor_less (a := a) h0 hr hs
        have hq1 := floor_room ha h0 hr
        have hr1 : W128 (a.tmod b + b) := by
          obtain ⟨k1, k2, k3⟩ := tdm (a := a) h0
          unfold W128 at *
          omega
        have hrW := tmod_W (a := a) hb h0
        rw [e1, e2]
        have hsg : (decide (hi (a.tmod b) < 0) == decide (hi b < 0)) = false := by
          simp only [beq_eq_false_iff_ne, ne_eq, decide_eq_decide, hi_neg]; exact hs
        have hW1 : W128 1 := by unfold W128; omega
        clear e1 e2
        by_cases hz : hi (a.tmod b) = 0
        · have g1 : (hi (a.tmod b) == 0) = true := by simpa using hz
          have g2 : (lo (a.tmod b) == 0) = false := by
            simp only [beq_eq_false_iff_ne, ne_eq]; intro h; apply hr; rw [hi_lo (a.tmod b), hz, h]; rfl
          clear hz hr hs
          go_enter Try.func56, Try.ntmps56
          go_wp2_with fail
          obtain ⟨W, hW⟩ : ∃ W, W = (((w.alloc (.cells #[.int .i64 (hi a), .int .u64 (lo a)] 26)).alloc (.cells #[.int .i64 (hi b), .int .u64 (lo b)] 26)).alloc (.cells #[.int .i64 0, .int .u64 0] 26)).alloc (.cells #[.int .i64 0, .int .u64 0] 26) := ⟨_, rfl⟩
          rw [← hW]
          have hB : Box2 W (w.heap.size + 1) (.int .i64 (hi b)) (.int .u64 (lo b)) 26 := by rw [hW]; exact ((Box2.new (by simp)).alloc _).alloc _
          have hR : Box2 W (w.heap.size + 1 + 1) (.int .i64 0) (.int .u64 0) 26 := by rw [hW]; exact (Box2.new (by simp)).alloc _
          have hS : Box2 W (w.heap.size + 1 + 1 + 1) (.int .i64 0) (.int .u64 0) 26 := by rw [hW]; exact Box2.new (by simp)
          have xw : Ext w W := by rw [hW]; exact (Ext.refl w).alloc.alloc.alloc.alloc
          clear hW
          refine (H1.out _).mono ?_
          rintro e w1 ⟨rfl, x1⟩
          (first | replace xw := Ext.trans xw x1 | replace xw := Ext.trans (Ext.alloc xw) x1 | replace xw := Ext.trans (Ext.drew xw) x1 | replace xw := Ext.trans (Ext.alloc (Ext.drew xw)) x1); (first | replace hB := hB.ext x1 | replace hB := (hB.alloc _).ext x1 | replace hB := hB.drew.ext x1 | replace hB := (hB.drew.alloc _).ext x1); (first | replace hR := hR.ext x1 | replace hR := (hR.alloc _).ext x1 | replace hR := hR.drew.ext x1 | replace hR := (hR.drew.alloc _).ext x1); (first | replace hS := hS.ext x1 | replace hS := (hS.alloc _).ext x1 | replace hS := hS.drew.ext x1 | replace hS := (hS.drew.alloc _).ext x1)
          have y1 := hS.kind.lt
          rw [thi_yes hq, tlo_yes hq, ter_yes hq, show qh (a.tdiv b) (a.tmod b) = hi (a.tmod b) from if_pos hq, show ql (a.tdiv b) (a.tmod b) = lo (a.tmod b) from if_pos hq]
          obtain ⟨V, hV⟩ : ∃ V, V = (w1.alloc (.cells #[.int .i64 (hi (a.tdiv b)), .int .u64 (lo (a.tdiv b))] 26)).alloc (.cells #[.int .i64 (hi (a.tmod b)), .int .u64 (lo (a.tmod b))] 26) := ⟨_, rfl⟩
          have hP : Box2 V w1.heap.size (.int .i64 (hi (a.tdiv b))) (.int .u64 (lo (a.tdiv b))) 26 := by rw [hV]; exact (Box2.new rfl).alloc _
          have hQ : Box2 V (w1.heap.size + 1) (.int .i64 (hi (a.tmod b))) (.int .u64 (lo (a.tmod b))) 26 := by rw [hV]; exact Box2.new (by simp)
          replace hB := hB.named2 hV
          replace hR := hR.named2 hV
          replace hS := hS.named2 hV
          replace xw : Ext w V := by rw [hV]; exact Ext.alloc (Ext.alloc xw)
          have kB := hB
          rw [hV] at kB
          have kQ := hQ
          rw [hV] at kQ
          have kB_0 := kB.c0; have kB_1 := kB.c1; have kQ_0 := kQ.c0; have kQ_1 := kQ.c1
          go_wp2_with fail
          rw [← hV]
          clear kB_0 kB_1 kQ_0 kQ_1
          clear kB kQ hV
          go_cut [9] (fun s9 wx => s9 = .int .i64 0 ∧ Box2 wx w1.heap.size (.int .i64 (hi (a.tdiv b - 1))) (.int .u64 (lo (a.tdiv b - 1))) 26 ∧ Box2 wx (w1.heap.size + 1) (.int .i64 (hi (a.tmod b))) (.int .u64 (lo (a.tmod b))) 26 ∧
            Box2 wx (w.heap.size + 1) (.int .i64 (hi b)) (.int .u64 (lo b)) 26 ∧ Box2 wx (w.heap.size + 1 + 1) (.int .i64 0) (.int .u64 0) 26 ∧ Box2 wx (w.heap.size + 1 + 1 + 1) (.int .i64 0) (.int .u64 0) 26 ∧ Ext w wx)
          case first =>
            have hP_0 := hP.c0; have hP_1 := hP.c1
            have d0 := hP.drew.c0
            have d1 := hP.drew.c1
            go_region_with (first
              | (go_at_call 32; refine (H2.out 1 _ (by omega) (by omega)).mono ?_; rintro e w2 ⟨rfl, x2⟩; have p := hP.drew.ext x2; have p0 := p.c0; have p1 := p.c1)
              | (go_at_call 47; refine (H3.out (a.tdiv b) 1 _ hq hW1).mono ?_; rw [show RetT _ (a.tdiv b - 1) = fun e w' => e = .returned (.tuple #[.agg #[.int .i64 (hi (a.tdiv b - 1)), .int .u64 (lo (a.tdiv b - 1))], .int .i64 0]) ∧ Ext _ w' from by unfold RetT; rw [thi_yes hq1, tlo_yes hq1, ter_yes hq1]]; rintro e w3 ⟨rfl, x3⟩; have q := (hP.drew.ext x2).ext x3; have q0 := q.c0; have q1 := q.c1; have q2 := q.f0; have q3 := q.f1))
            all_goals
              go_wp2_with fail
              go_meet
              exact ⟨rfl, q.set _ _, ((hQ.drew.ext x2).ext x3).other2 (by omega) _ _, ((hB.drew.ext x2).ext x3).other2 (by omega) _ _, ((hR.drew.ext x2).ext x3).other2 (by omega) _ _, ((hS.drew.ext x2).ext x3).other2 (by omega) _ _, Ext.set (Ext.set (Ext.trans (Ext.trans (Ext.drew xw) x2) x3) (by omega)) (by omega)⟩
          case rest =>
            obtain ⟨rfl, hP, hQ, hB, hR, hS, xw⟩ := hcut
            have hQ_0 := hQ.c0; have hQ_1 := hQ.c1; have hB_0 := hB.c0; have hB_1 := hB.c1
            go_wp2_with fail
            clear hQ_0 hQ_1 hB_0 hB_1
            refine (H4.out _ _ _ hrW hb).mono ?_
            rintro e w4 ⟨rfl, x4⟩
            rw [thi_yes hr1, tlo_yes hr1, ter_yes hr1]
            (first | replace xw := Ext.trans xw x4 | replace xw := Ext.trans (Ext.alloc xw) x4 | replace xw := Ext.trans (Ext.drew xw) x4 | replace xw := Ext.trans (Ext.alloc (Ext.drew xw)) x4); (first | replace hP := hP.ext x4 | replace hP := (hP.alloc _).ext x4 | replace hP := hP.drew.ext x4 | replace hP := (hP.drew.alloc _).ext x4); (first | replace hQ := hQ.ext x4 | replace hQ := (hQ.alloc _).ext x4 | replace hQ := hQ.drew.ext x4 | replace hQ := (hQ.drew.alloc _).ext x4); (first | replace hB := hB.ext x4 | replace hB := (hB.alloc _).ext x4 | replace hB := hB.drew.ext x4 | replace hB := (hB.drew.alloc _).ext x4); (first | replace hR := hR.ext x4 | replace hR := (hR.alloc _).ext x4 | replace hR := hR.drew.ext x4 | replace hR := (hR.drew.alloc _).ext x4); (first | replace hS := hS.ext x4 | replace hS := (hS.alloc _).ext x4 | replace hS := hS.drew.ext x4 | replace hS := (hS.drew.alloc _).ext x4)
            have hQ_0 := hQ.c0; have hQ_1 := hQ.c1
            have hQ_2 := hQ.f0; have hQ_3 := hQ.f1
            go_wp2_with fail
            clear hQ_0 hQ_1 hQ_2 hQ_3
            obtain ⟨U, hU⟩ : ∃ U, U = (w4.setCell ⟨w1.heap.size + 1, 0, none⟩ (.int .i64 (hi (a.tmod b + b)))).setCell ⟨w1.heap.size + 1, 1, none⟩ (.int .u64 (lo (a.tmod b + b))) := ⟨_, rfl⟩
            replace hP : Box2 U w1.heap.size (.int .i64 (hi (a.tdiv b - 1))) (.int .u64 (lo (a.tdiv b - 1))) 26 := by rw [hU]; exact hP.other2 (by omega) _ _
            replace hR : Box2 U (w.heap.size + 1 + 1) (.int .i64 0) (.int .u64 0) 26 := by rw [hU]; exact hR.other2 (by omega) _ _
            replace hS : Box2 U (w.heap.size + 1 + 1 + 1) (.int .i64 0) (.int .u64 0) 26 := by rw [hU]; exact hS.other2 (by omega) _ _
            replace hQ : Box2 U (w1.heap.size + 1) (.int .i64 (hi (a.tmod b + b))) (.int .u64 (lo (a.tmod b + b))) 26 := by rw [hU]; exact hQ.set _ _
            replace xw : Ext w U := by rw [hU]; exact Ext.set (Ext.set xw (by omega)) (by omega)
            rw [← hU]
            clear hU
            have n1 : ¬ w1.heap.size = w.heap.size + 1 + 1 := by omega
            have n2 : ¬ w1.heap.size = w.heap.size + 1 + 1 + 1 := by omega
            have n3 : ¬ w1.heap.size + 1 = w.heap.size + 1 + 1 := by omega
            have n4 : ¬ w1.heap.size + 1 = w.heap.size + 1 + 1 + 1 := by omega
            have n5 : ¬ w.heap.size + 1 + 1 = w1.heap.size := by omega
            have n6 : ¬ w.heap.size + 1 + 1 + 1 = w1.heap.size := by omega
            have n7 : ¬ w.heap.size + 1 = w1.heap.size := by omega
            have n8 : ¬ w.heap.size + 1 + 1 = w1.heap.size + 1 := by omega
            have n9 : ¬ w1.heap.size = w.heap.size + 1 := by omega
            have hP_0 := hP.c0; have hP_1 := hP.c1; have hQ_0 := hQ.c0; have hQ_1 := hQ.c1; have hR_0 := hR.c0; have hR_1 := hR.c1; have hS_0 := hS.c0; have hS_1 := hS.c1
            have hR_2 := hR.f0; have hR_3 := hR.f1; have hS_2 := hS.f0; have hS_3 := hS.f1
            go_region
            go_wp2_with fail
            refine bodyPost_ret (v := .tuple #[.agg #[.int .i64 (hi (a.tdiv b - 1)), .int .u64 (lo (a.tdiv b - 1))], .agg #[.int .i64 (hi (a.tmod b + b)), .int .u64 (lo (a.tmod b + b))], .int .i64 0]) (by simp [results, Try.results56, go_sem, hR_0, hR_1, hS_0, hS_1]) rfl (retQ_yes hq1 ?_)
            exact Ext.drew (Ext.set (Ext.set (Ext.set (Ext.set xw (by omega)) (by omega)) (by omega)) (by omega))
        · have g1 : (hi (a.tmod b) == 0) = false := by simpa using hz
          clear hz hr hs
          go_enter Try.func56, Try.ntmps56
          go_wp2_with fail
          obtain ⟨W, hW⟩ : ∃ W, W = (((w.alloc (.cells #[.int .i64 (hi a), .int .u64 (lo a)] 26)).alloc (.cells #[.int .i64 (hi b), .int .u64 (lo b)] 26)).alloc (.cells #[.int .i64 0, .int .u64 0] 26)).alloc (.cells #[.int .i64 0, .int .u64 0] 26) := ⟨_, rfl⟩
          rw [← hW]
          have hB : Box2 W (w.heap.size + 1) (.int .i64 (hi b)) (.int .u64 (lo b)) 26 := by rw [hW]; exact ((Box2.new (by simp)).alloc _).alloc _
          have hR : Box2 W (w.heap.size + 1 + 1) (.int .i64 0) (.int .u64 0) 26 := by rw [hW]; exact (Box2.new (by simp)).alloc _
          have hS : Box2 W (w.heap.size + 1 + 1 + 1) (.int .i64 0) (.int .u64 0) 26 := by rw [hW]; exact Box2.new (by simp)
          have xw : Ext w W := by rw [hW]; exact (Ext.refl w).alloc.alloc.alloc.alloc
          clear hW
          refine (H1.out _).mono ?_
          rintro e w1 ⟨rfl, x1⟩
          (first | replace xw := Ext.trans xw x1 | replace xw := Ext.trans (Ext.alloc xw) x1 | replace xw := Ext.trans (Ext.drew xw) x1 | replace xw := Ext.trans (Ext.alloc (Ext.drew xw)) x1); (first | replace hB := hB.ext x1 | replace hB := (hB.alloc _).ext x1 | replace hB := hB.drew.ext x1 | replace hB := (hB.drew.alloc _).ext x1); (first | replace hR := hR.ext x1 | replace hR := (hR.alloc _).ext x1 | replace hR := hR.drew.ext x1 | replace hR := (hR.drew.alloc _).ext x1); (first | replace hS := hS.ext x1 | replace hS := (hS.alloc _).ext x1 | replace hS := hS.drew.ext x1 | replace hS := (hS.drew.alloc _).ext x1)
          have y1 := hS.kind.lt
          rw [thi_yes hq, tlo_yes hq, ter_yes hq, show qh (a.tdiv b) (a.tmod b) = hi (a.tmod b) from if_pos hq, show ql (a.tdiv b) (a.tmod b) = lo (a.tmod b) from if_pos hq]
          obtain ⟨V, hV⟩ : ∃ V, V = (w1.alloc (.cells #[.int .i64 (hi (a.tdiv b)), .int .u64 (lo (a.tdiv b))] 26)).alloc (.cells #[.int .i64 (hi (a.tmod b)), .int .u64 (lo (a.tmod b))] 26) := ⟨_, rfl⟩
          have hP : Box2 V w1.heap.size (.int .i64 (hi (a.tdiv b))) (.int .u64 (lo (a.tdiv b))) 26 := by rw [hV]; exact (Box2.new rfl).alloc _
          have hQ : Box2 V (w1.heap.size + 1) (.int .i64 (hi (a.tmod b))) (.int .u64 (lo (a.tmod b))) 26 := by rw [hV]; exact Box2.new (by simp)
          replace hB := hB.named2 hV
          replace hR := hR.named2 hV
          replace hS := hS.named2 hV
          replace xw : Ext w V := by rw [hV]; exact Ext.alloc (Ext.alloc xw)
          have kB := hB
          rw [hV] at kB
          have kQ := hQ
          rw [hV] at kQ
          have kB_0 := kB.c0; have kB_1 := kB.c1; have kQ_0 := kQ.c0; have kQ_1 := kQ.c1
          go_wp2_with fail
          rw [← hV]
          clear kB_0 kB_1 kQ_0 kQ_1
          clear kB kQ hV
          go_cut [9] (fun s9 wx => s9 = .int .i64 0 ∧ Box2 wx w1.heap.size (.int .i64 (hi (a.tdiv b - 1))) (.int .u64 (lo (a.tdiv b - 1))) 26 ∧ Box2 wx (w1.heap.size + 1) (.int .i64 (hi (a.tmod b))) (.int .u64 (lo (a.tmod b))) 26 ∧
            Box2 wx (w.heap.size + 1) (.int .i64 (hi b)) (.int .u64 (lo b)) 26 ∧ Box2 wx (w.heap.size + 1 + 1) (.int .i64 0) (.int .u64 0) 26 ∧ Box2 wx (w.heap.size + 1 + 1 + 1) (.int .i64 0) (.int .u64 0) 26 ∧ Ext w wx)
          case first =>
            have hP_0 := hP.c0; have hP_1 := hP.c1
            have d0 := hP.drew.c0
            have d1 := hP.drew.c1
            go_region_with (first
              | (go_at_call 32; refine (H2.out 1 _ (by omega) (by omega)).mono ?_; rintro e w2 ⟨rfl, x2⟩; have p := hP.drew.ext x2; have p0 := p.c0; have p1 := p.c1)
              | (go_at_call 47; refine (H3.out (a.tdiv b) 1 _ hq hW1).mono ?_; rw [show RetT _ (a.tdiv b - 1) = fun e w' => e = .returned (.tuple #[.agg #[.int .i64 (hi (a.tdiv b - 1)), .int .u64 (lo (a.tdiv b - 1))], .int .i64 0]) ∧ Ext _ w' from by unfold RetT; rw [thi_yes hq1, tlo_yes hq1, ter_yes hq1]]; rintro e w3 ⟨rfl, x3⟩; have q := (hP.drew.ext x2).ext x3; have q0 := q.c0; have q1 := q.c1; have q2 := q.f0; have q3 := q.f1))
            all_goals
              go_wp2_with fail
              go_meet
              exact ⟨rfl, q.set _ _, ((hQ.drew.ext x2).ext x3).other2 (by omega) _ _, ((hB.drew.ext x2).ext x3).other2 (by omega) _ _, ((hR.drew.ext x2).ext x3).other2 (by omega) _ _, ((hS.drew.ext x2).ext x3).other2 (by omega) _ _, Ext.set (Ext.set (Ext.trans (Ext.trans (Ext.drew xw) x2) x3) (by omega)) (by omega)⟩
          case rest =>
            obtain ⟨rfl, hP, hQ, hB, hR, hS, xw⟩ := hcut
            have hQ_0 := hQ.c0; have hQ_1 := hQ.c1; have hB_0 := hB.c0; have hB_1 := hB.c1
            go_wp2_with fail
            clear hQ_0 hQ_1 hB_0 hB_1
            refine (H4.out _ _ _ hrW hb).mono ?_
            rintro e w4 ⟨rfl, x4⟩
            rw [thi_yes hr1, tlo_yes hr1, ter_yes hr1]
            (first | replace xw := Ext.trans xw x4 | replace xw := Ext.trans (Ext.alloc xw) x4 | replace xw := Ext.trans (Ext.drew xw) x4 | replace xw := Ext.trans (Ext.alloc (Ext.drew xw)) x4); (first | replace hP := hP.ext x4 | replace hP := (hP.alloc _).ext x4 | replace hP := hP.drew.ext x4 | replace hP := (hP.drew.alloc _).ext x4); (first | replace hQ := hQ.ext x4 | replace hQ := (hQ.alloc _).ext x4 | replace hQ := hQ.drew.ext x4 | replace hQ := (hQ.drew.alloc _).ext x4); (first | replace hB := hB.ext x4 | replace hB := (hB.alloc _).ext x4 | replace hB := hB.drew.ext x4 | replace hB := (hB.drew.alloc _).ext x4); (first | replace hR := hR.ext x4 | replace hR := (hR.alloc _).ext x4 | replace hR := hR.drew.ext x4 | replace hR := (hR.drew.alloc _).ext x4); (first | replace hS := hS.ext x4 | replace hS := (hS.alloc _).ext x4 | replace hS := hS.drew.ext x4 | replace hS := (hS.drew.alloc _).ext x4)
            have hQ_0 := hQ.c0; have hQ_1 := hQ.c1
            have hQ_2 := hQ.f0; have hQ_3 := hQ.f1
            go_wp2_with fail
            clear hQ_0 hQ_1 hQ_2 hQ_3
            obtain ⟨U, hU⟩ : ∃ U, U = (w4.setCell ⟨w1.heap.size + 1, 0, none⟩ (.int .i64 (hi (a.tmod b + b)))).setCell ⟨w1.heap.size + 1, 1, none⟩ (.int .u64 (lo (a.tmod b + b))) := ⟨_, rfl⟩
            replace hP : Box2 U w1.heap.size (.int .i64 (hi (a.tdiv b - 1))) (.int .u64 (lo (a.tdiv b - 1))) 26 := by rw [hU]; exact hP.other2 (by omega) _ _
            replace hR : Box2 U (w.heap.size + 1 + 1) (.int .i64 0) (.int .u64 0) 26 := by rw [hU]; exact hR.other2 (by omega) _ _
            replace hS : Box2 U (w.heap.size + 1 + 1 + 1) (.int .i64 0) (.int .u64 0) 26 := by rw [hU]; exact hS.other2 (by omega) _ _
            replace hQ : Box2 U (w1.heap.size + 1) (.int .i64 (hi (a.tmod b + b))) (.int .u64 (lo (a.tmod b + b))) 26 := by rw [hU]; exact hQ.set _ _
            replace xw : Ext w U := by rw [hU]; exact Ext.set (Ext.set xw (by omega)) (by omega)
            rw [← hU]
            clear hU
            have n1 : ¬ w1.heap.size = w.heap.size + 1 + 1 := by omega
            have n2 : ¬ w1.heap.size = w.heap.size + 1 + 1 + 1 := by omega
            have n3 : ¬ w1.heap.size + 1 = w.heap.size + 1 + 1 := by omega
            have n4 : ¬ w1.heap.size + 1 = w.heap.size + 1 + 1 + 1 := by omega
            have n5 : ¬ w.heap.size + 1 + 1 = w1.heap.size := by omega
            have n6 : ¬ w.heap.size + 1 + 1 + 1 = w1.heap.size := by omega
            have n7 : ¬ w.heap.size + 1 = w1.heap.size := by omega
            have n8 : ¬ w.heap.size + 1 + 1 = w1.heap.size + 1 := by omega
            have n9 : ¬ w1.heap.size = w.heap.size + 1 := by omega
            have hP_0 := hP.c0; have hP_1 := hP.c1; have hQ_0 := hQ.c0; have hQ_1 := hQ.c1; have hR_0 := hR.c0; have hR_1 := hR.c1; have hS_0 := hS.c0; have hS_1 := hS.c1
            have hR_2 := hR.f0; have hR_3 := hR.f1; have hS_2 := hS.f0; have hS_3 := hS.f1
            go_region
            go_wp2_with fail
            refine bodyPost_ret (v := .tuple #[.agg #[.int .i64 (hi (a.tdiv b - 1)), .int .u64 (lo (a.tdiv b - 1))], .agg #[.int .i64 (hi (a.tmod b + b)), .int .u64 (lo (a.tmod b + b))], .int .i64 0]) (by simp [results, Try.results56, go_sem, hR_0, hR_1, hS_0, hS_1]) rfl (retQ_yes hq1 ?_)
            exact Ext.drew (Ext.set (Ext.set (Ext.set (Ext.set xw (by omega)) (by omega)) (by omega)) (by omega))
  · have hr := trunc_room ha h0 hq
    obtain ⟨e1, e2⟩ := floor_same h0 (Or.inl hr)
    have hno : ¬ W128 (a.fdiv b) := by rw [e1]; exact hq
    clear e1 e2 hr
    go_enter Try.func56, Try.ntmps56
    go_wp2_with fail
    obtain ⟨W, hW⟩ : ∃ W, W = (((w.alloc (.cells #[.int .i64 (hi a), .int .u64 (lo a)] 26)).alloc (.cells #[.int .i64 (hi b), .int .u64 (lo b)] 26)).alloc (.cells #[.int .i64 0, .int .u64 0] 26)).alloc (.cells #[.int .i64 0, .int .u64 0] 26) := ⟨_, rfl⟩
    rw [← hW]
    have hB : Box2 W (w.heap.size + 1) (.int .i64 (hi b)) (.int .u64 (lo b)) 26 := by rw [hW]; exact ((Box2.new (by simp)).alloc _).alloc _
    have hR : Box2 W (w.heap.size + 1 + 1) (.int .i64 0) (.int .u64 0) 26 := by rw [hW]; exact (Box2.new (by simp)).alloc _
    have hS : Box2 W (w.heap.size + 1 + 1 + 1) (.int .i64 0) (.int .u64 0) 26 := by rw [hW]; exact Box2.new (by simp)
    have xw : Ext w W := by rw [hW]; exact (Ext.refl w).alloc.alloc.alloc.alloc
    clear hW
    refine (H1.out _).mono ?_
    rintro e w1 ⟨rfl, x1⟩
    (first | replace xw := Ext.trans xw x1 | replace xw := Ext.trans (Ext.alloc xw) x1 | replace xw := Ext.trans (Ext.drew xw) x1 | replace xw := Ext.trans (Ext.alloc (Ext.drew xw)) x1); (first | replace hB := hB.ext x1 | replace hB := (hB.alloc _).ext x1 | replace hB := hB.drew.ext x1 | replace hB := (hB.drew.alloc _).ext x1); (first | replace hR := hR.ext x1 | replace hR := (hR.alloc _).ext x1 | replace hR := hR.drew.ext x1 | replace hR := (hR.drew.alloc _).ext x1); (first | replace hS := hS.ext x1 | replace hS := (hS.alloc _).ext x1 | replace hS := hS.drew.ext x1 | replace hS := (hS.drew.alloc _).ext x1)
    have y1 := hS.kind.lt
    rw [thi_no hq, tlo_no hq, ter_no hq, show qh (a.tdiv b) (a.tmod b) = 0 from if_neg hq, show ql (a.tdiv b) (a.tmod b) = 0 from if_neg hq]
    replace hR := (hR.alloc (.cells #[.int .i64 0, .int .u64 0] 26)).alloc (.cells #[.int .i64 0, .int .u64 0] 26)
    replace hS := (hS.alloc (.cells #[.int .i64 0, .int .u64 0] 26)).alloc (.cells #[.int .i64 0, .int .u64 0] 26)
    have hR_0 := hR.c0; have hR_1 := hR.c1; have hS_0 := hS.c0; have hS_1 := hS.c1
    have hR_2 := hR.f0; have hR_3 := hR.f1; have hS_2 := hS.f0; have hS_3 := hS.f1
    go_wp2_with fail
    refine bodyPost_ret (v := .tuple #[.agg #[.int .i64 0, .int .u64 0], .agg #[.int .i64 0, .int .u64 0], .int .i64 2]) (by simp [results, Try.results56, go_sem, hR_0, hR_1, hS_0, hS_1]) rfl (retQ_no hno ?_)
    exact Ext.set (Ext.set (Ext.set (Ext.set (Ext.alloc (Ext.alloc xw)) (by omega)) (by omega)) (by omega)) (by omega)
end Go.Proofs.Ytmkddcmfofabbaa
